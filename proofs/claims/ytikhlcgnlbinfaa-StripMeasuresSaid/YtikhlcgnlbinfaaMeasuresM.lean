/- Lemmas of the proof that follows (Measures, part 13): walks of functions by contract, and plain lemmas. Conditions: none. -/
import Derived.Test.YtikhlcgnlbinfaaMeasuresL
namespace Go.Proofs.Ytikhlcgnlbinfaa
open Lib (hid)
open Go.RowKit
/-- A number of the reference in a block of its own. -/
def QB (w : World) (g : Nat) (q : Rat) : Prop := ∃ s A l c B m k, Blk w g 65 #[.bool s, .slice A l c, .slice B m k] ∧ QZ w (.agg #[.bool s, .slice A l c, .slice B m k]) q
theorem QB.ext {w w' : World} {g : Nat} {q : Rat} (h : QB w g q) (he : Ext w w') : QB w' g q := by
 obtain ⟨s, A, l, c, B, m, k, h1, h2⟩ := h
 exact ⟨s, A, l, c, B, m, k, h1.ext he, h2.ext he⟩
theorem QB.ni {w : World} {g : Nat} {q : Rat} (h : QB w g q) : NoInts w g := by
 obtain ⟨s, A, l, c, B, m, k, h1, h2⟩ := h
 exact NoInts.three h1
theorem QB.put {w : World} {g : Nat} {q r : Rat} (h : QB w g q) {s : Bool} {A B : Option Addr} {l c m k : Nat} (hv : QZ w (.agg #[.bool s, .slice A l c, .slice B m k]) r) : QB (((w.setCell ⟨g, 0, none⟩ (.bool s)).setCell ⟨g, 1, none⟩ (.slice A l c)).setCell ⟨g, 2, none⟩ (.slice B m k)) g r := by
 have hn := h.ni
 obtain ⟨s', A', l', c', B', m', k', h1, h2⟩ := h
 exact ⟨s, A, l, c, B, m, k, Blk.put3 h1 rfl, hv.past' hn⟩
theorem QB.cells {w : World} {g : Nat} {q : Rat} (h : QB w g q) : ∃ s A l c B m k, w.cell? ⟨g, 0, none⟩ = some (.bool s) ∧ w.cell? ⟨g, 1, none⟩ = some (.slice A l c) ∧ w.cell? ⟨g, 2, none⟩ = some (.slice B m k) ∧ QZ w (.agg #[.bool s, .slice A l c, .slice B m k]) q := by
 obtain ⟨s, A, l, c, B, m, k, h1, h2⟩ := h
 exact ⟨s, A, l, c, B, m, k, h1.cell 0, h1.cell 1, h1.cell 2, h2⟩
theorem QB.free {w : World} {g : Nat} {q : Rat} (h : QB w g q) (i : Nat) : w.frozen? ⟨g, i, none⟩ = false := by
 obtain ⟨s, A, l, c, B, m, k, h1, h2⟩ := h
 exact h1.free i
theorem QB.new {w : World} {s : Bool} {A B : Option Addr} {l c m k : Nat} {q : Rat} (h : QZ w (.agg #[.bool s, .slice A l c, .slice B m k]) q) : QB (w.alloc (.cells #[.bool s, .slice A l c, .slice B m k] 65)) w.heap.size q :=
 ⟨s, A, l, c, B, m, k, Blk.new w _ _, h.ext ((Ext.refl w).alloc _)⟩
/-- One number for each unknown fits. -/
def FitU (S : Nat) (u : Nat → Rat) (L : Nat) : Prop := ∀ j, j < 3 * S → FitR (u j) L
set_option maxRecDepth 100000 in
set_option maxHeartbeats 4000000 in
theorem coefR_v (a b x y z d ww : Int) (u S : Nat) (w : World) (_hu : u < 24) (hm : VM S ⟨a, b, x, y, z, d, ww⟩) :
  Calls Try.prog 122 #[.agg #[.int .i64 a, .int .i64 b, .int .i64 x, .int .i64 y, .int .i64 z, .int .i64 d, .int .i64 ww], .int .i64 (u : Int)] w (fun e w' => e = .returned (.int .i64 (cof ⟨a, b, x, y, z, d, ww⟩ u)) ∧ Ext w w') := by
 obtain ⟨m, hmm⟩ : ∃ m : Mt, m = ⟨a, b, x, y, z, d, ww⟩ := ⟨_, rfl⟩
 have HX := hid ((Ext.refl w).alloc (.cells #[.int .i64 a, .int .i64 b, .int .i64 x, .int .i64 y, .int .i64 z, .int .i64 d, .int .i64 ww] 90))
 have HM : Hid (T7 (w.alloc (.cells #[.int .i64 a, .int .i64 b, .int .i64 x, .int .i64 y, .int .i64 z, .int .i64 d, .int .i64 ww] 90)) w.heap.size a b (Mt.nrm ⟨a, b, x, y, z, d, ww⟩) d ww) := hid (Blk.new w _ _)
 have hn : ∀ k, -100 ≤ Mt.nrm ⟨a, b, x, y, z, d, ww⟩ k ∧ Mt.nrm ⟨a, b, x, y, z, d, ww⟩ k ≤ 100 := fun k => by
  have h1 := hm.x1; have h2 := hm.x2; have h3 := hm.y1; have h4 := hm.y2; have h5 := hm.z1; have h6 := hm.z2
  simp only at h1 h2 h3 h4 h5 h6
  unfold Mt.nrm; split; simp only; omega; split <;> simp only <;> omega
 obtain ⟨sv, hs⟩ : ∃ s, u / 3 = s := ⟨_, rfl⟩
 obtain ⟨kv, hk⟩ : ∃ k, u % 3 = k := ⟨_, rfl⟩
 have hk3 : kv < 3 := by rw [← hk]; exact Nat.mod_lt _ (by omega)
 have hki : (kv : Int) < 3 := by omega
 obtain ⟨nk, hnk⟩ : ∃ r, Mt.nrm ⟨a, b, x, y, z, d, ww⟩ kv = r := ⟨_, rfl⟩
 have hnb := hn kv
 rw [hnk] at hnb
 have HCF : Hid (cof ⟨a, b, x, y, z, d, ww⟩ u = if (sv : Int) = a then nk else if (sv : Int) = b then -nk else 0) := hid (by unfold cof; rw [hs, hk, hnk])
 have ck := HM.out.cell hk3
 rw [hnk] at ck
 have t0 := Blk.cell (show Blk _ w.heap.size _ _ from HM.out) 0
 have t1 := Blk.cell (show Blk _ w.heap.size _ _ from HM.out) 1
 simp only [List.getElem?_toArray, List.getElem?_cons_zero, List.getElem?_cons_succ] at t0 t1
 have ta : (u : Int).tdiv 3 = (sv : Int) := by rw [Int.tdiv_eq_ediv_of_nonneg (by omega)]; omega
 have tb : (u : Int).tmod 3 = (kv : Int) := by rw [Int.tmod_eq_emod_of_nonneg (by omega)]; omega
 have qc : IntKind.i64.wrap (sv : Int) = (sv : Int) := IntWalk.i64_in _ (by omega)
 have qd : IntKind.i64.wrap (kv : Int) = (kv : Int) := IntWalk.i64_in _ (by omega)
 have qn : IntKind.i64.wrap (-nk) = -nk := IntWalk.i64_in _ (by omega)
 clear hn hs hk hnk hnb hmm hm
 go_enter Try.func122, Try.ntmps122
 go_upto_region 1 with (fail)
 generalize w.alloc (.cells #[.int .i64 a, .int .i64 b, .int .i64 x, .int .i64 y, .int .i64 z, .int .i64 d, .int .i64 ww] 90) = w1 at HX HM ck t0 t1 ⊢
 by_cases c1 : (sv : Int) = a
 ·
  have q1 : ((sv : Int) == a) = true := by simpa using c1
  have HV : Hid (cof ⟨a, b, x, y, z, d, ww⟩ u = nk) := hid (by rw [HCF.out, if_pos c1])
  clear c1 HCF
  go_wp2
  go_ret
  exact ⟨by rw [HV.out]; rfl, HX.out⟩
 have q1 : ((sv : Int) == a) = false := by simpa using c1
 by_cases c2 : (sv : Int) = b
 ·
  have q2 : ((sv : Int) == b) = true := by simpa using c2
  have HV : Hid (cof ⟨a, b, x, y, z, d, ww⟩ u = -nk) := hid (by rw [HCF.out, if_neg c1, if_pos c2])
  clear c1 c2 HCF
  go_wp2
  go_ret
  exact ⟨by rw [HV.out]; rfl, HX.out⟩
 have q2 : ((sv : Int) == b) = false := by simpa using c2
 have HV : Hid (cof ⟨a, b, x, y, z, d, ww⟩ u = 0) := hid (by rw [HCF.out, if_neg c1, if_neg c2])
 clear c1 c2 HCF
 go_wp2
 go_ret
 exact ⟨by rw [HV.out]; rfl, HX.out⟩
theorem coefR_any {m : Mt} {u S : Nat} {w : World} (hu : u < 24) (hm : VM S m) :
  Calls Try.prog 122 #[m.val, .int .i64 (u : Int)] w (fun e w' => e = .returned (.int .i64 (cof m u)) ∧ Ext w w') := by
 obtain ⟨a, b, x, y, z, d, ww⟩ := m
 exact coefR_v a b x y z d ww u S w hu hm
set_option maxRecDepth 100000 in
set_option maxHeartbeats 2000000 in
theorem resR_r7 (gs gt ot S ct uu sv kv L M : Nat) (cc : Int) (sp : Bool) (Ap Bp : Option Addr) (lp cp mp kp : Nat) (sq : Bool) (Aq Bq : Option Addr) (lq cq mq kq : Nat) (q r : Rat) (w : World) (x0 : w.cell? ⟨gs, 0, none⟩ = some (.bool sp)) (x1 : w.cell? ⟨gs, 1, none⟩ = some (.slice Ap lp cp)) (x2 : w.cell? ⟨gs, 2, none⟩ = some (.slice Bp mp kp)) (y0 : w.cell? ⟨gt, ot + sv * 9 + kv * 3, none⟩ = some (.bool sq)) (y1 : w.cell? ⟨gt, ot + sv * 9 + kv * 3 + 1, none⟩ = some (.slice Aq lq cq)) (y2 : w.cell? ⟨gt, ot + sv * 9 + kv * 3 + 2, none⟩ = some (.slice Bq mq kq)) (hx : QZ w (.agg #[.bool sp, .slice Ap lp cp, .slice Bp mp kp]) q) (hy : QZ w (.agg #[.bool sq, .slice Aq lq cq, .slice Bq mq kq]) r) (fq : FitR q M) (fr : FitR r L) (_hL : L ≤ 1000) (_hM : M ≤ 100000) (_hc : -100 ≤ cc ∧ cc ≤ 100) (_ta : (uu : Int).tdiv 3 = (sv : Int)) (_tb : (uu : Int).tmod 3 = (kv : Int)) (_qa : IntKind.i64.wrap (sv : Int) = (sv : Int)) (_qb : IntKind.i64.wrap (kv : Int) = (kv : Int)) (_hsv : sv < S) (_hkv : kv < 3) (_hsi : (sv : Int) < (S : Int)) (_hki : (kv : Int) < 3) (a : Act) (Q : Exit → Act → World → Prop) (hsize : 38 ≤ a.tmps.size)
  (s1 : a.tmps[1]? = some (.slice (some ⟨gt, ot, none⟩) S ct))
  (s7 : a.tmps[7]? = some (.pointer (some ⟨gs, 0, none⟩)))
  (s8 : a.tmps[8]? = some (.int .i64 (uu : Int)))
  (s9 : a.tmps[9]? = some (.int .i64 (cc)))
  (hend : ∀ (xv0 xv1 xv2 xv3 xv4 xv5 xv6 xv7 xv8 xv9 xv10 xv11 xv12 : Value) (W : World), (xv0 = .agg #[.bool sp, .slice Ap lp cp, .slice Bp mp kp]) → (xv1 = .int .i64 (cc)) → (QZ W xv2 ((cc : Int) : Rat)) → (xv3 = .slice (some ⟨gt, ot, none⟩) S ct) → (xv4 = .int .i64 (uu : Int)) → (xv5 = .int .i64 (sv : Int)) → (xv6 = .int .i64 (uu : Int)) → (xv7 = .int .i64 (kv : Int)) → (xv8 = .pointer (some ⟨gt, ot + sv * 9, none⟩)) → (xv9 = .pointer (some ⟨gt, ot + sv * 9 + kv * 3, none⟩)) → (xv10 = .agg #[.bool sq, .slice Aq lq cq, .slice Bq mq kq]) → (QZ W xv11 (((cc : Int) : Rat) * r)) → (QZ W xv12 (q + ((cc : Int) : Rat) * r)) → Ext w W → wpList Try.prog (rops Try.f60 7).toArray Q ((rops Try.f60 7).drop 13) (((((((((((((a.put (some 25) xv0).put (some 26) xv1).put (some 27) xv2).put (some 28) xv3).put (some 29) xv4).put (some 30) xv5).put (some 31) xv6).put (some 32) xv7).put (some 33) xv8).put (some 34) xv9).put (some 35) xv10).put (some 36) xv11).put (some 37) xv12) W) :
  (Code.region 7 (rops Try.f60 7).toArray true).wp Try.prog Q a w := by
 refine wp_region_k 13 [some 25, some 26, some 27, some 28, some 29, some 30, some 31, some 32, some 33, some 34, some 35, some 36, some 37] [[], [], [1], [], [], [4], [], [6], [3, 5], [7, 8], [9], [2, 10], [0, 11]] [eqv (.agg #[.bool sp, .slice Ap lp cp, .slice Bp mp kp]), eqv (.int .i64 (cc)), fun v W => QZ W v ((cc : Int) : Rat), eqv (.slice (some ⟨gt, ot, none⟩) S ct), eqv (.int .i64 (uu : Int)), eqv (.int .i64 (sv : Int)), eqv (.int .i64 (uu : Int)), eqv (.int .i64 (kv : Int)), eqv (.pointer (some ⟨gt, ot + sv * 9, none⟩)), eqv (.pointer (some ⟨gt, ot + sv * 9 + kv * 3, none⟩)), eqv (.agg #[.bool sq, .slice Aq lq cq, .slice Bq mq kq]), fun v W => QZ W v (((cc : Int) : Rat) * r), fun v W => QZ W v (q + ((cc : Int) : Rat) * r)] (by kernel_rfl) (by kernel_rfl) rfl (by decide) hsize ⟨monC, monC, by intro v W W' h hX; exact QZ.ext h hX, monC, monC, monC, monC, monC, monC, monC, monC, by intro v W W' h hX; exact QZ.ext h hX, by intro v W W' h hX; exact QZ.ext h hX, trivial⟩ ?_ ?_
 ·
  clear hend
  simp only [rops, Try.f60, regOf, Option.bind_some, Nat.reduceBEq, if_true, if_false, Bool.false_eq_true, Option.getD_some]
  simp only [List.take_succ_cons, List.take_zero]
  refine ⟨?_, ?_, ?_, ?_, ?_, ?_, ?_, ?_, ?_, ?_, ?_, ?_, ?_, trivial⟩
  ·
   rintro us W hJ _ b hb hbz K hK0 hK Qz
   have e7 := (hbz 7 (by simp)).trans s7
   clear hb hbz
   have z0 := Ext.cell hJ x0
   have z1 := Ext.cell hJ x1
   have z2 := Ext.cell hJ x2
   go_simp
   exact hK0 _ rfl
  ·
   rintro us W hJ _ b hb hbz K hK0 hK Qz
   have e9 := (hbz 9 (by simp)).trans s9
   clear hb hbz
   go_simp
   exact hK0 _ rfl
  ·
   rintro us W hJ d1 b hb hbz K hK0 hK Qz
   have e26 := slotV (hb 1 26 rfl) d1
   clear hb hbz d1
   go_simp
   refine (whole_any cc W (by omega) (by omega)).mono ?_
   rintro e w' ⟨v, rfl, hv, hX⟩
   exact hK _ _ hv hX
  ·
   rintro us W hJ _ b hb hbz K hK0 hK Qz
   have e1 := (hbz 1 (by simp)).trans s1
   clear hb hbz
   go_simp
   exact hK0 _ rfl
  ·
   rintro us W hJ _ b hb hbz K hK0 hK Qz
   have e8 := (hbz 8 (by simp)).trans s8
   clear hb hbz
   go_simp
   exact hK0 _ rfl
  ·
   rintro us W hJ d4 b hb hbz K hK0 hK Qz
   have e29 := slotV (hb 4 29 rfl) d4
   clear hb hbz d4
   go_simp
   exact hK0 _ rfl
  ·
   rintro us W hJ _ b hb hbz K hK0 hK Qz
   have e8 := (hbz 8 (by simp)).trans s8
   clear hb hbz
   go_simp
   exact hK0 _ rfl
  ·
   rintro us W hJ d6 b hb hbz K hK0 hK Qz
   have e31 := slotV (hb 6 31 rfl) d6
   clear hb hbz d6
   go_simp
   exact hK0 _ rfl
  ·
   rintro us W hJ ⟨d3, d5⟩ b hb hbz K hK0 hK Qz
   have e28 := slotV (hb 3 28 rfl) d3
   have e30 := slotV (hb 5 30 rfl) d5
   clear hb hbz d3 d5
   go_simp
   exact hK0 _ rfl
  ·
   rintro us W hJ ⟨d7, d8⟩ b hb hbz K hK0 hK Qz
   have e32 := slotV (hb 7 32 rfl) d7
   have e33 := slotV (hb 8 33 rfl) d8
   clear hb hbz d7 d8
   go_simp
   exact hK0 _ rfl
  ·
   rintro us W hJ d9 b hb hbz K hK0 hK Qz
   have e34 := slotV (hb 9 34 rfl) d9
   clear hb hbz d9
   have z0 := Ext.cell hJ y0
   have z1 := Ext.cell hJ y1
   have z2 := Ext.cell hJ y2
   go_simp
   exact hK0 _ rfl
  ·
   rintro us W hJ ⟨d2, d10⟩ b hb hbz K hK0 hK Qz
   have e27 := hb 2 27 rfl
   have e35 := slotV (hb 10 35 rfl) d10
   clear hb hbz d10
   go_simp
   refine (qmul_any _ _ _ _ 4 L W d2 (hy.ext hJ) (fitR_small (by omega) (by omega)) fr (by omega)).mono ?_
   rintro e w' ⟨v, rfl, hv, hX⟩
   exact hK _ _ hv hX
  ·
   rintro us W hJ ⟨d0, d11⟩ b hb hbz K hK0 hK Qz
   have e25 := slotV (hb 0 25 rfl) d0
   have e36 := hb 11 36 rfl
   clear hb hbz d0
   go_simp
   refine (qadd_any _ _ _ _ M (4 + L) W (hx.ext hJ) d11 fq (fitS_mul (fitR_small (by omega) (by omega)) fr) (by omega)).mono ?_
   rintro e w' ⟨v, rfl, hv, hX⟩
   exact hK _ _ hv hX
 ·
  rintro us W ⟨v0, v1, v2, v3, v4, v5, v6, v7, v8, v9, v10, v11, v12, _⟩ hJ
  exact hend _ _ _ _ _ _ _ _ _ _ _ _ _ W v0 v1 v2 v3 v4 v5 v6 v7 v8 v9 v10 v11 v12 hJ
theorem res_zero (m : Mt) (u : Nat → Rat) : res 0 m u = ((m.d : Int) : Rat) := by
 unfold res lin
 simp only [sumN]
 grind
theorem res_next (k : Nat) (m : Mt) (u : Nat → Rat) : res (k + 1) m u = res k m u + ((cof m k : Int) : Rat) * u k := by
 unfold res lin
 simp only [sumN]
 grind
theorem Keeps.three (g : Nat) (w : World) (x y z : Value) : Keeps [g] w (((w.setCell ⟨g, 0, none⟩ x).setCell ⟨g, 1, none⟩ y).setCell ⟨g, 2, none⟩ z) :=
 (((Keeps.refl [g] w).setCell (.inl (by simp)) _).setCell (.inl (by simp)) _).setCell (.inl (by simp)) _
theorem Blk.far3 {w : World} {g g' : Nat} {t : TypeId} {cs : Array Value} (h : Blk w g' t cs) (hn : g' ≠ g) (x y z : Value) : Blk (((w.setCell ⟨g, 0, none⟩ x).setCell ⟨g, 1, none⟩ y).setCell ⟨g, 2, none⟩ z) g' t cs :=
 ((h.far (p := ⟨g, 0, none⟩) hn _).far (p := ⟨g, 1, none⟩) hn _).far (p := ⟨g, 2, none⟩) hn _
theorem ShP.past {w : World} {g gt o S : Nat} {u : Nat → Rat} (h : ShP QZ w gt o S u) (hN : NoInts w g) (hn : gt ≠ g) (x y z : Value) : ShP QZ (((w.setCell ⟨g, 0, none⟩ x).setCell ⟨g, 1, none⟩ y).setCell ⟨g, 2, none⟩ z) gt o S u :=
 h.keeps staysQ (Keeps.three g w x y z) (fun q hq => by simp at hq; subst hq; exact hN) (by simpa using hn)
set_option maxRecDepth 100000 in
set_option maxHeartbeats 8000000 in
theorem resR_v (S n c gt ot ct L : Nat) (A : Option Addr) (a b x y z d ww : Int) (un : Nat → Rat) (w : World) (_hS8 : S ≤ 8) (hS : ShP QZ w gt ot S un) (hf : FitU S un L) (hL : L ≤ 1000) (hm : VM S ⟨a, b, x, y, z, d, ww⟩) (_hgt : gt < w.heap.size) :
  Calls Try.prog 60 #[.agg #[.int .i64 (S : Int), .slice A n c], .slice (some ⟨gt, ot, none⟩) S ct, .agg #[.int .i64 a, .int .i64 b, .int .i64 x, .int .i64 y, .int .i64 z, .int .i64 d, .int .i64 ww]] w (RetQz w (res (3 * S) ⟨a, b, x, y, z, d, ww⟩ un)) := by
 have HX := hid ((((Ext.refl w).alloc (.cells #[.int .i64 (S : Int), .slice A n c] 76)).alloc (.cells #[.int .i64 a, .int .i64 b, .int .i64 x, .int .i64 y, .int .i64 z, .int .i64 d, .int .i64 ww] 90)).alloc (.cells #[.bool false, .slice none 0 0, .slice none 0 0] 65))
 have HP : Hid (Blk (((w.alloc (.cells #[.int .i64 (S : Int), .slice A n c] 76)).alloc (.cells #[.int .i64 a, .int .i64 b, .int .i64 x, .int .i64 y, .int .i64 z, .int .i64 d, .int .i64 ww] 90)).alloc (.cells #[.bool false, .slice none 0 0, .slice none 0 0] 65)) w.heap.size 76 #[.int .i64 (S : Int), .slice A n c]) := hid (Blk.alloc (Blk.alloc (Blk.new w _ _) _) _)
 have HM : Hid (Blk (((w.alloc (.cells #[.int .i64 (S : Int), .slice A n c] 76)).alloc (.cells #[.int .i64 a, .int .i64 b, .int .i64 x, .int .i64 y, .int .i64 z, .int .i64 d, .int .i64 ww] 90)).alloc (.cells #[.bool false, .slice none 0 0, .slice none 0 0] 65)) (w.heap.size + 1) 90 #[.int .i64 a, .int .i64 b, .int .i64 x, .int .i64 y, .int .i64 z, .int .i64 d, .int .i64 ww]) := hid (Blk.alloc (Blk.at_ (by simp)) _)
 have HR : Hid (Blk (((w.alloc (.cells #[.int .i64 (S : Int), .slice A n c] 76)).alloc (.cells #[.int .i64 a, .int .i64 b, .int .i64 x, .int .i64 y, .int .i64 z, .int .i64 d, .int .i64 ww] 90)).alloc (.cells #[.bool false, .slice none 0 0, .slice none 0 0] 65)) (w.heap.size + 2) 65 #[.bool false, .slice none 0 0, .slice none 0 0]) := hid (Blk.at_ (by simp))
 have HS := hid (hS.ext growsQ HX.out)
 have HF := hid hf
 have HMM := hid hm
 have hd1 := hm.d1
 have hd2 := hm.d2
 simp only at hd1 hd2
 clear hS hf hm
 unfold RetQz
 go_enter Try.func60, Try.ntmps60
 go_upto_region 1 with (fail)
 generalize ((w.alloc (.cells #[.int .i64 (S : Int), .slice A n c] 76)).alloc (.cells #[.int .i64 a, .int .i64 b, .int .i64 x, .int .i64 y, .int .i64 z, .int .i64 d, .int .i64 ww] 90)).alloc (.cells #[.bool false, .slice none 0 0, .slice none 0 0] 65) = w1 at HX HP HM HR HS ⊢
 have t5 := HM.out.cell 5
 simp only [List.getElem?_toArray, List.getElem?_cons_zero, List.getElem?_cons_succ] at t5
 go_wp2_with fail
 refine (whole_any d _ (by omega) (by omega)).mono ?_
 rintro e w2 ⟨v, rfl, hv, hX2⟩
 clear t5
 replace HP := hid (HP.out.ext hX2)
 replace HM := hid (HM.out.ext hX2)
 replace HR := hid (HR.out.ext hX2)
 replace HS := hid (HS.out.ext growsQ hX2)
 replace HX := hid (HX.out.trans hX2)
 clear hX2
 obtain ⟨s0, A0, l0, c0, B0, m0, k0, rfl⟩ := QZ.open hv
 go_upto_region 2 with (fail)
 have hX2 : Ext w2 (w2.alloc (.cells #[.bool s0, .slice A0 l0 c0, .slice B0 m0 k0] 65)) := (Ext.refl _).alloc _
 have hgs : w.heap.size + 2 < w2.heap.size := HR.out.lt
 have HB : Hid (QB (w2.alloc (.cells #[.bool s0, .slice A0 l0 c0, .slice B0 m0 k0] 65)) w2.heap.size (res 0 ⟨a, b, x, y, z, d, ww⟩ un)) := hid (by rw [res_zero]; exact QB.new hv)
 clear hv
 generalize w2.heap.size = gs at hgs HB ⊢
 generalize w2.alloc (.cells #[.bool s0, .slice A0 l0 c0, .slice B0 m0 k0] 65) = w3 at hX2 HB ⊢
 replace HP := hid (HP.out.ext hX2)
 replace HM := hid (HM.out.ext hX2)
 replace HR := hid (HR.out.ext hX2)
 replace HS := hid (HS.out.ext growsQ hX2)
 replace HX := hid (HX.out.trans hX2)
 clear hX2
 have HFT : Hid (FitR (res 0 ⟨a, b, x, y, z, d, ww⟩ un) (4 + 0 * (L + 5))) := hid (by rw [res_zero]; exact (fitR_small (n := d) (by omega) (by omega)).mono (by omega))
 clear hd1 hd2
 have qS : IntKind.i64.wrap (3 * (S : Int)) = 3 * (S : Int) := IntWalk.i64_in _ (by omega)
 go_wp2_with fail
 go_loopg [8, 9] (3 * S) (fun fu iv _ W => ∃ k : Nat, fu = 3 * S - k ∧ k ≤ 3 * S ∧ iv = .int .i64 (k : Int) ∧ Hid (QB W gs (res k ⟨a, b, x, y, z, d, ww⟩ un)) ∧ Hid (FitR (res k ⟨a, b, x, y, z, d, ww⟩ un) (4 + k * (L + 5))) ∧ Hid (Blk W w.heap.size 76 #[.int .i64 (S : Int), .slice A n c]) ∧ Hid (Blk W (w.heap.size + 1) 90 #[.int .i64 a, .int .i64 b, .int .i64 x, .int .i64 y, .int .i64 z, .int .i64 d, .int .i64 ww]) ∧ Hid (Blk W (w.heap.size + 2) 65 #[.bool false, .slice none 0 0, .slice none 0 0]) ∧ Hid (ShP QZ W gt ot S un) ∧ Hid (Ext w W))
 case atStart => exact ⟨0, by omega, by omega, rfl, HB, HFT, HP, HM, HR, HS, HX⟩
 case round =>
  clear HB HFT HP HM HR HS HX
  obtain ⟨k, rfl, hk, rfl, HB, HFT, HP, HM, HR, HS, HX⟩ := hrel
  have p0 := HP.out.cell 0
  simp only [List.getElem?_toArray, List.getElem?_cons_zero, List.getElem?_cons_succ] at p0
  by_cases hk3 : k < 3 * S
  ·
   have q1 : decide ((k : Int) < 3 * (S : Int)) = true := decide_eq_true (by omega)
   have t0 := HM.out.cell 0
   have t1 := HM.out.cell 1
   have t2 := HM.out.cell 2
   have t3 := HM.out.cell 3
   have t4 := HM.out.cell 4
   have t5 := HM.out.cell 5
   have t6 := HM.out.cell 6
   simp only [List.getElem?_toArray, List.getElem?_cons_zero, List.getElem?_cons_succ] at t0 t1 t2 t3 t4 t5 t6
   go_wp2_with fail
   refine (coefR_any (m := ⟨a, b, x, y, z, d, ww⟩) (u := k) (S := S) (by omega) HMM.out).mono ?_
   rintro e w4 ⟨rfl, hX2⟩
   clear p0 t0 t1 t2 t3 t4 t5 t6
   replace HB := hid (HB.out.ext hX2)
   replace HP := hid (HP.out.ext hX2)
   replace HM := hid (HM.out.ext hX2)
   replace HR := hid (HR.out.ext hX2)
   replace HS := hid (HS.out.ext growsQ hX2)
   replace HX := hid (HX.out.trans hX2)
   clear hX2
   obtain ⟨cc, hcc⟩ : ∃ cc, cof ⟨a, b, x, y, z, d, ww⟩ k = cc := ⟨_, rfl⟩
   have hcb := cof_bound HMM.out k
   rw [hcc] at hcb
   have HN : Hid (res (k + 1) ⟨a, b, x, y, z, d, ww⟩ un = res k ⟨a, b, x, y, z, d, ww⟩ un + ((cc : Int) : Rat) * un k) := hid (by rw [res_next, hcc])
   have HFN : Hid (FitR (res (k + 1) ⟨a, b, x, y, z, d, ww⟩ un) (4 + (k + 1) * (L + 5))) := hid (by
    rw [HN.out]
    exact (fitS_add HFT.out (fitS_mul (fitR_small (n := cc) (by omega) (by omega)) (HF.out k hk3))).mono (by have e : (k + 1) * (L + 5) = k * (L + 5) + (L + 5) := Nat.succ_mul _ _; omega))
   rw [hcc]
   clear hcc
   by_cases hc0 : cc = 0
   ·
    subst hc0
    have HN2 : Hid (res (k + 1) ⟨a, b, x, y, z, d, ww⟩ un = res k ⟨a, b, x, y, z, d, ww⟩ un) := hid (by rw [HN.out, show (((0 : Int)) : Rat) = 0 from rfl, Rat.zero_mul, Rat.add_zero])
    go_wp2
    go_roundg (3 * S - (k + 1))
    case rel => exact ⟨k + 1, by omega, by omega, by go_num, hid (by rw [HN2.out]; exact HB.out), HFN, HP, HM, HR, HS, HX⟩
    case measure => omega
   have q2 : (cc != 0) = true := by simpa using hc0
   obtain ⟨sv, hs⟩ : ∃ s, k / 3 = s := ⟨_, rfl⟩
   obtain ⟨kv, hkv⟩ : ∃ k', k % 3 = k' := ⟨_, rfl⟩
   have hk3' : kv < 3 := by rw [← hkv]; exact Nat.mod_lt _ (by omega)
   have hsv : sv < S := by omega
   have ta : (k : Int).tdiv 3 = (sv : Int) := by rw [Int.tdiv_eq_ediv_of_nonneg (by omega)]; omega
   have tb : (k : Int).tmod 3 = (kv : Int) := by rw [Int.tmod_eq_emod_of_nonneg (by omega)]; omega
   have ek : 3 * sv + kv = k := by omega
   obtain ⟨sq, Aq, lq, cq, Bq, mq, kq, y0, y1, y2, hy⟩ := HS.out sv kv hsv hk3'
   rw [ek] at hy
   obtain ⟨sp, Ap, lp, cp, Bp, mp, kp, x0, x1, x2, hx⟩ := HB.out.cells
   have hfu := HF.out k hk3
   have HFK := hid hfu
   obtain ⟨r, hr⟩ : ∃ r, un k = r := ⟨_, rfl⟩
   obtain ⟨q, hq⟩ : ∃ q, res k ⟨a, b, x, y, z, d, ww⟩ un = q := ⟨_, rfl⟩
   rw [hr] at hy hfu HN
   rw [hq] at hx HN
   have hfq := HFT.out
   rw [hq] at hfq
   clear hr hs hkv ek hc0
   go_upto_region 7 with (fail)
   refine resR_r7 gs gt ot S ct k sv kv L (4 + k * (L + 5)) cc sp Ap Bp lp cp mp kp sq Aq Bq lq cq mq kq q r w4 x0 x1 x2 y0 y1 y2 hx hy hfq hfu hL (by have : k * (L + 5) ≤ 24 * (L + 5) := Nat.mul_le_mul_right _ (by omega); omega) hcb ta tb (IntWalk.i64_in _ (by omega)) (IntWalk.i64_in _ (by omega)) hsv hk3' (by omega) (by omega) _ _ (by simp) rfl rfl rfl rfl ?_
   rintro xv0 xv1 xv2 xv3 xv4 xv5 xv6 xv7 xv8 xv9 xv10 xv11 xv12 w5 rfl rfl _ rfl rfl rfl rfl rfl rfl rfl rfl _ hv hX2
   simp only [rops, Try.f60, regOf, Option.bind_some, Nat.reduceBEq, if_true, if_false, Bool.false_eq_true, Option.getD_some, List.drop_succ_cons, List.drop_zero]
   simp only [Act.put, List.setIfInBounds_toArray, List.set_cons_succ, List.set_cons_zero]
   replace HB := hid (HB.out.ext hX2)
   replace HP := hid (HP.out.ext hX2)
   replace HM := hid (HM.out.ext hX2)
   replace HR := hid (HR.out.ext hX2)
   replace HS := hid (HS.out.ext growsQ hX2)
   replace HX := hid (HX.out.trans hX2)
   clear hX2
   clear x0 x1 x2 y0 y1 y2 hx hy hfq hfu ta tb
   obtain ⟨s4, A4, l4, c4, B4, m4, k4, rfl⟩ := QZ.open hv
   have f0 := HB.out.free 0
   have f1 := HB.out.free 1
   have f2 := HB.out.free 2
   obtain ⟨s5, A5, l5, c5, B5, m5, k5, z0, z1, z2, _⟩ := HB.out.cells
   have hni := HB.out.ni
   have hgt2 : gt ≠ gs := by omega
   have HB2 := hid (HB.out.put hv)
   have HP2 := hid (HP.out.far3 (g := gs) (by omega) (.bool s4) (.slice A4 l4 c4) (.slice B4 m4 k4))
   have HM2 := hid (HM.out.far3 (g := gs) (by omega) (.bool s4) (.slice A4 l4 c4) (.slice B4 m4 k4))
   have HR2 := hid (HR.out.far3 (g := gs) (by omega) (.bool s4) (.slice A4 l4 c4) (.slice B4 m4 k4))
   have HS2 := hid (HS.out.past hni hgt2 (.bool s4) (.slice A4 l4 c4) (.slice B4 m4 k4))
   have HX2 := hid (Ext.boxed HX.out (g := gs) (by omega) (.bool s4) (.slice A4 l4 c4) (.slice B4 m4 k4))
   clear hv hni HB HP HM HR HS HX
   go_wp2
   go_roundg (3 * S - (k + 1))
   case rel => exact ⟨k + 1, by omega, by omega, by go_num, hid (by rw [HN.out]; exact HB2.out), HFN, HP2, HM2, HR2, HS2, HX2⟩
   case measure => omega
  obtain rfl : k = 3 * S := by omega
  have q1 : decide (((3 * S : Nat) : Int) < 3 * (S : Int)) = false := decide_eq_false (by omega)
  have q1b : ((3 * S : Nat) : Int) = 3 * (S : Int) := by omega
  obtain ⟨sp, Ap, lp, cp, Bp, mp, kp, x0, x1, x2, hx⟩ := HB.out.cells
  obtain ⟨r0, r1, r2, f0, f1, f2⟩ := HR.out.three
  have HXX := hid hx
  clear hx
  go_wp2
  refine bodyPost_ret (v := .agg #[.bool sp, .slice Ap lp cp, .slice Bp mp kp]) (by simp [results, Try.results60, go_sem, *]) rfl ?_
  exact ⟨_, rfl, HXX.out.past (NoInts.three HR.out), Ext.boxed HX.out (by omega) _ _ _⟩
theorem fit_res {S L k : Nat} {m : Mt} {u : Nat → Rat} (hm : VM S m) (hf : FitU S u L) (_hk : k ≤ 3 * S) : FitR (res k m u) (4 + k * (L + 5)) := by
 induction k with
 | zero => rw [res_zero]; exact (fitR_small (n := m.d) (by have := hm.d1; omega) (by have := hm.d2; omega)).mono (by omega)
 | succ k ih =>
  rw [res_next]
  have hb := cof_bound hm k
  exact (fitS_add (ih (by omega)) (fitS_mul (fitR_small (n := cof m k) (by omega) (by omega)) (hf k (by omega)))).mono (by have e : (k + 1) * (L + 5) = k * (L + 5) + (L + 5) := Nat.succ_mul _ _; omega)
theorem fit_res' {S L : Nat} {m : Mt} {u : Nat → Rat} (hm : VM S m) (hf : FitU S u L) (_hS8 : S ≤ 8) : FitR (res (3 * S) m u) (4 + 24 * (L + 5)) :=
 (fit_res hm hf (Nat.le_refl _)).mono (by have : 3 * S * (L + 5) ≤ 24 * (L + 5) := Nat.mul_le_mul_right _ (by omega); omega)
theorem fit_wsq {S L : Nat} {m : Mt} {u : Nat → Rat} (hm : VM S m) (hf : FitU S u L) (hS8 : S ≤ 8) : FitR (wsq (3 * S) u m) (12 + 48 * (L + 5)) := by
 have h := fit_res' hm hf hS8
 unfold wsq
 exact (fitS_mul (fitR_small (n := m.w) (by have := hm.w1; omega) (by have := hm.w2; omega)) (fitS_mul h h)).mono (by omega)
theorem resR_any {S n c gt ot ct L : Nat} {A : Option Addr} {m : Mt} {un : Nat → Rat} {w : World} (hS8 : S ≤ 8) (hS : ShP QZ w gt ot S un) (hf : FitU S un L) (hL : L ≤ 1000) (hm : VM S m) (hgt : gt < w.heap.size) :
  Calls Try.prog 60 #[.agg #[.int .i64 (S : Int), .slice A n c], .slice (some ⟨gt, ot, none⟩) S ct, m.val] w (RetQz w (res (3 * S) m un)) := by
 obtain ⟨a, b, x, y, z, d, ww⟩ := m
 exact resR_v S n c gt ot ct L A a b x y z d ww un w hS8 hS hf hL hm hgt
set_option maxRecDepth 100000 in
set_option maxHeartbeats 2000000 in
theorem wgtR_r2 (gm gs M : Nat) (ww : Int) (sp : Bool) (Ap Bp : Option Addr) (lp cp mp kp : Nat) (q : Rat) (w : World) (x0 : w.cell? ⟨gs, 0, none⟩ = some (.bool sp)) (x1 : w.cell? ⟨gs, 1, none⟩ = some (.slice Ap lp cp)) (x2 : w.cell? ⟨gs, 2, none⟩ = some (.slice Bp mp kp)) (hw : w.cell? ⟨gm, 6, none⟩ = some (.int .i64 (ww))) (_h0 : 1 ≤ ww) (_h1 : ww ≤ 1000) (hx : QZ w (.agg #[.bool sp, .slice Ap lp cp, .slice Bp mp kp]) q) (fq : FitR q M) (_hM : M ≤ 100000) (a : Act) (Q : Exit → Act → World → Prop) (hsize : 19 ≤ a.tmps.size)
  (s5 : a.tmps[5]? = some (.pointer (some ⟨gm, 0, none⟩)))
  (s7 : a.tmps[7]? = some (.pointer (some ⟨gs, 0, none⟩)))
  (hend : ∀ (xv0 xv1 xv2 xv3 xv4 xv5 xv6 : Value) (W : World), (xv0 = .pointer (some ⟨gm, 6, none⟩)) → (xv1 = .int .i64 (ww)) → (QZ W xv2 ((ww : Int) : Rat)) → (xv3 = .agg #[.bool sp, .slice Ap lp cp, .slice Bp mp kp]) → (QZ W xv4 (((ww : Int) : Rat) * q)) → (xv5 = .agg #[.bool sp, .slice Ap lp cp, .slice Bp mp kp]) → (QZ W xv6 (((ww : Int) : Rat) * q * q)) → Ext w W → wpList Try.prog (rops Try.f140 2).toArray Q ((rops Try.f140 2).drop 7) (((((((a.put (some 12) xv0).put (some 13) xv1).put (some 14) xv2).put (some 15) xv3).put (some 16) xv4).put (some 17) xv5).put (some 18) xv6) W) :
  (Code.region 2 (rops Try.f140 2).toArray true).wp Try.prog Q a w := by
 refine wp_region_k 7 [some 12, some 13, some 14, some 15, some 16, some 17, some 18] [[], [0], [1], [], [2, 3], [], [4, 5]] [eqv (.pointer (some ⟨gm, 6, none⟩)), eqv (.int .i64 (ww)), fun v W => QZ W v ((ww : Int) : Rat), eqv (.agg #[.bool sp, .slice Ap lp cp, .slice Bp mp kp]), fun v W => QZ W v (((ww : Int) : Rat) * q), eqv (.agg #[.bool sp, .slice Ap lp cp, .slice Bp mp kp]), fun v W => QZ W v (((ww : Int) : Rat) * q * q)] (by kernel_rfl) (by kernel_rfl) rfl (by decide) hsize ⟨monC, monC, by intro v W W' h hX; exact QZ.ext h hX, monC, by intro v W W' h hX; exact QZ.ext h hX, monC, by intro v W W' h hX; exact QZ.ext h hX, trivial⟩ ?_ ?_
 ·
  clear hend
  simp only [rops, Try.f140, regOf, Option.bind_some, Nat.reduceBEq, if_true, if_false, Bool.false_eq_true, Option.getD_some]
  simp only [List.take_succ_cons, List.take_zero]
  refine ⟨?_, ?_, ?_, ?_, ?_, ?_, ?_, trivial⟩
  ·
   rintro us W hJ _ b hb hbz K hK0 hK Qz
   have e5 := (hbz 5 (by simp)).trans s5
   clear hb hbz
   go_simp
   exact hK0 _ rfl
  ·
   rintro us W hJ d0 b hb hbz K hK0 hK Qz
   have e12 := slotV (hb 0 12 rfl) d0
   clear hb hbz d0
   have q := Ext.cell hJ hw
   go_simp
   exact hK0 _ rfl
  ·
   rintro us W hJ d1 b hb hbz K hK0 hK Qz
   have e13 := slotV (hb 1 13 rfl) d1
   clear hb hbz d1
   go_simp
   refine (whole_any ww W (by omega) (by omega)).mono ?_
   rintro e w' ⟨v, rfl, hv, hX⟩
   exact hK _ _ hv hX
  ·
   rintro us W hJ _ b hb hbz K hK0 hK Qz
   have e7 := (hbz 7 (by simp)).trans s7
   clear hb hbz
   have z0 := Ext.cell hJ x0
   have z1 := Ext.cell hJ x1
   have z2 := Ext.cell hJ x2
   go_simp
   exact hK0 _ rfl
  ·
   rintro us W hJ ⟨d2, d3⟩ b hb hbz K hK0 hK Qz
   have e14 := hb 2 14 rfl
   have e15 := slotV (hb 3 15 rfl) d3
   clear hb hbz d3
   go_simp
   refine (qmul_any _ _ _ _ 4 M W d2 (hx.ext hJ) (fitR_small (by omega) (by omega)) fq (by omega)).mono ?_
   rintro e w' ⟨v, rfl, hv, hX⟩
   exact hK _ _ hv hX
  ·
   rintro us W hJ _ b hb hbz K hK0 hK Qz
   have e7 := (hbz 7 (by simp)).trans s7
   clear hb hbz
   have z0 := Ext.cell hJ x0
   have z1 := Ext.cell hJ x1
   have z2 := Ext.cell hJ x2
   go_simp
   exact hK0 _ rfl
  ·
   rintro us W hJ ⟨d4, d5⟩ b hb hbz K hK0 hK Qz
   have e16 := hb 4 16 rfl
   have e17 := slotV (hb 5 17 rfl) d5
   clear hb hbz d5
   go_simp
   refine (qmul_any _ _ _ _ (4 + M) M W d4 (hx.ext hJ) (fitS_mul (fitR_small (by omega) (by omega)) fq) fq (by omega)).mono ?_
   rintro e w' ⟨v, rfl, hv, hX⟩
   exact hK _ _ hv hX
 ·
  rintro us W ⟨v0, v1, v2, v3, v4, v5, v6, _⟩ hJ
  exact hend _ _ _ _ _ _ _ W v0 v1 v2 v3 v4 v5 v6 hJ
set_option maxRecDepth 100000 in
set_option maxHeartbeats 8000000 in
theorem wgtR_v (S n c gt ot ct L : Nat) (A : Option Addr) (a b x y z d ww : Int) (un : Nat → Rat) (w : World) (hS8 : S ≤ 8) (hS : ShP QZ w gt ot S un) (hf : FitU S un L) (hL : L ≤ 1000) (hm : VM S ⟨a, b, x, y, z, d, ww⟩) (hgt : gt < w.heap.size) :
  Calls Try.prog 140 #[.agg #[.int .i64 (S : Int), .slice A n c], .slice (some ⟨gt, ot, none⟩) S ct, .agg #[.int .i64 a, .int .i64 b, .int .i64 x, .int .i64 y, .int .i64 z, .int .i64 d, .int .i64 ww]] w (RetQz w (wsq (3 * S) un ⟨a, b, x, y, z, d, ww⟩)) := by
 have HX := hid ((((Ext.refl w).alloc (.cells #[.int .i64 (S : Int), .slice A n c] 76)).alloc (.cells #[.int .i64 a, .int .i64 b, .int .i64 x, .int .i64 y, .int .i64 z, .int .i64 d, .int .i64 ww] 90)).alloc (.cells #[.bool false, .slice none 0 0, .slice none 0 0] 65))
 have HP : Hid (Blk (((w.alloc (.cells #[.int .i64 (S : Int), .slice A n c] 76)).alloc (.cells #[.int .i64 a, .int .i64 b, .int .i64 x, .int .i64 y, .int .i64 z, .int .i64 d, .int .i64 ww] 90)).alloc (.cells #[.bool false, .slice none 0 0, .slice none 0 0] 65)) w.heap.size 76 #[.int .i64 (S : Int), .slice A n c]) := hid (Blk.alloc (Blk.alloc (Blk.new w _ _) _) _)
 have HM : Hid (Blk (((w.alloc (.cells #[.int .i64 (S : Int), .slice A n c] 76)).alloc (.cells #[.int .i64 a, .int .i64 b, .int .i64 x, .int .i64 y, .int .i64 z, .int .i64 d, .int .i64 ww] 90)).alloc (.cells #[.bool false, .slice none 0 0, .slice none 0 0] 65)) (w.heap.size + 1) 90 #[.int .i64 a, .int .i64 b, .int .i64 x, .int .i64 y, .int .i64 z, .int .i64 d, .int .i64 ww]) := hid (Blk.alloc (Blk.at_ (by simp)) _)
 have HR : Hid (Blk (((w.alloc (.cells #[.int .i64 (S : Int), .slice A n c] 76)).alloc (.cells #[.int .i64 a, .int .i64 b, .int .i64 x, .int .i64 y, .int .i64 z, .int .i64 d, .int .i64 ww] 90)).alloc (.cells #[.bool false, .slice none 0 0, .slice none 0 0] 65)) (w.heap.size + 2) 65 #[.bool false, .slice none 0 0, .slice none 0 0]) := hid (Blk.at_ (by simp))
 have HS := hid hS
 have HF := hid hf
 have HMM := hid hm
 clear hS hf hm
 unfold RetQz
 go_enter Try.func140, Try.ntmps140
 go_upto_region 1 with (fail)
 generalize ((w.alloc (.cells #[.int .i64 (S : Int), .slice A n c] 76)).alloc (.cells #[.int .i64 a, .int .i64 b, .int .i64 x, .int .i64 y, .int .i64 z, .int .i64 d, .int .i64 ww] 90)).alloc (.cells #[.bool false, .slice none 0 0, .slice none 0 0] 65) = w1 at HX HP HM HR ⊢
 have p0 := HP.out.cell 0
 have p1 := HP.out.cell 1
 simp only [List.getElem?_toArray, List.getElem?_cons_zero, List.getElem?_cons_succ] at p0 p1
 have t0 := HM.out.cell 0
 have t1 := HM.out.cell 1
 have t2 := HM.out.cell 2
 have t3 := HM.out.cell 3
 have t4 := HM.out.cell 4
 have t5 := HM.out.cell 5
 have t6 := HM.out.cell 6
 simp only [List.getElem?_toArray, List.getElem?_cons_zero, List.getElem?_cons_succ] at t0 t1 t2 t3 t4 t5 t6
 go_wp2_with fail
 refine (resR_any (m := ⟨a, b, x, y, z, d, ww⟩) (S := S) (n := n) (c := c) (A := A) (ct := ct) hS8 (HS.out.ext growsQ HX.out) HF.out hL HMM.out (Nat.lt_of_lt_of_le hgt HX.out.size)).mono ?_
 rintro e w2 ⟨v, rfl, hv, hX2⟩
 clear p0 p1 t0 t1 t2 t3 t4 t5 t6
 replace HP := hid (HP.out.ext hX2)
 replace HM := hid (HM.out.ext hX2)
 replace HR := hid (HR.out.ext hX2)
 replace HX := hid (HX.out.trans hX2)
 clear hX2
 obtain ⟨s0, A0, l0, c0, B0, m0, k0, rfl⟩ := QZ.open hv
 go_upto_region 2 with (fail)
 have hX2 : Ext w2 (w2.alloc (.cells #[.bool s0, .slice A0 l0 c0, .slice B0 m0 k0] 65)) := (Ext.refl _).alloc _
 have HB : Hid (QB (w2.alloc (.cells #[.bool s0, .slice A0 l0 c0, .slice B0 m0 k0] 65)) w2.heap.size (res (3 * S) ⟨a, b, x, y, z, d, ww⟩ un)) := hid (QB.new hv)
 clear hv
 generalize w2.heap.size = gs at HB ⊢
 generalize w2.alloc (.cells #[.bool s0, .slice A0 l0 c0, .slice B0 m0 k0] 65) = w3 at hX2 HB ⊢
 replace HP := hid (HP.out.ext hX2)
 replace HM := hid (HM.out.ext hX2)
 replace HR := hid (HR.out.ext hX2)
 replace HX := hid (HX.out.trans hX2)
 clear hX2
 obtain ⟨sp, Ap, lp, cp, Bp, mp, kp, x0, x1, x2, hx⟩ := HB.out.cells
 have hfr := fit_res' HMM.out HF.out hS8
 have hw1 := HMM.out.w1
 have hw2 := HMM.out.w2
 simp only at hw1 hw2
 have HV : Hid (wsq (3 * S) un ⟨a, b, x, y, z, d, ww⟩ = ((ww : Int) : Rat) * res (3 * S) ⟨a, b, x, y, z, d, ww⟩ un * res (3 * S) ⟨a, b, x, y, z, d, ww⟩ un) := hid (by unfold wsq; rw [Rat.mul_assoc])
 generalize res (3 * S) ⟨a, b, x, y, z, d, ww⟩ un = q at hx hfr HV
 refine wgtR_r2 (w.heap.size + 1) gs (4 + 24 * (L + 5)) ww sp Ap Bp lp cp mp kp q w3 x0 x1 x2 (HM.out.cell 6) hw1 hw2 hx hfr (by omega) _ _ (by simp) rfl rfl ?_
 rintro xv0 xv1 xv2 xv3 xv4 xv5 xv6 w5 rfl rfl _ rfl _ rfl hv hX2
 simp only [rops, Try.f140, regOf, Option.bind_some, Nat.reduceBEq, if_true, if_false, Bool.false_eq_true, Option.getD_some, List.drop_succ_cons, List.drop_zero]
 simp only [Act.put, List.setIfInBounds_toArray, List.set_cons_succ, List.set_cons_zero]
 replace HP := hid (HP.out.ext hX2)
 replace HM := hid (HM.out.ext hX2)
 replace HR := hid (HR.out.ext hX2)
 replace HX := hid (HX.out.trans hX2)
 clear hX2
 clear x0 x1 x2 hx hfr hw1 hw2 HB
 obtain ⟨s4, A4, l4, c4, B4, m4, k4, rfl⟩ := QZ.open hv
 obtain ⟨r0, r1, r2, f0, f1, f2⟩ := HR.out.three
 have HVV := hid hv
 clear hv
 go_wp2
 refine bodyPost_ret (v := .agg #[.bool s4, .slice A4 l4 c4, .slice B4 m4 k4]) (by simp [results, Try.results140, go_sem, *]) rfl ?_
 exact ⟨_, rfl, by rw [HV.out]; exact HVV.out.past (NoInts.three HR.out), Ext.boxed HX.out (by omega) _ _ _⟩
theorem wgtR_any {S n c gt ot ct L : Nat} {A : Option Addr} {m : Mt} {un : Nat → Rat} {w : World} (hS8 : S ≤ 8) (hS : ShP QZ w gt ot S un) (hf : FitU S un L) (hL : L ≤ 1000) (hm : VM S m) (hgt : gt < w.heap.size) :
  Calls Try.prog 140 #[.agg #[.int .i64 (S : Int), .slice A n c], .slice (some ⟨gt, ot, none⟩) S ct, m.val] w (RetQz w (wsq (3 * S) un m)) := by
 obtain ⟨a, b, x, y, z, d, ww⟩ := m
 exact wgtR_v S n c gt ot ct L A a b x y z d ww un w hS8 hS hf hL hm hgt
section
variable {P : Program}
/-- An operation that is always done, whose value is known. -/
theorem jop_run {ops : Array Oper} {o : Oper} {b : Act} {W W' : World} {K : Act → World → Prop} {Q' : Exit → Act → World → Prop} {v' : Value} (hg : o.guard = none) (hrun : (execOp b.eval o).run P W = .ok (.value v') W') (hK : K (b.put o.dst v') W') :
  if Region.wanted o (yielded ops b.tmps) then o.wp P b W K Q' else K (b.put o.dst undef) W := by
 simp only [Region.wanted, hg, if_true, Oper.wp, hrun]
 exact hK
/-- 'append(s, x...)' in a region that draws its order. -/
theorem jop_app {ops : Array Oper} {o : Oper} {b : Act} {W W' : World} {K : Act → World → Prop} {Q' : Exit → Act → World → Prop} {t : TypeId} {i j : Tmp} {v u v' : Value} (hg : o.guard = none)
  (ho : o.op = .call { callee := .builtin .append, args := #[.tmp i, .tmp j], argTypes := #[t, t] }) (hi : b.tmps[i]? = some v) (hj : b.tmps[j]? = some u)
  (hrun : (Builtin.append_ #[t, t] o.type #[v, u]).run P W = .ok v' W') (hK : K (b.put o.dst v') W') :
  if Region.wanted o (yielded ops b.tmps) then o.wp P b W K Q' else K (b.put o.dst undef) W := by
 refine jop_run hg ?_ hK
 have e1 : b.eval (.tmp i) = v := by simp [Act.eval, hi]
 have e2 : b.eval (.tmp j) = u := by simp [Act.eval, hj]
 unfold execOp
 simp only [ho, resolve, invoke, builtin, Sem.run_bind, Sem.run_pure, Result.andThen_ok, List.map_toArray, List.map_cons, List.map_nil, e1, e2, hrun]
end
theorem elQs : Elem Try.prog 122 65 3 56 (.agg #[.bool false, .slice none 0 0, .slice none 0 0]) := Elem.mk' (by kernel_rfl) (by kernel_rfl) rfl (by decide)
def QRow (base : Nat) (w : World) (v : Value) (n : Nat) (f : Nat → Rat) : Prop := (∃ us, w.ownsRow base 65 3 v n us ∧ NumK 3 (Tri QZ) w us n f) ∧ RowNI w v
section
variable {base n : Nat} {w w' : World} {v : Value} {f h : Nat → Rat}
theorem QRow.nil (base : Nat) (w : World) (f : Nat → Rat) : QRow base w (.slice none 0 0) 0 f := ⟨⟨[], World.ownsRow_nil _ _ _ _, NumK.nil 3 _ w f⟩, fun g hg => by simp [Value.ownBlock] at hg⟩
theorem QRow.keeps (k : QRow base w v n f) {L : List Nat} (hk : Keeps L w w') (hN : ∀ g ∈ L, NoInts w g) (hn : ∀ g, v.ownBlock = some g → g ∉ L) : QRow base w' v n f := by
 obtain ⟨⟨us, h1, h2⟩, h3⟩ := k
 exact ⟨⟨us, ownsRow_keeps h1 hk hn, h2.keep kindQ hk hN⟩, h3.keeps hk hn⟩
theorem QRow.ext (k : QRow base w v n f) (he : Ext w w') : QRow base w' v n f := k.keeps (.of_ext he []) (fun g hg => by simp at hg) (fun g _ hg => by simp at hg)
theorem QRow.congr (k : QRow base w v n f) (e : ∀ j, j < n → f j = h j) : QRow base w v n h := by
 obtain ⟨⟨us, h1, h2⟩, h3⟩ := k
 exact ⟨⟨us, h1, h2.congr e⟩, h3⟩
theorem QRow.slice (k : QRow base w v n f) : ∃ A c, v = .slice A n c := own_slice k.1.choose_spec.1
theorem QRow.low (k : QRow base w v n f) {g : Nat} (hg : v.ownBlock = some g) : base ≤ g ∧ g < w.heap.size := rowLow k.1.choose_spec.1 hg
theorem QRow.mono (k : QRow base w v n f) {b : Nat} (hb : b ≤ base) : QRow b w v n f := by
 obtain ⟨⟨us, h1, h2⟩, h3⟩ := k
 exact ⟨⟨us, World.ownsRow.mono' h1 hb, h2⟩, h3⟩
theorem QRow.get {A : Option Addr} {c : Nat} (k : QRow base w (.slice A n c) n f) {j : Nat} (hj : j < n) : ∃ g, A = some ⟨g, 0, none⟩ ∧ base ≤ g ∧ ∃ s A' l c' B m d, w.cell? ⟨g, j * 3, none⟩ = some (.bool s) ∧ w.cell? ⟨g, j * 3 + 1, none⟩ = some (.slice A' l c') ∧ w.cell? ⟨g, j * 3 + 2, none⟩ = some (.slice B m d) ∧ QZ w (.agg #[.bool s, .slice A' l c', .slice B m d]) (f j) := by
 obtain ⟨⟨us, h1, h2⟩, h3⟩ := k
 rcases h1.2 with ⟨hv, h0⟩ | ⟨g, cap, cur, hv, hg, hb⟩
 ·
  have := h2.1
  rw [h0] at this
  simp at this
  omega
 ·
  injection hv with hA hn hc
  subst hA
  obtain ⟨s, A', l, c', B, m, d, e0, e1, e2, e3⟩ := h2.three hj
  exact ⟨g, rfl, hg, s, A', l, c', B, m, d, own_cell h1 e0, own_cell h1 e1, own_cell h1 e2, e3⟩
theorem QRow.app (k : QRow base w v n f) {g' : Nat} {q : Rat} (hq : QB w g' q) (hb : base ≤ w.heap.size) (_hn : n ≤ 1000) : ∃ v' w', (Builtin.append_ #[122, 122] 122 #[v, .slice (some ⟨g', 0, none⟩) 1 1]).run Try.prog w = .ok v' w' ∧ QRow base w' v' (n + 1) (fun i => if i = n then q else f i) ∧ w.grownBy w' v.ownBlock ∧ (v'.ownBlock = v.ownBlock ∨ v'.ownBlock = some w.heap.size) := by
 obtain ⟨⟨us, h1, h2⟩, h3⟩ := k
 obtain ⟨s, A, l, c, B, m, d, b1, b2⟩ := hq
 obtain ⟨v', w', hr, ho, hG, hv, hni⟩ := run_app_ni (P := Try.prog) w elQs 122 base v n us h1 h3 (by simp [Value.cells, NoInt]) ⟨g', 0, none⟩ 1 1 [.bool s, .slice A l c, .slice B m d] rfl
  (fun _ => ⟨g', 0, rfl, fun j y hy => by rw [Nat.zero_add]; exact (b1.cell j).trans (by rw [List.getElem?_toArray]; exact hy)⟩) (by simp [Value.oneCell']) (by simp [NoInt]) (by omega) (by omega) (by unfold maxLen; omega) hb
 have hN2 := h2.imp (w' := w') (R' := Tri QZ) (fun cs x hx => by
  obtain ⟨s, A, l, c, B, m, k, e, hp⟩ := hx
  exact ⟨s, A, l, c, B, m, k, e, hp.grownNI h3 hG⟩)
 exact ⟨v', w', hr, ⟨⟨_, ho, hN2.snoc rfl (Tri.mk (b2.grownNI h3 hG))⟩, hni⟩, hG, hv⟩
end
/-- A local shift of the reference: nine cells, three numbers (none: not yet stored). -/
def XQ (w : World) (g : Nat) (f : Nat → Option Rat) : Prop := ∃ vs : List Value, Blk w g 229 vs.toArray ∧ NumK 3 (TriO QZ) w vs 3 f ∧ ∀ u ∈ vs, NoInt u
theorem XQ.ext {w w' : World} {g : Nat} {f : Nat → Option Rat} (h : XQ w g f) (he : Ext w w') : XQ w' g f := by
 obtain ⟨vs, h1, h2, h3⟩ := h
 exact ⟨vs, h1.ext he, h2.ext (kindO staysQ) he, h3⟩
theorem XQ.congr {w : World} {g : Nat} {f h : Nat → Option Rat} (k : XQ w g f) (e : ∀ j, j < 3 → f j = h j) : XQ w g h := by
 obtain ⟨vs, h1, h2, h3⟩ := k
 exact ⟨vs, h1, h2.congr e, h3⟩
theorem XQ.ni {w : World} {g : Nat} {f : Nat → Option Rat} (h : XQ w g f) : NoInts w g := by
 obtain ⟨vs, h1, h2, h3⟩ := h
 exact ⟨_, _, h1, fun v hv => h3 v (by simpa using hv)⟩
theorem XQ.free {w : World} {g : Nat} {f : Nat → Option Rat} (h : XQ w g f) (i : Nat) : w.frozen? ⟨g, i, none⟩ = false := by
 obtain ⟨vs, h1, h2, h3⟩ := h
 exact h1.free i
theorem XQ.cells {w : World} {g : Nat} {f : Nat → Option Rat} (h : XQ w g f) {j : Nat} (hj : j < 3) : ∃ s A l c B m k, w.cell? ⟨g, j * 3, none⟩ = some (.bool s) ∧ w.cell? ⟨g, j * 3 + 1, none⟩ = some (.slice A l c) ∧ w.cell? ⟨g, j * 3 + 2, none⟩ = some (.slice B m k) ∧ ∀ q, f j = some q → QZ w (.agg #[.bool s, .slice A l c, .slice B m k]) q := by
 obtain ⟨vs, h1, h2, h3⟩ := h
 obtain ⟨cs, c1, ⟨s, A, l, c, B, m, k, rfl, hx⟩, h4⟩ := h2.2 j hj
 have e := fun i hi => (h1.cell (j * 3 + i)).trans ((List.getElem?_toArray ..).trans (h4 i hi))
 exact ⟨s, A, l, c, B, m, k, by simpa using e 0 (by omega), by simpa using e 1 (by omega), by simpa using e 2 (by omega), hx⟩
theorem XQ.zero (w : World) : XQ (w.alloc (.cells #[.bool false, .slice none 0 0, .slice none 0 0, .bool false, .slice none 0 0, .slice none 0 0, .bool false, .slice none 0 0, .slice none 0 0] 229)) w.heap.size (fun _ => none) := by
 refine ⟨[.bool false, .slice none 0 0, .slice none 0 0, .bool false, .slice none 0 0, .slice none 0 0, .bool false, .slice none 0 0, .slice none 0 0], Blk.new _ _ _, ?_, fun u hu => ?_⟩
 ·
  refine NumK.new 3 (TriO QZ) _ _ 3 rfl (cs := [.bool false, .slice none 0 0, .slice none 0 0]) rfl ⟨_, _, _, _, _, _, _, rfl, fun q hq => by cases hq⟩ (fun i hi => ?_)
  match i, hi with
  | 0, _ => rfl
  | 1, _ => rfl
  | 2, _ => rfl
  | 3, _ => rfl
  | 4, _ => rfl
  | 5, _ => rfl
  | 6, _ => rfl
  | 7, _ => rfl
  | 8, _ => rfl
  | _ + 9, hi => omega
 ·
  simp at hu
  rcases hu with rfl | rfl | rfl | rfl | rfl | rfl
  all_goals first | exact noInt_bool _ | exact noInt_slice _ _ _
theorem XQ.put {w : World} {g : Nat} {f : Nat → Option Rat} (h : XQ w g f) {j : Nat} (hj : j < 3) {s : Bool} {A B : Option Addr} {l c m k : Nat} {q : Rat} (hx : QZ w (.agg #[.bool s, .slice A l c, .slice B m k]) q) :
  XQ (((w.setCell ⟨g, j * 3, none⟩ (.bool s)).setCell ⟨g, j * 3 + 1, none⟩ (.slice A l c)).setCell ⟨g, j * 3 + 2, none⟩ (.slice B m k)) g (fun i => if i = j then some q else f i) := by
 have hni := h.ni
 obtain ⟨vs, h1, h2, h3⟩ := h
 have hkp : Keeps [g] w (((w.setCell ⟨g, j * 3, none⟩ (.bool s)).setCell ⟨g, j * 3 + 1, none⟩ (.slice A l c)).setCell ⟨g, j * 3 + 2, none⟩ (.slice B m k)) := (((Keeps.refl [g] w).setCell (.inl (by simp)) _).setCell (.inl (by simp)) _).setCell (.inl (by simp)) _
 have hN : ∀ q ∈ [g], NoInts w q := fun q hq => by simp at hq; subst hq; exact hni
 have hb : j * 3 + 3 ≤ vs.length := by rw [h2.1]; omega
 obtain ⟨e1, e2, e3⟩ := set_three vs (j * 3) (.bool s) (.slice A l c) (.slice B m k) hb
 refine ⟨((vs.set (j * 3) (.bool s)).set (j * 3 + 1) (.slice A l c)).set (j * 3 + 2) (.slice B m k), ?_, (h2.keep (kindO staysQ) hkp hN).put hj rfl ⟨_, _, _, _, _, _, _, rfl, fun q' hq => by injection hq with hq; subst hq; exact staysQ _ _ _ _ _ hx hkp hN⟩ e1 e2 e3, fun u hu => ?_⟩
 ·
  have := ((h1.set (j * 3) (.bool s)).set (j * 3 + 1) (.slice A l c)).set (j * 3 + 2) (.slice B m k)
  simpa only [List.setIfInBounds_toArray] using this
 ·
  rcases List.mem_or_eq_of_mem_set hu with hu | rfl
  ·
   rcases List.mem_or_eq_of_mem_set hu with hu | rfl
   ·
    rcases List.mem_or_eq_of_mem_set hu with hu | rfl
    ·
     exact h3 u hu
    ·
     exact noInt_bool _
   ·
    exact noInt_slice _ _ _
  ·
   exact noInt_slice _ _ _
/-- The nine cells, once all three numbers are stored. -/
theorem XQ.nine {w : World} {g : Nat} {f : Nat → Option Rat} {q : Nat → Rat} (h : XQ w g f) (hq : ∀ j, j < 3 → f j = some (q j)) : ∃ s0 A0 l0 c0 B0 m0 k0 s1 A1 l1 c1 B1 m1 k1 s2 A2 l2 c2 B2 m2 k2,
  Blk w g 229 #[.bool s0, .slice A0 l0 c0, .slice B0 m0 k0, .bool s1, .slice A1 l1 c1, .slice B1 m1 k1, .bool s2, .slice A2 l2 c2, .slice B2 m2 k2] ∧
  QZ w (.agg #[.bool s0, .slice A0 l0 c0, .slice B0 m0 k0]) (q 0) ∧ QZ w (.agg #[.bool s1, .slice A1 l1 c1, .slice B1 m1 k1]) (q 1) ∧ QZ w (.agg #[.bool s2, .slice A2 l2 c2, .slice B2 m2 k2]) (q 2) := by
 obtain ⟨vs, h1, h2, h3⟩ := h
 obtain ⟨cs0, c0, ⟨s0, A0, l0, c0', B0, m0, k0, rfl, x0⟩, e0⟩ := h2.2 0 (by omega)
 obtain ⟨cs1, c1, ⟨s1, A1, l1, c1', B1, m1, k1, rfl, x1⟩, e1⟩ := h2.2 1 (by omega)
 obtain ⟨cs2, c2, ⟨s2, A2, l2, c2', B2, m2, k2, rfl, x2⟩, e2⟩ := h2.2 2 (by omega)
 have hl := h2.1
 have e : vs = [.bool s0, .slice A0 l0 c0', .slice B0 m0 k0, .bool s1, .slice A1 l1 c1', .slice B1 m1 k1, .bool s2, .slice A2 l2 c2', .slice B2 m2 k2] := by
  refine List.ext_getElem? fun i => ?_
  match i with
  | 0 => simpa using e0 0 (by omega)
  | 1 => simpa using e0 1 (by omega)
  | 2 => simpa using e0 2 (by omega)
  | 3 => simpa using e1 0 (by omega)
  | 4 => simpa using e1 1 (by omega)
  | 5 => simpa using e1 2 (by omega)
  | 6 => simpa using e2 0 (by omega)
  | 7 => simpa using e2 1 (by omega)
  | 8 => simpa using e2 2 (by omega)
  | i + 9 => rw [List.getElem?_eq_none (by omega), List.getElem?_eq_none (by simp)]
 subst e
 exact ⟨s0, A0, l0, c0', B0, m0, k0, s1, A1, l1, c1', B1, m1, k1, s2, A2, l2, c2', B2, m2, k2, h1, x0 _ (hq 0 (by omega)), x1 _ (hq 1 (by omega)), x2 _ (hq 2 (by omega))⟩
/-- A row of shifts, made by appending. -/
theorem elSh : Elem Try.prog 117 229 9 168 (.agg #[.bool false, .slice none 0 0, .slice none 0 0, .bool false, .slice none 0 0, .slice none 0 0, .bool false, .slice none 0 0, .slice none 0 0]) := Elem.mk' (by kernel_rfl) (by kernel_rfl) rfl (by decide)
def SRow (base : Nat) (w : World) (v : Value) (n : Nat) (f : Nat → Rat) : Prop := (∃ us, w.ownsRow base 229 9 v n us ∧ NumK 3 (Tri QZ) w us (3 * n) f) ∧ RowNI w v
section
variable {base n : Nat} {w w' : World} {v : Value} {f h : Nat → Rat}
theorem SRow.nil (base : Nat) (w : World) (f : Nat → Rat) : SRow base w (.slice none 0 0) 0 f := ⟨⟨[], World.ownsRow_nil _ _ _ _, NumK.nil 3 _ w f⟩, fun g hg => by simp [Value.ownBlock] at hg⟩
theorem SRow.keeps (k : SRow base w v n f) {L : List Nat} (hk : Keeps L w w') (hN : ∀ g ∈ L, NoInts w g) (hn : ∀ g, v.ownBlock = some g → g ∉ L) : SRow base w' v n f := by
 obtain ⟨⟨us, h1, h2⟩, h3⟩ := k
 exact ⟨⟨us, ownsRow_keeps h1 hk hn, h2.keep kindQ hk hN⟩, h3.keeps hk hn⟩
theorem SRow.ext (k : SRow base w v n f) (he : Ext w w') : SRow base w' v n f := k.keeps (.of_ext he []) (fun g hg => by simp at hg) (fun g _ hg => by simp at hg)
theorem SRow.slice (k : SRow base w v n f) : ∃ A c, v = .slice A n c := own_slice k.1.choose_spec.1
theorem SRow.low (k : SRow base w v n f) {g : Nat} (hg : v.ownBlock = some g) : base ≤ g ∧ g < w.heap.size := rowLow k.1.choose_spec.1 hg
theorem SRow.shp {A : Option Addr} {c : Nat} (k : SRow base w (.slice A n c) n f) (hn : 0 < n) : ∃ g, A = some ⟨g, 0, none⟩ ∧ base ≤ g ∧ g < w.heap.size ∧ ShP QZ w g 0 n f := by
 obtain ⟨⟨us, h1, h2⟩, h3⟩ := k
 have hlow := fun g hg => rowLow (g := g) h1 hg
 rcases h1.2 with ⟨hv, h0⟩ | ⟨g, cap, cur, hv, hg, hb⟩
 ·
  omega
 ·
  injection hv with hA hn hc
  subst hA
  exact ⟨g, rfl, hg, (hlow g (by simp [Value.ownBlock])).2, ShP.of_row h1 h2⟩
theorem SRow.after {v' : Value} {us : List Value} {s0 s1 s2 : Bool} {A0 B0 A1 B1 A2 B2 : Option Addr} {l0 c0 m0 k0 l1 c1 m1 k1 l2 c2 m2 k2 : Nat} (ho : w'.ownsRow base 229 9 v' (n + 1) (us ++ [.bool s0, .slice A0 l0 c0, .slice B0 m0 k0, .bool s1, .slice A1 l1 c1, .slice B1 m1 k1, .bool s2, .slice A2 l2 c2, .slice B2 m2 k2])) (hG : w.grownBy w' v.ownBlock) (h3 : RowNI w v) (hni : RowNI w' v')
  (q0 : QZ w (.agg #[.bool s0, .slice A0 l0 c0, .slice B0 m0 k0]) (f (3 * n))) (q1 : QZ w (.agg #[.bool s1, .slice A1 l1 c1, .slice B1 m1 k1]) (f (3 * n + 1))) (q2 : QZ w (.agg #[.bool s2, .slice A2 l2 c2, .slice B2 m2 k2]) (f (3 * n + 2))) (h2 : NumK 3 (Tri QZ) w us (3 * n) f) : SRow base w' v' (n + 1) f := by
 have hN2 := h2.imp (w' := w') (R' := Tri QZ) (fun cs x hx => by
  obtain ⟨s, A, l, c, B, m, k, e, hp⟩ := hx
  exact ⟨s, A, l, c, B, m, k, e, hp.grownNI h3 hG⟩)
 have h4 := ((hN2.snoc rfl (Tri.mk (q0.grownNI h3 hG))).snoc rfl (Tri.mk (q1.grownNI h3 hG))).snoc rfl (Tri.mk (q2.grownNI h3 hG))
 rw [List.append_assoc, List.append_assoc] at h4
 refine ⟨⟨_, ho, ?_⟩, hni⟩
 rw [show 3 * (n + 1) = 3 * n + 1 + 1 + 1 by omega]
 refine h4.congr (fun j hj => ?_)
 by_cases e2 : j = 3 * n + 1 + 1
 ·
  subst e2; rw [if_pos rfl]
 rw [if_neg e2]
 by_cases e1 : j = 3 * n + 1
 ·
  subst e1; rw [if_pos rfl]
 rw [if_neg e1]
 by_cases e0 : j = 3 * n
 ·
  subst e0; rw [if_pos rfl]
 rw [if_neg e0]
end
theorem slope_take {n : Nat} {ms : List Mt} {u : Nat → Rat} {k : Nat} {m : Mt} (h : ms[k]? = some m) (i : Nat) : slope n (ms.take (k + 1)) u i = slope n (ms.take k) u i + ((m.w * cof m i : Int) : Rat) * res n m u := by
 unfold slope
 rw [take_snoc h, sumM_append]
 simp only [sumM]
 grind
/-- The slopes behind k matches and the first i unknowns of the next. -/
def slopeM (n : Nat) (ms : List Mt) (u : Nat → Rat) (k i : Nat) : Nat → Rat := fun j => if j < i then slope n (ms.take (k + 1)) u j else slope n (ms.take k) u j
theorem slopeM_zero (n : Nat) (ms : List Mt) (u : Nat → Rat) (k : Nat) : slopeM n ms u k 0 = slope n (ms.take k) u := by funext j; unfold slopeM; rw [if_neg (by omega)]
theorem slopeM_full {n : Nat} {ms : List Mt} {u : Nat → Rat} {k N : Nat} : ∀ j, j < N → slopeM n ms u k N j = slope n (ms.take (k + 1)) u j := fun j hj => by unfold slopeM; rw [if_pos hj]
theorem slopeM_skip {n : Nat} {ms : List Mt} {u : Nat → Rat} {k i : Nat} {m : Mt} (h : ms[k]? = some m) (hc : cof m i = 0) : slopeM n ms u k (i + 1) = slopeM n ms u k i := by
 funext j
 unfold slopeM
 by_cases e : j = i
 ·
  subst e
  rw [if_pos (by omega), if_neg (by omega), slope_take h, hc, Int.mul_zero]
  grind
 ·
  by_cases hj : j < i
  ·
   rw [if_pos (by omega), if_pos hj]
  ·
   rw [if_neg (by omega), if_neg hj]
theorem slopeM_add {n : Nat} {ms : List Mt} {u : Nat → Rat} {k i : Nat} {m : Mt} (h : ms[k]? = some m) : slopeM n ms u k (i + 1) = fun j => if j = i then slopeM n ms u k i i + ((cof m i : Int) : Rat) * (((m.w : Int) : Rat) * res n m u) else slopeM n ms u k i j := by
 funext j
 unfold slopeM
 by_cases e : j = i
 ·
  subst e
  rw [if_pos (by omega), if_pos rfl, if_neg (by omega), slope_take h, Rat.intCast_mul]
  grind
 ·
  rw [if_neg e]
  by_cases hj : j < i
  ·
   rw [if_pos (by omega), if_pos hj]
  ·
   rw [if_neg (by omega), if_neg hj]
theorem slope_none (n : Nat) (ms : List Mt) (u : Nat → Rat) : slope n (ms.take 0) u = fun _ => 0 := by funext j; rfl
theorem slope_fitL {S : Int} {ms : List Mt} (hm : ∀ m ∈ ms, VM S m) (_hl : ms.length ≤ 64) {n : Nat} (hn : n ≤ 24) {u : Nat → Rat} (ht : Tame n u) (k i : Nat) : FitQ (slope n (ms.take k) u i) 57 := by
 obtain ⟨P, h1, h2, h3⟩ := ht
 have := (tame_slope (S := S) (ms := ms.take k) (fun m hm' => hm m (List.mem_of_mem_take hm')) (by rw [List.length_take]; omega) hn h1 h2 h3 i).fit h1 h2
 exact this
/-- What the map of dropped indexes holds. -/
def gl (l : List Int) : List (Int × Value) := l.map fun d => (d, Value.bool true)
theorem own_apart {w : World} {b1 b2 s1 s2 n1 n2 g : Nat} {t1 t2 : TypeId} {v1 v2 : Value} {l1 l2 : List Value} (h1 : w.ownsRow b1 t1 s1 v1 n1 l1) (h2 : w.ownsRow b2 t2 s2 v2 n2 l2) (hne : t1 ≠ t2) (e1 : v1.ownBlock = some g) : v2.ownBlock ≠ some g := fun e2 => by
 rcases h2.2 with ⟨rfl, _⟩ | ⟨g', cap, cur, rfl, _, hb, _⟩
 ·
  simp [Value.ownBlock] at e2
 ·
  simp [Value.ownBlock] at e2
  subst e2
  exact NoRow.of_own h1 e1 hne _ _ hb
theorem own_blockS {w : World} {base : Nat} {e : TypeId} {size n c : Nat} {A : Option Addr} {vs : List Value} (h : w.ownsRow base e size (.slice A n c) n vs) (_hn : 0 < n) : ∃ g, A = some ⟨g, 0, none⟩ ∧ base ≤ g ∧ g < w.heap.size := by
 rcases h.2 with ⟨hv, h0⟩ | ⟨g, cap, cur, hv, hb, hg, _⟩
 ·
  omega
 ·
  injection hv with hA
  exact ⟨g, hA, hb, (Array.getElem?_eq_some_iff.1 hg).1⟩
theorem Keeps.cell {L : List Nat} {w W : World} {q : Addr} {v : Value} (hk : Keeps L w W) (h : w.cell? q = some v) (hn : q.block ∉ L) : W.cell? q = some v := by
 rw [← h]
 exact World.cell?_of_block (w := w) (hk.block _ (World.block_lt_of_cell? w _ h) hn)
/-- The residual of match i. -/
def resA (N : Nat) (ms : List Mt) (u : Nat → Rat) (i : Nat) : Rat := match ms[i]? with
 | some m => res N m u
 | none => 0
theorem resA_at {N : Nat} {ms : List Mt} {u : Nat → Rat} {i : Nat} {m : Mt} (h : ms[i]? = some m) : resA N ms u i = res N m u := by unfold resA; rw [h]
theorem fit_slope {S L : Nat} {u : Nat → Rat} (hf : FitU S u L) (hS8 : S ≤ 8) {ms : List Mt} (hm : ∀ m ∈ ms, VM S m) {k : Nat} (_hk : k ≤ ms.length) (i : Nat) : FitR (slope (3 * S) (ms.take k) u i) (4 + k * (24 * (L + 5) + 9)) := by
 induction k with
 | zero =>
  have h := fitR_small (n := 0) (by omega) (by omega)
  rw [show slope (3 * S) (ms.take 0) u i = ((0 : Int) : Rat) by rw [List.take_zero]; rfl]
  exact h.mono (by omega)
 | succ k ih =>
  have hx : ms[k]? = some ms[k] := List.getElem?_eq_getElem (by omega)
  have hv := hm _ (List.getElem_mem (l := ms) (n := k) (by omega))
  have hb := cof_bound hv i
  have h1 := hv.w1
  have h2 := hv.w2
  have hp := prod_bound (A := 1000) (B := 100) (by omega) h2 hb.1 hb.2
  rw [slope_take hx]
  exact (fitS_add (ih (by omega)) (fitS_mul (fitR_small (n := ms[k].w * cof ms[k] i) (by omega) (by omega)) (fit_res' hv hf hS8))).mono (by have e : (k + 1) * (24 * (L + 5) + 9) = k * (24 * (L + 5) + 9) + (24 * (L + 5) + 9) := Nat.succ_mul _ _; omega)
set_option maxRecDepth 100000 in
set_option maxHeartbeats 4000000 in
theorem slr_r5 (base gp gt ot ct S gm om n c kk lk co L : Nat) (Ao : Option Addr) (ma mb mx my mz md mw : Int) (un f : Nat → Rat) (w : World) (hown : QRow base w (.slice Ao lk co) lk f) (b0 : w.cell? ⟨gp, 0, none⟩ = some (.int .i64 (S : Int))) (b1 : w.cell? ⟨gp, 1, none⟩ = some (.slice (some ⟨gm, om, none⟩) n c)) (v0 : w.cell? ⟨gm, om + kk * 7, none⟩ = some (.int .i64 (ma))) (v1 : w.cell? ⟨gm, om + kk * 7 + 1, none⟩ = some (.int .i64 (mb))) (v2 : w.cell? ⟨gm, om + kk * 7 + 2, none⟩ = some (.int .i64 (mx))) (v3 : w.cell? ⟨gm, om + kk * 7 + 3, none⟩ = some (.int .i64 (my))) (v4 : w.cell? ⟨gm, om + kk * 7 + 4, none⟩ = some (.int .i64 (mz))) (v5 : w.cell? ⟨gm, om + kk * 7 + 5, none⟩ = some (.int .i64 (md))) (v6 : w.cell? ⟨gm, om + kk * 7 + 6, none⟩ = some (.int .i64 (mw))) (hp1 : gp ∉ (Value.slice Ao lk co).ownBlock.toList) (hm1 : gm ∉ (Value.slice Ao lk co).ownBlock.toList) (hgl : gt ∉ (Value.slice Ao lk co).ownBlock.toList) (hNL : ∀ g ∈ (Value.slice Ao lk co).ownBlock.toList, NoInts w g) (_hkn : kk < n) (_hlk : lk ≤ 64) (_hbase : base ≤ w.heap.size) (hS8 : S ≤ 8) (hS : ShP QZ w gt ot S un) (hf : FitU S un L) (hL : L ≤ 1000) (hm : VM S ⟨ma, mb, mx, my, mz, md, mw⟩) (hgt : gt < w.heap.size) (a : Act) (Q : Exit → Act → World → Prop) (hsize : 30 ≤ a.tmps.size)
  (s1 : a.tmps[1]? = some (.slice (some ⟨gt, ot, none⟩) S ct))
  (s2 : a.tmps[2]? = some (.pointer (some ⟨gp, 0, none⟩)))
  (s5 : a.tmps[5]? = some (.slice Ao lk co))
  (s6 : a.tmps[6]? = some (.int .i64 (kk : Int)))
  (hend : ∀ (xv0 xv1 xv2 xv3 xv4 xv5 xv6 xv7 xv8 xv9 xv10 : Value) (W : World), (xv0 = .slice Ao lk co) → (xv1 = .agg #[.int .i64 (S : Int), .slice (some ⟨gm, om, none⟩) n c]) → (xv2 = .slice (some ⟨gt, ot, none⟩) S ct) → (xv3 = .pointer (some ⟨gp, 1, none⟩)) → (xv4 = .slice (some ⟨gm, om, none⟩) n c) → (xv5 = .int .i64 (kk : Int)) → (xv6 = .pointer (some ⟨gm, om + kk * 7, none⟩)) → (xv7 = .agg #[.int .i64 (ma), .int .i64 (mb), .int .i64 (mx), .int .i64 (my), .int .i64 (mz), .int .i64 (md), .int .i64 (mw)]) → ((QRow base W (xv10) (lk + 1) (fun i => if i = lk then res (3 * S) ⟨ma, mb, mx, my, mz, md, mw⟩ un else f i) ∧ ((xv10).ownBlock = (Value.slice Ao lk co).ownBlock ∨ ∃ g, (xv10).ownBlock = some g ∧ w.heap.size ≤ g))) → Keeps ((Value.slice Ao lk co).ownBlock.toList) w W → wpList Try.prog (rops Try.f61 5).toArray Q ((rops Try.f61 5).drop 11) (((((((((((a.put (some 19) xv0).put (some 20) xv1).put (some 21) xv2).put (some 22) xv3).put (some 23) xv4).put (some 24) xv5).put (some 25) xv6).put (some 26) xv7).put (some 27) xv8).put (some 28) xv9).put (some 29) xv10) W) :
  (Code.region 5 (rops Try.f61 5).toArray true).wp Try.prog Q a w := by
 have hsz : ∀ d, some d ∈ ([some 19, some 20, some 21, some 22, some 23, some 24, some 25, some 26, some 27, some 28, some 29] : List (Option Tmp)) → d < a.tmps.size := slots_lt (by decide) hsize
 refine wp_region_g 11 [some 19, some 20, some 21, some 22, some 23, some 24, some 25, some 26, some 27, some 28, some 29] [[], [], [], [], [3], [], [4, 5], [6], [1, 2, 7], [8], [0, 9]] [[], [], [], [], [], [], [], [], [], [], []] (fun (done : Nat → Prop) (us : Nat → Value) (W : World) => Keeps ((Value.slice Ao lk co).ownBlock.toList) w W ∧ (¬ done 10 → Ext w W) ∧ (done 0 → us 0 = .slice Ao lk co) ∧ (done 1 → us 1 = .agg #[.int .i64 (S : Int), .slice (some ⟨gm, om, none⟩) n c]) ∧ (done 2 → us 2 = .slice (some ⟨gt, ot, none⟩) S ct) ∧ (done 3 → us 3 = .pointer (some ⟨gp, 1, none⟩)) ∧ (done 4 → us 4 = .slice (some ⟨gm, om, none⟩) n c) ∧ (done 5 → us 5 = .int .i64 (kk : Int)) ∧ (done 6 → us 6 = .pointer (some ⟨gm, om + kk * 7, none⟩)) ∧ (done 7 → us 7 = .agg #[.int .i64 (ma), .int .i64 (mb), .int .i64 (mx), .int .i64 (my), .int .i64 (mz), .int .i64 (md), .int .i64 (mw)]) ∧ (done 8 → ¬ done 9 → QZ W (us 8) (res (3 * S) ⟨ma, mb, mx, my, mz, md, mw⟩ un)) ∧ (done 9 → ¬ done 10 → (∃ g, us 9 = .slice (some ⟨g, 0, none⟩) 1 1 ∧ QB W g (res (3 * S) ⟨ma, mb, mx, my, mz, md, mw⟩ un))) ∧ (done 10 → (QRow base W (us 10) (lk + 1) (fun i => if i = lk then res (3 * S) ⟨ma, mb, mx, my, mz, md, mw⟩ un else f i) ∧ ((us 10).ownBlock = (Value.slice Ao lk co).ownBlock ∨ ∃ g, (us 10).ownBlock = some g ∧ w.heap.size ≤ g)))) (by kernel_rfl) (by kernel_rfl) hsz (fun p q us W h => by have e : p = q := funext fun k => propext (h k); rw [e]; exact id) (fun us => ⟨(Keeps.refl _ w).drew, fun _ => (Ext.refl w).drew, fun h => h.elim, fun h => h.elim, fun h => h.elim, fun h => h.elim, fun h => h.elim, fun h => h.elim, fun h => h.elim, fun h => h.elim, fun h => h.elim, fun h => h.elim, fun h => h.elim⟩) ?_ ?_
 ·
  clear hend
  simp only [rops, Try.f61, regOf, Option.bind_some, Nat.reduceBEq, if_true, if_false, Bool.false_eq_true, Option.getD_some]
  simp only [List.take_succ_cons, List.take_zero]
  refine ⟨?_, ?_, ?_, ?_, ?_, ?_, ?_, ?_, ?_, ?_, ?_, trivial⟩
  ·
   intro done us W hJ hdep haft hnot b hb hb' K hK Q'
   obtain ⟨hX0, hE0, cc0, cc1, cc2, cc3, cc4, cc5, cc6, cc7, cc8, cc9, cc10⟩ := hJ
   have e5 := (hb' 5 (by simp)).trans s5
   clear hb hb'
   have hfin := hK (.slice Ao lk co) _ ⟨hX0, fun h => hE0 (fun d => h (.inl d)), fun _ => rfl, fun h => cc1 (h.resolve_right (by decide)), fun h => cc2 (h.resolve_right (by decide)), fun h => cc3 (h.resolve_right (by decide)), fun h => cc4 (h.resolve_right (by decide)), fun h => cc5 (h.resolve_right (by decide)), fun h => cc6 (h.resolve_right (by decide)), fun h => cc7 (h.resolve_right (by decide)), fun h h9 => (cc8 (h.resolve_right (by decide)) (fun d => h9 (.inl d))), fun h h10 => (cc9 (h.resolve_right (by decide)) (fun d => h10 (.inl d))), fun h => (cc10 (h.resolve_right (by decide)))⟩
   clear hK hE0 cc0 cc1 cc2 cc3 cc4 cc5 cc6 cc7 cc8 cc9 cc10
   go_simp
   exact hfin
  ·
   intro done us W hJ hdep haft hnot b hb hb' K hK Q'
   obtain ⟨hX0, hE0, cc0, cc1, cc2, cc3, cc4, cc5, cc6, cc7, cc8, cc9, cc10⟩ := hJ
   have e2 := (hb' 2 (by simp)).trans s2
   clear hb hb'
   have z0 := hX0.cell b0 hp1
   have z1 := hX0.cell b1 hp1
   have hfin := hK (.agg #[.int .i64 (S : Int), .slice (some ⟨gm, om, none⟩) n c]) _ ⟨hX0, fun h => hE0 (fun d => h (.inl d)), fun h => cc0 (h.resolve_right (by decide)), fun _ => rfl, fun h => cc2 (h.resolve_right (by decide)), fun h => cc3 (h.resolve_right (by decide)), fun h => cc4 (h.resolve_right (by decide)), fun h => cc5 (h.resolve_right (by decide)), fun h => cc6 (h.resolve_right (by decide)), fun h => cc7 (h.resolve_right (by decide)), fun h h9 => (cc8 (h.resolve_right (by decide)) (fun d => h9 (.inl d))), fun h h10 => (cc9 (h.resolve_right (by decide)) (fun d => h10 (.inl d))), fun h => (cc10 (h.resolve_right (by decide)))⟩
   clear hK hE0 cc0 cc1 cc2 cc3 cc4 cc5 cc6 cc7 cc8 cc9 cc10
   go_simp
   exact hfin
  ·
   intro done us W hJ hdep haft hnot b hb hb' K hK Q'
   obtain ⟨hX0, hE0, cc0, cc1, cc2, cc3, cc4, cc5, cc6, cc7, cc8, cc9, cc10⟩ := hJ
   have e1 := (hb' 1 (by simp)).trans s1
   clear hb hb'
   have hfin := hK (.slice (some ⟨gt, ot, none⟩) S ct) _ ⟨hX0, fun h => hE0 (fun d => h (.inl d)), fun h => cc0 (h.resolve_right (by decide)), fun h => cc1 (h.resolve_right (by decide)), fun _ => rfl, fun h => cc3 (h.resolve_right (by decide)), fun h => cc4 (h.resolve_right (by decide)), fun h => cc5 (h.resolve_right (by decide)), fun h => cc6 (h.resolve_right (by decide)), fun h => cc7 (h.resolve_right (by decide)), fun h h9 => (cc8 (h.resolve_right (by decide)) (fun d => h9 (.inl d))), fun h h10 => (cc9 (h.resolve_right (by decide)) (fun d => h10 (.inl d))), fun h => (cc10 (h.resolve_right (by decide)))⟩
   clear hK hE0 cc0 cc1 cc2 cc3 cc4 cc5 cc6 cc7 cc8 cc9 cc10
   go_simp
   exact hfin
  ·
   intro done us W hJ hdep haft hnot b hb hb' K hK Q'
   obtain ⟨hX0, hE0, cc0, cc1, cc2, cc3, cc4, cc5, cc6, cc7, cc8, cc9, cc10⟩ := hJ
   have e2 := (hb' 2 (by simp)).trans s2
   clear hb hb'
   have hfin := hK (.pointer (some ⟨gp, 1, none⟩)) _ ⟨hX0, fun h => hE0 (fun d => h (.inl d)), fun h => cc0 (h.resolve_right (by decide)), fun h => cc1 (h.resolve_right (by decide)), fun h => cc2 (h.resolve_right (by decide)), fun _ => rfl, fun h => cc4 (h.resolve_right (by decide)), fun h => cc5 (h.resolve_right (by decide)), fun h => cc6 (h.resolve_right (by decide)), fun h => cc7 (h.resolve_right (by decide)), fun h h9 => (cc8 (h.resolve_right (by decide)) (fun d => h9 (.inl d))), fun h h10 => (cc9 (h.resolve_right (by decide)) (fun d => h10 (.inl d))), fun h => (cc10 (h.resolve_right (by decide)))⟩
   clear hK hE0 cc0 cc1 cc2 cc3 cc4 cc5 cc6 cc7 cc8 cc9 cc10
   go_simp
   exact hfin
  ·
   intro done us W hJ hdep haft hnot b hb hb' K hK Q'
   obtain ⟨hX0, hE0, cc0, cc1, cc2, cc3, cc4, cc5, cc6, cc7, cc8, cc9, cc10⟩ := hJ
   simp only [List.getD_cons_succ, List.getD_cons_zero, List.mem_cons, List.not_mem_nil, or_false, forall_eq] at hdep
   have e22 := hb 3 22 rfl
   rw [cc3 hdep] at e22
   clear hb hb'
   have z1 := hX0.cell b1 hp1
   have hfin := hK (.slice (some ⟨gm, om, none⟩) n c) _ ⟨hX0, fun h => hE0 (fun d => h (.inl d)), fun h => cc0 (h.resolve_right (by decide)), fun h => cc1 (h.resolve_right (by decide)), fun h => cc2 (h.resolve_right (by decide)), fun h => cc3 (h.resolve_right (by decide)), fun _ => rfl, fun h => cc5 (h.resolve_right (by decide)), fun h => cc6 (h.resolve_right (by decide)), fun h => cc7 (h.resolve_right (by decide)), fun h h9 => (cc8 (h.resolve_right (by decide)) (fun d => h9 (.inl d))), fun h h10 => (cc9 (h.resolve_right (by decide)) (fun d => h10 (.inl d))), fun h => (cc10 (h.resolve_right (by decide)))⟩
   clear hK hE0 cc0 cc1 cc2 cc3 cc4 cc5 cc6 cc7 cc8 cc9 cc10
   go_simp
   exact hfin
  ·
   intro done us W hJ hdep haft hnot b hb hb' K hK Q'
   obtain ⟨hX0, hE0, cc0, cc1, cc2, cc3, cc4, cc5, cc6, cc7, cc8, cc9, cc10⟩ := hJ
   have e6 := (hb' 6 (by simp)).trans s6
   clear hb hb'
   have hfin := hK (.int .i64 (kk : Int)) _ ⟨hX0, fun h => hE0 (fun d => h (.inl d)), fun h => cc0 (h.resolve_right (by decide)), fun h => cc1 (h.resolve_right (by decide)), fun h => cc2 (h.resolve_right (by decide)), fun h => cc3 (h.resolve_right (by decide)), fun h => cc4 (h.resolve_right (by decide)), fun _ => rfl, fun h => cc6 (h.resolve_right (by decide)), fun h => cc7 (h.resolve_right (by decide)), fun h h9 => (cc8 (h.resolve_right (by decide)) (fun d => h9 (.inl d))), fun h h10 => (cc9 (h.resolve_right (by decide)) (fun d => h10 (.inl d))), fun h => (cc10 (h.resolve_right (by decide)))⟩
   clear hK hE0 cc0 cc1 cc2 cc3 cc4 cc5 cc6 cc7 cc8 cc9 cc10
   go_simp
   exact hfin
  ·
   intro done us W hJ hdep haft hnot b hb hb' K hK Q'
   obtain ⟨hX0, hE0, cc0, cc1, cc2, cc3, cc4, cc5, cc6, cc7, cc8, cc9, cc10⟩ := hJ
   simp only [List.getD_cons_succ, List.getD_cons_zero, List.mem_cons, List.not_mem_nil, or_false, forall_eq_or_imp, forall_eq] at hdep
   have e23 := hb 4 23 rfl
   rw [cc4 hdep.1] at e23
   have e24 := hb 5 24 rfl
   rw [cc5 hdep.2] at e24
   clear hb hb'
   have hfin := hK (.pointer (some ⟨gm, om + kk * 7, none⟩)) _ ⟨hX0, fun h => hE0 (fun d => h (.inl d)), fun h => cc0 (h.resolve_right (by decide)), fun h => cc1 (h.resolve_right (by decide)), fun h => cc2 (h.resolve_right (by decide)), fun h => cc3 (h.resolve_right (by decide)), fun h => cc4 (h.resolve_right (by decide)), fun h => cc5 (h.resolve_right (by decide)), fun _ => rfl, fun h => cc7 (h.resolve_right (by decide)), fun h h9 => (cc8 (h.resolve_right (by decide)) (fun d => h9 (.inl d))), fun h h10 => (cc9 (h.resolve_right (by decide)) (fun d => h10 (.inl d))), fun h => (cc10 (h.resolve_right (by decide)))⟩
   clear hK hE0 cc0 cc1 cc2 cc3 cc4 cc5 cc6 cc7 cc8 cc9 cc10
   go_simp
   exact hfin
  ·
   intro done us W hJ hdep haft hnot b hb hb' K hK Q'
   obtain ⟨hX0, hE0, cc0, cc1, cc2, cc3, cc4, cc5, cc6, cc7, cc8, cc9, cc10⟩ := hJ
   simp only [List.getD_cons_succ, List.getD_cons_zero, List.mem_cons, List.not_mem_nil, or_false, forall_eq] at hdep
   have e25 := hb 6 25 rfl
   rw [cc6 hdep] at e25
   clear hb hb'
   have z0 := hX0.cell v0 hm1
   have z1 := hX0.cell v1 hm1
   have z2 := hX0.cell v2 hm1
   have z3 := hX0.cell v3 hm1
   have z4 := hX0.cell v4 hm1
   have z5 := hX0.cell v5 hm1
   have z6 := hX0.cell v6 hm1
   have hfin := hK (.agg #[.int .i64 (ma), .int .i64 (mb), .int .i64 (mx), .int .i64 (my), .int .i64 (mz), .int .i64 (md), .int .i64 (mw)]) _ ⟨hX0, fun h => hE0 (fun d => h (.inl d)), fun h => cc0 (h.resolve_right (by decide)), fun h => cc1 (h.resolve_right (by decide)), fun h => cc2 (h.resolve_right (by decide)), fun h => cc3 (h.resolve_right (by decide)), fun h => cc4 (h.resolve_right (by decide)), fun h => cc5 (h.resolve_right (by decide)), fun h => cc6 (h.resolve_right (by decide)), fun _ => rfl, fun h h9 => (cc8 (h.resolve_right (by decide)) (fun d => h9 (.inl d))), fun h h10 => (cc9 (h.resolve_right (by decide)) (fun d => h10 (.inl d))), fun h => (cc10 (h.resolve_right (by decide)))⟩
   clear hK hE0 cc0 cc1 cc2 cc3 cc4 cc5 cc6 cc7 cc8 cc9 cc10
   go_simp
   exact hfin
  ·
   intro done us W hJ hdep haft hnot b hb hb' K hK Q'
   obtain ⟨hX0, hE0, cc0, cc1, cc2, cc3, cc4, cc5, cc6, cc7, cc8, cc9, cc10⟩ := hJ
   simp only [List.getD_cons_succ, List.getD_cons_zero, List.mem_cons, List.not_mem_nil, or_false, forall_eq_or_imp, forall_eq] at hdep
   have e20 := hb 1 20 rfl
   rw [cc1 hdep.1] at e20
   have e21 := hb 2 21 rfl
   rw [cc2 hdep.2.1] at e21
   have e26 := hb 7 26 rfl
   rw [cc7 hdep.2.2] at e26
   clear hb hb'
   have hS2 := hS.keeps staysQ hX0 hNL hgl
   have hgt2 := Nat.lt_of_lt_of_le hgt hX0.size
   go_simp
   refine (resR_any (m := ⟨ma, mb, mx, my, mz, md, mw⟩) (S := S) (n := n) (c := c) (A := some ⟨gm, om, none⟩) (ct := ct) hS8 hS2 hf hL hm hgt2).mono ?_
   rintro e w' ⟨v, rfl, hv, hX⟩
   exact hK _ _ ⟨hX0.trans (.of_ext hX _), fun h => (hE0 (fun d => h (.inl d))).trans hX, fun h => cc0 (h.resolve_right (by decide)), fun h => cc1 (h.resolve_right (by decide)), fun h => cc2 (h.resolve_right (by decide)), fun h => cc3 (h.resolve_right (by decide)), fun h => cc4 (h.resolve_right (by decide)), fun h => cc5 (h.resolve_right (by decide)), fun h => cc6 (h.resolve_right (by decide)), fun h => cc7 (h.resolve_right (by decide)), fun _ _ => hv, fun h h10 => ((cc9 (h.resolve_right (by decide)) (fun d => h10 (.inl d))).elim fun g h => ⟨g, h.1, h.2.ext hX⟩), fun h => ⟨QRow.ext (cc10 (h.resolve_right (by decide))).1 hX, (cc10 (h.resolve_right (by decide))).2⟩⟩
  ·
   intro done us W hJ hdep haft hnot b hb hb' K hK Q'
   obtain ⟨hX0, hE0, cc0, cc1, cc2, cc3, cc4, cc5, cc6, cc7, cc8, cc9, cc10⟩ := hJ
   simp only [List.getD_cons_succ, List.getD_cons_zero, List.mem_cons, List.not_mem_nil, or_false, forall_eq] at hdep
   have e27 := hb 8 27 rfl
   clear hb hb'
   have h8 := cc8 hdep hnot
   obtain ⟨s1, A1, l1, c1, B1, m1, k1, u1⟩ := QZ.open h8
   rw [u1] at h8 e27
   have hX := (Ext.refl W).alloc (.cells #[.bool s1, .slice A1 l1 c1, .slice B1 m1 k1] 65)
   have hn := QB.new h8
   clear h8 u1
   go_simp
   exact hK _ _ ⟨hX0.trans (.of_ext hX _), fun h => (hE0 (fun d => h (.inl d))).trans hX, fun h => cc0 (h.resolve_right (by decide)), fun h => cc1 (h.resolve_right (by decide)), fun h => cc2 (h.resolve_right (by decide)), fun h => cc3 (h.resolve_right (by decide)), fun h => cc4 (h.resolve_right (by decide)), fun h => cc5 (h.resolve_right (by decide)), fun h => cc6 (h.resolve_right (by decide)), fun h => cc7 (h.resolve_right (by decide)), fun _ h => absurd (.inr rfl) h, fun _ _ => ⟨_, rfl, hn⟩, fun h => ⟨QRow.ext (cc10 (h.resolve_right (by decide))).1 hX, (cc10 (h.resolve_right (by decide))).2⟩⟩
  ·
   intro done us W hJ hdep haft hnot b hb hb' K hK Q'
   obtain ⟨hX0, hE0, cc0, cc1, cc2, cc3, cc4, cc5, cc6, cc7, cc8, cc9, cc10⟩ := hJ
   simp only [List.getD_cons_succ, List.getD_cons_zero, List.mem_cons, List.not_mem_nil, or_false, forall_eq_or_imp, forall_eq] at hdep
   have e19 := hb 0 19 rfl
   rw [cc0 hdep.1] at e19
   have e28 := hb 9 28 rfl
   clear hb hb'
   obtain ⟨g', e', hg'⟩ := cc9 hdep.2 hnot
   rw [e'] at e28
   have hlow := hX0.size
   obtain ⟨v', W', q, ho, hG, hv⟩ := QRow.app (hown.ext (hE0 hnot)) hg' (by omega) (by omega)
   have hk := keeps_own hG
   have hv2 : v'.ownBlock = (Value.slice Ao lk co).ownBlock ∨ ∃ g, v'.ownBlock = some g ∧ w.heap.size ≤ g := hv.imp_right fun e => ⟨_, e, hlow⟩
   exact jop_app rfl rfl e19 e28 q (hK _ _ ⟨hX0.trans hk, fun h => absurd (.inr rfl) h, fun h => cc0 (h.resolve_right (by decide)), fun h => cc1 (h.resolve_right (by decide)), fun h => cc2 (h.resolve_right (by decide)), fun h => cc3 (h.resolve_right (by decide)), fun h => cc4 (h.resolve_right (by decide)), fun h => cc5 (h.resolve_right (by decide)), fun h => cc6 (h.resolve_right (by decide)), fun h => cc7 (h.resolve_right (by decide)), fun _ h => absurd (.inl hdep.2) h, fun _ h => absurd (.inr rfl) h, fun _ => ⟨ho, hv2⟩⟩)
 ·
  intro us W hJ
  obtain ⟨hX0, hE0, cc0, cc1, cc2, cc3, cc4, cc5, cc6, cc7, cc8, cc9, cc10⟩ := hJ
  exact hend (us 0) (us 1) (us 2) (us 3) (us 4) (us 5) (us 6) (us 7) (us 8) (us 9) (us 10) W (cc0 (show 0 < 11 by decide)) (cc1 (show 1 < 11 by decide)) (cc2 (show 2 < 11 by decide)) (cc3 (show 3 < 11 by decide)) (cc4 (show 4 < 11 by decide)) (cc5 (show 5 < 11 by decide)) (cc6 (show 6 < 11 by decide)) (cc7 (show 7 < 11 by decide)) (cc10 (show 10 < 11 by decide)) hX0
set_option maxRecDepth 100000 in
set_option maxHeartbeats 2000000 in
theorem slr_r16 (gx gp gm om n c gr cr kk M KF : Nat) (mw cc : Int) (sp : Bool) (Ap Bp : Option Addr) (lp cp mp kp : Nat) (sq : Bool) (Aq Bq : Option Addr) (lq cq mq kq : Nat) (q r : Rat) (w : World) (x0 : w.cell? ⟨gx, 0, none⟩ = some (.bool sp)) (x1 : w.cell? ⟨gx, 1, none⟩ = some (.slice Ap lp cp)) (x2 : w.cell? ⟨gx, 2, none⟩ = some (.slice Bp mp kp)) (y0 : w.cell? ⟨gr, kk * 3, none⟩ = some (.bool sq)) (y1 : w.cell? ⟨gr, kk * 3 + 1, none⟩ = some (.slice Aq lq cq)) (y2 : w.cell? ⟨gr, kk * 3 + 2, none⟩ = some (.slice Bq mq kq)) (b1 : w.cell? ⟨gp, 1, none⟩ = some (.slice (some ⟨gm, om, none⟩) n c)) (v6 : w.cell? ⟨gm, om + kk * 7 + 6, none⟩ = some (.int .i64 mw)) (_hkn : kk < n) (_hkn2 : (kk : Int) < (n : Int)) (_hwc : -100000 ≤ mw * cc ∧ mw * cc ≤ 100000) (_qw : IntKind.i64.wrap (mw * cc) = mw * cc) (hx : QZ w (.agg #[.bool sp, .slice Ap lp cp, .slice Bp mp kp]) q) (hy : QZ w (.agg #[.bool sq, .slice Aq lq cq, .slice Bq mq kq]) r) (fq : FitR q KF) (fr : FitR r M) (_hM : M ≤ 100000) (_hKF : KF ≤ 200000) (a : Act) (Q : Exit → Act → World → Prop) (hsize : 70 ≤ a.tmps.size)
  (s2 : a.tmps[2]? = some (.pointer (some ⟨gp, 0, none⟩)))
  (s5 : a.tmps[5]? = some (.slice (some ⟨gr, 0, none⟩) n cr))
  (s9 : a.tmps[9]? = some (.pointer (some ⟨gx, 0, none⟩)))
  (s10 : a.tmps[10]? = some (.int .i64 (kk : Int)))
  (s11 : a.tmps[11]? = some (.int .i64 (cc)))
  (hend : ∀ (xv0 xv1 xv2 xv3 xv4 xv5 xv6 xv7 xv8 xv9 xv10 xv11 xv12 xv13 xv14 xv15 : Value) (W : World), (xv0 = .agg #[.bool sp, .slice Ap lp cp, .slice Bp mp kp]) → (xv1 = .pointer (some ⟨gp, 1, none⟩)) → (xv2 = .slice (some ⟨gm, om, none⟩) n c) → (xv3 = .int .i64 (kk : Int)) → (xv4 = .pointer (some ⟨gm, om + kk * 7, none⟩)) → (xv5 = .pointer (some ⟨gm, om + kk * 7 + 6, none⟩)) → (xv6 = .int .i64 (mw)) → (xv7 = .int .i64 (cc)) → (xv8 = .int .i64 (mw * cc)) → (QZ W xv9 ((mw * cc : Int) : Rat)) → (xv10 = .slice (some ⟨gr, 0, none⟩) n cr) → (xv11 = .int .i64 (kk : Int)) → (xv12 = .pointer (some ⟨gr, kk * 3, none⟩)) → (xv13 = .agg #[.bool sq, .slice Aq lq cq, .slice Bq mq kq]) → (QZ W xv14 (((mw * cc : Int) : Rat) * r)) → (QZ W xv15 (q + ((mw * cc : Int) : Rat) * r)) → Ext w W → wpList Try.prog (rops Try.f61 16).toArray Q ((rops Try.f61 16).drop 16) ((((((((((((((((a.put (some 54) xv0).put (some 55) xv1).put (some 56) xv2).put (some 57) xv3).put (some 58) xv4).put (some 59) xv5).put (some 60) xv6).put (some 61) xv7).put (some 62) xv8).put (some 63) xv9).put (some 64) xv10).put (some 65) xv11).put (some 66) xv12).put (some 67) xv13).put (some 68) xv14).put (some 69) xv15) W) :
  (Code.region 16 (rops Try.f61 16).toArray true).wp Try.prog Q a w := by
 refine wp_region_k 16 [some 54, some 55, some 56, some 57, some 58, some 59, some 60, some 61, some 62, some 63, some 64, some 65, some 66, some 67, some 68, some 69] [[], [], [1], [], [2, 3], [4], [5], [], [6, 7], [8], [], [], [10, 11], [12], [9, 13], [0, 14]] [eqv (.agg #[.bool sp, .slice Ap lp cp, .slice Bp mp kp]), eqv (.pointer (some ⟨gp, 1, none⟩)), eqv (.slice (some ⟨gm, om, none⟩) n c), eqv (.int .i64 (kk : Int)), eqv (.pointer (some ⟨gm, om + kk * 7, none⟩)), eqv (.pointer (some ⟨gm, om + kk * 7 + 6, none⟩)), eqv (.int .i64 (mw)), eqv (.int .i64 (cc)), eqv (.int .i64 (mw * cc)), fun v W => QZ W v ((mw * cc : Int) : Rat), eqv (.slice (some ⟨gr, 0, none⟩) n cr), eqv (.int .i64 (kk : Int)), eqv (.pointer (some ⟨gr, kk * 3, none⟩)), eqv (.agg #[.bool sq, .slice Aq lq cq, .slice Bq mq kq]), fun v W => QZ W v (((mw * cc : Int) : Rat) * r), fun v W => QZ W v (q + ((mw * cc : Int) : Rat) * r)] (by kernel_rfl) (by kernel_rfl) rfl (by decide) hsize ⟨monC, monC, monC, monC, monC, monC, monC, monC, monC, by intro v W W' h hX; exact QZ.ext h hX, monC, monC, monC, monC, by intro v W W' h hX; exact QZ.ext h hX, by intro v W W' h hX; exact QZ.ext h hX, trivial⟩ ?_ ?_
 ·
  clear hend
  simp only [rops, Try.f61, regOf, Option.bind_some, Nat.reduceBEq, if_true, if_false, Bool.false_eq_true, Option.getD_some]
  simp only [List.take_succ_cons, List.take_zero]
  refine ⟨?_, ?_, ?_, ?_, ?_, ?_, ?_, ?_, ?_, ?_, ?_, ?_, ?_, ?_, ?_, ?_, trivial⟩
  ·
   rintro us W hJ _ b hb hbz K hK0 hK Qz
   have e9 := (hbz 9 (by simp)).trans s9
   clear hb hbz
   have z0 := Ext.cell hJ x0
   have z1 := Ext.cell hJ x1
   have z2 := Ext.cell hJ x2
   go_simp
   exact hK0 _ rfl
  ·
   rintro us W hJ _ b hb hbz K hK0 hK Qz
   have e2 := (hbz 2 (by simp)).trans s2
   clear hb hbz
   go_simp
   exact hK0 _ rfl
  ·
   rintro us W hJ d1 b hb hbz K hK0 hK Qz
   have e55 := slotV (hb 1 55 rfl) d1
   clear hb hbz d1
   have q := Ext.cell hJ b1
   go_simp
   exact hK0 _ rfl
  ·
   rintro us W hJ _ b hb hbz K hK0 hK Qz
   have e10 := (hbz 10 (by simp)).trans s10
   clear hb hbz
   go_simp
   exact hK0 _ rfl
  ·
   rintro us W hJ ⟨d2, d3⟩ b hb hbz K hK0 hK Qz
   have e56 := slotV (hb 2 56 rfl) d2
   have e57 := slotV (hb 3 57 rfl) d3
   clear hb hbz d2 d3
   go_simp
   exact hK0 _ rfl
  ·
   rintro us W hJ d4 b hb hbz K hK0 hK Qz
   have e58 := slotV (hb 4 58 rfl) d4
   clear hb hbz d4
   go_simp
   exact hK0 _ rfl
  ·
   rintro us W hJ d5 b hb hbz K hK0 hK Qz
   have e59 := slotV (hb 5 59 rfl) d5
   clear hb hbz d5
   have q := Ext.cell hJ v6
   go_simp
   exact hK0 _ rfl
  ·
   rintro us W hJ _ b hb hbz K hK0 hK Qz
   have e11 := (hbz 11 (by simp)).trans s11
   clear hb hbz
   go_simp
   exact hK0 _ rfl
  ·
   rintro us W hJ ⟨d6, d7⟩ b hb hbz K hK0 hK Qz
   have e60 := slotV (hb 6 60 rfl) d6
   have e61 := slotV (hb 7 61 rfl) d7
   clear hb hbz d6 d7
   go_simp
   exact hK0 _ rfl
  ·
   rintro us W hJ d8 b hb hbz K hK0 hK Qz
   have e62 := slotV (hb 8 62 rfl) d8
   clear hb hbz d8
   go_simp
   refine (whole_any (mw * cc) W (by omega) (by omega)).mono ?_
   rintro e w' ⟨v, rfl, hv, hX⟩
   exact hK _ _ hv hX
  ·
   rintro us W hJ _ b hb hbz K hK0 hK Qz
   have e5 := (hbz 5 (by simp)).trans s5
   clear hb hbz
   go_simp
   exact hK0 _ rfl
  ·
   rintro us W hJ _ b hb hbz K hK0 hK Qz
   have e10 := (hbz 10 (by simp)).trans s10
   clear hb hbz
   go_simp
   exact hK0 _ rfl
  ·
   rintro us W hJ ⟨d10, d11⟩ b hb hbz K hK0 hK Qz
   have e64 := slotV (hb 10 64 rfl) d10
   have e65 := slotV (hb 11 65 rfl) d11
   clear hb hbz d10 d11
   go_simp
   exact hK0 _ rfl
  ·
   rintro us W hJ d12 b hb hbz K hK0 hK Qz
   have e66 := slotV (hb 12 66 rfl) d12
   clear hb hbz d12
   have z0 := Ext.cell hJ y0
   have z1 := Ext.cell hJ y1
   have z2 := Ext.cell hJ y2
   go_simp
   exact hK0 _ rfl
  ·
   rintro us W hJ ⟨d9, d13⟩ b hb hbz K hK0 hK Qz
   have e63 := hb 9 63 rfl
   have e67 := slotV (hb 13 67 rfl) d13
   clear hb hbz d13
   go_simp
   refine (qmul_any _ _ _ _ 4 M W d9 (hy.ext hJ) (fitR_small (by omega) (by omega)) fr (by omega)).mono ?_
   rintro e w' ⟨v, rfl, hv, hX⟩
   exact hK _ _ hv hX
  ·
   rintro us W hJ ⟨d0, d14⟩ b hb hbz K hK0 hK Qz
   have e54 := slotV (hb 0 54 rfl) d0
   have e68 := hb 14 68 rfl
   clear hb hbz d0
   go_simp
   refine (qadd_any _ _ _ _ KF (4 + M) W (hx.ext hJ) d14 fq (fitS_mul (fitR_small (by omega) (by omega)) fr) (by omega)).mono ?_
   rintro e w' ⟨v, rfl, hv, hX⟩
   exact hK _ _ hv hX
 ·
  rintro us W ⟨v0, v1, v2, v3, v4, v5, v6, v7, v8, v9, v10, v11, v12, v13, v14, v15, _⟩ hJ
  exact hend _ _ _ _ _ _ _ _ _ _ _ _ _ _ _ _ W v0 v1 v2 v3 v4 v5 v6 v7 v8 v9 v10 v11 v12 v13 v14 v15 hJ
theorem QRow.after {base n : Nat} {w w' : World} {v v' : Value} {f : Nat → Rat} {us : List Value} {s : Bool} {A B : Option Addr} {l c m k : Nat} {q : Rat} (ho : w'.ownsRow base 65 3 v' (n + 1) (us ++ [.bool s, .slice A l c, .slice B m k])) (hG : w.grownBy w' v.ownBlock) (h3 : RowNI w v) (hni : RowNI w' v') (hq : QZ w (.agg #[.bool s, .slice A l c, .slice B m k]) q) (h2 : NumK 3 (Tri QZ) w us n f) : QRow base w' v' (n + 1) (fun i => if i = n then q else f i) := by
 have hN2 := h2.imp (w' := w') (R' := Tri QZ) (fun cs x hx => by
  obtain ⟨s, A, l, c, B, m, k, e, hp⟩ := hx
  exact ⟨s, A, l, c, B, m, k, e, hp.grownNI h3 hG⟩)
 exact ⟨⟨_, ho, hN2.snoc rfl (Tri.mk (hq.grownNI h3 hG))⟩, hni⟩
theorem own_of_list {v : Value} {g : Nat} (h : g ∈ v.ownBlock.toList) : v.ownBlock = some g := by
 rcases e : v.ownBlock with _ | k
 ·
  rw [e] at h; simp at h
 ·
  rw [e] at h; simp at h; rw [h]
set_option maxRecDepth 100000 in
set_option maxHeartbeats 16000000 in
theorem slopesR_any (S n c gt ot ct L : Nat) (A : Option Addr) (ms : List Mt) (un : Nat → Rat) (w : World) (h : MsAt w A n ms) (hV : VP S ms) (hS : ShP QZ w gt ot S un) (hf : FitU S un L) (_hL : L ≤ 100) (hgt : gt < w.heap.size) :
  Calls Try.prog 61 #[.agg #[.int .i64 (S : Int), .slice A n c], .slice (some ⟨gt, ot, none⟩) S ct] w (fun e w' => ∃ v, e = .returned v ∧ QRow w.heap.size w' v (3 * S) (fun j => slope (3 * S) ms un j) ∧ Ext w w') := by
 have HX := hid ((Ext.refl w).alloc (.cells #[.int .i64 (S : Int), .slice A n c] 76))
 have HP : Hid (Blk (w.alloc (.cells #[.int .i64 (S : Int), .slice A n c] 76)) w.heap.size 76 #[.int .i64 (S : Int), .slice A n c]) := hid (Blk.new w _ _)
 have hS8 : S ≤ 8 := by have := hV.2.1; omega
 have hn64 : n ≤ 64 := by have := hV.2.2.1; have := h.1; omega
 have H := hid h
 have HVV := hid hV
 have HS := hid hS
 have HF := hid hf
 clear h hV hS hf
 obtain ⟨R, hR⟩ : ∃ R, resA (3 * S) ms un = R := ⟨_, rfl⟩
 have HRR := hid hR
 clear hR
 go_enter Try.func61, Try.ntmps61
 go_upto_region 1 with (fail)
 generalize w.alloc (.cells #[.int .i64 (S : Int), .slice A n c] 76) = w1 at HX HP ⊢
 go_wp2_with fail
 go_loopg [5, 6] n (fun fu rv iv W => ∃ k : Nat, fu = n - k ∧ k ≤ n ∧ iv = .int .i64 (k : Int) ∧ Hid (QRow (w.heap.size + 1) W rv k R) ∧ Hid (Blk W w.heap.size 76 #[.int .i64 (S : Int), .slice A n c]) ∧ Hid (Ext w W))
 case atStart => exact ⟨0, by omega, by omega, rfl, hid (QRow.nil _ _ _), HP, HX⟩
 case round =>
  clear HP HX
  obtain ⟨k, rfl, hk, rfl, HR, HP, HX⟩ := hrel
  have p0 := HP.out.cell 0
  have p1 := HP.out.cell 1
  simp only [List.getElem?_toArray, List.getElem?_cons_zero, List.getElem?_cons_succ] at p0 p1
  have hpl := HP.out.lt
  by_cases hkn : k < n
  ·
   have q1 : decide ((k : Int) < (n : Int)) = true := decide_eq_true (by omega)
   have q1b : decide (k < n) = true := decide_eq_true hkn
   obtain ⟨gm, om, ⟨a, b, x, y, z, dd, ww⟩, rfl, hm, hmem, y0, y1, y2, y3, y4, y5, y6⟩ := (H.out.ext HX.out).get hkn
   have hvm := HVV.out.2.2.2 _ hmem
   have HRK : Hid (R k = res (3 * S) ⟨a, b, x, y, z, dd, ww⟩ un) := hid (by rw [← HRR.out]; exact resA_at hm)
   have hgm : gm < w.heap.size := by
    obtain ⟨gm2, om2, m2, e2, _, _, z0, _⟩ := H.out.get hkn
    injection e2 with e2
    injection e2 with e2
    subst e2
    exact World.block_lt_of_cell? w _ z0
   clear hm hmem
   obtain ⟨Ao, co, hAo⟩ := HR.out.slice
   subst hAo
   have hlo : ∀ g, g ∈ (Value.slice Ao k co).ownBlock.toList → w.heap.size + 1 ≤ g := fun g hg => (HR.out.low (own_of_list hg)).1
   go_upto_region 5 with (fail)
   refine slr_r5 (w.heap.size + 1) w.heap.size gt ot ct S gm om n c k k co L Ao a b x y z dd ww un R wr HR.out p0 p1 y0 y1 y2 y3 y4 y5 y6 (fun h => by have := hlo _ h; omega) (fun h => by have := hlo _ h; omega) (fun h => by have := hlo _ h; omega) (fun g hg => HR.out.2 g (own_of_list hg)) hkn (by omega) (by omega) hS8 (HS.out.ext growsQ HX.out) HF.out (by omega) hvm (Nat.lt_of_lt_of_le hgt HX.out.size) _ _ (by simp) rfl rfl rfl rfl ?_
   rintro xv0 xv1 xv2 xv3 xv4 xv5 xv6 xv7 xv8 xv9 xv10 w5 rfl rfl rfl rfl rfl rfl rfl rfl ⟨hq, _⟩ hK
   simp only [rops, Try.f61, regOf, Option.bind_some, Nat.reduceBEq, if_true, if_false, Bool.false_eq_true, Option.getD_some, List.drop_succ_cons, List.drop_zero]
   simp only [Act.put, List.setIfInBounds_toArray, List.set_cons_succ, List.set_cons_zero]
   have HQ : Hid (QRow (w.heap.size + 1) w5 xv10 (k + 1) R) := hid (hq.congr (fun j hj => by by_cases e : j = k; (subst e; simp [HRK.out]); simp [e]))
   replace HX := hid (hK.ext HX.out (fun g hg => by have := hlo g hg; omega))
   replace HP := hid (HP.out.keeps hK (fun h => by have := hlo _ h; omega))
   obtain ⟨A9, c9, hA9⟩ := HQ.out.slice
   subst hA9
   clear hq hK hlo HR HRK y0 y1 y2 y3 y4 y5 y6 p0 p1 hvm hgm
   go_wp2
   go_roundg (n - (k + 1))
   case rel => exact ⟨k + 1, by omega, by omega, by go_num, HQ, HP, HX⟩
   case measure => omega
  obtain rfl : k = n := by omega
  have q1 : decide ((k : Int) < (k : Int)) = false := by simp
  have q1b : decide (k < k) = false := by simp
  obtain ⟨Ar, cr, hAr⟩ := HR.out.slice
  subst hAr
  have qS : IntKind.i64.wrap (3 * (S : Int)) = 3 * (S : Int) := IntWalk.i64_in _ (by omega)
  obtain ⟨b2, hb2⟩ : ∃ b2, wr.heap.size = b2 := ⟨_, rfl⟩
  have HB2 : Hid (b2 ≤ wr.heap.size ∧ w.heap.size < b2 ∧ ∀ g, (Value.slice Ar k cr).ownBlock = some g → g < b2) := hid ⟨by omega, by omega, fun g hg => by have := (HR.out.low hg).2; omega⟩
  clear hb2
  go_upto_region 6 with (fail)
  clear p0 p1 q1 q1b
  have HRN := HR
  clear HR
  go_wp2_with fail
  go_loopg [7, 8, 9, 10, 11] (3 * S) (fun fu ov uv _ _ _ W => ∃ j : Nat, fu = 3 * S - j ∧ j ≤ 3 * S ∧ uv = .int .i64 (j : Int) ∧ Hid (QRow b2 W ov j (fun j => slope (3 * S) ms un j)) ∧ Hid (QRow (w.heap.size + 1) W (.slice Ar k cr) k R) ∧ Hid (Blk W w.heap.size 76 #[.int .i64 (S : Int), .slice A k c]) ∧ Hid (b2 ≤ W.heap.size) ∧ Hid (Ext w W))
  case atStart => exact ⟨0, by omega, by omega, rfl, hid (QRow.nil _ _ _), HRN, HP, hid HB2.out.1, HX⟩
  case round =>
   clear HP HX HRN
   obtain ⟨j, rfl, hj, rfl, HO, HR, HP, HB3, HX⟩ := hrel
   obtain ⟨Ao, co, hAo⟩ := HO.out.slice
   subst hAo
   have p0 := HP.out.cell 0
   have p1 := HP.out.cell 1
   simp only [List.getElem?_toArray, List.getElem?_cons_zero, List.getElem?_cons_succ] at p0 p1
   by_cases hj3 : j < 3 * S
   ·
    have q1 : decide ((j : Int) < 3 * (S : Int)) = true := decide_eq_true (by omega)
    go_wp2_with fail
    refine (whole_any 0 _ (by omega) (by omega)).mono ?_
    rintro e w2 ⟨v, rfl, hv, hX2⟩
    clear p0 p1
    replace HO := hid (HO.out.ext hX2)
    replace HR := hid (HR.out.ext hX2)
    replace HP := hid (HP.out.ext hX2)
    replace HB3 := hid (Nat.le_trans HB3.out hX2.size)
    replace HX := hid (HX.out.trans hX2)
    clear hX2
    obtain ⟨s0, A0, l0, c0, B0, m0, k0, rfl⟩ := QZ.open hv
    go_upto_region 11 with (fail)
    have hX2 : Ext w2 (w2.alloc (.cells #[.bool s0, .slice A0 l0 c0, .slice B0 m0 k0] 65)) := (Ext.refl _).alloc _
    have HG : Hid (b2 ≤ w2.heap.size ∧ w.heap.size < w2.heap.size ∧ (∀ g, (Value.slice Ao j co).ownBlock = some g → g < w2.heap.size) ∧ (∀ g, (Value.slice Ar k cr).ownBlock = some g → g < w2.heap.size)) := hid ⟨HB3.out, HP.out.lt, fun g hg => (HO.out.low hg).2, fun g hg => (HR.out.low hg).2⟩
    have HB : Hid (QB (w2.alloc (.cells #[.bool s0, .slice A0 l0 c0, .slice B0 m0 k0] 65)) w2.heap.size (slope (3 * S) (ms.take 0) un j)) := hid (QB.new hv)
    clear hv
    generalize w2.heap.size = gx at HG HB ⊢
    generalize w2.alloc (.cells #[.bool s0, .slice A0 l0 c0, .slice B0 m0 k0] 65) = w3 at hX2 HB ⊢
    replace HO := hid (HO.out.ext hX2)
    replace HR := hid (HR.out.ext hX2)
    replace HP := hid (HP.out.ext hX2)
    replace HB3 := hid (Nat.le_trans HB3.out hX2.size)
    replace HX := hid (HX.out.trans hX2)
    clear hX2
    go_wp2_with fail
    go_loopg [10, 11] k (fun fu iv _ W => ∃ i : Nat, fu = k - i ∧ i ≤ k ∧ iv = .int .i64 (i : Int) ∧ Hid (QB W gx (slope (3 * S) (ms.take i) un j)) ∧ Hid (QRow b2 W (.slice Ao j co) j (fun j => slope (3 * S) ms un j)) ∧ Hid (QRow (w.heap.size + 1) W (.slice Ar k cr) k R) ∧ Hid (Blk W w.heap.size 76 #[.int .i64 (S : Int), .slice A k c]) ∧ Hid (b2 ≤ W.heap.size) ∧ Hid (Ext w W))
    case atStart => exact ⟨0, by omega, by omega, rfl, HB, HO, HR, HP, HB3, HX⟩
    case round =>
     clear HB HO HR HP HB3 HX
     obtain ⟨i, rfl, hi, rfl, HB, HO, HR, HP, HB3, HX⟩ := hrel
     have p0 := HP.out.cell 0
     have p1 := HP.out.cell 1
     simp only [List.getElem?_toArray, List.getElem?_cons_zero, List.getElem?_cons_succ] at p0 p1
     by_cases hin : i < k
     ·
      have q2 : decide ((i : Int) < (k : Int)) = true := decide_eq_true (by omega)
      have q2b : decide (i < k) = true := decide_eq_true hin
      obtain ⟨gm, om, ⟨a, b, x, y, z, dd, ww⟩, rfl, hm, hmem, y0, y1, y2, y3, y4, y5, y6⟩ := (H.out.ext HX.out).get hin
      have hvm := HVV.out.2.2.2 _ hmem
      go_wp2_with fail
      refine (coefR_any (m := ⟨a, b, x, y, z, dd, ww⟩) (u := j) (S := S) (by omega) hvm).mono ?_
      rintro e w4 ⟨rfl, hX2⟩
      clear y0 y1 y2 y3 y4 y5
      have HY6 := hid (Ext.cell hX2 y6)
      have HP1 := hid (Ext.cell hX2 p1)
      clear y6 p0 p1
      replace HB := hid (HB.out.ext hX2)
      replace HO := hid (HO.out.ext hX2)
      replace HR := hid (HR.out.ext hX2)
      replace HP := hid (HP.out.ext hX2)
      replace HB3 := hid (Nat.le_trans HB3.out hX2.size)
      replace HX := hid (HX.out.trans hX2)
      clear hX2
      obtain ⟨cc, hcc⟩ : ∃ cc, cof ⟨a, b, x, y, z, dd, ww⟩ j = cc := ⟨_, rfl⟩
      have hcb := cof_bound hvm j
      rw [hcc] at hcb
      have hw1 := hvm.w1
      have hw2 := hvm.w2
      simp only at hw1 hw2
      have hwc := prod_bound (A := 1000) (B := 100) (show -1000 ≤ ww by omega) hw2 hcb.1 hcb.2
      have HRK : Hid (R i = res (3 * S) ⟨a, b, x, y, z, dd, ww⟩ un) := hid (by rw [← HRR.out]; exact resA_at hm)
      have HN : Hid (slope (3 * S) (ms.take (i + 1)) un j = slope (3 * S) (ms.take i) un j + ((ww * cc : Int) : Rat) * R i) := hid (by rw [slope_take hm, HRK.out]; simp only [hcc])
      have HFS := hid (fit_slope HF.out hS8 HVV.out.2.2.2 (k := i) (by rw [H.out.1]; omega) j)
      have HFR : Hid (FitR (R i) (4 + 24 * (L + 5))) := hid (by rw [HRK.out]; exact fit_res' hvm HF.out hS8)
      rw [hcc]
      clear hcc hm hmem hvm hw1 hw2
      by_cases hc0 : cc = 0
      ·
       subst hc0
       have HN2 : Hid (slope (3 * S) (ms.take (i + 1)) un j = slope (3 * S) (ms.take i) un j) := hid (by rw [HN.out, Int.mul_zero, show (((0 : Int)) : Rat) = 0 from rfl, Rat.zero_mul, Rat.add_zero])
       clear hwc hcb
       go_wp2
       go_roundg (k - (i + 1))
       case rel => exact ⟨i + 1, by omega, by omega, by go_num, hid (by rw [HN2.out]; exact HB.out), HO, HR, HP, HB3, HX⟩
       case measure => omega
      have q3 : (cc != 0) = true := by simpa using hc0
      clear hc0
      obtain ⟨gr, hAr, hgr, sq, Aq, lq, cq, Bq, mq, kq, y0, y1, y2, hy⟩ := HR.out.get hin
      subst hAr
      obtain ⟨sp, Ap, lp, cp, Bp, mp, kp, x0, x1, x2, hx⟩ := HB.out.cells
      have HWC := hid hwc
      clear hwc hcb
      go_upto_region 16 with (fail)
      refine slr_r16 gx w.heap.size gm om k c gr cr i (4 + 24 * (L + 5)) (4 + i * (24 * (L + 5) + 9)) ww cc sp Ap Bp lp cp mp kp sq Aq Bq lq cq mq kq _ _ w4 x0 x1 x2 y0 y1 y2 HP1.out HY6.out hin (by omega) (by have := HWC.out; omega) (IntWalk.i64_in _ (by have := HWC.out; omega)) hx hy HFS.out HFR.out (by omega) (by have : i * (24 * (L + 5) + 9) ≤ 64 * (24 * (L + 5) + 9) := Nat.mul_le_mul_right _ (by omega); omega) _ _ (by simp) rfl rfl rfl rfl rfl ?_
      rintro xv0 xv1 xv2 xv3 xv4 xv5 xv6 xv7 xv8 xv9 xv10 xv11 xv12 xv13 xv14 xv15 w5 rfl rfl rfl rfl rfl rfl rfl rfl rfl _ rfl rfl rfl rfl _ hv hX2
      simp only [rops, Try.f61, regOf, Option.bind_some, Nat.reduceBEq, if_true, if_false, Bool.false_eq_true, Option.getD_some, List.drop_succ_cons, List.drop_zero]
      simp only [Act.put, List.setIfInBounds_toArray, List.set_cons_succ, List.set_cons_zero]
      replace HB := hid (HB.out.ext hX2)
      replace HO := hid (HO.out.ext hX2)
      replace HR := hid (HR.out.ext hX2)
      replace HP := hid (HP.out.ext hX2)
      replace HB3 := hid (Nat.le_trans HB3.out hX2.size)
      replace HX := hid (HX.out.trans hX2)
      clear hX2
      clear x0 x1 x2 hx hy y0 y1 y2 HP1 HY6 HFS HFR HWC
      obtain ⟨s4, A4, l4, c4, B4, m4, k4, rfl⟩ := QZ.open hv
      have f0 := HB.out.free 0
      have f1 := HB.out.free 1
      have f2 := HB.out.free 2
      obtain ⟨s5, A5, l5, c5, B5, m5, k5, z0, z1, z2, _⟩ := HB.out.cells
      have hni := HB.out.ni
      have HB2 := hid (HB.out.put hv)
      have HKP := hid (Keeps.three gx w5 (.bool s4) (.slice A4 l4 c4) (.slice B4 m4 k4))
      have HNI : Hid (∀ q ∈ [gx], NoInts w5 q) := hid (fun q hq => by simp at hq; subst hq; exact hni)
      have HO2 := hid (HO.out.keeps HKP.out HNI.out (fun g hg h => by have := HG.out.2.2.1 g hg; simp at h; omega))
      have HR2 := hid (HR.out.keeps HKP.out HNI.out (fun g hg h => by have := HG.out.2.2.2 g hg; simp at h; omega))
      have HP2 := hid (HP.out.far3 (g := gx) (by have := HG.out.2.1; omega) (.bool s4) (.slice A4 l4 c4) (.slice B4 m4 k4))
      have HX2 := hid (Ext.boxed HX.out (g := gx) (by have := HG.out.2.1; omega) (.bool s4) (.slice A4 l4 c4) (.slice B4 m4 k4))
      have HB4 : Hid (b2 ≤ (((w5.setCell ⟨gx, 0, none⟩ (.bool s4)).setCell ⟨gx, 1, none⟩ (.slice A4 l4 c4)).setCell ⟨gx, 2, none⟩ (.slice B4 m4 k4)).heap.size) := hid (by simpa using HB3.out)
      clear hv hni HB HO HR HP HX HKP HNI HB3
      go_wp2
      go_roundg (k - (i + 1))
      case rel => exact ⟨i + 1, by omega, by omega, by go_num, hid (by rw [HN.out]; exact HB2.out), HO2, HR2, HP2, HB4, HX2⟩
      case measure => omega
     obtain rfl : i = k := by omega
     have q2 : decide ((i : Int) < (i : Int)) = false := by simp
     have q2b : decide (i < i) = false := by simp
     have HE : Hid (ms.take i = ms) := hid (List.take_of_length_le (by rw [H.out.1]; exact Nat.le_refl _))
     rw [HE.out] at HB
     obtain ⟨sp, Ap, lp, cp, Bp, mp, kp, x0, x1, x2, hx⟩ := HB.out.cells
     have HXX := hid hx
     clear hx
     obtain ⟨⟨us, hown, hnum⟩, hni0⟩ := HO.out
     have HA1 : Hid (Ext wr (wr.alloc (.cells #[.bool sp, .slice Ap lp cp, .slice Bp mp kp] 65))) := hid ((Ext.refl wr).alloc _)
     have HNM := hid hnum
     have HN0 := hid hni0
     have hnl : w.heap.size ≤ b2 := by have := HB2.out.2.1; omega
     clear hnum hni0
     go_wp2_with (at_builtin; refine wpList_appN _ elQs (by simp [Value.cells, NoInt]) rfl _ _ rfl b2 _ j us rfl (World.ownsRow.ext' hown HA1.out) (HN0.out.ext HA1.out) _ 1 1 [.bool sp, .slice Ap lp cp, .slice Bp mp kp] rfl rfl (At.new _ [_, _, _] _) (by simp [Value.oneCell']) (by simp [NoInt]) (by omega) (by omega) (by unfold maxLen; omega) (by have := HB3.out; simp; omega) ?_; intro v6 w6 hown1 hgr1 hni1; have HQ6 := hid (QRow.after hown1 hgr1 (HN0.out.ext HA1.out) hni1 (HXX.out.ext HA1.out) (HNM.out.ext kindQ HA1.out)); have HK6 := hid (keeps_own hgr1); clear hown1 hgr1 hni1 hown; obtain ⟨A7, c7, hA7⟩ := HQ6.out.slice; subst hA7)
     have hbl : ∀ g, g ∈ (Value.slice Ao j co).ownBlock.toList → b2 ≤ g := fun g hg => (HO.out.low (own_of_list hg)).1
     have hnn : ∀ g ∈ (Value.slice Ao j co).ownBlock.toList, NoInts _ g := fun g hg => (HN0.out.ext HA1.out) g (own_of_list hg)
     go_roundg (3 * S - (j + 1))
     case rel => exact ⟨j + 1, by omega, by omega, by go_num, hid (HQ6.out.congr (fun q hq => by by_cases e : q = j; (subst e; simp); simp [e])), hid ((HR.out.ext HA1.out).keeps HK6.out hnn (fun g hg h => by have := HB2.out.2.2 g hg; have := hbl g h; omega)), hid ((HP.out.ext HA1.out).keeps HK6.out (fun h => by have := hbl _ h; have := HB2.out.2.1; omega)), hid (Nat.le_trans HB3.out (Nat.le_trans HA1.out.size HK6.out.size)), hid (HK6.out.ext (HX.out.trans HA1.out) (fun g hg => by have := hbl g hg; omega))⟩
     case measure => omega
   obtain rfl : j = 3 * S := by omega
   have q1 : decide (((3 * S : Nat) : Int) < 3 * (S : Int)) = false := decide_eq_false (by omega)
   have q1b : ((3 * S : Nat) : Int) = 3 * (S : Int) := by omega
   go_wp2
   go_ret
   exact ⟨_, rfl, HO.out.mono (by have := HB2.out.2.1; omega), HX.out⟩
end Go.Proofs.Ytikhlcgnlbinfaa
