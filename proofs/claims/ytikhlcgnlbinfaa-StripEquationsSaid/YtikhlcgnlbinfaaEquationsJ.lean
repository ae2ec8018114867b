/- Lemmas of the proof that follows (Equations, part 10): walks of functions by contract, and plain lemmas. Conditions: none. -/
import Derived.Test.YtikhlcgnlbinfaaEquationsI
namespace Go.Proofs.Ytikhlcgnlbinfaa
open Lib (hid)
open Go.RowKit
theorem elS9 : Elem Try.prog 210 263 9 168 (.agg #[.bool false, .slice none 0 0, .slice none 0 0, .bool false, .slice none 0 0, .slice none 0 0, .bool false, .slice none 0 0, .slice none 0 0]) := Elem.mk' (by kernel_rfl) (by kernel_rfl) rfl (by decide)
theorem RowN.make9 {P : World → Value → Rat → Prop} {te : TypeId} {base g n : Nat} {w : World} {us : List Value} (ho : w.ownsRow base te 9 (.slice (some ⟨g, 0, none⟩) n n) n us) (h1 : ∀ i, i < n * 9 → us[i]? = (Value.agg #[.bool false, .slice none 0 0, .slice none 0 0, .bool false, .slice none 0 0, .slice none 0 0, .bool false, .slice none 0 0, .slice none 0 0]).cells[i % 9]?) (h2 : ∀ u ∈ us, u ∈ (Value.agg #[.bool false, .slice none 0 0, .slice none 0 0, .bool false, .slice none 0 0, .slice none 0 0, .bool false, .slice none 0 0, .slice none 0 0]).cells) : RowN P te 9 base w g n n (3 * n) (fun _ => none) :=
 RowN.zero rfl ho h1 h2 (fun u hu => by
  simp [Value.cells] at hu
  rcases hu with rfl | rfl | rfl | rfl | rfl | rfl
  all_goals first | exact noInt_bool _ | exact noInt_slice _ _ _) ⟨3, rfl⟩ (fun i hi => by
  match i, hi with
  | 0, _ => rfl
  | 1, _ => rfl
  | 2, _ => rfl
  | 3, _ => rfl
  | 4, _ => rfl
  | 5, _ => rfl
  | 6, _ => rfl
  | 7, _ => rfl
  | 8, _ => rfl
  | _ + 9, hi => omega) (by omega)
theorem solG_at {n : Nat} {s : GSt} {j : Nat} : solG n s j = if 0 ≤ pivI (s.piv[j]?) then s.tab (pivI (s.piv[j]?)).toNat n else 0 := by
 unfold solG
 split
 ·
  rename_i i hp
  rw [hp]
  simp [pivI]
 ·
  rename_i h
  cases hp : s.piv[j]? with
  | none => rfl
  | some o =>
   cases o with
   | none => rfl
   | some t => exact absurd hp (h t)
theorem pivI_low (o : Option (Option Nat)) : pivI o = -1 ∨ ∃ t : Nat, o = some (some t) ∧ pivI o = (t : Int) := by
 match o with
 | none => exact .inl rfl
 | some none => exact .inl rfl
 | some (some t) => exact .inr ⟨t, rfl, rfl⟩
set_option maxRecDepth 100000 in
set_option maxHeartbeats 2000000 in
theorem solve_r6 (go S jj ss kk : Nat) (w : World) (hss : Hid (jj / 3 = ss)) (hkk : Hid (jj % 3 = kk)) (_hs1 : ss < S) (_hk3 : (kk : Int) < 3) (_hk4 : kk < 3) (_hj : jj ≤ 1000) (a : Act) (Q : Exit → Act → World → Prop) (hsize : 31 ≤ a.tmps.size)
  (s4 : a.tmps[4]? = some (.slice (some ⟨go, 0, none⟩) S S))
  (s5 : a.tmps[5]? = some (.int .i64 (jj : Int)))
  (hend : ∀ (xv0 xv1 xv2 xv3 xv4 xv5 xv6 xv7 : Value) (W : World), (xv0 = .slice (some ⟨go, 0, none⟩) S S) → (xv1 = .int .i64 (jj : Int)) → (xv2 = .int .i64 (ss : Int)) → (xv3 = .int .i64 (jj : Int)) → (xv4 = .int .i64 (kk : Int)) → (NumX W xv5 (((0 : Int) : Rat)) (2)) → (xv6 = .pointer (some ⟨go, ss * 9, none⟩)) → (xv7 = .pointer (some ⟨go, ss * 9 + kk * 3, none⟩)) → Ext w W → wpList Try.prog (rops Try.f124 6).toArray Q ((rops Try.f124 6).drop 8) ((((((((a.put (some 23) xv0).put (some 24) xv1).put (some 25) xv2).put (some 26) xv3).put (some 27) xv4).put (some 28) xv5).put (some 29) xv6).put (some 30) xv7) W) :
  (Code.region 6 (rops Try.f124 6).toArray true).wp Try.prog Q a w := by
 refine wp_region_k 8 [some 23, some 24, some 25, some 26, some 27, some 28, some 29, some 30] [[], [], [1], [], [3], [], [0, 2], [4, 6]] [eqv (.slice (some ⟨go, 0, none⟩) S S), eqv (.int .i64 (jj : Int)), eqv (.int .i64 (ss : Int)), eqv (.int .i64 (jj : Int)), eqv (.int .i64 (kk : Int)), fun v W => NumX W v (((0 : Int) : Rat)) (2), eqv (.pointer (some ⟨go, ss * 9, none⟩)), eqv (.pointer (some ⟨go, ss * 9 + kk * 3, none⟩))] (by kernel_rfl) (by kernel_rfl) rfl (by decide) hsize ⟨monC, monC, monC, monC, monC, by intro v W W' h hX; exact NumX.ext h hX, monC, monC, trivial⟩ ?_ ?_
 ·
  clear hend
  simp only [rops, Try.f124, regOf, Option.bind_some, Nat.reduceBEq, if_true, if_false, Bool.false_eq_true, Option.getD_some]
  simp only [List.take_succ_cons, List.take_zero]
  refine ⟨?_, ?_, ?_, ?_, ?_, ?_, ?_, ?_, trivial⟩
  ·
   rintro us W hJ _ b hb hbz K hK0 hK Qz
   have e4 := (hbz 4 (by simp)).trans s4
   clear hb hbz
   go_simp
   exact hK0 _ rfl
  ·
   rintro us W hJ _ b hb hbz K hK0 hK Qz
   have e5 := (hbz 5 (by simp)).trans s5
   clear hb hbz
   go_simp
   exact hK0 _ rfl
  ·
   rintro us W hJ d1 b hb hbz K hK0 hK Qz
   have e24 := slotV (hb 1 24 rfl) d1
   clear hb hbz d1
   have qw : IntKind.i64.wrap ((jj : Int) / 3) = (jj : Int) / 3 := IntWalk.i64_in _ (by omega)
   go_simp
   exact hK0 _ (by have := hss.out; congr 1; omega)
  ·
   rintro us W hJ _ b hb hbz K hK0 hK Qz
   have e5 := (hbz 5 (by simp)).trans s5
   clear hb hbz
   go_simp
   exact hK0 _ rfl
  ·
   rintro us W hJ d3 b hb hbz K hK0 hK Qz
   have e26 := slotV (hb 3 26 rfl) d3
   clear hb hbz d3
   have ht : (jj : Int).tmod 3 = (jj : Int) % 3 := Int.tmod_eq_emod_of_nonneg (by omega)
   have qw : IntKind.i64.wrap ((jj : Int) % 3) = (jj : Int) % 3 := IntWalk.i64_in _ (by omega)
   go_simp
   exact hK0 _ (by have := hkk.out; congr 1; omega)
  ·
   rintro us W hJ _ b hb hbz K hK0 hK Qz
   clear hb hbz
   go_simp
   refine (intX 0 _ (by omega) (by omega)).mono ?_
   rintro e w' ⟨v, rfl, hv, hX⟩
   exact hK _ _ hv hX
  ·
   rintro us W hJ ⟨d0, d2⟩ b hb hbz K hK0 hK Qz
   have e23 := slotV (hb 0 23 rfl) d0
   have e25 := slotV (hb 2 25 rfl) d2
   clear hb hbz d0 d2
   go_simp
   exact hK0 _ rfl
  ·
   rintro us W hJ ⟨d4, d6⟩ b hb hbz K hK0 hK Qz
   have e27 := slotV (hb 4 27 rfl) d4
   have e29 := slotV (hb 6 29 rfl) d6
   clear hb hbz d4 d6
   go_simp
   exact hK0 _ rfl
 ·
  rintro us W ⟨v0, v1, v2, v3, v4, v5, v6, v7, _⟩ hJ
  exact hend _ _ _ _ _ _ _ _ W v0 v1 v2 v3 v4 v5 v6 v7 hJ
set_option maxRecDepth 100000 in
set_option maxHeartbeats 2000000 in
theorem solve_r8 (go S jj ss kk gs gt ct nn tt ga ca gp : Nat) (s9 : Bool) (A9 B9 : Option Addr) (l9 c9 m9 k9 : Nat) (w : World) (hss : Hid (jj / 3 = ss)) (hkk : Hid (jj % 3 = kk)) (_hs1 : ss < S) (_hk3 : (kk : Int) < 3) (_hk4 : kk < 3) (_hj : jj ≤ 1000) (hs : w.cell? ⟨gs, 0, none⟩ = some (.slice (some ⟨gt, 0, none⟩) nn ct)) (ha : w.cell? ⟨gt, tt, none⟩ = some (.slice (some ⟨ga, 0, none⟩) (nn + 1) ca)) (hp : w.cell? ⟨gp, 0, none⟩ = some (.int .i64 (S : Int))) (_hqN : IntKind.i64.wrap (3 * (S : Int)) = (nn : Int)) (_htt : tt < nn) (_hnn : nn < nn + 1) (_hnn2 : (nn : Int) < (nn : Int) + 1) (x0 : w.cell? ⟨ga, nn * 3, none⟩ = some (.bool s9)) (x1 : w.cell? ⟨ga, nn * 3 + 1, none⟩ = some (.slice A9 l9 c9)) (x2 : w.cell? ⟨ga, nn * 3 + 2, none⟩ = some (.slice B9 m9 k9)) (a : Act) (Q : Exit → Act → World → Prop) (hsize : 50 ≤ a.tmps.size)
  (s1 : a.tmps[1]? = some (.pointer (some ⟨gp, 0, none⟩)))
  (s3 : a.tmps[3]? = some (.pointer (some ⟨gs, 0, none⟩)))
  (s4 : a.tmps[4]? = some (.slice (some ⟨go, 0, none⟩) S S))
  (s5 : a.tmps[5]? = some (.int .i64 (jj : Int)))
  (s6 : a.tmps[6]? = some (.int .i64 (tt : Int)))
  (hend : ∀ (xv0 xv1 xv2 xv3 xv4 xv5 xv6 xv7 xv8 xv9 xv10 xv11 xv12 xv13 xv14 xv15 xv16 : Value) (W : World), (xv0 = .slice (some ⟨go, 0, none⟩) S S) → (xv1 = .int .i64 (jj : Int)) → (xv2 = .int .i64 (ss : Int)) → (xv3 = .int .i64 (jj : Int)) → (xv4 = .int .i64 (kk : Int)) → (xv5 = .pointer (some ⟨gs, 0, none⟩)) → (xv6 = .slice (some ⟨gt, 0, none⟩) nn ct) → (xv7 = .int .i64 (tt : Int)) → (xv8 = .pointer (some ⟨gt, tt, none⟩)) → (xv9 = .slice (some ⟨ga, 0, none⟩) (nn + 1) ca) → (xv10 = .pointer (some ⟨gp, 0, none⟩)) → (xv11 = .int .i64 (S : Int)) → (xv12 = .int .i64 (nn : Int)) → (xv13 = .pointer (some ⟨ga, nn * 3, none⟩)) → (xv14 = .agg #[.bool s9, .slice A9 l9 c9, .slice B9 m9 k9]) → (xv15 = .pointer (some ⟨go, ss * 9, none⟩)) → (xv16 = .pointer (some ⟨go, ss * 9 + kk * 3, none⟩)) → Ext w W → wpList Try.prog (rops Try.f124 8).toArray Q ((rops Try.f124 8).drop 17) (((((((((((((((((a.put (some 33) xv0).put (some 34) xv1).put (some 35) xv2).put (some 36) xv3).put (some 37) xv4).put (some 38) xv5).put (some 39) xv6).put (some 40) xv7).put (some 41) xv8).put (some 42) xv9).put (some 43) xv10).put (some 44) xv11).put (some 45) xv12).put (some 46) xv13).put (some 47) xv14).put (some 48) xv15).put (some 49) xv16) W) :
  (Code.region 8 (rops Try.f124 8).toArray true).wp Try.prog Q a w := by
 refine wp_region_k 17 [some 33, some 34, some 35, some 36, some 37, some 38, some 39, some 40, some 41, some 42, some 43, some 44, some 45, some 46, some 47, some 48, some 49] [[], [], [1], [], [3], [], [5], [], [6, 7], [8], [], [10], [11], [9, 12], [13], [0, 2], [4, 15]] [eqv (.slice (some ⟨go, 0, none⟩) S S), eqv (.int .i64 (jj : Int)), eqv (.int .i64 (ss : Int)), eqv (.int .i64 (jj : Int)), eqv (.int .i64 (kk : Int)), eqv (.pointer (some ⟨gs, 0, none⟩)), eqv (.slice (some ⟨gt, 0, none⟩) nn ct), eqv (.int .i64 (tt : Int)), eqv (.pointer (some ⟨gt, tt, none⟩)), eqv (.slice (some ⟨ga, 0, none⟩) (nn + 1) ca), eqv (.pointer (some ⟨gp, 0, none⟩)), eqv (.int .i64 (S : Int)), eqv (.int .i64 (nn : Int)), eqv (.pointer (some ⟨ga, nn * 3, none⟩)), eqv (.agg #[.bool s9, .slice A9 l9 c9, .slice B9 m9 k9]), eqv (.pointer (some ⟨go, ss * 9, none⟩)), eqv (.pointer (some ⟨go, ss * 9 + kk * 3, none⟩))] (by kernel_rfl) (by kernel_rfl) rfl (by decide) hsize ⟨monC, monC, monC, monC, monC, monC, monC, monC, monC, monC, monC, monC, monC, monC, monC, monC, monC, trivial⟩ ?_ ?_
 ·
  clear hend
  simp only [rops, Try.f124, regOf, Option.bind_some, Nat.reduceBEq, if_true, if_false, Bool.false_eq_true, Option.getD_some]
  simp only [List.take_succ_cons, List.take_zero]
  refine ⟨?_, ?_, ?_, ?_, ?_, ?_, ?_, ?_, ?_, ?_, ?_, ?_, ?_, ?_, ?_, ?_, ?_, trivial⟩
  ·
   rintro us W hJ _ b hb hbz K hK0 hK Qz
   have e4 := (hbz 4 (by simp)).trans s4
   clear hb hbz
   go_simp
   exact hK0 _ rfl
  ·
   rintro us W hJ _ b hb hbz K hK0 hK Qz
   have e5 := (hbz 5 (by simp)).trans s5
   clear hb hbz
   go_simp
   exact hK0 _ rfl
  ·
   rintro us W hJ d1 b hb hbz K hK0 hK Qz
   have e34 := slotV (hb 1 34 rfl) d1
   clear hb hbz d1
   have qw : IntKind.i64.wrap ((jj : Int) / 3) = (jj : Int) / 3 := IntWalk.i64_in _ (by omega)
   go_simp
   exact hK0 _ (by have := hss.out; congr 1; omega)
  ·
   rintro us W hJ _ b hb hbz K hK0 hK Qz
   have e5 := (hbz 5 (by simp)).trans s5
   clear hb hbz
   go_simp
   exact hK0 _ rfl
  ·
   rintro us W hJ d3 b hb hbz K hK0 hK Qz
   have e36 := slotV (hb 3 36 rfl) d3
   clear hb hbz d3
   have ht : (jj : Int).tmod 3 = (jj : Int) % 3 := Int.tmod_eq_emod_of_nonneg (by omega)
   have qw : IntKind.i64.wrap ((jj : Int) % 3) = (jj : Int) % 3 := IntWalk.i64_in _ (by omega)
   go_simp
   exact hK0 _ (by have := hkk.out; congr 1; omega)
  ·
   rintro us W hJ _ b hb hbz K hK0 hK Qz
   have e3 := (hbz 3 (by simp)).trans s3
   clear hb hbz
   go_simp
   exact hK0 _ rfl
  ·
   rintro us W hJ d5 b hb hbz K hK0 hK Qz
   have e38 := slotV (hb 5 38 rfl) d5
   clear hb hbz d5
   have q := Ext.cell hJ hs
   go_simp
   exact hK0 _ rfl
  ·
   rintro us W hJ _ b hb hbz K hK0 hK Qz
   have e6 := (hbz 6 (by simp)).trans s6
   clear hb hbz
   go_simp
   exact hK0 _ rfl
  ·
   rintro us W hJ ⟨d6, d7⟩ b hb hbz K hK0 hK Qz
   have e39 := slotV (hb 6 39 rfl) d6
   have e40 := slotV (hb 7 40 rfl) d7
   clear hb hbz d6 d7
   go_simp
   exact hK0 _ rfl
  ·
   rintro us W hJ d8 b hb hbz K hK0 hK Qz
   have e41 := slotV (hb 8 41 rfl) d8
   clear hb hbz d8
   have q := Ext.cell hJ ha
   go_simp
   exact hK0 _ rfl
  ·
   rintro us W hJ _ b hb hbz K hK0 hK Qz
   have e1 := (hbz 1 (by simp)).trans s1
   clear hb hbz
   go_simp
   exact hK0 _ rfl
  ·
   rintro us W hJ d10 b hb hbz K hK0 hK Qz
   have e43 := slotV (hb 10 43 rfl) d10
   clear hb hbz d10
   have q := Ext.cell hJ hp
   go_simp
   exact hK0 _ rfl
  ·
   rintro us W hJ d11 b hb hbz K hK0 hK Qz
   have e44 := slotV (hb 11 44 rfl) d11
   clear hb hbz d11
   go_simp
   exact hK0 _ rfl
  ·
   rintro us W hJ ⟨d9, d12⟩ b hb hbz K hK0 hK Qz
   have e42 := slotV (hb 9 42 rfl) d9
   have e45 := slotV (hb 12 45 rfl) d12
   clear hb hbz d9 d12
   go_simp
   exact hK0 _ rfl
  ·
   rintro us W hJ d13 b hb hbz K hK0 hK Qz
   have e46 := slotV (hb 13 46 rfl) d13
   clear hb hbz d13
   have z0 := Ext.cell hJ x0
   have z1 := Ext.cell hJ x1
   have z2 := Ext.cell hJ x2
   go_simp
   exact hK0 _ rfl
  ·
   rintro us W hJ ⟨d0, d2⟩ b hb hbz K hK0 hK Qz
   have e33 := slotV (hb 0 33 rfl) d0
   have e35 := slotV (hb 2 35 rfl) d2
   clear hb hbz d0 d2
   go_simp
   exact hK0 _ rfl
  ·
   rintro us W hJ ⟨d4, d15⟩ b hb hbz K hK0 hK Qz
   have e37 := slotV (hb 4 37 rfl) d4
   have e48 := slotV (hb 15 48 rfl) d15
   clear hb hbz d4 d15
   go_simp
   exact hK0 _ rfl
 ·
  rintro us W ⟨v0, v1, v2, v3, v4, v5, v6, v7, v8, v9, v10, v11, v12, v13, v14, v15, v16, _⟩ hJ
  exact hend _ _ _ _ _ _ _ _ _ _ _ _ _ _ _ _ _ W v0 v1 v2 v3 v4 v5 v6 v7 v8 v9 v10 v11 v12 v13 v14 v15 v16 hJ
set_option maxRecDepth 100000 in
set_option maxHeartbeats 16000000 in
theorem solve_ok (S : Nat) (A : Option Addr) (n c : Nat) (ms : List Mt) (w : World) (h : MsAt w A n ms) (hv : VP S ms) :
  Calls Try.prog 124 #[.agg #[.int .i64 (S : Int), .slice A n c]] w (fun e w' => ∃ go, e = .returned (.slice (some ⟨go, 0, none⟩) S S) ∧ w.heap.size ≤ go ∧ ShP (fun w v q => NumX w v q 53) w' go 0 S (solP (3 * S) ms) ∧ Ext w w') := by
 have hS1 : 1 ≤ S := by have := hv.1; omega
 have hS8 : S ≤ 8 := by have := hv.2.1; omega
 obtain ⟨nn, hN⟩ : ∃ nn, nn = 3 * S := ⟨_, rfl⟩
 have hNb : nn ≤ 24 := by omega
 have hqN : IntKind.i64.wrap (3 * (S : Int)) = (nn : Int) := by rw [IntWalk.i64_in _ (by omega)]; omega
 have hfit := fun j hj i hi c hc => redG_fit hv.2.2.2 hv.2.2.1 hNb j hj i hi c hc
 have HFIT := hid hfit
 have H := hid h
 have HV := hid hv
 have HNN := hid hN
 rw [← hN]
 clear h hv hN hfit
 have hXe : Ext w (w.alloc (.cells #[.int .i64 (S : Int), .slice A n c] 76)) := (Ext.refl w).alloc _
 have kP : Blk (w.alloc (.cells #[.int .i64 (S : Int), .slice A n c] 76)) w.heap.size 76 #[.int .i64 (S : Int), .slice A n c] := Blk.new w _ _
 go_enter Try.func124, Try.ntmps124
 go_upto_region 1 with (fail)
 generalize w.alloc (.cells #[.int .i64 (S : Int), .slice A n c] 76) = w1 at hXe kP ⊢
 have HX := hid hXe
 have HP := hid kP
 have p0 := kP.cell 0
 have p1 := kP.cell 1
 have hpl := kP.lt
 simp only [List.getElem?_toArray, List.getElem?_cons_zero, List.getElem?_cons_succ] at p0 p1
 clear hXe kP
 go_wp2_with fail
 refine (build_ok S nn A n c ms _ (H.out.ext HX.out) HV.out HNN.out).mono ?_
 rintro e w2 ⟨gt, ct, vs0, rfl, hT, hct, hX⟩
 replace HX := hid (HX.out.trans hX)
 replace HP := hid (HP.out.ext hX)
 have hT53 : TabG 3 (Tri fun w v q => NumX w v q 53) 217 226 w1.heap.size w2 gt ct nn (nn + 1) vs0 (tabM ms nn) := hT.impl (fun i j cs _ _ hc => by
  obtain ⟨s, A, l, c, B, m, k, e, hx⟩ := hc
  exact ⟨s, A, l, c, B, m, k, e, hx.mono (by omega)⟩)
 have HT := hid hT53
 have hX2 := hX.size
 clear hT hX p0 p1 hT53
 go_upto_region 2 with (fail)
 have hXa : Ext w2 (w2.alloc (.cells #[.slice (some ⟨gt, 0, none⟩) nn ct] 201)) := (Ext.refl _).alloc _
 have kB := Blk.new w2 201 #[.slice (some ⟨gt, 0, none⟩) nn ct]
 replace HX := hid (HX.out.trans hXa)
 replace HP := hid (HP.out.ext hXa)
 have HL := hid HT.out.tabL_low
 replace HT := hid (HT.out.ext (kindNum 53) hXa)
 clear hXa
 generalize w2.alloc (.cells #[.slice (some ⟨gt, 0, none⟩) nn ct] 201) = w3 at kB HX HP HT ⊢
 have hgs : w.heap.size < w2.heap.size := by omega
 have hLS : ∀ g ∈ tabL gt vs0, w.heap.size < g ∧ g < w2.heap.size := fun g hg => by have := HL.out g hg; omega
 generalize w2.heap.size = gs at kB hgs hLS hX2 ⊢
 have HB := hid kB
 have HLS := hid hLS
 have hbl := kB.lt
 clear kB hLS HL
 have p0 := HP.out.cell 0
 simp only [List.getElem?_toArray, List.getElem?_cons_zero] at p0
 have hxs := HX.out.size
 go_upto_region 3 with (at_make; refine wpList_mkS w3 elS9 rfl _ _ rfl w.heap.size _ _ _ _ S S rfl rfl (by first | rfl | omega) (by first | rfl | omega) (Nat.le_refl _) (by omega) (by unfold maxLen; omega) hxs ?_; intro w4 us hown hz1 hz2 hext hsz)
 have hrow : RowN (fun w v q => NumX w v q 53) 263 9 w.heap.size w4 w3.heap.size S S (3 * S) (fun _ => none) := RowN.make9 hown hz1 hz2
 replace HX := hid (HX.out.trans hext)
 replace HP := hid (HP.out.ext hext)
 replace HB := hid (HB.out.ext hext)
 replace HT := hid (HT.out.ext (kindNum 53) hext)
 generalize w3.heap.size = go at hrow hbl hsz hxs ⊢
 have HR := hid hrow
 clear hrow hown hz1 hz2 hext p0
 have p0 := HP.out.cell 0
 have b0 := HB.out.cell 0
 simp only [List.getElem?_toArray, List.getElem?_cons_zero] at p0 b0
 have hsx := HX.out.size
 go_wp2_with fail
 refine (reduce_v 53 w1.heap.size gt ct nn vs0 (tabM ms nn) w4 HT.out (by omega) HFIT.out (by omega) (by omega)).mono ?_
 rintro e w5 ⟨gp, rfl, hgp, ⟨up, hup, hpn⟩, ⟨vs, hsub, hT⟩, hk⟩
 clear p0 b0
 have hni : ∀ g ∈ tabL gt vs0, NoInts w4 g := fun g hg => by
  rcases HT.out.ni with h | h
  ·
   omega
  ·
   rcases List.mem_cons.1 hg with rfl | hg
   ·
    exact h.2
   ·
    obtain ⟨v, hv, hvg⟩ := List.mem_filterMap.1 hg
    exact h.1 v hv g hvg
 replace HX := hid (hk.ext HX.out (fun g hg => by have := HLS.out g hg; omega))
 replace HP := hid (HP.out.keeps hk (fun hg => by have := HLS.out _ hg; omega))
 replace HB := hid (HB.out.keeps hk (fun hg => by have := HLS.out _ hg; omega))
 replace HR := hid (HR.out.keeps (staysNum 53) hk hni (fun hg => by have := HLS.out _ hg; omega))
 replace HT := hid hT
 have HPR : Hid (RowI w4.heap.size w5 gp nn nn (fun j => pivI ((redG nn (tabM ms nn) nn).piv[j]?))) := hid ⟨up, hup, hpn⟩
 have hps : go < w4.heap.size := by have := hsz; omega
 have HPL : Hid (∀ j, j < nn → ∀ t, (redG nn (tabM ms nn) nn).piv[j]? = some (some t) → t < nn) := hid (fun j hj t ht => by
  have h1 := Stage.pivtop (n := nn) (T := tabM ms nn) nn j t ht
  have h2 := redG_top nn (tabM ms nn) nn
  omega)
 have HSUB := hid hsub
 have HNG := hid HR.out.ni
 clear hT hup hpn hk hni hsub HFIT
 go_wp2_with fail
 go_loopg [18] nn (fun f iv wr => ∃ j : Nat, f = nn - j ∧ j ≤ nn ∧ iv = .int .i64 (j : Int) ∧ Hid (RowN (fun w v q => NumX w v q 53) 263 9 w.heap.size wr go S S (3 * S) (fun u => if u < j then some (solP nn ms u) else none)) ∧ Hid (Ext w wr) ∧ Hid (Keeps [go] w5 wr))
 case atStart => exact ⟨0, by omega, by omega, rfl, hid (HR.out.congr (fun u _ => by rw [if_neg (by omega)])), HX, hid (Keeps.refl _ _)⟩
 case round =>
  clear HR HX
  obtain ⟨j, rfl, hj, rfl, HR, HX, HK⟩ := hrel
  by_cases hlt : j < nn
  ·
   have q1 : decide (j < nn) = true := decide_eq_true hlt
   obtain ⟨ss, hss⟩ : ∃ ss, j / 3 = ss := ⟨_, rfl⟩
   obtain ⟨kk, hkk⟩ : ∃ kk, j % 3 = kk := ⟨_, rfl⟩
   have hkk3 : kk < 3 := by omega
   have hssS : ss < S := by have := HNN.out; omega
   have hpj : ss * 9 + kk * 3 = j * 3 := by omega
   have hj3 : j < 3 * S := by have := HNN.out; omega
   have HSS := hid hss
   have HKK := hid hkk
   have HPJ := hid hpj
   clear hss hkk hpj
   have hpr := HPR.out.keeps HK.out (by simp; omega)
   have xg := hpr.cell hlt
   obtain ⟨pj, hpj⟩ : ∃ pj, pivI ((redG nn (tabM ms nn) nn).piv[j]?) = pj := ⟨_, rfl⟩
   rw [hpj] at xg
   have HPV := hid hpj
   clear hpr hpj
   go_upto_region 6 with (fail)
   refine solve_r6 go S j ss kk wr HSS.out HKK.out hssS (by omega) hkk3 (by omega) _ _ (by simp) rfl rfl ?_
   rintro xv0 xv1 xv2 xv3 xv4 xv5 xv6 xv7 W rfl rfl rfl rfl rfl hv rfl rfl hX
   simp only [rops, Try.f124, regOf, Option.bind_some, Nat.reduceBEq, if_true, if_false, Bool.false_eq_true, Option.getD_some, List.drop_succ_cons, List.drop_zero]
   simp only [Act.put, List.setIfInBounds_toArray, List.set_cons_succ, List.set_cons_zero]
   replace HR := hid (HR.out.ext (staysNum 53) hX)
   replace HX := hid (HX.out.trans hX)
   replace HK := hid (HK.out.trans (Keeps.of_ext hX _))
   clear xg hX
   obtain ⟨s4, A4, l4, c4, B4, m4, k4, rfl⟩ := NumX.open hv
   have HN := hid (hv.mono (show 2 ≤ 53 by omega))
   clear hv
   obtain ⟨s2, A2, l2, c2, B2, m2, k2, x0, x1, x2, _⟩ := HR.out.cells hj3 HPJ.out
   have f0 := HR.out.free (ss * 9 + kk * 3)
   have f1 := HR.out.free (ss * 9 + kk * 3 + 1)
   have f2 := HR.out.free (ss * 9 + kk * 3 + 2)
   go_upto_region 7 with (fail)
   clear x0 x1 x2 f0 f1 f2
   have hput := HR.out.put (staysNum 53) hj3 HPJ.out HN.out
   replace HK := hid (((HK.out.setCell (p := ⟨go, ss * 9 + kk * 3, none⟩) (.inl (by simp)) (.bool s4)).setCell (p := ⟨go, ss * 9 + kk * 3 + 1, none⟩) (.inl (by simp)) (.slice A4 l4 c4)).setCell (p := ⟨go, ss * 9 + kk * 3 + 2, none⟩) (.inl (by simp)) (.slice B4 m4 k4))
   replace HX := hid (((HX.out.setCell (p := ⟨go, ss * 9 + kk * 3, none⟩) (by simp only; omega) (.bool s4)).setCell (p := ⟨go, ss * 9 + kk * 3 + 1, none⟩) (by simp only; omega) (.slice A4 l4 c4)).setCell (p := ⟨go, ss * 9 + kk * 3 + 2, none⟩) (by simp only; omega) (.slice B4 m4 k4))
   clear HN HR
   generalize ((W.setCell ⟨go, ss * 9 + kk * 3, none⟩ (.bool s4)).setCell ⟨go, ss * 9 + kk * 3 + 1, none⟩ (.slice A4 l4 c4)).setCell ⟨go, ss * 9 + kk * 3 + 2, none⟩ (.slice B4 m4 k4) = wa at hput HK HX ⊢
   have HR := hid hput
   clear hput
   have HSOL : Hid (solP nn ms j = if 0 ≤ pj then (redG nn (tabM ms nn) nn).tab pj.toNat nn else 0) := hid (by unfold solP; rw [solG_at, HPV.out])
   rcases pivI_low ((redG nn (tabM ms nn) nn).piv[j]?) with hp | ⟨t, hp1, hp2⟩
   ·
    obtain rfl : pj = -1 := by rw [← HPV.out]; exact hp
    have HS0 : Hid (solP nn ms j = 0) := hid (by rw [HSOL.out, if_neg (by omega)])
    clear hp
    go_wp2
    go_roundg (nn - (j + 1))
    case rel =>
     refine ⟨j + 1, rfl, by omega, by go_num, hid (HR.out.congr (fun u _ => ?_)), HX, HK⟩
     by_cases e : u = j
     ·
      rw [if_pos e, e, if_pos (by omega), HS0.out]; rfl
     ·
      rw [if_neg e]
      by_cases h2 : u < j
      ·
       rw [if_pos h2, if_pos (by omega)]
      ·
       rw [if_neg h2, if_neg (by omega)]
    case measure => omega
   ·
    obtain rfl : pj = (t : Int) := by rw [← HPV.out]; exact hp2
    have htn := HPL.out j hlt t hp1
    have HS0 : Hid (solP nn ms j = (redG nn (tabM ms nn) nn).tab t nn) := hid (by rw [HSOL.out, if_pos (by omega), Int.toNat_natCast])
    clear hp1 hp2
    have hTW := HT.out.keeps (kindNum 53) HK.out (fun g hg => by simp at hg; subst hg; exact HNG.out) (fun g hg => by
     simp at hg
     subst hg
     refine ⟨?_, fun v hv e => ?_⟩
     ·
      have := HLS.out gt (inL_tab gt vs0).1; omega
     ·
      have := HLS.out g ((inL_tab gt vs0).2 v (HSUB.out v hv) g e); omega)
    obtain ⟨ga, ca, ra, tca, hva, hoa, hra, ha1, ha2, hat, ha3, ha4⟩ := hTW.row (by decide) (Nat.succ_pos _) htn
    obtain ⟨s9, A9, l9, c9, B9, m9, k9, x0, x1, x2, hx⟩ := hra.three (Nat.lt_succ_self nn)
    replace x0 := own_cell hoa x0
    replace x1 := own_cell hoa x1
    replace x2 := own_cell hoa x2
    rw [← HS0.out] at hx
    have HN := hid hx
    have hbw := HB.out.keeps HK.out (by simp; omega)
    have hpw := HP.out.keeps HK.out (by simp; omega)
    clear hTW hva hoa hra ha1 ha2 hat ha3 ha4 hx
    have q7 : decide ((0 : Int) ≤ (t : Int)) = true := decide_eq_true (by omega)
    go_upto_region 8 with (fail)
    refine solve_r8 go S j ss kk gs gt ct nn t ga ca w.heap.size s9 A9 B9 l9 c9 m9 k9 wa HSS.out HKK.out hssS (by omega) hkk3 (by omega) (hbw.cell 0) tca (hpw.cell 0) hqN htn (Nat.lt_succ_self nn) (by omega) x0 x1 x2 _ _ (by simp) rfl rfl rfl rfl rfl ?_
    rintro xv0 xv1 xv2 xv3 xv4 xv5 xv6 xv7 xv8 xv9 xv10 xv11 xv12 xv13 xv14 xv15 xv16 W rfl rfl rfl rfl rfl rfl rfl rfl rfl rfl rfl rfl rfl rfl rfl rfl rfl hX
    simp only [rops, Try.f124, regOf, Option.bind_some, Nat.reduceBEq, if_true, if_false, Bool.false_eq_true, Option.getD_some, List.drop_succ_cons, List.drop_zero]
    simp only [Act.put, List.setIfInBounds_toArray, List.set_cons_succ, List.set_cons_zero]
    replace HR := hid (HR.out.ext (staysNum 53) hX)
    replace HX := hid (HX.out.trans hX)
    replace HK := hid (HK.out.trans (Keeps.of_ext hX _))
    replace HN := hid (HN.out.ext hX)
    clear x0 x1 x2 tca hbw hpw hX
    obtain ⟨s2, A2, l2, c2, B2, m2, k2, x0, x1, x2, _⟩ := HR.out.cells hj3 HPJ.out
    have f0 := HR.out.free (ss * 9 + kk * 3)
    have f1 := HR.out.free (ss * 9 + kk * 3 + 1)
    have f2 := HR.out.free (ss * 9 + kk * 3 + 2)
    have hput := HR.out.put (staysNum 53) hj3 HPJ.out HN.out
    have HPUT := hid hput
    clear hput
    go_wp2
    go_roundg (nn - (j + 1))
    case rel =>
     refine ⟨j + 1, rfl, by omega, by go_num, hid (HPUT.out.congr (fun u _ => ?_)), hid (((HX.out.setCell (by simp only; omega) _).setCell (by simp only; omega) _).setCell (by simp only; omega) _), hid (((HK.out.setCell (.inl (by simp)) _).setCell (.inl (by simp)) _).setCell (.inl (by simp)) _)⟩
     by_cases e : u = j
     ·
      rw [if_pos e, e, if_pos (by omega)]
     ·
      rw [if_neg e, if_neg e]
      by_cases h2 : u < j
      ·
       rw [if_pos h2, if_pos (by omega)]
      ·
       rw [if_neg h2, if_neg (by omega)]
    case measure => omega
  ·
   obtain rfl : nn = j := by omega
   go_wp2
   go_ret
   exact ⟨go, rfl, by omega, HR.out.shp (fun u hu => by rw [if_pos (by have := HNN.out; omega)]), HX.out⟩
theorem elR9 : Elem Try.prog 91 98 9 168 (.agg #[.bool false, .slice none 0 0, .slice none 0 0, .bool false, .slice none 0 0, .slice none 0 0, .bool false, .slice none 0 0, .slice none 0 0]) := Elem.mk' (by kernel_rfl) (by kernel_rfl) rfl (by decide)
theorem pick_agg {P : World → Value → Rat → Prop} {w : World} {k : Nat} (hk : k < 3) {s0 s1 s2 : Bool} {A0 A1 A2 B0 B1 B2 : Option Addr} {l0 c0 m0 k0 l1 c1 m1 k1 l2 c2 m2 k2 : Nat} {q : Nat → Rat} (h0 : P w (.agg #[.bool s0, .slice A0 l0 c0, .slice B0 m0 k0]) (q 0)) (h1 : P w (.agg #[.bool s1, .slice A1 l1 c1, .slice B1 m1 k1]) (q 1)) (h2 : P w (.agg #[.bool s2, .slice A2 l2 c2, .slice B2 m2 k2]) (q 2)) :
  ∃ s A l c B m n, pick3 (Value.bool s0) (Value.bool s1) (Value.bool s2) k = .bool s ∧ pick3 (Value.slice A0 l0 c0) (Value.slice A1 l1 c1) (Value.slice A2 l2 c2) k = .slice A l c ∧ pick3 (Value.slice B0 m0 k0) (Value.slice B1 m1 k1) (Value.slice B2 m2 k2) k = .slice B m n ∧ P w (.agg #[.bool s, .slice A l c, .slice B m n]) (q k) := by
 match k, hk with
 | 0, _ => exact ⟨_, _, _, _, _, _, _, rfl, rfl, rfl, h0⟩
 | 1, _ => exact ⟨_, _, _, _, _, _, _, rfl, rfl, rfl, h1⟩
 | 2, _ => exact ⟨_, _, _, _, _, _, _, rfl, rfl, rfl, h2⟩
 | _ + 3, hk => omega
theorem idx9N (x0 x1 x2 x3 x4 x5 x6 x7 x8 : Value) {k : Nat} (hk : k < 3) (w : World) : (Instr.index 263 (.agg #[x0, x1, x2, x3, x4, x5, x6, x7, x8]) (.int .i64 (k : Int))).run Try.prog w = .ok (.agg #[pick3 x0 x3 x6 k, pick3 x1 x4 x7 k, pick3 x2 x5 x8 k]) w := by
 have i0 : ∀ w : World, (Instr.index 263 (.agg #[x0, x1, x2, x3, x4, x5, x6, x7, x8]) (.int .i64 0)).run Try.prog w = .ok (.agg #[x0, x1, x2]) w := fun _ => by kernel_rfl
 have i1 : ∀ w : World, (Instr.index 263 (.agg #[x0, x1, x2, x3, x4, x5, x6, x7, x8]) (.int .i64 1)).run Try.prog w = .ok (.agg #[x3, x4, x5]) w := fun _ => by kernel_rfl
 have i2 : ∀ w : World, (Instr.index 263 (.agg #[x0, x1, x2, x3, x4, x5, x6, x7, x8]) (.int .i64 2)).run Try.prog w = .ok (.agg #[x6, x7, x8]) w := fun _ => by kernel_rfl
 match k, hk with
 | 0, _ => exact i0 w
 | 1, _ => exact i1 w
 | 2, _ => exact i2 w
 | _ + 3, hk => omega
theorem idx9R (x0 x1 x2 x3 x4 x5 x6 x7 x8 : Value) {k : Nat} (hk : k < 3) (w : World) : (Instr.index 98 (.agg #[x0, x1, x2, x3, x4, x5, x6, x7, x8]) (.int .i64 (k : Int))).run Try.prog w = .ok (.agg #[pick3 x0 x3 x6 k, pick3 x1 x4 x7 k, pick3 x2 x5 x8 k]) w := by
 have i0 : ∀ w : World, (Instr.index 98 (.agg #[x0, x1, x2, x3, x4, x5, x6, x7, x8]) (.int .i64 0)).run Try.prog w = .ok (.agg #[x0, x1, x2]) w := fun _ => by kernel_rfl
 have i1 : ∀ w : World, (Instr.index 98 (.agg #[x0, x1, x2, x3, x4, x5, x6, x7, x8]) (.int .i64 1)).run Try.prog w = .ok (.agg #[x3, x4, x5]) w := fun _ => by kernel_rfl
 have i2 : ∀ w : World, (Instr.index 98 (.agg #[x0, x1, x2, x3, x4, x5, x6, x7, x8]) (.int .i64 2)).run Try.prog w = .ok (.agg #[x6, x7, x8]) w := fun _ => by kernel_rfl
 match k, hk with
 | 0, _ => exact i0 w
 | 1, _ => exact i1 w
 | 2, _ => exact i2 w
 | _ + 3, hk => omega
set_option maxRecDepth 100000 in
set_option maxHeartbeats 2000000 in
theorem done9_r11 (go S ss kk gr : Nat) (sy : Bool) (Ay By : Option Addr) (ly cy my ky : Nat) (w : World) (x0 : w.cell? ⟨gr, 0, none⟩ = some (.bool sy)) (x1 : w.cell? ⟨gr, 1, none⟩ = some (.slice Ay ly cy)) (x2 : w.cell? ⟨gr, 2, none⟩ = some (.slice By my ky)) (_hs1 : ss < S) (_hk3 : (kk : Int) < 3) (_hk4 : kk < 3) (a : Act) (Q : Exit → Act → World → Prop) (hsize : 40 ≤ a.tmps.size)
  (s4 : a.tmps[4]? = some (.slice (some ⟨go, 0, none⟩) S S))
  (s5 : a.tmps[5]? = some (.int .i64 (ss : Int)))
  (s7 : a.tmps[7]? = some (.int .i64 (kk : Int)))
  (s9 : a.tmps[9]? = some (.pointer (some ⟨gr, 0, none⟩)))
  (hend : ∀ (xv0 xv1 xv2 xv3 xv4 xv5 : Value) (W : World), (xv0 = .slice (some ⟨go, 0, none⟩) S S) → (xv1 = .int .i64 (ss : Int)) → (xv2 = .int .i64 (kk : Int)) → (xv3 = .agg #[.bool sy, .slice Ay ly cy, .slice By my ky]) → (xv4 = .pointer (some ⟨go, ss * 9, none⟩)) → (xv5 = .pointer (some ⟨go, ss * 9 + kk * 3, none⟩)) → Ext w W → wpList Try.prog (rops Try.f125 11).toArray Q ((rops Try.f125 11).drop 6) ((((((a.put (some 34) xv0).put (some 35) xv1).put (some 36) xv2).put (some 37) xv3).put (some 38) xv4).put (some 39) xv5) W) :
  (Code.region 11 (rops Try.f125 11).toArray true).wp Try.prog Q a w := by
 refine wp_region_k 6 [some 34, some 35, some 36, some 37, some 38, some 39] [[], [], [], [], [0, 1], [2, 4]] [eqv (.slice (some ⟨go, 0, none⟩) S S), eqv (.int .i64 (ss : Int)), eqv (.int .i64 (kk : Int)), eqv (.agg #[.bool sy, .slice Ay ly cy, .slice By my ky]), eqv (.pointer (some ⟨go, ss * 9, none⟩)), eqv (.pointer (some ⟨go, ss * 9 + kk * 3, none⟩))] (by kernel_rfl) (by kernel_rfl) rfl (by decide) hsize ⟨monC, monC, monC, monC, monC, monC, trivial⟩ ?_ ?_
 ·
  clear hend
  simp only [rops, Try.f125, regOf, Option.bind_some, Nat.reduceBEq, if_true, if_false, Bool.false_eq_true, Option.getD_some]
  simp only [List.take_succ_cons, List.take_zero]
  refine ⟨?_, ?_, ?_, ?_, ?_, ?_, trivial⟩
  ·
   rintro us W hJ _ b hb hbz K hK0 hK Qz
   have e4 := (hbz 4 (by simp)).trans s4
   clear hb hbz
   go_simp
   exact hK0 _ rfl
  ·
   rintro us W hJ _ b hb hbz K hK0 hK Qz
   have e5 := (hbz 5 (by simp)).trans s5
   clear hb hbz
   go_simp
   exact hK0 _ rfl
  ·
   rintro us W hJ _ b hb hbz K hK0 hK Qz
   have e7 := (hbz 7 (by simp)).trans s7
   clear hb hbz
   go_simp
   exact hK0 _ rfl
  ·
   rintro us W hJ _ b hb hbz K hK0 hK Qz
   have e9 := (hbz 9 (by simp)).trans s9
   clear hb hbz
   have z0 := Ext.cell hJ x0
   have z1 := Ext.cell hJ x1
   have z2 := Ext.cell hJ x2
   go_simp
   exact hK0 _ rfl
  ·
   rintro us W hJ ⟨d0, d1⟩ b hb hbz K hK0 hK Qz
   have e34 := slotV (hb 0 34 rfl) d0
   have e35 := slotV (hb 1 35 rfl) d1
   clear hb hbz d0 d1
   go_simp
   exact hK0 _ rfl
  ·
   rintro us W hJ ⟨d2, d4⟩ b hb hbz K hK0 hK Qz
   have e36 := slotV (hb 2 36 rfl) d2
   have e38 := slotV (hb 4 38 rfl) d4
   clear hb hbz d2 d4
   go_simp
   exact hK0 _ rfl
 ·
  rintro us W ⟨v0, v1, v2, v3, v4, v5, _⟩ hJ
  exact hend _ _ _ _ _ _ W v0 v1 v2 v3 v4 v5 hJ
set_option maxRecDepth 100000 in
set_option maxHeartbeats 16000000 in
theorem done_S (L gt ot S ct : Nat) (u : Nat → Rat) (w : World) (hS : ShP (fun w v q => NumX w v q L) w gt ot S u) (_hL : L ≤ 100000) (hf : ∀ j, j < 3 * S → FitQW (u j)) (_hS8 : S ≤ 1000) :
  Calls Try.prog 125 #[.slice (some ⟨gt, ot, none⟩) S ct] w (fun e w' => ∃ go, e = .returned (.tuple #[.slice (some ⟨go, 0, none⟩) S S, .int .i64 0]) ∧ w.heap.size ≤ go ∧ ShP RatC w' go 0 S u ∧ Ext w w') := by
 have HS := hid hS
 have HF := hid hf
 clear hS hf
 go_enter Try.func125, Try.ntmps125
 go_upto_region 1 with (fail)
 go_upto_region 2 with (at_make; refine wpList_mkS w elR9 rfl _ _ rfl w.heap.size _ _ _ _ S S rfl rfl (by first | rfl | omega) (by first | rfl | omega) (Nat.le_refl _) (by omega) (by unfold maxLen; omega) (Nat.le_refl _) ?_; intro w4 us hown hz1 hz2 hext hsz)
 have hrow : RowN RatC 98 9 w.heap.size w4 w.heap.size S S (3 * S) (fun _ => none) := RowN.make9 hown hz1 hz2
 have HR : Hid (RowN RatC 98 9 w.heap.size w4 w.heap.size S S (3 * S) (fun _ => none)) := hid hrow
 have HX := hid hext
 clear hrow hown hz1 hz2 hext
 go_wp2_with fail
 go_loopg [16] S (fun f iv wr => ∃ i : Nat, f = S - i ∧ i ≤ S ∧ iv = .int .i64 (i : Int) ∧ Hid (RowN RatC 98 9 w.heap.size wr w.heap.size S S (3 * S) (fun j => if j < 3 * i then some (u j) else none)) ∧ Hid (Ext w wr))
 case atStart => exact ⟨0, by omega, by omega, rfl, hid (HR.out.congr (fun j _ => by rw [if_neg (by omega)])), HX⟩
 case round =>
  clear HR HX hsz
  obtain ⟨i, rfl, hi, rfl, HR, HX⟩ := hrel
  by_cases hlt : i < S
  ·
   have q1 : decide (i < S) = true := decide_eq_true hlt
   obtain ⟨s0, A0, l0, c0, B0, m0, k0, a0, b0, d0, e0⟩ := HS.out i 0 hlt (by omega)
   replace a0 := HX.out.cell a0
   replace b0 := HX.out.cell b0
   replace d0 := HX.out.cell d0
   obtain ⟨s1, A1, l1, c1, B1, m1, k1, a1, b1, d1, e1⟩ := HS.out i 1 hlt (by omega)
   replace a1 := HX.out.cell a1
   replace b1 := HX.out.cell b1
   replace d1 := HX.out.cell d1
   obtain ⟨s2, A2, l2, c2, B2, m2, k2, a2, b2, d2, e2⟩ := HS.out i 2 hlt (by omega)
   replace a2 := HX.out.cell a2
   replace b2 := HX.out.cell b2
   replace d2 := HX.out.cell d2
   have HE0 := hid e0
   have HE1 := hid e1
   have HE2 := hid e2
   clear e0 e1 e2
   simp only [Nat.zero_mul, Nat.add_zero, Nat.one_mul] at a0 b0 d0 a1 b1 d1
   have e3 : ot + i * 9 + 3 + 1 = ot + i * 9 + 4 := by omega
   have e4 : ot + i * 9 + 3 + 2 = ot + i * 9 + 5 := by omega
   have e6 : ot + i * 9 + 2 * 3 = ot + i * 9 + 6 := by omega
   have e7 : ot + i * 9 + 2 * 3 + 1 = ot + i * 9 + 7 := by omega
   have e8 : ot + i * 9 + 2 * 3 + 2 = ot + i * 9 + 8 := by omega
   rw [e3] at b1
   rw [e4] at d1
   rw [e7] at b2
   rw [e8] at d2
   rw [e6] at a2
   clear e3 e4 e6 e7 e8
   go_upto_region 5 with (fail)
   have hXa : Ext wr (wr.alloc (.cells #[.bool s0, .slice A0 l0 c0, .slice B0 m0 k0, .bool s1, .slice A1 l1 c1, .slice B1 m1 k1, .bool s2, .slice A2 l2 c2, .slice B2 m2 k2] 263)) := (Ext.refl _).alloc _
   have kB := Blk.new wr 263 #[.bool s0, .slice A0 l0 c0, .slice B0 m0 k0, .bool s1, .slice A1 l1 c1, .slice B1 m1 k1, .bool s2, .slice A2 l2 c2, .slice B2 m2 k2]
   replace HR := hid (HR.out.ext staysC hXa)
   replace HX := hid (HX.out.trans hXa)
   clear hXa a0 b0 d0 a1 b1 d1 a2 b2 d2
   generalize wr.heap.size = gv at kB ⊢
   generalize wr.alloc (.cells #[.bool s0, .slice A0 l0 c0, .slice B0 m0 k0, .bool s1, .slice A1 l1 c1, .slice B1 m1 k1, .bool s2, .slice A2 l2 c2, .slice B2 m2 k2] 263) = w5 at kB HR HX ⊢
   have y0 := kB.cell 0
   have y1 := kB.cell 1
   have y2 := kB.cell 2
   have y3 := kB.cell 3
   have y4 := kB.cell 4
   have y5 := kB.cell 5
   have y6 := kB.cell 6
   have y7 := kB.cell 7
   have y8 := kB.cell 8
   simp only [List.getElem?_toArray, List.getElem?_cons_zero, List.getElem?_cons_succ] at y0 y1 y2 y3 y4 y5 y6 y7 y8
   clear kB
   go_wp2_with fail
   clear y0 y1 y2 y3 y4 y5 y6 y7 y8
   go_loopg [22] 3 (fun f kv wr => ∃ k : Nat, f = 3 - k ∧ k ≤ 3 ∧ kv = .int .i64 (k : Int) ∧ Hid (RowN RatC 98 9 w.heap.size wr w.heap.size S S (3 * S) (fun j => if j < 3 * i + k then some (u j) else none)) ∧ Hid (Ext w wr))
   case atStart => exact ⟨0, by omega, by omega, rfl, HR, HX⟩
   case round =>
    clear HR HX
    obtain ⟨k, rfl, hk, rfl, HR, HX⟩ := hrel
    by_cases hkl : k < 3
    ·
     have q2 : decide (k < 3) = true := decide_eq_true hkl
     obtain ⟨s9, A9, l9, c9, B9, m9, k9, g1, g2, g3, hq⟩ := pick_agg (P := fun w v q => NumX w v q L) (w := wr) (q := fun k => u (3 * i + k)) hkl (HE0.out.ext HX.out) (HE1.out.ext HX.out) (HE2.out.ext HX.out)
     have ik := idx9N (.bool s0) (.slice A0 l0 c0) (.slice B0 m0 k0) (.bool s1) (.slice A1 l1 c1) (.slice B1 m1 k1) (.bool s2) (.slice A2 l2 c2) (.slice B2 m2 k2) hkl
     rw [g1, g2, g3] at ik
     have HQ := hid hq
     clear hq g1 g2 g3
     have hj3 : 3 * i + k < 3 * S := by omega
     have HFQ := hid (HF.out _ hj3)
     go_upto_region 8 with (fail)
     have hXa : Ext wr (wr.alloc (.cells #[.bool s9, .slice A9 l9 c9, .slice B9 m9 k9] 217)) := (Ext.refl _).alloc _
     have kB := Blk.new wr 217 #[.bool s9, .slice A9 l9 c9, .slice B9 m9 k9]
     replace HR := hid (HR.out.ext staysC hXa)
     replace HX := hid (HX.out.trans hXa)
     replace HQ := hid (HQ.out.ext hXa)
     clear hXa
     generalize wr.heap.size = gn at kB ⊢
     generalize wr.alloc (.cells #[.bool s9, .slice A9 l9 c9, .slice B9 m9 k9] 217) = w6 at kB HR HX HQ ⊢
     have y0 := kB.cell 0
     have y1 := kB.cell 1
     have y2 := kB.cell 2
     simp only [List.getElem?_toArray, List.getElem?_cons_zero, List.getElem?_cons_succ] at y0 y1 y2
     clear kB
     go_wp2_with fail
     refine (doneG HQ.out (by omega) HFQ.out).mono ?_
     rintro e w7 ⟨v7, rfl, hv, hX⟩
     obtain ⟨s4, A4, l4, c4, B4, m4, k4, rfl⟩ := RatC.open hv
     clear y0 y1 y2 HQ
     replace HR := hid (HR.out.ext staysC hX)
     replace HX := hid (HX.out.trans hX)
     clear hX
     have HV := hid hv
     clear hv
     go_upto_region 9 with (fail)
     have hXa : Ext w7 (w7.alloc (.cells #[.bool s4, .slice A4 l4 c4, .slice B4 m4 k4] 97)) := (Ext.refl _).alloc _
     have kB := Blk.new w7 97 #[.bool s4, .slice A4 l4 c4, .slice B4 m4 k4]
     replace HR := hid (HR.out.ext staysC hXa)
     replace HX := hid (HX.out.trans hXa)
     replace HV := hid (HV.out.ext hXa)
     clear hXa
     generalize w7.heap.size = gn2 at kB ⊢
     generalize w7.alloc (.cells #[.bool s4, .slice A4 l4 c4, .slice B4 m4 k4] 97) = w8 at kB HR HX HV ⊢
     have KB := hid kB
     clear kB
     go_upto_region 11 with (fail)
     refine done9_r11 w.heap.size S i k gn2 s4 A4 B4 l4 c4 m4 k4 w8 (KB.out.cell 0) (KB.out.cell 1) (KB.out.cell 2) hlt (by omega) hkl _ _ (by simp) rfl rfl rfl rfl ?_
     rintro xv0 xv1 xv2 xv3 xv4 xv5 W rfl rfl rfl rfl rfl rfl hX
     simp only [rops, Try.f125, regOf, Option.bind_some, Nat.reduceBEq, if_true, if_false, Bool.false_eq_true, Option.getD_some, List.drop_succ_cons, List.drop_zero]
     simp only [Act.put, List.setIfInBounds_toArray, List.set_cons_succ, List.set_cons_zero]
     replace HR := hid (HR.out.ext staysC hX)
     replace HX := hid (HX.out.trans hX)
     replace HV := hid (HV.out.ext hX)
     clear hX KB
     have hpj : i * 9 + k * 3 = (3 * i + k) * 3 := by omega
     obtain ⟨s2, A2, l2, c2, B2, m2, k2, z0, z1, z2, _⟩ := HR.out.cells hj3 hpj
     have f0 := HR.out.free (i * 9 + k * 3)
     have f1 := HR.out.free (i * 9 + k * 3 + 1)
     have f2 := HR.out.free (i * 9 + k * 3 + 2)
     have HPUT := hid (HR.out.put staysC hj3 hpj HV.out)
     clear hpj
     go_wp2
     go_roundg (3 - (k + 1))
     case rel =>
      refine ⟨k + 1, rfl, by omega, by go_num, hid (HPUT.out.congr (fun j _ => ?_)), hid (((HX.out.setCell (by simp only; omega) _).setCell (by simp only; omega) _).setCell (by simp only; omega) _)⟩
      by_cases e : j = 3 * i + k
      ·
       rw [if_pos e, e, if_pos (by omega)]
      ·
       rw [if_neg e]
       by_cases h2 : j < 3 * i + k
       ·
        rw [if_pos h2, if_pos (by omega)]
       ·
        rw [if_neg h2, if_neg (by omega)]
     case measure => omega
    ·
     obtain rfl : k = 3 := by omega
     go_wp2
     go_roundg (S - (i + 1))
     case rel => exact ⟨i + 1, rfl, by omega, by go_num, hid (HR.out.congr (fun j _ => by rw [show 3 * (i + 1) = 3 * i + 3 by omega])), HX⟩
     case measure => omega
  ·
   obtain rfl : i = S := by omega
   go_wp2
   go_ret2
   exact ⟨w.heap.size, rfl, by omega, HR.out.shp (fun j hj => by rw [if_pos hj]), HX.out⟩
end Go.Proofs.Ytikhlcgnlbinfaa
namespace Go.Proofs.Ytikhlcgnlbinfaa
open Lib (hid)
open Go.ChangeShapes Go.WideShapes Go.ChangeAt Go.RowKit Go.Joins
/-- The cells of a struct that came in. -/
theorem agg_cellsZ {P : Program} {W : World} {H : Type} {enc : TypeId × Value → H} {t : TypeId} {fs : Array Field} {v : Value} {d : DataW H} {p : List MemPlace} {b base : Nat} {sp : Nat → Bool} {hd : Bool} (hs : P.underlying t = some (.struct fs))
  (hv : Value.okWide P W .any base t v) (h : DataW.Trod enc P W b sp hd t v d p) : ∃ cs fuel z, v = .agg cs ∧ cs.toList.length = P.cellsOf t ∧ DataW.trod enc P W b sp hd fuel t cs.toList = some z := by
 obtain ⟨cs, rfl, hsz⟩ := okWide_struct hs hv
 obtain ⟨fuel, hf⟩ := h
 exact ⟨cs, fuel, _, rfl, by simpa using hsz, by simpa [Value.cells] using hf⟩
theorem csR_mtV {vs : List Value} {ms : List Mt} (h : CsR (fun cs m => cs = m.cells) vs ms) : vs = mtV ms := by
 induction ms generalizing vs with
 | nil => exact h
 | cons m ms ih =>
  obtain ⟨cs, rest, rfl, rfl, h3⟩ := h
  rw [ih h3]; rfl
theorem listZ7 {α : Type} {cs : List α} (h : cs.length = 7) : ∃ c0 c1 c2 c3 c4 c5 c6, cs = [c0, c1, c2, c3, c4, c5, c6] := by
 match cs, h with
 | [c0, c1, c2, c3, c4, c5, c6], _ => exact ⟨c0, c1, c2, c3, c4, c5, c6, rfl⟩
set_option maxRecDepth 100000 in
set_option maxHeartbeats 1000000 in
theorem mt_el {W : World} {H : Type} {enc : TypeId × Value → H} {fuel : Nat} {cs : List Value} {z : DataW H × List MemPlace} {b : Nat} {sp : Nat → Bool} {hd : Bool} (hl : cs.length = 7) (hf' : DataW.trod enc Try.prog W b sp hd fuel 90 cs = some z) : ∃ m : Mt, cs = m.cells := by
 obtain ⟨c0, c1, c2, c3, c4, c5, c6, rfl⟩ := listZ7 hl
 obtain ⟨xs1, n1, _, _, _, hl1, hg1⟩ := DataW.trod_struct Try.underlying90 hf'
 have g1_0 : DataW.trod enc Try.prog W b sp hd n1 3 [c0] = xs1[0]? := by
  have h := hg1 0 _ rfl
  rw [show Try.prog.cellsOf _ = 1 by kernel_rfl] at h
  exact h
 rw [List.getElem?_eq_getElem (by rw [hl1]; decide)] at g1_0
 obtain ⟨vc0, ec0, _, wc0⟩ := DataW.trod_int Try.underlying3 g1_0
 simp only [List.cons.injEq, and_true] at ec0
 subst ec0
 have g1_1 : DataW.trod enc Try.prog W b sp hd n1 3 [c1] = xs1[1]? := by
  have h := hg1 1 _ rfl
  rw [show Try.prog.cellsOf _ = 1 by kernel_rfl] at h
  exact h
 rw [List.getElem?_eq_getElem (by rw [hl1]; decide)] at g1_1
 obtain ⟨vc1, ec1, _, wc1⟩ := DataW.trod_int Try.underlying3 g1_1
 simp only [List.cons.injEq, and_true] at ec1
 subst ec1
 have g1_2 : DataW.trod enc Try.prog W b sp hd n1 22 [c2, c3, c4] = xs1[2]? := by
  have h := hg1 2 _ rfl
  rw [show Try.prog.cellsOf _ = 3 by kernel_rfl] at h
  exact h
 rw [List.getElem?_eq_getElem (by rw [hl1]; decide)] at g1_2
 obtain ⟨xs4, n4, _, _, _, hl4, hg4⟩ := DataW.trod_array Try.underlying22 g1_2
 have g4_0 : DataW.trod enc Try.prog W b sp hd n4 3 [c2] = xs4[0]? := by
  have h := hg4 0 (by decide)
  rw [show Try.prog.cellsOf _ = 1 by kernel_rfl] at h
  exact h
 rw [List.getElem?_eq_getElem (by rw [hl4]; decide)] at g4_0
 obtain ⟨vc2, ec2, _, wc2⟩ := DataW.trod_int Try.underlying3 g4_0
 simp only [List.cons.injEq, and_true] at ec2
 subst ec2
 have g4_1 : DataW.trod enc Try.prog W b sp hd n4 3 [c3] = xs4[1]? := by
  have h := hg4 1 (by decide)
  rw [show Try.prog.cellsOf _ = 1 by kernel_rfl] at h
  exact h
 rw [List.getElem?_eq_getElem (by rw [hl4]; decide)] at g4_1
 obtain ⟨vc3, ec3, _, wc3⟩ := DataW.trod_int Try.underlying3 g4_1
 simp only [List.cons.injEq, and_true] at ec3
 subst ec3
 have g4_2 : DataW.trod enc Try.prog W b sp hd n4 3 [c4] = xs4[2]? := by
  have h := hg4 2 (by decide)
  rw [show Try.prog.cellsOf _ = 1 by kernel_rfl] at h
  exact h
 rw [List.getElem?_eq_getElem (by rw [hl4]; decide)] at g4_2
 obtain ⟨vc4, ec4, _, wc4⟩ := DataW.trod_int Try.underlying3 g4_2
 simp only [List.cons.injEq, and_true] at ec4
 subst ec4
 have g1_3 : DataW.trod enc Try.prog W b sp hd n1 3 [c5] = xs1[3]? := by
  have h := hg1 3 _ rfl
  rw [show Try.prog.cellsOf _ = 1 by kernel_rfl] at h
  exact h
 rw [List.getElem?_eq_getElem (by rw [hl1]; decide)] at g1_3
 obtain ⟨vc5, ec5, _, wc5⟩ := DataW.trod_int Try.underlying3 g1_3
 simp only [List.cons.injEq, and_true] at ec5
 subst ec5
 have g1_4 : DataW.trod enc Try.prog W b sp hd n1 3 [c6] = xs1[4]? := by
  have h := hg1 4 _ rfl
  rw [show Try.prog.cellsOf _ = 1 by kernel_rfl] at h
  exact h
 rw [List.getElem?_eq_getElem (by rw [hl1]; decide)] at g1_4
 obtain ⟨vc6, ec6, _, wc6⟩ := DataW.trod_int Try.underlying3 g1_4
 simp only [List.cons.injEq, and_true] at ec6
 subst ec6
 exact ⟨⟨vc0, vc1, vc2, vc3, vc4, vc5, vc6⟩, rfl⟩
theorem listZ2 {α : Type} {cs : List α} (h : cs.length = 2) : ∃ c0 c1, cs = [c0, c1] := by
 match cs, h with
 | [c0, c1], _ => exact ⟨c0, c1, rfl⟩
set_option maxRecDepth 100000 in
theorem prob_open {W : World} {H : Type} {enc : TypeId × Value → H} {v : Value} {d : DataW H} {p : List MemPlace} {b base : Nat} {sp : Nat → Bool} {hd : Bool} (hv : Value.okWide Try.prog W .any base 76 v) (h : DataW.Trod enc Try.prog W b sp hd 76 v d p) : ∃ (S : Int) (A : Option Addr) (n c : Nat) (ms : List Mt), v = .agg #[.int .i64 S, .slice A n c] ∧ MsAt W A n ms ∧ n ≤ c ∧ c ≤ 9223372036854775807 := by
 obtain ⟨cs, fuel, z, rfl, hl, hf⟩ := agg_cellsZ Try.underlying76 hv h
 obtain ⟨c0, c1, he⟩ := listZ2 (hl.trans (by kernel_rfl))
 rw [he] at hf
 obtain ⟨xs1, n1, _, _, _, hl1, hg1⟩ := DataW.trod_struct Try.underlying76 hf
 have g0 : DataW.trod enc Try.prog W b sp hd n1 3 [c0] = xs1[0]? := by
  have h := hg1 0 _ rfl
  rw [show Try.prog.cellsOf _ = 1 by kernel_rfl] at h
  exact h
 rw [List.getElem?_eq_getElem (by rw [hl1]; decide)] at g0
 have g1 : DataW.trod enc Try.prog W b sp hd n1 74 [c1] = xs1[1]? := by
  have h := hg1 1 _ rfl
  rw [show Try.prog.cellsOf _ = 1 by kernel_rfl] at h
  exact h
 rw [List.getElem?_eq_getElem (by rw [hl1]; decide)] at g1
 obtain ⟨v0, e0, _, w0⟩ := DataW.trod_int Try.underlying3 g0
 simp only [List.cons.injEq, and_true] at e0
 subst e0
 obtain ⟨A, l, m, e1⟩ := slice_form Try.underlying74 g1
 simp only [List.cons.injEq, and_true] at e1
 subst e1
 obtain ⟨ms, vs, h1, h2, h3, h4, h5⟩ := slice_trod (k := 7) (R := fun cs (m : Mt) => cs = m.cells) Try.underlying74 (by kernel_rfl) (fun cs m e => by rw [e]; rfl) (fun fuel cs z hl hz => mt_el hl hz) g1
 rw [csR_mtV h2] at h3
 exact ⟨v0, A, l, m, ms, congrArg Value.agg (Array.toList_inj.1 he), ⟨h1, h3⟩, h4, h5⟩
end Go.Proofs.Ytikhlcgnlbinfaa
namespace Go.Proofs.Ytikhlcgnlbinfaa
open Lib (hid)
open Go.RowKit
theorem i64_wf {x : Int} (_h : -9223372036854775808 ≤ x ∧ x ≤ 9223372036854775807) : (Lit.int .i64 x).wf = true := by
 simp [Lit.wf, IntKind.min, IntKind.max, IntKind.bits, IntKind.signed]; omega
/-- A row of integers reads as a list. -/
theorem RowI.ints {base g n c : Nat} {w : World} {f : Nat → Int} (h : RowI base w g n c f) (hb : ∀ j, j < n → -9223372036854775808 ≤ f j ∧ f j ≤ 9223372036854775807) : Ints .i64 w (some ⟨g, 0, none⟩) n ((List.range n).map f) := by
 refine ⟨by simp, fun x hx => ?_, ?_⟩
 ·
  obtain ⟨j, hj, rfl⟩ := List.mem_map.1 hx
  exact i64_wf (hb j (List.mem_range.1 hj))
 ·
  have := At.of_own h.list
  rw [List.map_map]
  exact this
theorem TabG.rowI {base gt ct m n : Nat} {w : World} {vs : List Value} {T : Nat → Nat → Int} (h : TabG 1 Uno 3 61 base w gt ct m n vs T) (h0 : 0 < n) {i : Nat} (hi : i < m) : ∃ g c, w.cell? ⟨gt, i, none⟩ = some (.slice (some ⟨g, 0, none⟩) n c) ∧ RowI base w g n c (T i) := by
 obtain ⟨g, c, r, h1, h2, h3, h4, _⟩ := h.row (by decide) h0 hi
 exact ⟨g, c, h1, r, h3, h4⟩
set_option maxRecDepth 100000 in
set_option maxHeartbeats 2000000 in
theorem samI5_r6 (b1 o1 c1 b2 o2 c2 n k : Nat) (x : Int) (w : World) (y1 : w.cell? ⟨b1, o1 + k, none⟩ = some (.int .i64 x)) (y2 : w.cell? ⟨b2, o2 + k, none⟩ = some (.int .i64 x)) (_hk : k < n) (a : Act) (Q : Exit → Act → World → Prop) (hsize : 26 ≤ a.tmps.size)
  (s0 : a.tmps[0]? = some (.slice (some ⟨b1, o1, none⟩) n c1))
  (s1 : a.tmps[1]? = some (.slice (some ⟨b2, o2, none⟩) n c2))
  (s5 : a.tmps[5]? = some (.int .i64 (k : Int)))
  (hend : ∀ (xv0 xv1 xv2 xv3 xv4 xv5 xv6 xv7 xv8 : Value) (W : World), (xv0 = .slice (some ⟨b1, o1, none⟩) n c1) → (xv1 = .int .i64 (k : Int)) → (xv2 = .pointer (some ⟨b1, o1 + k, none⟩)) → (xv3 = .int .i64 x) → (xv4 = .slice (some ⟨b2, o2, none⟩) n c2) → (xv5 = .int .i64 (k : Int)) → (xv6 = .pointer (some ⟨b2, o2 + k, none⟩)) → (xv7 = .int .i64 x) → (xv8 = .bool false) → Ext w W → wpList Try.prog (rops Try.f46 6).toArray Q ((rops Try.f46 6).drop 9) (((((((((a.put (some 17) xv0).put (some 18) xv1).put (some 19) xv2).put (some 20) xv3).put (some 21) xv4).put (some 22) xv5).put (some 23) xv6).put (some 24) xv7).put (some 25) xv8) W) :
  (Code.region 6 (rops Try.f46 6).toArray true).wp Try.prog Q a w := by
 refine wp_region_k 9 [some 17, some 18, some 19, some 20, some 21, some 22, some 23, some 24, some 25] [[], [], [0, 1], [2], [], [], [4, 5], [6], [3, 7]] [eqv (.slice (some ⟨b1, o1, none⟩) n c1), eqv (.int .i64 (k : Int)), eqv (.pointer (some ⟨b1, o1 + k, none⟩)), eqv (.int .i64 x), eqv (.slice (some ⟨b2, o2, none⟩) n c2), eqv (.int .i64 (k : Int)), eqv (.pointer (some ⟨b2, o2 + k, none⟩)), eqv (.int .i64 x), eqv (.bool false)] (by kernel_rfl) (by kernel_rfl) rfl (by decide) hsize ⟨monC, monC, monC, monC, monC, monC, monC, monC, monC, trivial⟩ ?_ ?_
 ·
  clear hend
  simp only [rops, Try.f46, regOf, Option.bind_some, Nat.reduceBEq, if_true, if_false, Bool.false_eq_true, Option.getD_some]
  simp only [List.take_succ_cons, List.take_zero]
  refine ⟨?_, ?_, ?_, ?_, ?_, ?_, ?_, ?_, ?_, trivial⟩
  ·
   rintro us W hJ _ b hb hbz K hK0 hK Qz
   have e0 := (hbz 0 (by simp)).trans s0
   clear hb hbz
   go_simp
   exact hK0 _ rfl
  ·
   rintro us W hJ _ b hb hbz K hK0 hK Qz
   have e5 := (hbz 5 (by simp)).trans s5
   clear hb hbz
   go_simp
   exact hK0 _ rfl
  ·
   rintro us W hJ ⟨d0, d1⟩ b hb hbz K hK0 hK Qz
   have e17 := slotV (hb 0 17 rfl) d0
   have e18 := slotV (hb 1 18 rfl) d1
   clear hb hbz d0 d1
   go_simp
   exact hK0 _ rfl
  ·
   rintro us W hJ d2 b hb hbz K hK0 hK Qz
   have e19 := slotV (hb 2 19 rfl) d2
   clear hb hbz d2
   have q := Ext.cell hJ y1
   go_simp
   exact hK0 _ rfl
  ·
   rintro us W hJ _ b hb hbz K hK0 hK Qz
   have e1 := (hbz 1 (by simp)).trans s1
   clear hb hbz
   go_simp
   exact hK0 _ rfl
  ·
   rintro us W hJ _ b hb hbz K hK0 hK Qz
   have e5 := (hbz 5 (by simp)).trans s5
   clear hb hbz
   go_simp
   exact hK0 _ rfl
  ·
   rintro us W hJ ⟨d4, d5⟩ b hb hbz K hK0 hK Qz
   have e21 := slotV (hb 4 21 rfl) d4
   have e22 := slotV (hb 5 22 rfl) d5
   clear hb hbz d4 d5
   go_simp
   exact hK0 _ rfl
  ·
   rintro us W hJ d6 b hb hbz K hK0 hK Qz
   have e23 := slotV (hb 6 23 rfl) d6
   clear hb hbz d6
   have q := Ext.cell hJ y2
   go_simp
   exact hK0 _ rfl
  ·
   rintro us W hJ ⟨d3, d7⟩ b hb hbz K hK0 hK Qz
   have e20 := slotV (hb 3 20 rfl) d3
   have e24 := slotV (hb 7 24 rfl) d7
   clear hb hbz d3 d7
   go_simp
   exact hK0 _ rfl
 ·
  rintro us W ⟨v0, v1, v2, v3, v4, v5, v6, v7, v8, _⟩ hJ
  exact hend _ _ _ _ _ _ _ _ _ W v0 v1 v2 v3 v4 v5 v6 v7 v8 hJ
set_option maxRecDepth 100000 in
set_option maxHeartbeats 2000000 in
theorem samI5_eq (A B : Option Addr) (n c d : Nat) (xs : List Int) (w : World) (hA : Ints .i64 w A n xs) (hB : Ints .i64 w B n xs) (_hn : n ≤ 1000000) :
  Calls Try.prog 46 #[.slice A n c, .slice B n d] w fun e w' => e = .returned (.bool true) ∧ Ext w w' := by
 have HA := hid hA
 have HB := hid hB
 clear hA hB
 have hnn : ((n : Int) != (n : Int)) = false := by simp
 go_enter Try.func46, Try.ntmps46
 go_wp2
 go_loopg [5] n (fun g i wr => ∃ k : Nat, g = n - k ∧ k ≤ n ∧ i = .int .i64 k ∧ Ext w wr)
 case atStart => exact ⟨0, rfl, by omega, rfl, Ext.refl w⟩
 case round =>
  obtain ⟨k, rfl, hk, rfl, hX⟩ := hrel
  have HX := hid hX
  clear hX
  by_cases hlt : k < n
  ·
   have q1 : decide ((k : Int) < (n : Int)) = true := decide_eq_true (by omega)
   obtain ⟨b, o, x, rfl, hx, _, hc1⟩ := (HA.out.ext HX.out).get hlt
   obtain ⟨b', o', x', rfl, hx', _, hc2⟩ := (HB.out.ext HX.out).get hlt
   obtain rfl : x' = x := by rw [hx] at hx'; exact (Option.some.inj hx').symm
   clear hx hx'
   go_upto_region 6 with (fail)
   refine samI5_r6 b o c b' o' d n k x' wr hc1 hc2 hlt _ _ (by simp) rfl rfl rfl ?_
   rintro xv0 xv1 xv2 xv3 xv4 xv5 xv6 xv7 xv8 W rfl rfl rfl rfl rfl rfl rfl rfl rfl hXW
   simp only [rops, Try.f46, regOf, Option.bind_some, Nat.reduceBEq, if_true, if_false, Bool.false_eq_true, Option.getD_some, List.drop_succ_cons, List.drop_zero]
   simp only [Act.put, List.setIfInBounds_toArray, List.set_cons_succ, List.set_cons_zero]
   have HXW := hid (HX.out.trans hXW)
   clear hXW hc1 hc2
   go_wp2
   go_roundg (n - (k + 1))
   case rel => exact ⟨k + 1, rfl, by omega, by go_num, HXW.out⟩
   case measure => omega
  ·
   obtain rfl : k = n := by omega
   have q1 : decide ((k : Int) < (k : Int)) = false := by simp
   go_wp2
   go_ret
   exact ⟨rfl, HX.out⟩
end Go.Proofs.Ytikhlcgnlbinfaa
namespace Go.Proofs.Ytikhlcgnlbinfaa
open Lib (hid)
def zR (ms : List Mt) (n j i c : Nat) : Int := zt (redG n (tabM ms n) j) i c
def lR (ms : List Mt) (n j : Nat) : Int := zl (redG n (tabM ms n) j)
def kR (ms : List Mt) (n j : Nat) : List Nat := (redG n (tabM ms n) j).cols
theorem zR_zero (ms : List Mt) (n i c : Nat) : zR ms n 0 i c = if c = n then eqR ms i else eqN ms i c := by
 show ((1 : Rat) * tabM ms n i c).num = _
 rw [Rat.one_mul]
 unfold tabM
 split
 ·
  exact Rat.num_intCast _
 ·
  exact Rat.num_intCast _
section
variable {S : Int} {ms : List Mt} {n j : Nat}
theorem zR_fit (h : ∀ m ∈ ms, VM S m) (hl : ms.length ≤ 64) (hn : n ≤ 24) (hj : j ≤ n) {i c : Nat} (hi : i < n) (hc : c ≤ n) : Fit 65536 (zR ms n j i c).natAbs 106 := by
 obtain ⟨Mp, hs⟩ := Stage.run (tab_int h n) j hj
 have hb := fitBL (a := 52) (Nat.le_trans (zt_bound hs hi hc) (big_bound hn hl))
 exact hb
theorem lR_nz (h : ∀ m ∈ ms, VM S m) (hj : j ≤ n) : lR ms n j ≠ 0 := by
 obtain ⟨Mp, hs⟩ := Stage.run (tab_int h n) j hj
 exact zl_nz hs
theorem kR_top (h : ∀ m ∈ ms, VM S m) (hj : j ≤ n) : (kR ms n j).length = (redG n (tabM ms n) j).top := by
 obtain ⟨Mp, hs⟩ := Stage.run (tab_int h n) j hj
 exact hs.len
theorem kR_le (h : ∀ m ∈ ms, VM S m) (hj : j ≤ n) : (kR ms n j).length ≤ j := by
 rw [kR_top h hj]
 exact redG_top n _ j
theorem kR_lt (h : ∀ m ∈ ms, VM S m) (hj : j ≤ n) {c : Nat} (hc : c ∈ kR ms n j) : c < n := by
 obtain ⟨Mp, hs⟩ := Stage.run (tab_int h n) j hj
 exact hs.col c hc
/-- No pivot in column j. -/
theorem col_none (h : ∀ m ∈ ms, VM S m) (hj : j < n) (hz : ∀ i, (kR ms n j).length ≤ i → i < n → zR ms n j i j = 0) : (∀ i c, zR ms n (j + 1) i c = zR ms n j i c) ∧ lR ms n (j + 1) = lR ms n j ∧ kR ms n (j + 1) = kR ms n j := by
 obtain ⟨Mp, hs⟩ := Stage.run (tab_int h n) j (Nat.le_of_lt hj)
 have hf : findR (redG n (tabM ms n) j).tab j (n - (redG n (tabM ms n) j).top) (redG n (tabM ms n) j).top = none := findR_nil (fun m h1 h2 => (zt_zero hs (by have := hs.le; omega) (by omega)).1 (hz m (by rw [kR_top h (Nat.le_of_lt hj)]; exact h1) (by have := hs.le; omega)))
 have e : redG n (tabM ms n) (j + 1) = stepG n j (redG n (tabM ms n) j) := rfl
 rw [stepG_none hf] at e
 unfold zR lR kR
 rw [e]
 exact ⟨fun _ _ => rfl, rfl, rfl⟩
/-- Row a has the pivot of column j. -/
theorem col_some (h : ∀ m ∈ ms, VM S m) (hj : j < n) {a : Nat} (h1 : (kR ms n j).length ≤ a) (h2 : a < n) (hnz : zR ms n j a j ≠ 0) (hz : ∀ i, (kR ms n j).length ≤ i → i < a → zR ms n j i j = 0) :
  kR ms n (j + 1) = kR ms n j ++ [j] ∧ lR ms n (j + 1) = zR ms n j a j ∧ (∀ c, c ≤ n → zR ms n (j + 1) (kR ms n j).length c = zR ms n j a c) ∧
  ∀ i, i < n → i ≠ (kR ms n j).length → ∀ c, c ≤ n → zR ms n j (if i = a then (kR ms n j).length else i) c * zR ms n j a j + -(zR ms n j a c * zR ms n j (if i = a then (kR ms n j).length else i) j) = lR ms n j * zR ms n (j + 1) i c := by
 obtain ⟨Mp, hs⟩ := Stage.run (tab_int h n) j (Nat.le_of_lt hj)
 obtain ⟨Mp', hs'⟩ := Stage.run (tab_int h n) (j + 1) hj
 rw [kR_top h (Nat.le_of_lt hj)] at h1 hz ⊢
 have hf : findR (redG n (tabM ms n) j).tab j (n - (redG n (tabM ms n) j).top) (redG n (tabM ms n) j).top = some a := findR_intro h1 (by omega) (fun e => hnz ((zt_zero hs h2 (by omega)).2 e)) (fun m hm hk => (zt_zero hs (by omega) (by omega)).1 (hz m hm hk))
 obtain ⟨k1, k2, k3⟩ := zt_step hs hs' hf hj
 refine ⟨?_, k1, k2, k3⟩
 have e : redG n (tabM ms n) (j + 1) = stepG n j (redG n (tabM ms n) j) := rfl
 unfold kR
 rw [e, stepG_some hf]
/-- Which unknowns are pivots. -/
theorem piv_col (h : ∀ m ∈ ms, VM S m) {j : Nat} (hj : j < n) : decide (0 ≤ pivI ((redG n (tabM ms n) n).piv[j]?)) = decide (j ∈ kR ms n n) := by
 obtain ⟨Mp, hs⟩ := Stage.run (tab_int h n) n (Nat.le_refl _)
 have hl := Left.run (tab_int h n) n (Nat.le_refl _)
 by_cases e : j ∈ kR ms n n
 ·
  obtain ⟨i, hi, hij⟩ := List.getElem_of_mem e
  have h1 := hl.pivcol hs (show (redG n (tabM ms n) n).cols[i]? = some j by rw [← hij]; exact List.getElem?_eq_getElem hi)
  rw [h1, decide_eq_true e, decide_eq_true (by simp [pivI])]
 ·
  have h1 := (solG_free hl hj e).2
  rw [h1, decide_eq_false e, decide_eq_false (by simp [pivI])]
end
end Go.Proofs.Ytikhlcgnlbinfaa
namespace Go.Proofs.Ytikhlcgnlbinfaa
open Lib (hid)
open Go.RowKit
/-- A slice that is empty or lies in a block from B on. -/
def NewS (B : Nat) (A : Option Addr) (l : Nat) : Prop := l = 0 ∨ ∃ g, A = some ⟨g, 0, none⟩ ∧ B ≤ g
def NewV (B : Nat) (v : Value) : Prop := ∃ A l c, v = .slice A l c ∧ NewS B A l
theorem NewS.mono {B B' : Nat} {A : Option Addr} {l : Nat} (h : NewS B A l) (hb : B' ≤ B) : NewS B' A l := h.imp id fun ⟨g, e, hg⟩ => ⟨g, e, Nat.le_trans hb hg⟩
theorem NewV.mono {B B' : Nat} {v : Value} (h : NewV B v) (hb : B' ≤ B) : NewV B' v := by
 obtain ⟨A, l, c, e, h⟩ := h
 exact ⟨A, l, c, e, h.mono hb⟩
theorem NewV.of {B : Nat} {A : Option Addr} {l c : Nat} (h : NewV B (.slice A l c)) : NewS B A l := by
 obtain ⟨A', l', c', e, h⟩ := h
 injection e with e1 e2 e3
 subst e1 e2
 exact h
theorem OwnS.newv {k : IntKind} {e : TypeId} {base n c : Nat} {w : World} {A : Option Addr} {xs : List Int} (h : OwnS k e base w A n c xs) : NewV base (.slice A n c) := by
 refine ⟨A, n, c, rfl, ?_⟩
 rcases h.own.2 with ⟨hv, h0⟩ | ⟨g, cap, cur, hv, hg, _⟩
 ·
  exact .inl h0
 ·
  injection hv with hA _ _
  exact .inr ⟨g, hA, hg⟩
/-- What divide returns. -/
def RetDN (w : World) (q r : Nat) (e : Ending) (w' : World) : Prop := ∃ vq vr, e = .returned (.tuple #[vq, vr]) ∧ Z16 w' vq q ∧ Z16 w' vr r ∧ NewV w.heap.size vq ∧ Ext w w'
set_option maxRecDepth 100000 in
set_option maxHeartbeats 2000000 in
theorem rshort_own (va : Value) (n L : Nat) (d : Int) (w : World) (ha : Z16 w va n) (fn : Fit 65536 n L) (_hL : L ≤ 1000000) (hd0 : 0 < d) (_hd1 : d ≤ 65536) :
  Calls Try.prog 199 #[va, .int .i64 d] w fun e w' => ∃ v, e = .returned (.tuple #[v, .int .i64 ((n : Int) % d)]) ∧ Z16 w' v (n / d.toNat) ∧ NewV w.heap.size v ∧ Ext w w' := by
 obtain ⟨A, la, ca, xs, rfl, hA, hrx, hca, hcam⟩ := ha
 have hla := fn.len (by omega) hrx
 rw [hA.1] at hla
 have HA := hid hA
 have HRX := hid hrx
 have HLA : Hid (xs.length = la) := hA.1
 clear hA hrx fn
 have hdz : (d == 0) = false := by simp; omega
 have hdz' : ¬ d = 0 := by omega
 go_enter Try.func199, Try.ntmps199
 go_wp2_with (at_make; refine wpList_mk _ elI rfl rfl _ _ rfl w.heap.size _ _ _ _ la la rfl rfl (by omega) (by omega) (Nat.le_refl _) (by omega) (by unfold maxLen; omega) (Nat.le_refl _) ?_; intro w1 hown1 hext1 hsz1)
 have HO1 := hid (OwnS.made hown1)
 have HX1 := hid hext1
 clear hown1 hext1 hsz1
 go_loopg [7, 8] la (fun g r i wr => ∃ (k : Nat) (rest : Int) (out : List Int), k = g ∧ k ≤ la ∧ i = .int .i64 ((k : Int) - 1) ∧ r = .int .i64 rest ∧ 0 ≤ rest ∧ rest < d ∧ Hid (OwnS .i64 3 w.heap.size wr (some ⟨w.heap.size, 0, none⟩) la la out) ∧ Hid (Dg 65536 out) ∧ Hid (out.take k = List.replicate k 0) ∧ Hid (val 65536 (xs.drop k) = val 65536 (out.drop k) * d + rest) ∧ Hid (Ext w wr))
 case atStart => exact ⟨la, 0, _, rfl, by omega, rfl, rfl, by omega, by omega, HO1.out, Dg.zeros (by omega) _, by simp [Hid], by rw [List.drop_eq_nil_of_le (by rw [HLA.out]; omega), List.drop_eq_nil_of_le (by simp)]; simp [Hid, val], HX1.out⟩
 case round =>
  clear HO1 HX1
  obtain ⟨k, rest, out, rfl, hk, rfl, rfl, hr0, hr1, HO, HD, HZ, HI, HX⟩ := hrel
  rcases Nat.eq_zero_or_pos k with h0 | h0
  ·
   subst h0
   have hI := HI.out
   simp only [List.drop_zero] at hI
   rw [HRX.out.2.2] at hI
   have hq : (n : Int) % d = rest := by
    rw [hI, Int.add_comm, Int.add_mul_emod_self_right, Int.emod_eq_of_lt hr0 hr1]
   have HQ := hid hq
   have hvn := val_nonneg (B := 65536) (by omega) HD.out
   have HV : Hid (val 65536 out = ((n / d.toNat : Nat) : Int)) := by
    show _ = _
    have e : ((d.toNat : Nat) : Int) = d := by omega
    rw [Int.natCast_ediv, e, hI, Int.add_comm, Int.add_mul_ediv_right _ _ hdz', Int.ediv_eq_zero_of_lt hr0 hr1]
    omega
   clear hI hq hvn
   rw [show (((0 : Nat) : Int) - 1) = -1 by omega]
   obtain ⟨hc1', hc2'⟩ := HO.out.cap
   go_wp2_with fail
   refine (trimO HO.out HD.out HV.out).mono ?_
   rintro e _ ⟨l5, ys5, rfl, ho5, hr5, rfl⟩
   have HZ := hid (ho5.natv hr5)
   have HNV := hid ho5.newv
   clear ho5 hr5
   go_wp2
   go_ret2
   exact ⟨_, by rw [HQ.out]; rfl, HZ.out, HNV.out, HX.out⟩
  ·
   obtain ⟨j, rfl⟩ : ∃ j, k = j + 1 := ⟨k - 1, by omega⟩
   have hkc : ((j + 1 : Nat) : Int) - 1 = (j : Int) := by omega
   rw [hkc]
   have hj0 : (0 : Int) ≤ (j : Int) := by omega
   have hjl : (j : Int) < (la : Int) := by omega
   obtain ⟨b1, o1, x, rfl, hx, hwf, hcx⟩ := (HA.out.ext HX.out).get (show j < la by omega)
   obtain ⟨hx0, hx1⟩ := HRX.out.1.get hx
   obtain ⟨g, z, hg, hz, _, hcz, hfz, _, hst⟩ := HO.out.store (j := j) (by omega)
   obtain rfl : w.heap.size = g := by injection hg with hg; injection hg
   have hz0 : z = 0 := by
    have h1 : (out.take (j + 1))[j]? = some z := by rw [List.getElem?_take, if_pos (by omega)]; exact hz
    rw [HZ.out] at h1
    rw [List.getElem?_replicate] at h1
    simp at h1
    exact h1.symm
   subst hz0
   have hs0 : 0 ≤ rest * 65536 + x := by omega
   have hs1 : rest * 65536 + x < d * 65536 := by omega
   have hq0 : 0 ≤ (rest * 65536 + x) / d := Int.ediv_nonneg hs0 (by omega)
   have hq1 : (rest * 65536 + x) / d < 65536 := Int.ediv_lt_of_lt_mul hd0 (by omega)
   have hm0 := Int.emod_nonneg (rest * 65536 + x) hdz'
   have hm1 := Int.emod_lt_of_pos (rest * 65536 + x) hd0
   have HN := hid (short_next hx hz hd0 HI.out)
   have HOO := hid (hst.out _ (wf16 ⟨hq0, hq1⟩))
   have HDD := hid (HD.out.set ⟨hq0, hq1⟩ j)
   have HZZ : Hid ((out.set j ((rest * 65536 + x) / d)).take j = List.replicate j 0) := by
    show _ = _
    rw [List.take_set_of_le (by omega)]
    have h1 : (out.take (j + 1)).take j = out.take j := by rw [List.take_take]; congr 1; omega
    rw [← h1, HZ.out, List.take_replicate]
    congr 1; omega
   have HXX := hid (HX.out.setCell (p := ⟨w.heap.size, j, none⟩) (Nat.le_refl _) (.int .i64 ((rest * 65536 + x) / d)))
   have hb1 : rest * 65536 + x ≤ 9223372036854775807 := by omega
   have hb2 : -9223372036854775808 ≤ (rest * 65536 + x) / d := by omega
   have hb3 : (rest * 65536 + x) / d ≤ 9223372036854775807 := by omega
   clear hx hz hg hwf hst
   go_wp2
   go_roundg j
   case rel => exact ⟨j, _, _, rfl, by omega, by go_num, rfl, hm0, hm1, HOO.out, HDD.out, HZZ.out, HN.out, HXX.out⟩
   case measure => omega
set_option maxRecDepth 100000 in
set_option maxHeartbeats 1000000 in
theorem rdiv_lessN (va vb : Value) (n m : Nat) (w : World) (ha : Z16 w va n) (hb : Z16 w vb m) (h : n < m) :
  Calls Try.prog 169 #[va, vb] w (RetDN w (n / m) (n % m)) := by
 obtain ⟨A, la, ca, xs, rfl, hA⟩ := ha
 obtain ⟨B, lb, cb, ys, rfl, hB⟩ := hb
 have HA : Hid (Z16 w (.slice A la ca) n) := ⟨A, la, ca, xs, rfl, hA⟩
 have HB : Hid (Z16 w (.slice B lb cb) m) := ⟨B, lb, cb, ys, rfl, hB⟩
 have HQ : Hid (n / m = 0 ∧ n % m = n) := ⟨Nat.div_eq_of_lt h, Nat.mod_eq_of_lt h⟩
 have HC := hid (cmpI_lt h)
 clear hA hB h
 go_enter Try.func169, Try.ntmps169
 go_wp2_with fail
 refine (compare_any _ _ n m _ HA.out HB.out).mono ?_
 rw [HC.out]
 rintro e w1 ⟨rfl, hX⟩
 have HX := hid hX
 clear hX
 go_wp2
 go_ret2
 exact ⟨_, _, rfl, by rw [HQ.out.1]; exact NatV.zero, by rw [HQ.out.2]; exact HA.out.ext HX.out, ⟨_, _, _, rfl, .inl rfl⟩, HX.out⟩
set_option maxRecDepth 100000 in
set_option maxHeartbeats 1000000 in
theorem rdiv_oneN (va : Value) (B : Option Addr) (cb : Nat) (y : Int) (n m L : Nat) (w : World) (ha : Z16 w va n) (hB : Ints .i64 w B 1 [y]) (hr : Rep 65536 [y] m) (hcb : 1 ≤ cb ∧ cb ≤ 9223372036854775807) (fn : Fit 65536 n L) (hL : L ≤ 1000000) (h : m ≤ n) :
  Calls Try.prog 169 #[va, .slice B 1 cb] w (RetDN w (n / m) (n % m)) := by
 obtain ⟨hy, hm⟩ := hr.single (by omega)
 obtain ⟨hy0, hy1⟩ := hr.1.get (k := 0) rfl
 obtain ⟨hcb1, hcb2⟩ := hcb
 obtain ⟨A, la, ca, xs, rfl, hA⟩ := ha
 have HA : Hid (Z16 w (.slice A la ca) n) := ⟨A, la, ca, xs, rfl, hA⟩
 have HB : Hid (Z16 w (.slice B 1 cb) m) := ⟨B, 1, cb, [y], rfl, hB, hr, hcb1, hcb2⟩
 have HI := hid hB
 have HF := hid fn
 obtain ⟨b, o, y', rfl, hyy, _, hc⟩ := hB.get (j := 0) (by omega)
 obtain rfl : y = y' := by simpa using hyy
 have hyp : 0 < y := by omega
 have hc0 : ¬ cmpI n m < 0 := by
  unfold cmpI
  rw [if_neg (by omega)]
  split <;> omega
 obtain ⟨ci, hci⟩ : ∃ c, cmpI n m = c := ⟨_, rfl⟩
 rw [hci] at hc0
 have HC := hid hci
 have HQ : Hid (n / y.toNat = n / m ∧ (n : Int) % y = ((n % m : Nat) : Int)) := by
  refine ⟨by rw [hy]; simp, ?_⟩
  rw [hy]; exact (Int.natCast_emod n m).symm
 have hrr : (n : Int) % y < y := Int.emod_lt_of_pos _ hyp
 have hrr0 : 0 ≤ (n : Int) % y := Int.emod_nonneg _ (by omega)
 have HRM : Hid (n % m < 65536) := by
  show _ < _
  have := HQ.out.2
  omega
 clear hA hB h hci hr hy hm hyy fn hrr hrr0
 go_enter Try.func169, Try.ntmps169
 go_wp2_with fail
 refine (compare_any _ _ n m _ HA.out HB.out).mono ?_
 rw [HC.out]
 rintro e w1 ⟨rfl, hX⟩
 have HX := hid hX
 have hc1 := hX.cell hc
 rw [Nat.add_zero] at hc1
 clear hX
 go_wp2_with fail
 refine (rshort_own _ n L y _ (HA.out.ext HX.out) HF.out hL hyp (by omega)).mono ?_
 rw [HQ.out.1, HQ.out.2]
 rintro e w2 ⟨v, rfl, hv, hnv, hX⟩
 have HNV := hid (hnv.mono HX.out.size)
 clear hnv
 have HX2 := hid (HX.out.trans hX)
 have HV := hid hv
 clear hX hv hc1 hc
 have hrm := HRM.out
 generalize hrn : n % m = r at hrm ⊢
 have HRN := hid hrn
 clear hrn
 go_wp2_with fail
 refine (small_any (r : Int) _ (by omega) (by omega)).mono ?_
 rintro e w3 ⟨v3, rfl, hv3, hX⟩
 obtain ⟨A3, l3, c3, rfl, hz⟩ := hv3
 have HX3 := hid (HX2.out.trans hX)
 have HV3 := hid (HV.out.ext hX)
 have HZ := hid hz
 have hL := run_L (decide ((r : Int) < 0)) A3 l3 c3
 clear hX hz
 go_wp2
 go_ret2
 exact ⟨_, _, rfl, HV3.out, by rw [HRN.out]; simpa using HZ.out, HNV.out, HX3.out⟩
set_option maxRecDepth 100000 in
set_option maxHeartbeats 4000000 in
theorem rdiv_longN (va : Value) (B : Option Addr) (cb p : Nat) (ys : List Int) (n m L : Nat) (w : World) (ha : Z16 w va n) (hB : Ints .i64 w B (p + 2) ys) (hr : Rep 65536 ys m) (hcb : p + 2 ≤ cb ∧ cb ≤ 9223372036854775807) (fn : Fit 65536 n L) (_hL : L ≤ 400000) (h : m ≤ n) :
  Calls Try.prog 169 #[va, .slice B (p + 2) cb] w (RetDN w (n / m) (n % m)) := by
 obtain ⟨hcb1, hcb2⟩ := hcb
 obtain ⟨A, la, ca, xs, rfl, hA⟩ := ha
 have fm := fn.le h
 have hpl : p + 2 ≤ L := by have := fm.len (by omega) hr; rw [hB.1] at this; exact this
 have HA : Hid (Z16 w (.slice A la ca) n) := ⟨A, la, ca, xs, rfl, hA⟩
 have HB : Hid (Z16 w (.slice B (p + 2) cb) m) := ⟨B, p + 2, cb, ys, rfl, hB, hr, hcb1, hcb2⟩
 have HFN := hid fn
 have HFM := hid fm
 have HMN := hid h
 obtain ⟨b, o, yt, rfl, hyt, hwf0, hc⟩ := hB.get (j := p + 1) (by omega)
 obtain ⟨hy0, hy1⟩ := hr.1.get hyt
 have hytp : 0 < yt := by
  have h1 : ys ≠ [] := by intro e; have := hB.1; rw [e] at this; simp at this
  obtain ⟨zs, z, e, hz⟩ := hr.2.1.split h1
  have h2 : zs.length = p + 1 := by have := hB.1; rw [e] at this; simp at this; omega
  rw [e, List.getElem?_append_right (by omega), h2] at hyt
  simp at hyt
  omega
 have hc0 : ¬ cmpI n m < 0 := by
  unfold cmpI
  rw [if_neg (by omega)]
  split <;> omega
 obtain ⟨ci, hci⟩ : ∃ c, cmpI n m = c := ⟨_, rfl⟩
 rw [hci] at hc0
 have HC := hid hci
 have HIB := hid hB
 have HRB := hid hr
 obtain ⟨f, hf⟩ : ∃ f, 65536 / (yt + 1) = f := ⟨_, rfl⟩
 have hf0 : 1 ≤ f := by rw [← hf]; exact (Int.le_ediv_iff_mul_le (by omega)).2 (by omega)
 have hf1 : f < 65536 := by rw [← hf]; exact (Int.ediv_lt_iff_lt_mul (by omega)).2 (by omega)
 have hyz : ¬ yt + 1 = 0 := by omega
 have HFE := hid hf
 clear hA hB h hci hr fn fm hyt hwf0
 go_enter Try.func169, Try.ntmps169
 go_wp2_with fail
 refine (compare_any _ _ n m _ HA.out HB.out).mono ?_
 rw [HC.out]
 rintro e w1 ⟨rfl, hX⟩
 have HX := hid hX
 have hc1 := hX.cell hc
 clear hX hc
 go_upto_region 7 with (fail)
 have HX2 := hid (HX.out.alloc (.cells #[.int .i64 f] 3))
 have HF1 : Hid (Z16 (w1.alloc (.cells #[.int .i64 f] 3)) (.slice (some ⟨w1.heap.size, 0, none⟩) 1 1) f.toNat) := ⟨_, 1, 1, [f], rfl, ints_one (wf16 (by omega)) _, Rep.small (by omega) (by omega), by omega, by omega⟩
 have HC1 : Hid ((w1.alloc (.cells #[.int .i64 f] 3)).cell? ⟨w1.heap.size, 0, none⟩ = some (.int .i64 f)) := (Blk.new w1 3 #[.int .i64 f]).cell 0
 clear hc1
 generalize w1.alloc (.cells #[.int .i64 f] 3) = w2 at HX2 HF1 HC1 ⊢
 generalize w1.heap.size = gf at HF1 HC1 ⊢
 have hff : Fit 65536 f.toNat 1 := by unfold Fit; rw [Int.pow_succ, Int.pow_zero]; omega
 have HFF := hid hff
 clear hff hf
 go_wp2_with fail
 refine (times16_any _ _ n f.toNat L 1 _ (HA.out.ext HX2.out) HF1.out HFN.out HFF.out (by omega) (by omega)).mono ?_
 rintro e w3 ⟨vu, rfl, hu, hX⟩
 have HX3 := hid (HX2.out.trans hX)
 have HU := hid hu
 have HF2 := hid (HF1.out.ext hX)
 have HC2 := hid (hX.cell HC1.out)
 clear hX hu HF1 HC1
 go_wp2_with fail
 refine (times16_any _ _ m f.toNat L 1 _ (HB.out.ext HX3.out) HF2.out HFM.out HFF.out (by omega) (by omega)).mono ?_
 rintro e w4 ⟨vv, rfl, hv, hX⟩
 have HX4 := hid (HX3.out.trans hX)
 have HU4 := hid (HU.out.ext hX)
 have HC4 := hid (hX.cell HC2.out)
 clear hX HU HF2 HC2
 obtain ⟨Au, lu, cu, us, rfl, hIu, hRu, hcu1, hcu2⟩ := HU4.out
 obtain ⟨Av, lv, cv, vs, rfl, hIv, hRv, hcv1, hcv2⟩ := hv
 have hfn : 0 < f.toNat := by omega
 have hvu : m * f.toNat ≤ n * f.toNat := Nat.mul_le_mul_right _ HMN.out
 have hFu : Fit 65536 (n * f.toNat) (L + 1) := HFN.out.mul (by omega) HFF.out
 have hlu : lu ≤ L + 1 := by have := hFu.len (by omega) hRu; rw [hIu.1] at this; exact this
 have hlen : lv ≤ lu := by
  apply Nat.le_of_not_lt
  intro h
  have := hRu.lt_of_len (by omega) hRv (by rw [hIu.1, hIv.1]; exact h)
  omega
 have hmv : m ≤ m * f.toNat := Nat.le_mul_of_pos_right _ hfn
 have hlv : p + 2 ≤ lv := by
  apply Nat.le_of_not_lt
  intro h
  have := hRv.lt_of_len (by omega) HRB.out (by rw [hIv.1, HIB.out.1]; exact h)
  omega
 obtain ⟨V, hV⟩ : ∃ V, m * f.toNat = V := ⟨_, rfl⟩
 obtain ⟨U, hU⟩ : ∃ U, n * f.toNat = U := ⟨_, rfl⟩
 rw [hU] at hvu hFu hRu
 rw [hV] at hvu hmv hRv
 have HVE := hid hV
 have HUE := hid hU
 have HIU := hid hIu
 have HRU := hid hRu
 have HIV := hid hIv
 have HRV := hid hRv
 have HFU := hid hFu
 have HVU := hid hvu
 clear hV hU hIu hRu hIv hRv HU4 hFu hvu hmv hfn
 obtain ⟨d, hd1, hd2⟩ : ∃ d, lu ≤ lv + d ∧ lv + d ≤ lu := ⟨lu - lv, by omega⟩
 obtain ⟨r, hr1, hr2⟩ : ∃ r, lv ≤ r + 2 ∧ r + 2 ≤ lv := ⟨lv - 2, by omega⟩
 have HYT := hid (And.intro hytp (And.intro hy0 hy1))
 clear hlen hlv hc0 hyz hytp hy0 hy1
 go_upto_region 9 with (at_make; refine wpList_mk _ elI rfl rfl _ _ rfl w4.heap.size _ _ _ _ (d + 1) (d + 1) rfl rfl (by omega) (by omega) (Nat.le_refl _) (by omega) (by unfold maxLen; omega) (Nat.le_refl _) ?_; intro w5 hown5 hext5 hsz5)
 have HQ5 := hid (OwnS.made hown5)
 have HX5 := hid hext5
 clear hown5 hext5
 have HU5 := hid (HIU.out.ext HX5.out)
 go_wp2_with (first | (refine wpList_cutL (o := ⟨some 69, _, _, _, _, _⟩) _ elI rfl _ _ rfl Au lu cu rfl _ _ (d + 1) rfl (by omega) (by omega) hcu1 ?_; intro A5 hA5; have HI5 := hid (cut_ints HU5.out hA5); clear hA5) | (at_builtin; refine wpList_app (o := ⟨some 70, _, _, _, _, _⟩) _ elI rfl _ _ rfl w5.heap.size (.slice (some ⟨w5.heap.size, 0, none⟩) 0 0) 0 [] rfl (World.ownsRow_lit w5 #[] 0 (Nat.le_refl _) (by unfold maxLen; omega) rfl) A5 (lu - (d + 1)) (cu - (d + 1)) ((us.drop (d + 1)).map (.int .i64)) rfl (by rw [List.length_map, Nat.mul_one]; exact HI5.out.1) (HI5.out.ext ((Ext.refl w5).alloc _)).2.2 (ints_one' _) (by omega) (by unfold maxLen; omega) (by simp) ?_; intro v6 w6 hown6 hgr6 hloc6; clear hloc6; have HO6 := hid hown6; have HG6 := hid (Ext.app ((Ext.refl w5).alloc _) (World.ownsRow_lit (size := 1) (e := 3) w5 #[] 0 (Nat.le_refl _) (by unfold maxLen; omega) rfl) hgr6); clear hown6 hgr6))
 obtain ⟨A6, c6, rfl⟩ := own_slice HO6.out
 have hw : Dg 65536 (us.drop (d + 1)) := HRU.out.1.drop _
 have hdl : (us.drop (d + 1)).length = lu - (d + 1) := by rw [List.length_drop, HIU.out.1]
 have HOS6 : Hid (OwnS .i64 3 w5.heap.size w6 A6 (0 + (lu - (d + 1))) c6 (us.drop (d + 1))) := ⟨by simpa using HO6.out, by rw [hdl]; omega, dg_wf hw⟩
 obtain ⟨R0, hR0⟩ : ∃ R : Nat, val 65536 (us.drop (d + 1)) = (R : Int) := ⟨(val 65536 (us.drop (d + 1))).toNat, by have := val_nonneg (B := 65536) (by omega) hw; omega⟩
 have hRV : (R0 : Int) < (V : Int) := by
  have h1 := val_lt (B := 65536) (by omega) hw
  rw [hdl, hR0] at h1
  have h2 := nm_low (B := 65536) (by omega) HRV.out.1 HRV.out.2.1 (by intro e; have := HIV.out.1; rw [e] at this; simp at this; omega)
  rw [HRV.out.2.2, HIV.out.1] at h2
  have h3 : lu - (d + 1) = lv - 1 := by omega
  rw [h3] at h1
  omega
 have HDW := hid hw
 have HR0 := hid hR0
 have HRV0 : Hid (R0 < V) := by show _ < _; omega
 clear hw hdl hR0 hRV HO6
 refine (trimO HOS6.out HDW.out HR0.out).mono ?_
 rintro e _ ⟨l7, zs7, rfl, hO7, hR7, rfl⟩
 have HO7 := hid hO7
 have HR7 := hid hR7
 clear hO7 hR7 HOS6
 have HQ6 := hid (HQ5.out.ext HG6.out)
 have HX6 := hid (HX5.out.trans HG6.out)
 have hsz : w4.heap.size + 1 ≤ w5.heap.size := by omega
 have HO7' := hid (HO7.out.mono hsz)
 obtain ⟨gq, hgq⟩ : ∃ g, w4.heap.size = g := ⟨_, rfl⟩
 rw [hgq] at HQ6 HO7' ⊢
 have HGQ := hid hgq
 clear hgq hsz hsz5 HQ5 HX5 HU5 HI5 HG6 HO7
 go_wp2_with fail
 go_loopg [12, 13] (d + 1) (fun g s12 s13 wr => ∃ (k R l : Nat) (Ar : Option Addr) (cr : Nat) (zs q : List Int), k = g ∧ k ≤ d + 1 ∧ s13 = .int .i64 ((k : Int) - 1) ∧ s12 = .slice Ar l cr ∧ Hid (OwnS .i64 3 (gq + 1) wr Ar l cr zs) ∧ Hid (Rep 65536 zs R) ∧ Hid (R < V) ∧ Hid (OwnS .i64 3 gq wr (some ⟨gq, 0, none⟩) (d + 1) (d + 1) q) ∧ Hid (Dg 65536 q) ∧ Hid (val 65536 (us.drop k) = val 65536 (q.drop k) * V + R) ∧ Hid (Ext w4 wr))
 case atStart => exact ⟨d + 1, R0, l7, A6, c6, zs7, _, rfl, Nat.le_refl _, congrArg (Value.int IntKind.i64) (by omega), rfl, HO7'.out, HR7.out, HRV0.out, HQ6.out, Dg.zeros (by omega) _, by show _ = _; rw [HR0.out, List.drop_eq_nil_of_le (by simp)]; simp [val], HX6.out⟩
 case round =>
  clear HO7' HR7 HRV0 HQ6 HR0 HX6 HDW
  obtain ⟨k, R, l, Ar, cr, zs, q, rfl, hk, rfl, rfl, HO, HR, HRV', HQ, HD, HI, HX'⟩ := hrel
  have hll : l ≤ lv := by
   have h1 := HRV.out.lt (by omega)
   rw [HIV.out.1] at h1
   have h2 := HR.out.len_le (by omega) (L := lv) (by have := HRV'.out; omega)
   rw [HO.out.len] at h2
   exact h2
  obtain ⟨hcr1, hcr2⟩ := HO.out.cap
  rcases Nat.eq_zero_or_pos k with h0 | h0
  ·
   subst h0
   as_aux_lemma =>
    have hI := HI.out
    simp only [List.drop_zero] at hI
    rw [HRU.out.2.2] at hI
    have hvn := val_nonneg (B := 65536) (by omega) HD.out
    obtain ⟨Qq, hQq⟩ : ∃ Q : Nat, val 65536 q = (Q : Int) := ⟨_, (Int.toNat_of_nonneg hvn).symm⟩
    rw [hQq] at hI
    have hIn : U = Qq * V + R := by
     have : (U : Int) = ((Qq * V + R : Nat) : Int) := by rw [hI]; simp
     exact Int.ofNat.inj this
    have hend := quo_end (n := n) (m := m) (f := f.toNat) (Q := Qq) (R := R) (by rw [HUE.out, HVE.out]; exact hIn) (by rw [HVE.out]; exact HRV'.out) (by omega)
    have HEND := hid hend
    have HQq := hid hQq
    have hcf : wr.cell? ⟨gf, 0, none⟩ = some (.int .i64 f) := HX'.out.cell HC4.out
    have HFR := hid (HFU.out.le (show R ≤ U by have := HRV'.out; have := HVU.out; omega))
    clear hI hvn hQq hIn hend
    rw [show (((0 : Nat) : Int) - 1) = -1 by omega]
    go_wp2_with fail
    refine (rshort_any _ R (L + 1) f _ ⟨Ar, l, cr, zs, rfl, HO.out.ints, HR.out, hcr1, hcr2⟩ HFR.out (by omega) (by omega) (by omega)).mono ?_
    rintro e w8 ⟨v8, rfl, hv8, hX8⟩
    have HV8 := hid hv8
    have HX8 := hid (HX'.out.trans hX8)
    have HQ8 := hid (HQ.out.ext hX8)
    clear hv8 hX8 hcf
    generalize (R : Int) % f = rm
    go_wp2_with fail
    refine (trimO HQ8.out HD.out HQq.out).mono ?_
    rintro e _ ⟨l9, ys9, rfl, ho9, hr9, rfl⟩
    have HV9 := hid (ho9.natv hr9)
    have HN9 := hid (ho9.newv.mono (show w.heap.size ≤ gq by have h1 := HX4.out.size; have h2 := HGQ.out; omega))
    clear ho9 hr9
    go_wp2
    go_ret2
    exact ⟨_, _, rfl, by rw [← HEND.out.1]; exact HV9.out, by rw [← HEND.out.2]; exact HV8.out, HN9.out, HX4.out.trans HX8.out⟩
  ·
   obtain ⟨j, rfl⟩ : ∃ j, k = j + 1 := ⟨k - 1, by omega⟩
   rw [show (((j + 1 : Nat) : Int) - 1) = (j : Int) by omega]
   have hj0 : (0 : Int) ≤ (j : Int) := by omega
   have hjl : (j : Int) < (lu : Int) := by omega
   obtain ⟨bu, ou, x, rfl, hx, hwf1, hcx⟩ := (HIU.out.ext HX'.out).get (show j < lu by omega)
   obtain ⟨hx0, hx1⟩ := HRU.out.1.get hx
   have HXU := hid hx
   have HIr := hid HO.out.ints
   clear hx hwf1
   go_wp2_with (first | (at_builtin; refine wpList_app (o := ⟨some 87, _, _, _, _, _⟩) _ elI rfl _ _ rfl wr.heap.size (.slice (some ⟨wr.heap.size, 0, none⟩) 1 1) 1 [.int .i64 x] rfl (World.ownsRow_lit (size := 1) (e := 3) wr #[.int .i64 x] 1 (Nat.le_refl _) (by unfold maxLen; omega) rfl) Ar l cr (zs.map (.int .i64)) rfl (by rw [List.length_map, Nat.mul_one]; exact HO.out.len) (HIr.out.ext ((Ext.refl wr).alloc _)).2.2 (ints_one' _) (by omega) (by unfold maxLen; omega) (by simp) ?_; intro v8 w8 hown8 hgr8 hloc8; clear hloc8; have HO8 := hid hown8; have HG8 := hid (Ext.app ((Ext.refl wr).alloc _) (World.ownsRow_lit (size := 1) (e := 3) wr #[.int .i64 x] 1 (Nat.le_refl _) (by unfold maxLen; omega) rfl) hgr8); clear hown8 hgr8))
   obtain ⟨A8, c8, rfl⟩ := own_slice HO8.out
   have hdx : Dg 65536 (x :: zs) := Dg.cons ⟨hx0, hx1⟩ HR.out.1
   have HOS8 : Hid (OwnS .i64 3 wr.heap.size w8 A8 (1 + l) c8 (x :: zs)) := ⟨by simpa using HO8.out, by rw [List.length_cons, HO.out.len]; omega, dg_wf hdx⟩
   obtain ⟨R', hR'⟩ : ∃ R' : Nat, (R : Int) * 65536 + x = (R' : Int) := ⟨R * 65536 + x.toNat, by omega⟩
   have HVR : Hid (val 65536 (x :: zs) = (R' : Int)) := by
    show x + 65536 * val 65536 zs = _
    rw [HR.out.2.2]; omega
   have HDX := hid hdx
   clear hdx HO8
   refine (trimO HOS8.out HDX.out HVR.out).mono ?_
   rintro e _ ⟨l9, zs9, rfl, hO9, hR9, rfl⟩
   have HO9 := hid hO9
   have HR9 := hid hR9
   have HX8 := hid (HX'.out.trans HG8.out)
   have HQ8 := hid (HQ.out.ext HG8.out)
   have HRR := hid hR'
   have HIV8 := hid (HIV.out.ext HX8.out)
   clear hO9 hR9 HOS8 hcx hR'
   go_upto_if 93 with (fail)
   have hV1 : 0 < V := by have := HRV'.out; omega
   have HLT : Hid ((R' : Int) < (V : Int) * 65536) := by
    show _ < _
    have h1 := HRV'.out
    have h2 := HRR.out
    omega
   have hl9 : l9 ≤ lv + 1 := by
    have h1 := HRV.out.lt (by omega)
    rw [HIV.out.1] at h1
    have h2 := HR9.out.len_le (by omega) (L := lv + 1) (by rw [Int.pow_succ]; have := HLT.out; omega)
    rw [HO9.out.len] at h2
    exact h2
   generalize hbb : decide (lv ≤ l9) = bb
   have HBB := hid hbb
   clear hbb
   go_cut [14] (fun s14 W => ∃ gs : Int, s14 = .int .i64 gs ∧ 0 ≤ gs ∧ gs ≤ 65535 ∧ Hid ((R' : Int) / (V : Int) ≤ gs) ∧ w8 = W)
   case first =>
    as_aux_lemma =>
     have hlow := nm_low (B := 65536) (by omega) HRV.out.1 HRV.out.2.1 (by intro e; have := HIV.out.1; rw [e] at this; simp at this; omega)
     rw [HRV.out.2.2, HIV.out.1] at hlow
     have hcc : (bb = false ∧ l9 < lv) ∨ (bb = true ∧ l9 = lv) ∨ (bb = true ∧ l9 = lv + 1) := by
      have h := HBB.out
      cases bb
      ·
       left; exact ⟨rfl, by simpa using h⟩
      ·
       right
       have : lv ≤ l9 := by simpa using h
       rcases (show l9 = lv ∨ l9 = lv + 1 by omega) with h | h
       ·
        exact .inl ⟨rfl, h⟩
       ·
        exact .inr ⟨rfl, h⟩
     clear HBB
     rcases hcc with ⟨rfl, hc⟩ | ⟨rfl, hc⟩ | ⟨rfl, hc⟩
     ·
      have HZ0 : Hid ((R' : Int) / (V : Int) ≤ 0) := by
       show _ ≤ _
       have h1 := HR9.out.lt (by omega)
       rw [HO9.out.len] at h1
       have h2 := pow_le (B := 65536) (a := l9) (b := lv - 1) (by omega) (by omega)
       rw [Int.ediv_eq_zero_of_lt (by omega) (by omega)]
       omega
      clear hlow
      go_wp2
      go_meet
      exact ⟨0, rfl, by omega, by omega, HZ0.out, rfl⟩
     ·
      obtain rfl : lv = r + 2 := by omega
      subst hc
      obtain ⟨bv, ov, vt, rfl, hvt, _, hcv⟩ := HIV8.out.get (j := r + 1) (by omega)
      obtain ⟨hv0, hv1⟩ := HRV.out.1.get hvt
      obtain ⟨g8, z, rfl, hz, _, hcz⟩ := HO9.out.get (j := r + 1) (by omega)
      obtain ⟨hz0, hz1⟩ := HR9.out.1.get hz
      have hvp := top_pos HRV.out (by rw [HIV.out.1]) hvt
      have hge := guess_ge (val_top HR9.out.1 (by rw [HO9.out.len]) hz).1 (by have := (val_top HRV.out.1 (by rw [HIV.out.1]) hvt).2; rw [HRV.out.2.2] at this; exact this) hvp (pow_pos' (by omega) _) (by rw [HR9.out.2.2]; omega)
      rw [HR9.out.2.2] at hge
      have HGE := hid hge
      have hq0 : 0 ≤ z / vt := Int.ediv_nonneg hz0 (by omega)
      have hq1 : z / vt ≤ z := Int.ediv_le_self _ hz0
      have hvz : ¬ vt = 0 := by omega
      clear hlow hvt hz hge
      have hbig : ¬ 65536 ≤ z / vt := by omega
      clear hq1
      go_wp2
      go_meet
      exact ⟨z / vt, rfl, hq0, by omega, HGE.out, rfl⟩
     ·
      obtain rfl : lv = r + 2 := by omega
      obtain rfl : l9 = r + 3 := by omega
      clear hc
      obtain ⟨bv, ov, vt, rfl, hvt, _, hcv⟩ := HIV8.out.get (j := r + 1) (by omega)
      obtain ⟨hv0, hv1⟩ := HRV.out.1.get hvt
      obtain ⟨g8, z, rfl, hz, _, hcz⟩ := HO9.out.get (j := r + 2) (by omega)
      obtain ⟨hz0, hz1⟩ := HR9.out.1.get hz
      obtain ⟨g9, y, hg9, hy, _, hcy⟩ := HO9.out.get (j := r + 1) (by omega)
      obtain rfl : g8 = g9 := by injection hg9 with h; injection h
      obtain ⟨hy0, hy1⟩ := HR9.out.1.get hy
      have hvp := top_pos HRV.out (by rw [HIV.out.1]) hvt
      have hge := guess_ge (val_top2 HR9.out.1 (by rw [HO9.out.len]) hz hy) (by have := (val_top HRV.out.1 (by rw [HIV.out.1]) hvt).2; rw [HRV.out.2.2] at this; exact this) hvp (pow_pos' (by omega) _) (by rw [HR9.out.2.2]; omega)
      rw [HR9.out.2.2] at hge
      have HGE := hid hge
      have hq0 : 0 ≤ (z * 65536 + y) / vt := Int.ediv_nonneg (by omega) (by omega)
      have hq1 : (z * 65536 + y) / vt ≤ z * 65536 + y := Int.ediv_le_self _ (by omega)
      have hs0 : 0 ≤ z * 65536 + y := by omega
      have hvz : ¬ vt = 0 := by omega
      have HDG : Hid ((R' : Int) / (V : Int) ≤ 65535) := by
       show _ ≤ _
       have h1 := HLT.out
       have h2 : (R' : Int) / (V : Int) < 65536 := (Int.ediv_lt_iff_lt_mul (by omega)).2 (by omega)
       omega
      clear hlow hvt hz hy hge hg9
      by_cases hbig : 65536 ≤ (z * 65536 + y) / vt
      ·
       go_wp2
       go_meet
       exact ⟨65535, rfl, by omega, by omega, HDG.out, rfl⟩
      ·
       go_wp2
       go_meet
       exact ⟨(z * 65536 + y) / vt, rfl, hq0, by omega, HGE.out, rfl⟩
   case rest =>
    obtain ⟨gs, rfl, hgs0, hgs1, HGS, rfl⟩ := hcut
    clear HBB hl9
    obtain ⟨G0, hG0, hG1⟩ : ∃ G : Nat, gs = (G : Int) ∧ G ≤ 65535 := ⟨gs.toNat, by omega, by omega⟩
    subst hG0
    have HGD : Hid (R' / V ≤ G0) := by
     show _ ≤ _
     have := HGS.out
     rw [← Int.natCast_ediv] at this
     omega
    clear HGS hgs0 hgs1
    have HFV := hid (HFU.out.le HVU.out)
    have HFG : Hid (Fit 65536 65535 1) := by show Fit _ _ _; unfold Fit; rw [Int.pow_succ, Int.pow_zero]; omega
    have HONE : Hid (Ints .i64 (w8.alloc (.cells #[.int .i64 (G0 : Int)] 3)) (some ⟨w8.heap.size, 0, none⟩) 1 [(G0 : Int)]) := ints_one (wf16 (by omega)) _
    have HD1 : Hid (Dg 65536 [(G0 : Int)]) := Dg.one (by omega)
    have HV1' : Hid (val 65536 [(G0 : Int)] = (G0 : Int)) := val_one _
    go_wp2_with fail
    refine (trimN HONE.out HD1.out HV1'.out (by omega) (by omega)).mono ?_
    rintro e _ ⟨vg, rfl, hvg, rfl⟩
    have HVG := hid hvg
    clear hvg HONE
    have HXa := hid ((Ext.refl w8).alloc (.cells #[.int .i64 (G0 : Int)] 3))
    generalize w8.alloc (.cells #[.int .i64 (G0 : Int)] 3) = w9 at HVG HXa ⊢
    go_wp2_with fail
    refine (times16_any _ _ V G0 (L + 1) 1 _ ⟨Av, lv, cv, vs, rfl, HIV8.out.ext HXa.out, HRV.out, hcv1, hcv2⟩ HVG.out HFV.out (HFG.out.le hG1) (by omega) (by omega)).mono ?_
    rintro e w10 ⟨vp, rfl, hvp, hX10⟩
    have HVP := hid hvp
    have HX10 := hid (HXa.out.trans hX10)
    clear hvp hX10 HVG HXa
    go_wp2_with fail
    have HFR' := hid (show Fit 65536 R' (L + 2) from by
     have h1 := HFV.out
     have h2 := HLT.out
     unfold Fit at h1 ⊢
     rw [Int.pow_succ]; omega)
    have HFP : Hid (∀ G : Nat, G ≤ 65535 → Fit 65536 (V * G) (L + 2)) := fun G hG => (HFV.out.mul (by omega) (HFG.out.le hG)).mono (by omega) (by omega)
    go_loopg [14, 16] G0 (fun g s14 s16 wi => ∃ G : Nat, G = g ∧ s14 = .int .i64 (G : Int) ∧ G ≤ 65535 ∧ Hid (R' / V ≤ G) ∧ Hid (Z16 wi s16 (V * G)) ∧ Hid (Ext w8 wi))
    case atStart => exact ⟨G0, rfl, rfl, hG1, HGD.out, HVP.out, HX10.out⟩
    case round =>
     clear HGD HVP HX10 HD1 HV1'
     obtain ⟨G, rfl, rfl, hG, HGD, HP, HXi⟩ := hrel
     have HRi := hid (HO9.out.ext HXi.out)
     by_cases hgt : R' < V * G
     ·
      as_aux_lemma =>
       have HC1 := hid (cmpI_gt hgt)
       have hGp : 0 < G := by
        rcases Nat.eq_zero_or_pos G with h | h
        ·
         subst h; simp at hgt
        ·
         exact h
       obtain ⟨H, rfl⟩ : ∃ H, G = H + 1 := ⟨G - 1, by omega⟩
       have HGD' : Hid (R' / V ≤ H) := by
        show _ ≤ _
        have h1 : R' / V < H + 1 := (Nat.div_lt_iff_lt_mul hV1).2 (by rw [Nat.mul_comm]; exact hgt)
        omega
       have HSUB : Hid (V * (H + 1) - V = V * H) := by show _ = _; rw [Nat.mul_succ]; omega
       have HLE : Hid (V ≤ V * (H + 1)) := Nat.le_mul_of_pos_right _ (by omega)
       clear hgt hGp
       go_wp2_with fail
       refine (compare_any _ _ (V * (H + 1)) R' _ HP.out ⟨A8, l9, c8, zs9, rfl, HRi.out.ints, HR9.out, HRi.out.cap.1, HRi.out.cap.2⟩).mono ?_
       rw [HC1.out]
       rintro e w11 ⟨rfl, hX⟩
       have HX11 := hid (HXi.out.trans hX)
       have HP11 := hid (HP.out.ext hX)
       clear hX
       go_wp2_with fail
       refine (less_any _ _ (V * (H + 1)) V (L + 2) _ HP11.out ⟨Av, lv, cv, vs, rfl, HIV8.out.ext HX11.out, HRV.out, hcv1, hcv2⟩ (HFP.out _ hG) (by omega) HLE.out).mono ?_
       rw [HSUB.out]
       rintro e w12 ⟨v12, rfl, hv12, hX⟩
       have HX12 := hid (HX11.out.trans hX)
       have HV12 := hid hv12
       clear hX hv12
       go_wp2
       go_roundg H
       case rel => exact ⟨H, rfl, by go_num, by omega, HGD'.out, HV12.out, HX12.out⟩
       case measure => omega
     ·
      as_aux_lemma =>
       have hle : V * G ≤ R' := by omega
       have hcv : cmpI (V * G) R' = -1 ∨ cmpI (V * G) R' = 0 := by
        rcases Nat.lt_or_ge (V * G) R' with h | h
        ·
         exact .inl (cmpI_lt h)
        ·
         exact .inr (cmpI_eq (by omega))
       have HLE := hid hle
       have hGq : (G : Int) < 65536 := by omega
       clear hgt hle
       rcases hcv with hcv | hcv
       all_goals
        have HC2 := hid hcv
        clear hcv
        go_wp2_with fail
        refine (compare_any _ _ (V * G) R' _ HP.out ⟨A8, l9, c8, zs9, rfl, HRi.out.ints, HR9.out, HRi.out.cap.1, HRi.out.cap.2⟩).mono ?_
        rw [HC2.out]
        rintro e w11 ⟨rfl, hX⟩
        have HX11 := hid (HXi.out.trans hX)
        have HP11 := hid (HP.out.ext hX)
        have HR11 := hid (HRi.out.ext hX)
        clear hX HC2
        go_wp2_with fail
        refine (less_own _ _ R' (V * G) (L + 2) _ ⟨A8, l9, c8, zs9, rfl, HR11.out.ints, HR9.out, HR11.out.cap.1, HR11.out.cap.2⟩ HP11.out HFR'.out (by omega) HLE.out).mono ?_
        rintro e w12 ⟨A12, l12, c12, zs12, rfl, hO12, hR12, hX⟩
        have HX12 := hid (HX11.out.trans hX)
        have hqlt : gq < w11.heap.size := by
         obtain ⟨g', x', hg', _, _, hcell⟩ := (HQ8.out.ext HX11.out).get (j := 0) (by omega)
         obtain rfl : gq = g' := by injection hg' with h; injection h
         exact World.block_lt_of_cell? _ _ hcell
        have HO12 := hid (hO12.mono (show gq + 1 ≤ w11.heap.size by omega))
        have HR12 := hid hR12
        have HQ12 := hid (HQ8.out.ext HX12.out)
        clear hX hO12 hR12 hqlt
        obtain ⟨g', z', hg', hz', _, hcz', hfz', _, hst⟩ := HQ12.out.store (j := j) (by omega)
        obtain rfl : gq = g' := by injection hg' with h; injection h
        have HS := hid (hst.out (G : Int) (wf16 (by omega)))
        have HDD := hid (HD.out.set (u := (G : Int)) (by omega) j)
        have HN := hid (quo_next (q := q) (d := (G : Int)) HXU.out (by rw [HQ12.out.len]; omega) HI.out)
        have HOO := hid (HO12.out.far (g := gq) (Nat.lt_succ_self gq) j (.int .i64 (G : Int)))
        have HRN : Hid (R' - V * G < V) := by
         show _ < _
         have h1 := (Nat.div_lt_iff_lt_mul hV1).1 (show R' / V < G + 1 by have := HGD.out; omega)
         rw [Nat.add_mul, Nat.one_mul, Nat.mul_comm G V] at h1
         have h2 := HLE.out
         omega
        have HVN : Hid (val 65536 (us.drop j) = val 65536 ((q.set j (G : Int)).drop j) * V + ((R' - V * G : Nat) : Int)) := by
         show _ = _
         have h1 := HN.out
         rw [HRR.out] at h1
         rw [Int.natCast_sub HLE.out, Int.natCast_mul, Int.mul_comm (V : Int)]
         exact h1
        have hjd : (j : Int) < ((d + 1 : Nat) : Int) := by omega
        clear hz' hg' hst
        go_wp2
        go_roundg j
        case rel => exact ⟨j, R' - V * G, l12, A12, c12, zs12, _, rfl, by omega, by go_num, rfl, HOO.out, HR12.out, HRN.out, HS.out, HDD.out, HVN.out, (HX8.out.trans HX12.out).setCell (by have := HGQ.out; show w4.heap.size ≤ gq; omega) _⟩
        case measure => omega
theorem divideN (va vb : Value) (n m L : Nat) (w : World) (ha : Z16 w va n) (hb : Z16 w vb m) (fn : Fit 65536 n L) (hL : L ≤ 400000) (_hm : 0 < m) :
  Calls Try.prog 169 #[va, vb] w (RetDN w (n / m) (n % m)) := by
 rcases Nat.lt_or_ge n m with h | h
 ·
  exact rdiv_lessN va vb n m w ha hb h
 ·
  obtain ⟨B, lb, cb, ys, rfl, hB, hr, h1, h2⟩ := hb
  rcases (show lb = 0 ∨ lb = 1 ∨ 2 ≤ lb by omega) with rfl | rfl | h3
  ·
   exfalso
   have : ys = [] := List.eq_nil_of_length_eq_zero hB.1
   have := (hr.pos (by omega)).2 this
   omega
  ·
   obtain ⟨y, rfl⟩ : ∃ y, ys = [y] := List.length_eq_one_iff.1 hB.1
   exact rdiv_oneN va B cb y n m L w ha hB hr ⟨h1, h2⟩ fn (by omega) h
  ·
   obtain ⟨p, rfl⟩ : ∃ p, lb = p + 2 := ⟨lb - 2, by omega⟩
   exact rdiv_longN va B cb p ys n m L w ha hB hr ⟨h1, h2⟩ fn hL h
section
variable {w w' : World} {B : Nat} {L : List Nat}
theorem keeps_cell {q : Addr} {v : Value} (hk : Keeps L w w') (h : w.cell? q = some v) (hn : q.block ∉ L) : w'.cell? q = some v := by
 rw [← h]
 exact World.cell?_of_block (w := w) (hk.block q.block (World.block_lt_of_cell? w q h) hn)
end
/-- A slice that is empty or does not lie in the block X. -/
def AwayS (X : Option Nat) (A : Option Addr) (l : Nat) : Prop := l = 0 ∨ ∃ g o, A = some ⟨g, o, none⟩ ∧ X ≠ some g
theorem z16_at {w : World} {A : Option Addr} {l c n : Nat} (h : Z16 w (.slice A l c) n) : l = 0 ∨ ∃ g o, A = some ⟨g, o, none⟩ ∧ g < w.heap.size := by
 obtain ⟨A', l', c', xs, e, hI, hr, hc⟩ := h
 injection e with e1 e2 e3
 subst e1 e2 e3
 rcases Nat.eq_zero_or_pos l with h0 | h0
 ·
  exact .inl h0
 ·
  obtain ⟨b, off, x, rfl, _, _, hcell⟩ := hI.get h0
  exact .inr ⟨b, off, rfl, World.block_lt_of_cell? _ _ hcell⟩
theorem AwayS.none {w : World} {A : Option Addr} {l c n : Nat} (h : Z16 w (.slice A l c) n) : AwayS none A l := by
 rcases z16_at h with h | ⟨g, o, e, _⟩
 ·
  exact .inl h
 ·
  exact .inr ⟨g, o, e, by simp⟩
theorem AwayS.fresh {w : World} {A : Option Addr} {l c n g : Nat} (h : Z16 w (.slice A l c) n) (_hg : w.heap.size ≤ g) : AwayS (some g) A l := by
 rcases z16_at h with h | ⟨b, o, e, hb⟩
 ·
  exact .inl h
 ·
  exact .inr ⟨b, o, e, by intro q; injection q with q; omega⟩
theorem AwayS.new {B : Nat} {X : Option Nat} {A : Option Addr} {l : Nat} (h : NewS B A l) (hX : ∀ g, X = some g → g < B) : AwayS X A l := by
 rcases h with h | ⟨g, e, hg⟩
 ·
  exact .inl h
 ·
  exact .inr ⟨g, 0, e, fun q => by have := hX g q; omega⟩
theorem Z16.away {w w' : World} {L : List Nat} {X : Option Nat} {A : Option Addr} {l c n : Nat} (h : Z16 w (.slice A l c) n) (hk : Keeps L w w') (ha : AwayS X A l) (hL : ∀ g ∈ L, X = some g) : Z16 w' (.slice A l c) n := by
 obtain ⟨A', l', c', xs, e, ⟨h1, h2, h3⟩, hr, hc⟩ := h
 injection e with e1 e2 e3
 subst e1 e2 e3
 refine ⟨A, l, c, xs, rfl, ⟨h1, h2, ?_⟩, hr, hc⟩
 intro hne
 obtain ⟨b, off, rfl, hcell⟩ := h3 hne
 have hb : X ≠ some b := by
  rcases ha with h0 | ⟨g, o, e, hg⟩
  ·
   subst h0
   exact absurd (by rw [List.eq_nil_of_length_eq_zero h1]; rfl) hne
  ·
   injection e with e
   injection e with e _
   rw [e]; exact hg
 refine ⟨b, off, rfl, fun j v hv => ?_⟩
 exact keeps_cell hk (hcell j v hv) (fun q => hb (hL _ q))
/-- An integer away from a block. -/
def IntA (X : Option Nat) (w : World) (v : Value) (z : Int) : Prop := ∃ A l c, v = .agg #[.bool (decide (z < 0)), .slice A l c] ∧ Z16 w (.slice A l c) z.natAbs ∧ AwayS X A l
theorem IntA.int {X : Option Nat} {w : World} {v : Value} {z : Int} (h : IntA X w v z) : IntZ w v z := by
 obtain ⟨A, l, c, e, h, _⟩ := h
 exact ⟨A, l, c, e, h⟩
theorem IntA.ext {X : Option Nat} {w w' : World} {v : Value} {z : Int} (h : IntA X w v z) (he : Ext w w') : IntA X w' v z := by
 obtain ⟨A, l, c, e, h, ha⟩ := h
 exact ⟨A, l, c, e, h.ext he, ha⟩
theorem IntA.keepsNI {X : Option Nat} {w w' : World} {v : Value} {z : Int} {L : List Nat} (h : IntA X w v z) (hk : Keeps L w w') (hN : ∀ g ∈ L, NoInts w g) : IntA X w' v z := by
 obtain ⟨A, l, c, e, h, ha⟩ := h
 exact ⟨A, l, c, e, NatV.keepsNI h hk hN, ha⟩
theorem IntA.none {w : World} {v : Value} {z : Int} (h : IntZ w v z) : IntA none w v z := by
 obtain ⟨A, l, c, e, h⟩ := h
 exact ⟨A, l, c, e, h, .none h⟩
theorem IntA.open {X : Option Nat} {w : World} {v : Value} {z : Int} (h : IntA X w v z) : ∃ s A l c, v = .agg #[.bool s, .slice A l c] := by
 obtain ⟨A, l, c, e, _⟩ := h
 exact ⟨_, A, l, c, e⟩
/-- The row X grew: it is where it was, or new. -/
theorem IntA.grown {X X' : Option Nat} {w w' : World} {v : Value} {z : Int} (h : IntA X w v z) (hg : w.grownBy w' X) (hX : X' = X ∨ X' = some w.heap.size) : IntA X' w' v z := by
 obtain ⟨A, l, c, e, h, ha⟩ := h
 refine ⟨A, l, c, e, h.away (Keeps.of_grown (L := X.toList) hg (fun k hk => by rw [hk]; simp)) ha (fun g hg => by cases X <;> simp_all), ?_⟩
 rcases hX with rfl | rfl
 ·
  exact ha
 ·
  exact .fresh h (Nat.le_refl _)
/-- In a row: two cells. -/
def DuoA (X : Option Nat) (w : World) (cs : List Value) (z : Int) : Prop := ∃ s A l c, cs = [.bool s, .slice A l c] ∧ IntA X w (.agg #[.bool s, .slice A l c]) z
theorem kindDuoA (X : Option Nat) : KindK 2 (DuoA X) := ⟨fun w cs x h => by obtain ⟨s, A, l, c, rfl, _⟩ := h; rfl, fun w w' L cs x h hk hN => by obtain ⟨s, A, l, c, e, h⟩ := h; exact ⟨s, A, l, c, e, h.keepsNI hk hN⟩, fun h => by omega⟩
theorem DuoA.none {w : World} {cs : List Value} {z : Int} (h : Duo w cs z) : DuoA none w cs z := by
 obtain ⟨s, A, l, c, e, h⟩ := h
 exact ⟨s, A, l, c, e, .none h⟩
theorem DuoA.duo {X : Option Nat} {w : World} {cs : List Value} {z : Int} (h : DuoA X w cs z) : Duo w cs z := by
 obtain ⟨s, A, l, c, e, h⟩ := h
 exact ⟨s, A, l, c, e, h.int⟩
theorem DuoA.grown {X X' : Option Nat} {w w' : World} {cs : List Value} {z : Int} (h : DuoA X w cs z) (hg : w.grownBy w' X) (hX : X' = X ∨ X' = some w.heap.size) : DuoA X' w' cs z := by
 obtain ⟨s, A, l, c, e, h⟩ := h
 exact ⟨s, A, l, c, e, h.grown hg hX⟩
section
variable {X : Option Nat} {te tr : TypeId} {base : Nat} {w w' : World} {gt ct m n : Nat} {vs : List Value} {T : Nat → Nat → Int}
theorem TabG.imp2 {R R' : World → List Value → Int → Prop} (h : TabG 2 R te tr base w gt ct m n vs T) (hi : ∀ cs x, R w cs x → R' w cs x) : TabG 2 R' te tr base w gt ct m n vs T := by
 obtain ⟨h1, ⟨h2, rows, h3, h4⟩, h5⟩ := h
 exact ⟨h1, ⟨h2, rows, h3, fun i r hr => (h4 i r hr).imp hi⟩, h5⟩
/-- The element at row i, column j. -/
theorem NumK.twoA {w : World} {vs : List Value} {n : Nat} {f : Nat → Int} (h : NumK 2 (DuoA X) w vs n f) {j : Nat} (hj : j < n) : ∃ s A l c, vs[j * 2]? = some (.bool s) ∧ vs[j * 2 + 1]? = some (.slice A l c) ∧ IntA X w (.agg #[.bool s, .slice A l c]) (f j) := by
 obtain ⟨cs, h1, ⟨s, A, l, c, rfl, h2⟩, h3⟩ := h.2 j hj
 exact ⟨s, A, l, c, by have := h3 0 (by omega); simpa using this, by have := h3 1 (by omega); simpa using this, h2⟩
theorem TabG.put2A (h : TabG 2 (DuoA X) te tr base w gt ct m n vs T) {i j g : Nat} (hi : i < m) (hj : j < n) {c : Nat} (hv : vs[i]? = some (.slice (some ⟨g, 0, none⟩) n c)) (hgt : g ≠ gt)
  {sg : Bool} {A : Option Addr} {l c1 : Nat} {x : Int} (hx : IntA X ((w.setCell ⟨g, j * 2, none⟩ (.bool sg)).setCell ⟨g, j * 2 + 1, none⟩ (.slice A l c1)) (.agg #[.bool sg, .slice A l c1]) x) :
  TabG 2 (DuoA X) te tr base ((w.setCell ⟨g, j * 2, none⟩ (.bool sg)).setCell ⟨g, j * 2 + 1, none⟩ (.slice A l c1)) gt ct m n vs (fun a b => if a = i ∧ b = j then x else T a b) ∧
  Keeps [g] w ((w.setCell ⟨g, j * 2, none⟩ (.bool sg)).setCell ⟨g, j * 2 + 1, none⟩ (.slice A l c1)) := by
 obtain ⟨v, r, hv', ho, hr⟩ := h.tbl.row hi
 rw [hv] at hv'
 injection hv' with hv'
 subst hv'
 have hb : j * 2 + 2 ≤ r.length := by rw [ho.1]; omega
 obtain ⟨h1, h2, h3⟩ := set_two r (j * 2) (.bool sg) (.slice A l c1) hb
 have hkp : Keeps [g] w ((w.setCell ⟨g, j * 2, none⟩ (.bool sg)).setCell ⟨g, j * 2 + 1, none⟩ (.slice A l c1)) := ((Keeps.refl [g] w).setCell (.inl (by simp)) _).setCell (.inl (by simp)) _
 exact ⟨h.put (kindDuoA X) hi hj hv hgt ho (rowPut (rowPut ho)) hkp (fun q => (q.set _ (noInt_bool sg)).set _ (noInt_slice A l c1)) rfl ⟨_, _, _, _, rfl, hx⟩ h2 h3, hkp⟩
/-- The row X of integers grew. -/
theorem TabG.grownX {X' : Option Nat} {bc ti k : Nat} {v : Value} {xs : List Value} (h : TabG 2 (DuoA v.ownBlock) te tr base w gt ct m n vs T) {tx : TypeId} (ho : w.ownsRow bc tx k v ti xs) (hg : w.grownBy w' v.ownBlock) (hX : X' = v.ownBlock ∨ X' = some w.heap.size) (h1 : tx ≠ te) (h2 : tx ≠ tr) :
  TabG 2 (DuoA X') te tr base w' gt ct m n vs T := by
 have hk : Keeps v.ownBlock.toList w w' := keeps_own hg
 have hne : ∀ {u : Value} {b : Nat} {size n2 : Nat} {te2 : TypeId} {us : List Value}, w.ownsRow b te2 size u n2 us → tx ≠ te2 → ∀ g, u.ownBlock = some g → g ∉ v.ownBlock.toList := fun hu ht g hg hl => by
  have hv : v.ownBlock = some g := by
   cases hq : v.ownBlock with
   | none => rw [hq] at hl; simp at hl
   | some q => rw [hq] at hl; simp at hl; rw [hl]
  rcases own_ne ho hu ht with q | q
  ·
   rw [hv] at q; cases q
  ·
   rw [hv, hg] at q; exact q rfl
 have hrow : ∀ u ∈ vs, ∀ g, u.ownBlock = some g → g ∉ v.ownBlock.toList := fun u hu g hg => by
  obtain ⟨i, hi, rfl⟩ := List.getElem_of_mem hu
  obtain ⟨v', r, h3, ho', _⟩ := h.tbl.row (i := i) (by rw [← h.tbl.len]; exact hi)
  rw [List.getElem?_eq_getElem hi] at h3
  injection h3 with h3
  subst h3
  exact hne ho' h1 g hg
 obtain ⟨g1, ⟨g2, rows, g3, g4⟩, g5⟩ := h
 refine ⟨ownsRow_keeps g1 hk (hne g1 h2), ⟨g2, rows, g3.keeps hk hrow, fun i r hr => (g4 i r hr).imp fun cs x hq => hq.grown hg hX⟩, ?_⟩
 rcases g5 with g5 | ⟨g5, g6⟩
 ·
  exact .inl g5
 ·
  refine .inr ⟨fun u hu => (g5 u hu).keeps hk (hrow u hu), ?_⟩
  have := (RowNI.keeps (v := .slice (some ⟨gt, 0, none⟩) m ct) (fun g hg => by simp [Value.ownBlock] at hg; subst hg; exact g6) hk (hne g1 h2)) gt (by simp [Value.ownBlock])
  exact this
end
end Go.Proofs.Ytikhlcgnlbinfaa
