/- Lemmas of the proof that follows (Moves, part 14): walks of functions by contract, and plain lemmas. Conditions: none. -/
import Derived.Test.YtikhlcgnlbinfaaMovesM
namespace Go.Proofs.Ytikhlcgnlbinfaa
open Lib (hid)
open Go.RowKit
theorem elS9 : Elem Try.prog 210 263 9 168 (.agg #[.bool false, .slice none 0 0, .slice none 0 0, .bool false, .slice none 0 0, .slice none 0 0, .bool false, .slice none 0 0, .slice none 0 0]) := Elem.mk' (by kernel_rfl) (by kernel_rfl) rfl (by decide)
theorem RowN.make9 {P : World → Value → Rat → Prop} {te : TypeId} {base g n : Nat} {w : World} {us : List Value} (ho : w.ownsRow base te 9 (.slice (some ⟨g, 0, none⟩) n n) n us) (h1 : ∀ i, i < n * 9 → us[i]? = (Value.agg #[.bool false, .slice none 0 0, .slice none 0 0, .bool false, .slice none 0 0, .slice none 0 0, .bool false, .slice none 0 0, .slice none 0 0]).cells[i % 9]?) (h2 : ∀ u ∈ us, u ∈ (Value.agg #[.bool false, .slice none 0 0, .slice none 0 0, .bool false, .slice none 0 0, .slice none 0 0, .bool false, .slice none 0 0, .slice none 0 0]).cells) : RowN P te 9 base w g n n (3 * n) (fun _ => none) :=
 RowN.zero rfl ho h1 h2 (fun u hu => by
  simp [Value.cells] at hu
  rcases hu with rfl | rfl | rfl | rfl | rfl | rfl
  all_goals first | exact noInt_bool _ | exact noInt_slice _ _ _) ⟨3, rfl⟩ (fun i hi => by
  match i, hi with
  | 0, _ => rfl
  | 1, _ => rfl
  | 2, _ => rfl
  | 3, _ => rfl
  | 4, _ => rfl
  | 5, _ => rfl
  | 6, _ => rfl
  | 7, _ => rfl
  | 8, _ => rfl
  | _ + 9, hi => omega) (by omega)
theorem solG_at {n : Nat} {s : GSt} {j : Nat} : solG n s j = if 0 ≤ pivI (s.piv[j]?) then s.tab (pivI (s.piv[j]?)).toNat n else 0 := by
 unfold solG
 split
 ·
  rename_i i hp
  rw [hp]
  simp [pivI]
 ·
  rename_i h
  cases hp : s.piv[j]? with
  | none => rfl
  | some o =>
   cases o with
   | none => rfl
   | some t => exact absurd hp (h t)
theorem pivI_low (o : Option (Option Nat)) : pivI o = -1 ∨ ∃ t : Nat, o = some (some t) ∧ pivI o = (t : Int) := by
 match o with
 | none => exact .inl rfl
 | some none => exact .inl rfl
 | some (some t) => exact .inr ⟨t, rfl, rfl⟩
set_option maxRecDepth 100000 in
set_option maxHeartbeats 2000000 in
theorem solve_r6 (go S jj ss kk : Nat) (w : World) (hss : Hid (jj / 3 = ss)) (hkk : Hid (jj % 3 = kk)) (_hs1 : ss < S) (_hk3 : (kk : Int) < 3) (_hk4 : kk < 3) (_hj : jj ≤ 1000) (a : Act) (Q : Exit → Act → World → Prop) (hsize : 31 ≤ a.tmps.size)
  (s4 : a.tmps[4]? = some (.slice (some ⟨go, 0, none⟩) S S))
  (s5 : a.tmps[5]? = some (.int .i64 (jj : Int)))
  (hend : ∀ (xv0 xv1 xv2 xv3 xv4 xv5 xv6 xv7 : Value) (W : World), (xv0 = .slice (some ⟨go, 0, none⟩) S S) → (xv1 = .int .i64 (jj : Int)) → (xv2 = .int .i64 (ss : Int)) → (xv3 = .int .i64 (jj : Int)) → (xv4 = .int .i64 (kk : Int)) → (NumX W xv5 (((0 : Int) : Rat)) (2)) → (xv6 = .pointer (some ⟨go, ss * 9, none⟩)) → (xv7 = .pointer (some ⟨go, ss * 9 + kk * 3, none⟩)) → Ext w W → wpList Try.prog (rops Try.f124 6).toArray Q ((rops Try.f124 6).drop 8) ((((((((a.put (some 23) xv0).put (some 24) xv1).put (some 25) xv2).put (some 26) xv3).put (some 27) xv4).put (some 28) xv5).put (some 29) xv6).put (some 30) xv7) W) :
  (Code.region 6 (rops Try.f124 6).toArray true).wp Try.prog Q a w := by
 refine wp_region_k 8 [some 23, some 24, some 25, some 26, some 27, some 28, some 29, some 30] [[], [], [1], [], [3], [], [0, 2], [4, 6]] [eqv (.slice (some ⟨go, 0, none⟩) S S), eqv (.int .i64 (jj : Int)), eqv (.int .i64 (ss : Int)), eqv (.int .i64 (jj : Int)), eqv (.int .i64 (kk : Int)), fun v W => NumX W v (((0 : Int) : Rat)) (2), eqv (.pointer (some ⟨go, ss * 9, none⟩)), eqv (.pointer (some ⟨go, ss * 9 + kk * 3, none⟩))] (by kernel_rfl) (by kernel_rfl) rfl (by decide) hsize ⟨monC, monC, monC, monC, monC, by intro v W W' h hX; exact NumX.ext h hX, monC, monC, trivial⟩ ?_ ?_
 ·
  clear hend
  simp only [rops, Try.f124, regOf, Option.bind_some, Nat.reduceBEq, if_true, if_false, Bool.false_eq_true, Option.getD_some]
  simp only [List.take_succ_cons, List.take_zero]
  refine ⟨?_, ?_, ?_, ?_, ?_, ?_, ?_, ?_, trivial⟩
  ·
   rintro us W hJ _ b hb hbz K hK0 hK Qz
   have e4 := (hbz 4 (by simp)).trans s4
   clear hb hbz
   go_simp
   exact hK0 _ rfl
  ·
   rintro us W hJ _ b hb hbz K hK0 hK Qz
   have e5 := (hbz 5 (by simp)).trans s5
   clear hb hbz
   go_simp
   exact hK0 _ rfl
  ·
   rintro us W hJ d1 b hb hbz K hK0 hK Qz
   have e24 := slotV (hb 1 24 rfl) d1
   clear hb hbz d1
   have qw : IntKind.i64.wrap ((jj : Int) / 3) = (jj : Int) / 3 := IntWalk.i64_in _ (by omega)
   go_simp
   exact hK0 _ (by have := hss.out; congr 1; omega)
  ·
   rintro us W hJ _ b hb hbz K hK0 hK Qz
   have e5 := (hbz 5 (by simp)).trans s5
   clear hb hbz
   go_simp
   exact hK0 _ rfl
  ·
   rintro us W hJ d3 b hb hbz K hK0 hK Qz
   have e26 := slotV (hb 3 26 rfl) d3
   clear hb hbz d3
   have ht : (jj : Int).tmod 3 = (jj : Int) % 3 := Int.tmod_eq_emod_of_nonneg (by omega)
   have qw : IntKind.i64.wrap ((jj : Int) % 3) = (jj : Int) % 3 := IntWalk.i64_in _ (by omega)
   go_simp
   exact hK0 _ (by have := hkk.out; congr 1; omega)
  ·
   rintro us W hJ _ b hb hbz K hK0 hK Qz
   clear hb hbz
   go_simp
   refine (intX 0 _ (by omega) (by omega)).mono ?_
   rintro e w' ⟨v, rfl, hv, hX⟩
   exact hK _ _ hv hX
  ·
   rintro us W hJ ⟨d0, d2⟩ b hb hbz K hK0 hK Qz
   have e23 := slotV (hb 0 23 rfl) d0
   have e25 := slotV (hb 2 25 rfl) d2
   clear hb hbz d0 d2
   go_simp
   exact hK0 _ rfl
  ·
   rintro us W hJ ⟨d4, d6⟩ b hb hbz K hK0 hK Qz
   have e27 := slotV (hb 4 27 rfl) d4
   have e29 := slotV (hb 6 29 rfl) d6
   clear hb hbz d4 d6
   go_simp
   exact hK0 _ rfl
 ·
  rintro us W ⟨v0, v1, v2, v3, v4, v5, v6, v7, _⟩ hJ
  exact hend _ _ _ _ _ _ _ _ W v0 v1 v2 v3 v4 v5 v6 v7 hJ
set_option maxRecDepth 100000 in
set_option maxHeartbeats 2000000 in
theorem solve_r8 (go S jj ss kk gs gt ct nn tt ga ca gp : Nat) (s9 : Bool) (A9 B9 : Option Addr) (l9 c9 m9 k9 : Nat) (w : World) (hss : Hid (jj / 3 = ss)) (hkk : Hid (jj % 3 = kk)) (_hs1 : ss < S) (_hk3 : (kk : Int) < 3) (_hk4 : kk < 3) (_hj : jj ≤ 1000) (hs : w.cell? ⟨gs, 0, none⟩ = some (.slice (some ⟨gt, 0, none⟩) nn ct)) (ha : w.cell? ⟨gt, tt, none⟩ = some (.slice (some ⟨ga, 0, none⟩) (nn + 1) ca)) (hp : w.cell? ⟨gp, 0, none⟩ = some (.int .i64 (S : Int))) (_hqN : IntKind.i64.wrap (3 * (S : Int)) = (nn : Int)) (_htt : tt < nn) (_hnn : nn < nn + 1) (_hnn2 : (nn : Int) < (nn : Int) + 1) (x0 : w.cell? ⟨ga, nn * 3, none⟩ = some (.bool s9)) (x1 : w.cell? ⟨ga, nn * 3 + 1, none⟩ = some (.slice A9 l9 c9)) (x2 : w.cell? ⟨ga, nn * 3 + 2, none⟩ = some (.slice B9 m9 k9)) (a : Act) (Q : Exit → Act → World → Prop) (hsize : 50 ≤ a.tmps.size)
  (s1 : a.tmps[1]? = some (.pointer (some ⟨gp, 0, none⟩)))
  (s3 : a.tmps[3]? = some (.pointer (some ⟨gs, 0, none⟩)))
  (s4 : a.tmps[4]? = some (.slice (some ⟨go, 0, none⟩) S S))
  (s5 : a.tmps[5]? = some (.int .i64 (jj : Int)))
  (s6 : a.tmps[6]? = some (.int .i64 (tt : Int)))
  (hend : ∀ (xv0 xv1 xv2 xv3 xv4 xv5 xv6 xv7 xv8 xv9 xv10 xv11 xv12 xv13 xv14 xv15 xv16 : Value) (W : World), (xv0 = .slice (some ⟨go, 0, none⟩) S S) → (xv1 = .int .i64 (jj : Int)) → (xv2 = .int .i64 (ss : Int)) → (xv3 = .int .i64 (jj : Int)) → (xv4 = .int .i64 (kk : Int)) → (xv5 = .pointer (some ⟨gs, 0, none⟩)) → (xv6 = .slice (some ⟨gt, 0, none⟩) nn ct) → (xv7 = .int .i64 (tt : Int)) → (xv8 = .pointer (some ⟨gt, tt, none⟩)) → (xv9 = .slice (some ⟨ga, 0, none⟩) (nn + 1) ca) → (xv10 = .pointer (some ⟨gp, 0, none⟩)) → (xv11 = .int .i64 (S : Int)) → (xv12 = .int .i64 (nn : Int)) → (xv13 = .pointer (some ⟨ga, nn * 3, none⟩)) → (xv14 = .agg #[.bool s9, .slice A9 l9 c9, .slice B9 m9 k9]) → (xv15 = .pointer (some ⟨go, ss * 9, none⟩)) → (xv16 = .pointer (some ⟨go, ss * 9 + kk * 3, none⟩)) → Ext w W → wpList Try.prog (rops Try.f124 8).toArray Q ((rops Try.f124 8).drop 17) (((((((((((((((((a.put (some 33) xv0).put (some 34) xv1).put (some 35) xv2).put (some 36) xv3).put (some 37) xv4).put (some 38) xv5).put (some 39) xv6).put (some 40) xv7).put (some 41) xv8).put (some 42) xv9).put (some 43) xv10).put (some 44) xv11).put (some 45) xv12).put (some 46) xv13).put (some 47) xv14).put (some 48) xv15).put (some 49) xv16) W) :
  (Code.region 8 (rops Try.f124 8).toArray true).wp Try.prog Q a w := by
 refine wp_region_k 17 [some 33, some 34, some 35, some 36, some 37, some 38, some 39, some 40, some 41, some 42, some 43, some 44, some 45, some 46, some 47, some 48, some 49] [[], [], [1], [], [3], [], [5], [], [6, 7], [8], [], [10], [11], [9, 12], [13], [0, 2], [4, 15]] [eqv (.slice (some ⟨go, 0, none⟩) S S), eqv (.int .i64 (jj : Int)), eqv (.int .i64 (ss : Int)), eqv (.int .i64 (jj : Int)), eqv (.int .i64 (kk : Int)), eqv (.pointer (some ⟨gs, 0, none⟩)), eqv (.slice (some ⟨gt, 0, none⟩) nn ct), eqv (.int .i64 (tt : Int)), eqv (.pointer (some ⟨gt, tt, none⟩)), eqv (.slice (some ⟨ga, 0, none⟩) (nn + 1) ca), eqv (.pointer (some ⟨gp, 0, none⟩)), eqv (.int .i64 (S : Int)), eqv (.int .i64 (nn : Int)), eqv (.pointer (some ⟨ga, nn * 3, none⟩)), eqv (.agg #[.bool s9, .slice A9 l9 c9, .slice B9 m9 k9]), eqv (.pointer (some ⟨go, ss * 9, none⟩)), eqv (.pointer (some ⟨go, ss * 9 + kk * 3, none⟩))] (by kernel_rfl) (by kernel_rfl) rfl (by decide) hsize ⟨monC, monC, monC, monC, monC, monC, monC, monC, monC, monC, monC, monC, monC, monC, monC, monC, monC, trivial⟩ ?_ ?_
 ·
  clear hend
  simp only [rops, Try.f124, regOf, Option.bind_some, Nat.reduceBEq, if_true, if_false, Bool.false_eq_true, Option.getD_some]
  simp only [List.take_succ_cons, List.take_zero]
  refine ⟨?_, ?_, ?_, ?_, ?_, ?_, ?_, ?_, ?_, ?_, ?_, ?_, ?_, ?_, ?_, ?_, ?_, trivial⟩
  ·
   rintro us W hJ _ b hb hbz K hK0 hK Qz
   have e4 := (hbz 4 (by simp)).trans s4
   clear hb hbz
   go_simp
   exact hK0 _ rfl
  ·
   rintro us W hJ _ b hb hbz K hK0 hK Qz
   have e5 := (hbz 5 (by simp)).trans s5
   clear hb hbz
   go_simp
   exact hK0 _ rfl
  ·
   rintro us W hJ d1 b hb hbz K hK0 hK Qz
   have e34 := slotV (hb 1 34 rfl) d1
   clear hb hbz d1
   have qw : IntKind.i64.wrap ((jj : Int) / 3) = (jj : Int) / 3 := IntWalk.i64_in _ (by omega)
   go_simp
   exact hK0 _ (by have := hss.out; congr 1; omega)
  ·
   rintro us W hJ _ b hb hbz K hK0 hK Qz
   have e5 := (hbz 5 (by simp)).trans s5
   clear hb hbz
   go_simp
   exact hK0 _ rfl
  ·
   rintro us W hJ d3 b hb hbz K hK0 hK Qz
   have e36 := slotV (hb 3 36 rfl) d3
   clear hb hbz d3
   have ht : (jj : Int).tmod 3 = (jj : Int) % 3 := Int.tmod_eq_emod_of_nonneg (by omega)
   have qw : IntKind.i64.wrap ((jj : Int) % 3) = (jj : Int) % 3 := IntWalk.i64_in _ (by omega)
   go_simp
   exact hK0 _ (by have := hkk.out; congr 1; omega)
  ·
   rintro us W hJ _ b hb hbz K hK0 hK Qz
   have e3 := (hbz 3 (by simp)).trans s3
   clear hb hbz
   go_simp
   exact hK0 _ rfl
  ·
   rintro us W hJ d5 b hb hbz K hK0 hK Qz
   have e38 := slotV (hb 5 38 rfl) d5
   clear hb hbz d5
   have q := Ext.cell hJ hs
   go_simp
   exact hK0 _ rfl
  ·
   rintro us W hJ _ b hb hbz K hK0 hK Qz
   have e6 := (hbz 6 (by simp)).trans s6
   clear hb hbz
   go_simp
   exact hK0 _ rfl
  ·
   rintro us W hJ ⟨d6, d7⟩ b hb hbz K hK0 hK Qz
   have e39 := slotV (hb 6 39 rfl) d6
   have e40 := slotV (hb 7 40 rfl) d7
   clear hb hbz d6 d7
   go_simp
   exact hK0 _ rfl
  ·
   rintro us W hJ d8 b hb hbz K hK0 hK Qz
   have e41 := slotV (hb 8 41 rfl) d8
   clear hb hbz d8
   have q := Ext.cell hJ ha
   go_simp
   exact hK0 _ rfl
  ·
   rintro us W hJ _ b hb hbz K hK0 hK Qz
   have e1 := (hbz 1 (by simp)).trans s1
   clear hb hbz
   go_simp
   exact hK0 _ rfl
  ·
   rintro us W hJ d10 b hb hbz K hK0 hK Qz
   have e43 := slotV (hb 10 43 rfl) d10
   clear hb hbz d10
   have q := Ext.cell hJ hp
   go_simp
   exact hK0 _ rfl
  ·
   rintro us W hJ d11 b hb hbz K hK0 hK Qz
   have e44 := slotV (hb 11 44 rfl) d11
   clear hb hbz d11
   go_simp
   exact hK0 _ rfl
  ·
   rintro us W hJ ⟨d9, d12⟩ b hb hbz K hK0 hK Qz
   have e42 := slotV (hb 9 42 rfl) d9
   have e45 := slotV (hb 12 45 rfl) d12
   clear hb hbz d9 d12
   go_simp
   exact hK0 _ rfl
  ·
   rintro us W hJ d13 b hb hbz K hK0 hK Qz
   have e46 := slotV (hb 13 46 rfl) d13
   clear hb hbz d13
   have z0 := Ext.cell hJ x0
   have z1 := Ext.cell hJ x1
   have z2 := Ext.cell hJ x2
   go_simp
   exact hK0 _ rfl
  ·
   rintro us W hJ ⟨d0, d2⟩ b hb hbz K hK0 hK Qz
   have e33 := slotV (hb 0 33 rfl) d0
   have e35 := slotV (hb 2 35 rfl) d2
   clear hb hbz d0 d2
   go_simp
   exact hK0 _ rfl
  ·
   rintro us W hJ ⟨d4, d15⟩ b hb hbz K hK0 hK Qz
   have e37 := slotV (hb 4 37 rfl) d4
   have e48 := slotV (hb 15 48 rfl) d15
   clear hb hbz d4 d15
   go_simp
   exact hK0 _ rfl
 ·
  rintro us W ⟨v0, v1, v2, v3, v4, v5, v6, v7, v8, v9, v10, v11, v12, v13, v14, v15, v16, _⟩ hJ
  exact hend _ _ _ _ _ _ _ _ _ _ _ _ _ _ _ _ _ W v0 v1 v2 v3 v4 v5 v6 v7 v8 v9 v10 v11 v12 v13 v14 v15 v16 hJ
set_option maxRecDepth 100000 in
set_option maxHeartbeats 16000000 in
theorem solve_ok (S : Nat) (A : Option Addr) (n c : Nat) (ms : List Mt) (w : World) (h : MsAt w A n ms) (hv : VP S ms) :
  Calls Try.prog 124 #[.agg #[.int .i64 (S : Int), .slice A n c]] w (fun e w' => ∃ go, e = .returned (.slice (some ⟨go, 0, none⟩) S S) ∧ w.heap.size ≤ go ∧ ShP (fun w v q => NumX w v q 53) w' go 0 S (solP (3 * S) ms) ∧ Ext w w') := by
 have hS1 : 1 ≤ S := by have := hv.1; omega
 have hS8 : S ≤ 8 := by have := hv.2.1; omega
 obtain ⟨nn, hN⟩ : ∃ nn, nn = 3 * S := ⟨_, rfl⟩
 have hNb : nn ≤ 24 := by omega
 have hqN : IntKind.i64.wrap (3 * (S : Int)) = (nn : Int) := by rw [IntWalk.i64_in _ (by omega)]; omega
 have hfit := fun j hj i hi c hc => redG_fit hv.2.2.2 hv.2.2.1 hNb j hj i hi c hc
 have HFIT := hid hfit
 have H := hid h
 have HV := hid hv
 have HNN := hid hN
 rw [← hN]
 clear h hv hN hfit
 have hXe : Ext w (w.alloc (.cells #[.int .i64 (S : Int), .slice A n c] 76)) := (Ext.refl w).alloc _
 have kP : Blk (w.alloc (.cells #[.int .i64 (S : Int), .slice A n c] 76)) w.heap.size 76 #[.int .i64 (S : Int), .slice A n c] := Blk.new w _ _
 go_enter Try.func124, Try.ntmps124
 go_upto_region 1 with (fail)
 generalize w.alloc (.cells #[.int .i64 (S : Int), .slice A n c] 76) = w1 at hXe kP ⊢
 have HX := hid hXe
 have HP := hid kP
 have p0 := kP.cell 0
 have p1 := kP.cell 1
 have hpl := kP.lt
 simp only [List.getElem?_toArray, List.getElem?_cons_zero, List.getElem?_cons_succ] at p0 p1
 clear hXe kP
 go_wp2_with fail
 refine (build_ok S nn A n c ms _ (H.out.ext HX.out) HV.out HNN.out).mono ?_
 rintro e w2 ⟨gt, ct, vs0, rfl, hT, hct, hX⟩
 replace HX := hid (HX.out.trans hX)
 replace HP := hid (HP.out.ext hX)
 have hT53 : TabG 3 (Tri fun w v q => NumX w v q 53) 217 226 w1.heap.size w2 gt ct nn (nn + 1) vs0 (tabM ms nn) := hT.impl (fun i j cs _ _ hc => by
  obtain ⟨s, A, l, c, B, m, k, e, hx⟩ := hc
  exact ⟨s, A, l, c, B, m, k, e, hx.mono (by omega)⟩)
 have HT := hid hT53
 have hX2 := hX.size
 clear hT hX p0 p1 hT53
 go_upto_region 2 with (fail)
 have hXa : Ext w2 (w2.alloc (.cells #[.slice (some ⟨gt, 0, none⟩) nn ct] 201)) := (Ext.refl _).alloc _
 have kB := Blk.new w2 201 #[.slice (some ⟨gt, 0, none⟩) nn ct]
 replace HX := hid (HX.out.trans hXa)
 replace HP := hid (HP.out.ext hXa)
 have HL := hid HT.out.tabL_low
 replace HT := hid (HT.out.ext (kindNum 53) hXa)
 clear hXa
 generalize w2.alloc (.cells #[.slice (some ⟨gt, 0, none⟩) nn ct] 201) = w3 at kB HX HP HT ⊢
 have hgs : w.heap.size < w2.heap.size := by omega
 have hLS : ∀ g ∈ tabL gt vs0, w.heap.size < g ∧ g < w2.heap.size := fun g hg => by have := HL.out g hg; omega
 generalize w2.heap.size = gs at kB hgs hLS hX2 ⊢
 have HB := hid kB
 have HLS := hid hLS
 have hbl := kB.lt
 clear kB hLS HL
 have p0 := HP.out.cell 0
 simp only [List.getElem?_toArray, List.getElem?_cons_zero] at p0
 have hxs := HX.out.size
 go_upto_region 3 with (at_make; refine wpList_mkS w3 elS9 rfl _ _ rfl w.heap.size _ _ _ _ S S rfl rfl (by first | rfl | omega) (by first | rfl | omega) (Nat.le_refl _) (by omega) (by unfold maxLen; omega) hxs ?_; intro w4 us hown hz1 hz2 hext hsz)
 have hrow : RowN (fun w v q => NumX w v q 53) 263 9 w.heap.size w4 w3.heap.size S S (3 * S) (fun _ => none) := RowN.make9 hown hz1 hz2
 replace HX := hid (HX.out.trans hext)
 replace HP := hid (HP.out.ext hext)
 replace HB := hid (HB.out.ext hext)
 replace HT := hid (HT.out.ext (kindNum 53) hext)
 generalize w3.heap.size = go at hrow hbl hsz hxs ⊢
 have HR := hid hrow
 clear hrow hown hz1 hz2 hext p0
 have p0 := HP.out.cell 0
 have b0 := HB.out.cell 0
 simp only [List.getElem?_toArray, List.getElem?_cons_zero] at p0 b0
 have hsx := HX.out.size
 go_wp2_with fail
 refine (reduce_v 53 w1.heap.size gt ct nn vs0 (tabM ms nn) w4 HT.out (by omega) HFIT.out (by omega) (by omega)).mono ?_
 rintro e w5 ⟨gp, rfl, hgp, ⟨up, hup, hpn⟩, ⟨vs, hsub, hT⟩, hk⟩
 clear p0 b0
 have hni : ∀ g ∈ tabL gt vs0, NoInts w4 g := fun g hg => by
  rcases HT.out.ni with h | h
  ·
   omega
  ·
   rcases List.mem_cons.1 hg with rfl | hg
   ·
    exact h.2
   ·
    obtain ⟨v, hv, hvg⟩ := List.mem_filterMap.1 hg
    exact h.1 v hv g hvg
 replace HX := hid (hk.ext HX.out (fun g hg => by have := HLS.out g hg; omega))
 replace HP := hid (HP.out.keeps hk (fun hg => by have := HLS.out _ hg; omega))
 replace HB := hid (HB.out.keeps hk (fun hg => by have := HLS.out _ hg; omega))
 replace HR := hid (HR.out.keeps (staysNum 53) hk hni (fun hg => by have := HLS.out _ hg; omega))
 replace HT := hid hT
 have HPR : Hid (RowI w4.heap.size w5 gp nn nn (fun j => pivI ((redG nn (tabM ms nn) nn).piv[j]?))) := hid ⟨up, hup, hpn⟩
 have hps : go < w4.heap.size := by have := hsz; omega
 have HPL : Hid (∀ j, j < nn → ∀ t, (redG nn (tabM ms nn) nn).piv[j]? = some (some t) → t < nn) := hid (fun j hj t ht => by
  have h1 := Stage.pivtop (n := nn) (T := tabM ms nn) nn j t ht
  have h2 := redG_top nn (tabM ms nn) nn
  omega)
 have HSUB := hid hsub
 have HNG := hid HR.out.ni
 clear hT hup hpn hk hni hsub HFIT
 go_wp2_with fail
 go_loopg [18] nn (fun f iv wr => ∃ j : Nat, f = nn - j ∧ j ≤ nn ∧ iv = .int .i64 (j : Int) ∧ Hid (RowN (fun w v q => NumX w v q 53) 263 9 w.heap.size wr go S S (3 * S) (fun u => if u < j then some (solP nn ms u) else none)) ∧ Hid (Ext w wr) ∧ Hid (Keeps [go] w5 wr))
 case atStart => exact ⟨0, by omega, by omega, rfl, hid (HR.out.congr (fun u _ => by rw [if_neg (by omega)])), HX, hid (Keeps.refl _ _)⟩
 case round =>
  clear HR HX
  obtain ⟨j, rfl, hj, rfl, HR, HX, HK⟩ := hrel
  by_cases hlt : j < nn
  ·
   have q1 : decide (j < nn) = true := decide_eq_true hlt
   obtain ⟨ss, hss⟩ : ∃ ss, j / 3 = ss := ⟨_, rfl⟩
   obtain ⟨kk, hkk⟩ : ∃ kk, j % 3 = kk := ⟨_, rfl⟩
   have hkk3 : kk < 3 := by omega
   have hssS : ss < S := by have := HNN.out; omega
   have hpj : ss * 9 + kk * 3 = j * 3 := by omega
   have hj3 : j < 3 * S := by have := HNN.out; omega
   have HSS := hid hss
   have HKK := hid hkk
   have HPJ := hid hpj
   clear hss hkk hpj
   have hpr := HPR.out.keeps HK.out (by simp; omega)
   have xg := hpr.cell hlt
   obtain ⟨pj, hpj⟩ : ∃ pj, pivI ((redG nn (tabM ms nn) nn).piv[j]?) = pj := ⟨_, rfl⟩
   rw [hpj] at xg
   have HPV := hid hpj
   clear hpr hpj
   go_upto_region 6 with (fail)
   refine solve_r6 go S j ss kk wr HSS.out HKK.out hssS (by omega) hkk3 (by omega) _ _ (by simp) rfl rfl ?_
   rintro xv0 xv1 xv2 xv3 xv4 xv5 xv6 xv7 W rfl rfl rfl rfl rfl hv rfl rfl hX
   simp only [rops, Try.f124, regOf, Option.bind_some, Nat.reduceBEq, if_true, if_false, Bool.false_eq_true, Option.getD_some, List.drop_succ_cons, List.drop_zero]
   simp only [Act.put, List.setIfInBounds_toArray, List.set_cons_succ, List.set_cons_zero]
   replace HR := hid (HR.out.ext (staysNum 53) hX)
   replace HX := hid (HX.out.trans hX)
   replace HK := hid (HK.out.trans (Keeps.of_ext hX _))
   clear xg hX
   obtain ⟨s4, A4, l4, c4, B4, m4, k4, rfl⟩ := NumX.open hv
   have HN := hid (hv.mono (show 2 ≤ 53 by omega))
   clear hv
   obtain ⟨s2, A2, l2, c2, B2, m2, k2, x0, x1, x2, _⟩ := HR.out.cells hj3 HPJ.out
   have f0 := HR.out.free (ss * 9 + kk * 3)
   have f1 := HR.out.free (ss * 9 + kk * 3 + 1)
   have f2 := HR.out.free (ss * 9 + kk * 3 + 2)
   go_upto_region 7 with (fail)
   clear x0 x1 x2 f0 f1 f2
   have hput := HR.out.put (staysNum 53) hj3 HPJ.out HN.out
   replace HK := hid (((HK.out.setCell (p := ⟨go, ss * 9 + kk * 3, none⟩) (.inl (by simp)) (.bool s4)).setCell (p := ⟨go, ss * 9 + kk * 3 + 1, none⟩) (.inl (by simp)) (.slice A4 l4 c4)).setCell (p := ⟨go, ss * 9 + kk * 3 + 2, none⟩) (.inl (by simp)) (.slice B4 m4 k4))
   replace HX := hid (((HX.out.setCell (p := ⟨go, ss * 9 + kk * 3, none⟩) (by simp only; omega) (.bool s4)).setCell (p := ⟨go, ss * 9 + kk * 3 + 1, none⟩) (by simp only; omega) (.slice A4 l4 c4)).setCell (p := ⟨go, ss * 9 + kk * 3 + 2, none⟩) (by simp only; omega) (.slice B4 m4 k4))
   clear HN HR
   generalize ((W.setCell ⟨go, ss * 9 + kk * 3, none⟩ (.bool s4)).setCell ⟨go, ss * 9 + kk * 3 + 1, none⟩ (.slice A4 l4 c4)).setCell ⟨go, ss * 9 + kk * 3 + 2, none⟩ (.slice B4 m4 k4) = wa at hput HK HX ⊢
   have HR := hid hput
   clear hput
   have HSOL : Hid (solP nn ms j = if 0 ≤ pj then (redG nn (tabM ms nn) nn).tab pj.toNat nn else 0) := hid (by unfold solP; rw [solG_at, HPV.out])
   rcases pivI_low ((redG nn (tabM ms nn) nn).piv[j]?) with hp | ⟨t, hp1, hp2⟩
   ·
    obtain rfl : pj = -1 := by rw [← HPV.out]; exact hp
    have HS0 : Hid (solP nn ms j = 0) := hid (by rw [HSOL.out, if_neg (by omega)])
    clear hp
    go_wp2
    go_roundg (nn - (j + 1))
    case rel =>
     refine ⟨j + 1, rfl, by omega, by go_num, hid (HR.out.congr (fun u _ => ?_)), HX, HK⟩
     by_cases e : u = j
     ·
      rw [if_pos e, e, if_pos (by omega), HS0.out]; rfl
     ·
      rw [if_neg e]
      by_cases h2 : u < j
      ·
       rw [if_pos h2, if_pos (by omega)]
      ·
       rw [if_neg h2, if_neg (by omega)]
    case measure => omega
   ·
    obtain rfl : pj = (t : Int) := by rw [← HPV.out]; exact hp2
    have htn := HPL.out j hlt t hp1
    have HS0 : Hid (solP nn ms j = (redG nn (tabM ms nn) nn).tab t nn) := hid (by rw [HSOL.out, if_pos (by omega), Int.toNat_natCast])
    clear hp1 hp2
    have hTW := HT.out.keeps (kindNum 53) HK.out (fun g hg => by simp at hg; subst hg; exact HNG.out) (fun g hg => by
     simp at hg
     subst hg
     refine ⟨?_, fun v hv e => ?_⟩
     ·
      have := HLS.out gt (inL_tab gt vs0).1; omega
     ·
      have := HLS.out g ((inL_tab gt vs0).2 v (HSUB.out v hv) g e); omega)
    obtain ⟨ga, ca, ra, tca, hva, hoa, hra, ha1, ha2, hat, ha3, ha4⟩ := hTW.row (by decide) (Nat.succ_pos _) htn
    obtain ⟨s9, A9, l9, c9, B9, m9, k9, x0, x1, x2, hx⟩ := hra.three (Nat.lt_succ_self nn)
    replace x0 := own_cell hoa x0
    replace x1 := own_cell hoa x1
    replace x2 := own_cell hoa x2
    rw [← HS0.out] at hx
    have HN := hid hx
    have hbw := HB.out.keeps HK.out (by simp; omega)
    have hpw := HP.out.keeps HK.out (by simp; omega)
    clear hTW hva hoa hra ha1 ha2 hat ha3 ha4 hx
    have q7 : decide ((0 : Int) ≤ (t : Int)) = true := decide_eq_true (by omega)
    go_upto_region 8 with (fail)
    refine solve_r8 go S j ss kk gs gt ct nn t ga ca w.heap.size s9 A9 B9 l9 c9 m9 k9 wa HSS.out HKK.out hssS (by omega) hkk3 (by omega) (hbw.cell 0) tca (hpw.cell 0) hqN htn (Nat.lt_succ_self nn) (by omega) x0 x1 x2 _ _ (by simp) rfl rfl rfl rfl rfl ?_
    rintro xv0 xv1 xv2 xv3 xv4 xv5 xv6 xv7 xv8 xv9 xv10 xv11 xv12 xv13 xv14 xv15 xv16 W rfl rfl rfl rfl rfl rfl rfl rfl rfl rfl rfl rfl rfl rfl rfl rfl rfl hX
    simp only [rops, Try.f124, regOf, Option.bind_some, Nat.reduceBEq, if_true, if_false, Bool.false_eq_true, Option.getD_some, List.drop_succ_cons, List.drop_zero]
    simp only [Act.put, List.setIfInBounds_toArray, List.set_cons_succ, List.set_cons_zero]
    replace HR := hid (HR.out.ext (staysNum 53) hX)
    replace HX := hid (HX.out.trans hX)
    replace HK := hid (HK.out.trans (Keeps.of_ext hX _))
    replace HN := hid (HN.out.ext hX)
    clear x0 x1 x2 tca hbw hpw hX
    obtain ⟨s2, A2, l2, c2, B2, m2, k2, x0, x1, x2, _⟩ := HR.out.cells hj3 HPJ.out
    have f0 := HR.out.free (ss * 9 + kk * 3)
    have f1 := HR.out.free (ss * 9 + kk * 3 + 1)
    have f2 := HR.out.free (ss * 9 + kk * 3 + 2)
    have hput := HR.out.put (staysNum 53) hj3 HPJ.out HN.out
    have HPUT := hid hput
    clear hput
    go_wp2
    go_roundg (nn - (j + 1))
    case rel =>
     refine ⟨j + 1, rfl, by omega, by go_num, hid (HPUT.out.congr (fun u _ => ?_)), hid (((HX.out.setCell (by simp only; omega) _).setCell (by simp only; omega) _).setCell (by simp only; omega) _), hid (((HK.out.setCell (.inl (by simp)) _).setCell (.inl (by simp)) _).setCell (.inl (by simp)) _)⟩
     by_cases e : u = j
     ·
      rw [if_pos e, e, if_pos (by omega)]
     ·
      rw [if_neg e, if_neg e]
      by_cases h2 : u < j
      ·
       rw [if_pos h2, if_pos (by omega)]
      ·
       rw [if_neg h2, if_neg (by omega)]
    case measure => omega
  ·
   obtain rfl : nn = j := by omega
   go_wp2
   go_ret
   exact ⟨go, rfl, by omega, HR.out.shp (fun u hu => by rw [if_pos (by have := HNN.out; omega)]), HX.out⟩
theorem elR9 : Elem Try.prog 91 98 9 168 (.agg #[.bool false, .slice none 0 0, .slice none 0 0, .bool false, .slice none 0 0, .slice none 0 0, .bool false, .slice none 0 0, .slice none 0 0]) := Elem.mk' (by kernel_rfl) (by kernel_rfl) rfl (by decide)
theorem pick_agg {P : World → Value → Rat → Prop} {w : World} {k : Nat} (hk : k < 3) {s0 s1 s2 : Bool} {A0 A1 A2 B0 B1 B2 : Option Addr} {l0 c0 m0 k0 l1 c1 m1 k1 l2 c2 m2 k2 : Nat} {q : Nat → Rat} (h0 : P w (.agg #[.bool s0, .slice A0 l0 c0, .slice B0 m0 k0]) (q 0)) (h1 : P w (.agg #[.bool s1, .slice A1 l1 c1, .slice B1 m1 k1]) (q 1)) (h2 : P w (.agg #[.bool s2, .slice A2 l2 c2, .slice B2 m2 k2]) (q 2)) :
  ∃ s A l c B m n, pick3 (Value.bool s0) (Value.bool s1) (Value.bool s2) k = .bool s ∧ pick3 (Value.slice A0 l0 c0) (Value.slice A1 l1 c1) (Value.slice A2 l2 c2) k = .slice A l c ∧ pick3 (Value.slice B0 m0 k0) (Value.slice B1 m1 k1) (Value.slice B2 m2 k2) k = .slice B m n ∧ P w (.agg #[.bool s, .slice A l c, .slice B m n]) (q k) := by
 match k, hk with
 | 0, _ => exact ⟨_, _, _, _, _, _, _, rfl, rfl, rfl, h0⟩
 | 1, _ => exact ⟨_, _, _, _, _, _, _, rfl, rfl, rfl, h1⟩
 | 2, _ => exact ⟨_, _, _, _, _, _, _, rfl, rfl, rfl, h2⟩
 | _ + 3, hk => omega
theorem idx9N (x0 x1 x2 x3 x4 x5 x6 x7 x8 : Value) {k : Nat} (hk : k < 3) (w : World) : (Instr.index 263 (.agg #[x0, x1, x2, x3, x4, x5, x6, x7, x8]) (.int .i64 (k : Int))).run Try.prog w = .ok (.agg #[pick3 x0 x3 x6 k, pick3 x1 x4 x7 k, pick3 x2 x5 x8 k]) w := by
 have i0 : ∀ w : World, (Instr.index 263 (.agg #[x0, x1, x2, x3, x4, x5, x6, x7, x8]) (.int .i64 0)).run Try.prog w = .ok (.agg #[x0, x1, x2]) w := fun _ => by kernel_rfl
 have i1 : ∀ w : World, (Instr.index 263 (.agg #[x0, x1, x2, x3, x4, x5, x6, x7, x8]) (.int .i64 1)).run Try.prog w = .ok (.agg #[x3, x4, x5]) w := fun _ => by kernel_rfl
 have i2 : ∀ w : World, (Instr.index 263 (.agg #[x0, x1, x2, x3, x4, x5, x6, x7, x8]) (.int .i64 2)).run Try.prog w = .ok (.agg #[x6, x7, x8]) w := fun _ => by kernel_rfl
 match k, hk with
 | 0, _ => exact i0 w
 | 1, _ => exact i1 w
 | 2, _ => exact i2 w
 | _ + 3, hk => omega
theorem idx9R (x0 x1 x2 x3 x4 x5 x6 x7 x8 : Value) {k : Nat} (hk : k < 3) (w : World) : (Instr.index 98 (.agg #[x0, x1, x2, x3, x4, x5, x6, x7, x8]) (.int .i64 (k : Int))).run Try.prog w = .ok (.agg #[pick3 x0 x3 x6 k, pick3 x1 x4 x7 k, pick3 x2 x5 x8 k]) w := by
 have i0 : ∀ w : World, (Instr.index 98 (.agg #[x0, x1, x2, x3, x4, x5, x6, x7, x8]) (.int .i64 0)).run Try.prog w = .ok (.agg #[x0, x1, x2]) w := fun _ => by kernel_rfl
 have i1 : ∀ w : World, (Instr.index 98 (.agg #[x0, x1, x2, x3, x4, x5, x6, x7, x8]) (.int .i64 1)).run Try.prog w = .ok (.agg #[x3, x4, x5]) w := fun _ => by kernel_rfl
 have i2 : ∀ w : World, (Instr.index 98 (.agg #[x0, x1, x2, x3, x4, x5, x6, x7, x8]) (.int .i64 2)).run Try.prog w = .ok (.agg #[x6, x7, x8]) w := fun _ => by kernel_rfl
 match k, hk with
 | 0, _ => exact i0 w
 | 1, _ => exact i1 w
 | 2, _ => exact i2 w
 | _ + 3, hk => omega
set_option maxRecDepth 100000 in
set_option maxHeartbeats 2000000 in
theorem done9_r11 (go S ss kk gr : Nat) (sy : Bool) (Ay By : Option Addr) (ly cy my ky : Nat) (w : World) (x0 : w.cell? ⟨gr, 0, none⟩ = some (.bool sy)) (x1 : w.cell? ⟨gr, 1, none⟩ = some (.slice Ay ly cy)) (x2 : w.cell? ⟨gr, 2, none⟩ = some (.slice By my ky)) (_hs1 : ss < S) (_hk3 : (kk : Int) < 3) (_hk4 : kk < 3) (a : Act) (Q : Exit → Act → World → Prop) (hsize : 40 ≤ a.tmps.size)
  (s4 : a.tmps[4]? = some (.slice (some ⟨go, 0, none⟩) S S))
  (s5 : a.tmps[5]? = some (.int .i64 (ss : Int)))
  (s7 : a.tmps[7]? = some (.int .i64 (kk : Int)))
  (s9 : a.tmps[9]? = some (.pointer (some ⟨gr, 0, none⟩)))
  (hend : ∀ (xv0 xv1 xv2 xv3 xv4 xv5 : Value) (W : World), (xv0 = .slice (some ⟨go, 0, none⟩) S S) → (xv1 = .int .i64 (ss : Int)) → (xv2 = .int .i64 (kk : Int)) → (xv3 = .agg #[.bool sy, .slice Ay ly cy, .slice By my ky]) → (xv4 = .pointer (some ⟨go, ss * 9, none⟩)) → (xv5 = .pointer (some ⟨go, ss * 9 + kk * 3, none⟩)) → Ext w W → wpList Try.prog (rops Try.f125 11).toArray Q ((rops Try.f125 11).drop 6) ((((((a.put (some 34) xv0).put (some 35) xv1).put (some 36) xv2).put (some 37) xv3).put (some 38) xv4).put (some 39) xv5) W) :
  (Code.region 11 (rops Try.f125 11).toArray true).wp Try.prog Q a w := by
 refine wp_region_k 6 [some 34, some 35, some 36, some 37, some 38, some 39] [[], [], [], [], [0, 1], [2, 4]] [eqv (.slice (some ⟨go, 0, none⟩) S S), eqv (.int .i64 (ss : Int)), eqv (.int .i64 (kk : Int)), eqv (.agg #[.bool sy, .slice Ay ly cy, .slice By my ky]), eqv (.pointer (some ⟨go, ss * 9, none⟩)), eqv (.pointer (some ⟨go, ss * 9 + kk * 3, none⟩))] (by kernel_rfl) (by kernel_rfl) rfl (by decide) hsize ⟨monC, monC, monC, monC, monC, monC, trivial⟩ ?_ ?_
 ·
  clear hend
  simp only [rops, Try.f125, regOf, Option.bind_some, Nat.reduceBEq, if_true, if_false, Bool.false_eq_true, Option.getD_some]
  simp only [List.take_succ_cons, List.take_zero]
  refine ⟨?_, ?_, ?_, ?_, ?_, ?_, trivial⟩
  ·
   rintro us W hJ _ b hb hbz K hK0 hK Qz
   have e4 := (hbz 4 (by simp)).trans s4
   clear hb hbz
   go_simp
   exact hK0 _ rfl
  ·
   rintro us W hJ _ b hb hbz K hK0 hK Qz
   have e5 := (hbz 5 (by simp)).trans s5
   clear hb hbz
   go_simp
   exact hK0 _ rfl
  ·
   rintro us W hJ _ b hb hbz K hK0 hK Qz
   have e7 := (hbz 7 (by simp)).trans s7
   clear hb hbz
   go_simp
   exact hK0 _ rfl
  ·
   rintro us W hJ _ b hb hbz K hK0 hK Qz
   have e9 := (hbz 9 (by simp)).trans s9
   clear hb hbz
   have z0 := Ext.cell hJ x0
   have z1 := Ext.cell hJ x1
   have z2 := Ext.cell hJ x2
   go_simp
   exact hK0 _ rfl
  ·
   rintro us W hJ ⟨d0, d1⟩ b hb hbz K hK0 hK Qz
   have e34 := slotV (hb 0 34 rfl) d0
   have e35 := slotV (hb 1 35 rfl) d1
   clear hb hbz d0 d1
   go_simp
   exact hK0 _ rfl
  ·
   rintro us W hJ ⟨d2, d4⟩ b hb hbz K hK0 hK Qz
   have e36 := slotV (hb 2 36 rfl) d2
   have e38 := slotV (hb 4 38 rfl) d4
   clear hb hbz d2 d4
   go_simp
   exact hK0 _ rfl
 ·
  rintro us W ⟨v0, v1, v2, v3, v4, v5, _⟩ hJ
  exact hend _ _ _ _ _ _ W v0 v1 v2 v3 v4 v5 hJ
set_option maxRecDepth 100000 in
set_option maxHeartbeats 16000000 in
theorem done_S (L gt ot S ct : Nat) (u : Nat → Rat) (w : World) (hS : ShP (fun w v q => NumX w v q L) w gt ot S u) (_hL : L ≤ 100000) (hf : ∀ j, j < 3 * S → FitQW (u j)) (_hS8 : S ≤ 1000) :
  Calls Try.prog 125 #[.slice (some ⟨gt, ot, none⟩) S ct] w (fun e w' => ∃ go, e = .returned (.tuple #[.slice (some ⟨go, 0, none⟩) S S, .int .i64 0]) ∧ w.heap.size ≤ go ∧ ShP RatC w' go 0 S u ∧ Ext w w') := by
 have HS := hid hS
 have HF := hid hf
 clear hS hf
 go_enter Try.func125, Try.ntmps125
 go_upto_region 1 with (fail)
 go_upto_region 2 with (at_make; refine wpList_mkS w elR9 rfl _ _ rfl w.heap.size _ _ _ _ S S rfl rfl (by first | rfl | omega) (by first | rfl | omega) (Nat.le_refl _) (by omega) (by unfold maxLen; omega) (Nat.le_refl _) ?_; intro w4 us hown hz1 hz2 hext hsz)
 have hrow : RowN RatC 98 9 w.heap.size w4 w.heap.size S S (3 * S) (fun _ => none) := RowN.make9 hown hz1 hz2
 have HR : Hid (RowN RatC 98 9 w.heap.size w4 w.heap.size S S (3 * S) (fun _ => none)) := hid hrow
 have HX := hid hext
 clear hrow hown hz1 hz2 hext
 go_wp2_with fail
 go_loopg [16] S (fun f iv wr => ∃ i : Nat, f = S - i ∧ i ≤ S ∧ iv = .int .i64 (i : Int) ∧ Hid (RowN RatC 98 9 w.heap.size wr w.heap.size S S (3 * S) (fun j => if j < 3 * i then some (u j) else none)) ∧ Hid (Ext w wr))
 case atStart => exact ⟨0, by omega, by omega, rfl, hid (HR.out.congr (fun j _ => by rw [if_neg (by omega)])), HX⟩
 case round =>
  clear HR HX hsz
  obtain ⟨i, rfl, hi, rfl, HR, HX⟩ := hrel
  by_cases hlt : i < S
  ·
   have q1 : decide (i < S) = true := decide_eq_true hlt
   obtain ⟨s0, A0, l0, c0, B0, m0, k0, a0, b0, d0, e0⟩ := HS.out i 0 hlt (by omega)
   replace a0 := HX.out.cell a0
   replace b0 := HX.out.cell b0
   replace d0 := HX.out.cell d0
   obtain ⟨s1, A1, l1, c1, B1, m1, k1, a1, b1, d1, e1⟩ := HS.out i 1 hlt (by omega)
   replace a1 := HX.out.cell a1
   replace b1 := HX.out.cell b1
   replace d1 := HX.out.cell d1
   obtain ⟨s2, A2, l2, c2, B2, m2, k2, a2, b2, d2, e2⟩ := HS.out i 2 hlt (by omega)
   replace a2 := HX.out.cell a2
   replace b2 := HX.out.cell b2
   replace d2 := HX.out.cell d2
   have HE0 := hid e0
   have HE1 := hid e1
   have HE2 := hid e2
   clear e0 e1 e2
   simp only [Nat.zero_mul, Nat.add_zero, Nat.one_mul] at a0 b0 d0 a1 b1 d1
   have e3 : ot + i * 9 + 3 + 1 = ot + i * 9 + 4 := by omega
   have e4 : ot + i * 9 + 3 + 2 = ot + i * 9 + 5 := by omega
   have e6 : ot + i * 9 + 2 * 3 = ot + i * 9 + 6 := by omega
   have e7 : ot + i * 9 + 2 * 3 + 1 = ot + i * 9 + 7 := by omega
   have e8 : ot + i * 9 + 2 * 3 + 2 = ot + i * 9 + 8 := by omega
   rw [e3] at b1
   rw [e4] at d1
   rw [e7] at b2
   rw [e8] at d2
   rw [e6] at a2
   clear e3 e4 e6 e7 e8
   go_upto_region 5 with (fail)
   have hXa : Ext wr (wr.alloc (.cells #[.bool s0, .slice A0 l0 c0, .slice B0 m0 k0, .bool s1, .slice A1 l1 c1, .slice B1 m1 k1, .bool s2, .slice A2 l2 c2, .slice B2 m2 k2] 263)) := (Ext.refl _).alloc _
   have kB := Blk.new wr 263 #[.bool s0, .slice A0 l0 c0, .slice B0 m0 k0, .bool s1, .slice A1 l1 c1, .slice B1 m1 k1, .bool s2, .slice A2 l2 c2, .slice B2 m2 k2]
   replace HR := hid (HR.out.ext staysC hXa)
   replace HX := hid (HX.out.trans hXa)
   clear hXa a0 b0 d0 a1 b1 d1 a2 b2 d2
   generalize wr.heap.size = gv at kB ⊢
   generalize wr.alloc (.cells #[.bool s0, .slice A0 l0 c0, .slice B0 m0 k0, .bool s1, .slice A1 l1 c1, .slice B1 m1 k1, .bool s2, .slice A2 l2 c2, .slice B2 m2 k2] 263) = w5 at kB HR HX ⊢
   have y0 := kB.cell 0
   have y1 := kB.cell 1
   have y2 := kB.cell 2
   have y3 := kB.cell 3
   have y4 := kB.cell 4
   have y5 := kB.cell 5
   have y6 := kB.cell 6
   have y7 := kB.cell 7
   have y8 := kB.cell 8
   simp only [List.getElem?_toArray, List.getElem?_cons_zero, List.getElem?_cons_succ] at y0 y1 y2 y3 y4 y5 y6 y7 y8
   clear kB
   go_wp2_with fail
   clear y0 y1 y2 y3 y4 y5 y6 y7 y8
   go_loopg [22] 3 (fun f kv wr => ∃ k : Nat, f = 3 - k ∧ k ≤ 3 ∧ kv = .int .i64 (k : Int) ∧ Hid (RowN RatC 98 9 w.heap.size wr w.heap.size S S (3 * S) (fun j => if j < 3 * i + k then some (u j) else none)) ∧ Hid (Ext w wr))
   case atStart => exact ⟨0, by omega, by omega, rfl, HR, HX⟩
   case round =>
    clear HR HX
    obtain ⟨k, rfl, hk, rfl, HR, HX⟩ := hrel
    by_cases hkl : k < 3
    ·
     have q2 : decide (k < 3) = true := decide_eq_true hkl
     obtain ⟨s9, A9, l9, c9, B9, m9, k9, g1, g2, g3, hq⟩ := pick_agg (P := fun w v q => NumX w v q L) (w := wr) (q := fun k => u (3 * i + k)) hkl (HE0.out.ext HX.out) (HE1.out.ext HX.out) (HE2.out.ext HX.out)
     have ik := idx9N (.bool s0) (.slice A0 l0 c0) (.slice B0 m0 k0) (.bool s1) (.slice A1 l1 c1) (.slice B1 m1 k1) (.bool s2) (.slice A2 l2 c2) (.slice B2 m2 k2) hkl
     rw [g1, g2, g3] at ik
     have HQ := hid hq
     clear hq g1 g2 g3
     have hj3 : 3 * i + k < 3 * S := by omega
     have HFQ := hid (HF.out _ hj3)
     go_upto_region 8 with (fail)
     have hXa : Ext wr (wr.alloc (.cells #[.bool s9, .slice A9 l9 c9, .slice B9 m9 k9] 217)) := (Ext.refl _).alloc _
     have kB := Blk.new wr 217 #[.bool s9, .slice A9 l9 c9, .slice B9 m9 k9]
     replace HR := hid (HR.out.ext staysC hXa)
     replace HX := hid (HX.out.trans hXa)
     replace HQ := hid (HQ.out.ext hXa)
     clear hXa
     generalize wr.heap.size = gn at kB ⊢
     generalize wr.alloc (.cells #[.bool s9, .slice A9 l9 c9, .slice B9 m9 k9] 217) = w6 at kB HR HX HQ ⊢
     have y0 := kB.cell 0
     have y1 := kB.cell 1
     have y2 := kB.cell 2
     simp only [List.getElem?_toArray, List.getElem?_cons_zero, List.getElem?_cons_succ] at y0 y1 y2
     clear kB
     go_wp2_with fail
     refine (doneG HQ.out (by omega) HFQ.out).mono ?_
     rintro e w7 ⟨v7, rfl, hv, hX⟩
     obtain ⟨s4, A4, l4, c4, B4, m4, k4, rfl⟩ := RatC.open hv
     clear y0 y1 y2 HQ
     replace HR := hid (HR.out.ext staysC hX)
     replace HX := hid (HX.out.trans hX)
     clear hX
     have HV := hid hv
     clear hv
     go_upto_region 9 with (fail)
     have hXa : Ext w7 (w7.alloc (.cells #[.bool s4, .slice A4 l4 c4, .slice B4 m4 k4] 97)) := (Ext.refl _).alloc _
     have kB := Blk.new w7 97 #[.bool s4, .slice A4 l4 c4, .slice B4 m4 k4]
     replace HR := hid (HR.out.ext staysC hXa)
     replace HX := hid (HX.out.trans hXa)
     replace HV := hid (HV.out.ext hXa)
     clear hXa
     generalize w7.heap.size = gn2 at kB ⊢
     generalize w7.alloc (.cells #[.bool s4, .slice A4 l4 c4, .slice B4 m4 k4] 97) = w8 at kB HR HX HV ⊢
     have KB := hid kB
     clear kB
     go_upto_region 11 with (fail)
     refine done9_r11 w.heap.size S i k gn2 s4 A4 B4 l4 c4 m4 k4 w8 (KB.out.cell 0) (KB.out.cell 1) (KB.out.cell 2) hlt (by omega) hkl _ _ (by simp) rfl rfl rfl rfl ?_
     rintro xv0 xv1 xv2 xv3 xv4 xv5 W rfl rfl rfl rfl rfl rfl hX
     simp only [rops, Try.f125, regOf, Option.bind_some, Nat.reduceBEq, if_true, if_false, Bool.false_eq_true, Option.getD_some, List.drop_succ_cons, List.drop_zero]
     simp only [Act.put, List.setIfInBounds_toArray, List.set_cons_succ, List.set_cons_zero]
     replace HR := hid (HR.out.ext staysC hX)
     replace HX := hid (HX.out.trans hX)
     replace HV := hid (HV.out.ext hX)
     clear hX KB
     have hpj : i * 9 + k * 3 = (3 * i + k) * 3 := by omega
     obtain ⟨s2, A2, l2, c2, B2, m2, k2, z0, z1, z2, _⟩ := HR.out.cells hj3 hpj
     have f0 := HR.out.free (i * 9 + k * 3)
     have f1 := HR.out.free (i * 9 + k * 3 + 1)
     have f2 := HR.out.free (i * 9 + k * 3 + 2)
     have HPUT := hid (HR.out.put staysC hj3 hpj HV.out)
     clear hpj
     go_wp2
     go_roundg (3 - (k + 1))
     case rel =>
      refine ⟨k + 1, rfl, by omega, by go_num, hid (HPUT.out.congr (fun j _ => ?_)), hid (((HX.out.setCell (by simp only; omega) _).setCell (by simp only; omega) _).setCell (by simp only; omega) _)⟩
      by_cases e : j = 3 * i + k
      ·
       rw [if_pos e, e, if_pos (by omega)]
      ·
       rw [if_neg e]
       by_cases h2 : j < 3 * i + k
       ·
        rw [if_pos h2, if_pos (by omega)]
       ·
        rw [if_neg h2, if_neg (by omega)]
     case measure => omega
    ·
     obtain rfl : k = 3 := by omega
     go_wp2
     go_roundg (S - (i + 1))
     case rel => exact ⟨i + 1, rfl, by omega, by go_num, hid (HR.out.congr (fun j _ => by rw [show 3 * (i + 1) = 3 * i + 3 by omega])), HX⟩
     case measure => omega
  ·
   obtain rfl : i = S := by omega
   go_wp2
   go_ret2
   exact ⟨w.heap.size, rfl, by omega, HR.out.shp (fun j hj => by rw [if_pos hj]), HX.out⟩
end Go.Proofs.Ytikhlcgnlbinfaa
namespace Go.Proofs.Ytikhlcgnlbinfaa
open Lib (hid)
open Go.ChangeShapes Go.WideShapes Go.ChangeAt Go.RowKit Go.Joins
/-- The cells of a struct that came in. -/
theorem agg_cellsZ {P : Program} {W : World} {H : Type} {enc : TypeId × Value → H} {t : TypeId} {fs : Array Field} {v : Value} {d : DataW H} {p : List MemPlace} {b base : Nat} {sp : Nat → Bool} {hd : Bool} (hs : P.underlying t = some (.struct fs))
  (hv : Value.okWide P W .any base t v) (h : DataW.Trod enc P W b sp hd t v d p) : ∃ cs fuel z, v = .agg cs ∧ cs.toList.length = P.cellsOf t ∧ DataW.trod enc P W b sp hd fuel t cs.toList = some z := by
 obtain ⟨cs, rfl, hsz⟩ := okWide_struct hs hv
 obtain ⟨fuel, hf⟩ := h
 exact ⟨cs, fuel, _, rfl, by simpa using hsz, by simpa [Value.cells] using hf⟩
theorem agg_cellsA {P : Program} {W : World} {H : Type} {enc : TypeId × Value → H} {t e : TypeId} {n : Nat} {v : Value} {d : DataW H} {p : List MemPlace} {b base : Nat} {sp : Nat → Bool} {hd : Bool} (hs : P.underlying t = some (.array n e))
  (hv : Value.okWide P W .any base t v) (h : DataW.Trod enc P W b sp hd t v d p) : ∃ cs fuel z, v = .agg cs ∧ cs.toList.length = P.cellsOf t ∧ DataW.trod enc P W b sp hd fuel t cs.toList = some z := by
 have h1 : ∃ cs, v = .agg cs ∧ cs.size = P.cellsOf t := by
  simp only [Value.okWide, hs] at hv
  obtain ⟨cs, h1, h2, _⟩ := hv
  exact ⟨cs, h1, h2⟩
 obtain ⟨cs, rfl, hsz⟩ := h1
 obtain ⟨fuel, hf⟩ := h
 exact ⟨cs, fuel, _, rfl, by simpa using hsz, by simpa [Value.cells] using hf⟩
theorem ratV_of {W : World} {s : Bool} {A B : Option Addr} {l c m k : Nat} {xs ys : List Int} (h : Ints .u32 W A l xs ∧ l ≤ c ∧ c ≤ 9223372036854775807) (k' : Ints .u32 W B m ys ∧ m ≤ k ∧ k ≤ 9223372036854775807) : RatV W (.agg #[.bool s, .slice A l c, .slice B m k]) s xs ys :=
 ⟨A, l, c, B, m, k, rfl, h.1, h.2.1, h.2.2, k'.1, k'.2.1, k'.2.2⟩
/-- The cells of three numbers as they come in. -/
def Cs9 (W : World) (cs : List Value) : Prop := ∃ s0 A0 l0 c0 B0 m0 k0 xs0 ys0 s1 A1 l1 c1 B1 m1 k1 xs1 ys1 s2 A2 l2 c2 B2 m2 k2 xs2 ys2, cs = [.bool s0, .slice A0 l0 c0, .slice B0 m0 k0, .bool s1, .slice A1 l1 c1, .slice B1 m1 k1, .bool s2, .slice A2 l2 c2, .slice B2 m2 k2] ∧ RatV W (.agg #[.bool s0, .slice A0 l0 c0, .slice B0 m0 k0]) s0 xs0 ys0 ∧ RatV W (.agg #[.bool s1, .slice A1 l1 c1, .slice B1 m1 k1]) s1 xs1 ys1 ∧ RatV W (.agg #[.bool s2, .slice A2 l2 c2, .slice B2 m2 k2]) s2 xs2 ys2
theorem listZ9 {α : Type} {cs : List α} (h : cs.length = 9) : ∃ c0 c1 c2 c3 c4 c5 c6 c7 c8, cs = [c0, c1, c2, c3, c4, c5, c6, c7, c8] := by
 match cs, h with
 | [c0, c1, c2, c3, c4, c5, c6, c7, c8], _ => exact ⟨c0, c1, c2, c3, c4, c5, c6, c7, c8, rfl⟩
theorem listZ6 {α : Type} {cs : List α} (h : cs.length = 6) : ∃ c0 c1 c2 c3 c4 c5, cs = [c0, c1, c2, c3, c4, c5] := by
 match cs, h with
 | [c0, c1, c2, c3, c4, c5], _ => exact ⟨c0, c1, c2, c3, c4, c5, rfl⟩
set_option maxRecDepth 100000 in
set_option maxHeartbeats 1000000 in
theorem box_open {W : World} {H : Type} {enc : TypeId × Value → H} {v : Value} {d : DataW H} {p : List MemPlace} {b base : Nat} {sp : Nat → Bool} {hd : Bool} (hv : Value.okWide Try.prog W .any base 54 v) (h : DataW.Trod enc Try.prog W b sp hd 54 v d p) : ∃ f0 f1 f2 f3 f4 f5 : Int, v = .agg #[.int .i64 f0, .int .i64 f1, .int .i64 f2, .int .i64 f3, .int .i64 f4, .int .i64 f5] ∧ (-9223372036854775808 ≤ f0 ∧ f0 ≤ 9223372036854775807) ∧ (-9223372036854775808 ≤ f1 ∧ f1 ≤ 9223372036854775807) ∧ (-9223372036854775808 ≤ f2 ∧ f2 ≤ 9223372036854775807) ∧ (-9223372036854775808 ≤ f3 ∧ f3 ≤ 9223372036854775807) ∧ (-9223372036854775808 ≤ f4 ∧ f4 ≤ 9223372036854775807) ∧ (-9223372036854775808 ≤ f5 ∧ f5 ≤ 9223372036854775807) := by
 obtain ⟨cs, fuel, z, rfl, hl, hf⟩ := agg_cellsZ Try.underlying54 hv h
 obtain ⟨c0, c1, c2, c3, c4, c5, he⟩ := listZ6 (hl.trans (by kernel_rfl))
 rw [he] at hf
 obtain ⟨xs43, n43, _, _, _, hl43, hg43⟩ := DataW.trod_struct Try.underlying54 hf
 have g43_0 : DataW.trod enc Try.prog W b sp hd n43 31 [c0, c1] = xs43[0]? := by
  have h := hg43 0 _ rfl
  rw [show Try.prog.cellsOf _ = 2 by kernel_rfl] at h
  exact h
 rw [List.getElem?_eq_getElem (by rw [hl43]; decide)] at g43_0
 obtain ⟨xs44, n44, _, _, _, hl44, hg44⟩ := DataW.trod_struct Try.underlying31 g43_0
 have g44_0 : DataW.trod enc Try.prog W b sp hd n44 3 [c0] = xs44[0]? := by
  have h := hg44 0 _ rfl
  rw [show Try.prog.cellsOf _ = 1 by kernel_rfl] at h
  exact h
 rw [List.getElem?_eq_getElem (by rw [hl44]; decide)] at g44_0
 obtain ⟨vc0, ec0, _, wc0⟩ := DataW.trod_int Try.underlying3 g44_0
 simp only [List.cons.injEq, and_true] at ec0
 subst ec0
 have g44_1 : DataW.trod enc Try.prog W b sp hd n44 3 [c1] = xs44[1]? := by
  have h := hg44 1 _ rfl
  rw [show Try.prog.cellsOf _ = 1 by kernel_rfl] at h
  exact h
 rw [List.getElem?_eq_getElem (by rw [hl44]; decide)] at g44_1
 obtain ⟨vc1, ec1, _, wc1⟩ := DataW.trod_int Try.underlying3 g44_1
 simp only [List.cons.injEq, and_true] at ec1
 subst ec1
 have g43_1 : DataW.trod enc Try.prog W b sp hd n43 31 [c2, c3] = xs43[1]? := by
  have h := hg43 1 _ rfl
  rw [show Try.prog.cellsOf _ = 2 by kernel_rfl] at h
  exact h
 rw [List.getElem?_eq_getElem (by rw [hl43]; decide)] at g43_1
 obtain ⟨xs47, n47, _, _, _, hl47, hg47⟩ := DataW.trod_struct Try.underlying31 g43_1
 have g47_0 : DataW.trod enc Try.prog W b sp hd n47 3 [c2] = xs47[0]? := by
  have h := hg47 0 _ rfl
  rw [show Try.prog.cellsOf _ = 1 by kernel_rfl] at h
  exact h
 rw [List.getElem?_eq_getElem (by rw [hl47]; decide)] at g47_0
 obtain ⟨vc2, ec2, _, wc2⟩ := DataW.trod_int Try.underlying3 g47_0
 simp only [List.cons.injEq, and_true] at ec2
 subst ec2
 have g47_1 : DataW.trod enc Try.prog W b sp hd n47 3 [c3] = xs47[1]? := by
  have h := hg47 1 _ rfl
  rw [show Try.prog.cellsOf _ = 1 by kernel_rfl] at h
  exact h
 rw [List.getElem?_eq_getElem (by rw [hl47]; decide)] at g47_1
 obtain ⟨vc3, ec3, _, wc3⟩ := DataW.trod_int Try.underlying3 g47_1
 simp only [List.cons.injEq, and_true] at ec3
 subst ec3
 have g43_2 : DataW.trod enc Try.prog W b sp hd n43 31 [c4, c5] = xs43[2]? := by
  have h := hg43 2 _ rfl
  rw [show Try.prog.cellsOf _ = 2 by kernel_rfl] at h
  exact h
 rw [List.getElem?_eq_getElem (by rw [hl43]; decide)] at g43_2
 obtain ⟨xs50, n50, _, _, _, hl50, hg50⟩ := DataW.trod_struct Try.underlying31 g43_2
 have g50_0 : DataW.trod enc Try.prog W b sp hd n50 3 [c4] = xs50[0]? := by
  have h := hg50 0 _ rfl
  rw [show Try.prog.cellsOf _ = 1 by kernel_rfl] at h
  exact h
 rw [List.getElem?_eq_getElem (by rw [hl50]; decide)] at g50_0
 obtain ⟨vc4, ec4, _, wc4⟩ := DataW.trod_int Try.underlying3 g50_0
 simp only [List.cons.injEq, and_true] at ec4
 subst ec4
 have g50_1 : DataW.trod enc Try.prog W b sp hd n50 3 [c5] = xs50[1]? := by
  have h := hg50 1 _ rfl
  rw [show Try.prog.cellsOf _ = 1 by kernel_rfl] at h
  exact h
 rw [List.getElem?_eq_getElem (by rw [hl50]; decide)] at g50_1
 obtain ⟨vc5, ec5, _, wc5⟩ := DataW.trod_int Try.underlying3 g50_1
 simp only [List.cons.injEq, and_true] at ec5
 subst ec5
 exact ⟨vc0, vc1, vc2, vc3, vc4, vc5, congrArg Value.agg (Array.toList_inj.1 he), by have h := wc0; simp [Lit.wf, IntKind.min, IntKind.max, IntKind.bits, IntKind.signed] at h; omega, by have h := wc1; simp [Lit.wf, IntKind.min, IntKind.max, IntKind.bits, IntKind.signed] at h; omega, by have h := wc2; simp [Lit.wf, IntKind.min, IntKind.max, IntKind.bits, IntKind.signed] at h; omega, by have h := wc3; simp [Lit.wf, IntKind.min, IntKind.max, IntKind.bits, IntKind.signed] at h; omega, by have h := wc4; simp [Lit.wf, IntKind.min, IntKind.max, IntKind.bits, IntKind.signed] at h; omega, by have h := wc5; simp [Lit.wf, IntKind.min, IntKind.max, IntKind.bits, IntKind.signed] at h; omega⟩
set_option maxRecDepth 100000 in
set_option maxHeartbeats 1000000 in
theorem rat3_open {W : World} {H : Type} {enc : TypeId × Value → H} {v : Value} {d : DataW H} {p : List MemPlace} {b base : Nat} {sp : Nat → Bool} {hd : Bool} (hv : Value.okWide Try.prog W .any base 98 v) (h : DataW.Trod enc Try.prog W b sp hd 98 v d p) : ∃ cs, v = .agg cs ∧ Cs9 W cs.toList := by
 obtain ⟨cs, fuel, z, rfl, hl, hf⟩ := agg_cellsA Try.underlying98 hv h
 obtain ⟨c0, c1, c2, c3, c4, c5, c6, c7, c8, he⟩ := listZ9 (hl.trans (by kernel_rfl))
 rw [he] at hf
 obtain ⟨xs85, n85, _, _, _, hl85, hg85⟩ := DataW.trod_array Try.underlying98 hf
 have g85_0 : DataW.trod enc Try.prog W b sp hd n85 97 [c0, c1, c2] = xs85[0]? := by
  have h := hg85 0 (by decide)
  rw [show Try.prog.cellsOf _ = 3 by kernel_rfl] at h
  exact h
 rw [List.getElem?_eq_getElem (by rw [hl85]; decide)] at g85_0
 obtain ⟨xs86, n86, _, _, _, hl86, hg86⟩ := DataW.trod_struct Try.underlying97 g85_0
 have g86_0 : DataW.trod enc Try.prog W b sp hd n86 4 [c0] = xs86[0]? := by
  have h := hg86 0 _ rfl
  rw [show Try.prog.cellsOf _ = 1 by kernel_rfl] at h
  exact h
 rw [List.getElem?_eq_getElem (by rw [hl86]; decide)] at g86_0
 obtain ⟨vc0, ec0, _⟩ := DataW.trod_bool Try.underlying4 g86_0
 simp only [List.cons.injEq, and_true] at ec0
 subst ec0
 have g86_1 : DataW.trod enc Try.prog W b sp hd n86 95 [c1] = xs86[1]? := by
  have h := hg86 1 _ rfl
  rw [show Try.prog.cellsOf _ = 1 by kernel_rfl] at h
  exact h
 rw [List.getElem?_eq_getElem (by rw [hl86]; decide)] at g86_1
 obtain ⟨Ac1, lc1, mc1, ec1⟩ := slice_form Try.underlying95 g86_1
 simp only [List.cons.injEq, and_true] at ec1
 subst ec1
 obtain ⟨vc1, wc1⟩ := ints_trod Try.underlying95 Try.underlying129 (by kernel_rfl) g86_1
 have g86_2 : DataW.trod enc Try.prog W b sp hd n86 95 [c2] = xs86[2]? := by
  have h := hg86 2 _ rfl
  rw [show Try.prog.cellsOf _ = 1 by kernel_rfl] at h
  exact h
 rw [List.getElem?_eq_getElem (by rw [hl86]; decide)] at g86_2
 obtain ⟨Ac2, lc2, mc2, ec2⟩ := slice_form Try.underlying95 g86_2
 simp only [List.cons.injEq, and_true] at ec2
 subst ec2
 obtain ⟨vc2, wc2⟩ := ints_trod Try.underlying95 Try.underlying129 (by kernel_rfl) g86_2
 have g85_1 : DataW.trod enc Try.prog W b sp hd n85 97 [c3, c4, c5] = xs85[1]? := by
  have h := hg85 1 (by decide)
  rw [show Try.prog.cellsOf _ = 3 by kernel_rfl] at h
  exact h
 rw [List.getElem?_eq_getElem (by rw [hl85]; decide)] at g85_1
 obtain ⟨xs90, n90, _, _, _, hl90, hg90⟩ := DataW.trod_struct Try.underlying97 g85_1
 have g90_0 : DataW.trod enc Try.prog W b sp hd n90 4 [c3] = xs90[0]? := by
  have h := hg90 0 _ rfl
  rw [show Try.prog.cellsOf _ = 1 by kernel_rfl] at h
  exact h
 rw [List.getElem?_eq_getElem (by rw [hl90]; decide)] at g90_0
 obtain ⟨vc3, ec3, _⟩ := DataW.trod_bool Try.underlying4 g90_0
 simp only [List.cons.injEq, and_true] at ec3
 subst ec3
 have g90_1 : DataW.trod enc Try.prog W b sp hd n90 95 [c4] = xs90[1]? := by
  have h := hg90 1 _ rfl
  rw [show Try.prog.cellsOf _ = 1 by kernel_rfl] at h
  exact h
 rw [List.getElem?_eq_getElem (by rw [hl90]; decide)] at g90_1
 obtain ⟨Ac4, lc4, mc4, ec4⟩ := slice_form Try.underlying95 g90_1
 simp only [List.cons.injEq, and_true] at ec4
 subst ec4
 obtain ⟨vc4, wc4⟩ := ints_trod Try.underlying95 Try.underlying129 (by kernel_rfl) g90_1
 have g90_2 : DataW.trod enc Try.prog W b sp hd n90 95 [c5] = xs90[2]? := by
  have h := hg90 2 _ rfl
  rw [show Try.prog.cellsOf _ = 1 by kernel_rfl] at h
  exact h
 rw [List.getElem?_eq_getElem (by rw [hl90]; decide)] at g90_2
 obtain ⟨Ac5, lc5, mc5, ec5⟩ := slice_form Try.underlying95 g90_2
 simp only [List.cons.injEq, and_true] at ec5
 subst ec5
 obtain ⟨vc5, wc5⟩ := ints_trod Try.underlying95 Try.underlying129 (by kernel_rfl) g90_2
 have g85_2 : DataW.trod enc Try.prog W b sp hd n85 97 [c6, c7, c8] = xs85[2]? := by
  have h := hg85 2 (by decide)
  rw [show Try.prog.cellsOf _ = 3 by kernel_rfl] at h
  exact h
 rw [List.getElem?_eq_getElem (by rw [hl85]; decide)] at g85_2
 obtain ⟨xs94, n94, _, _, _, hl94, hg94⟩ := DataW.trod_struct Try.underlying97 g85_2
 have g94_0 : DataW.trod enc Try.prog W b sp hd n94 4 [c6] = xs94[0]? := by
  have h := hg94 0 _ rfl
  rw [show Try.prog.cellsOf _ = 1 by kernel_rfl] at h
  exact h
 rw [List.getElem?_eq_getElem (by rw [hl94]; decide)] at g94_0
 obtain ⟨vc6, ec6, _⟩ := DataW.trod_bool Try.underlying4 g94_0
 simp only [List.cons.injEq, and_true] at ec6
 subst ec6
 have g94_1 : DataW.trod enc Try.prog W b sp hd n94 95 [c7] = xs94[1]? := by
  have h := hg94 1 _ rfl
  rw [show Try.prog.cellsOf _ = 1 by kernel_rfl] at h
  exact h
 rw [List.getElem?_eq_getElem (by rw [hl94]; decide)] at g94_1
 obtain ⟨Ac7, lc7, mc7, ec7⟩ := slice_form Try.underlying95 g94_1
 simp only [List.cons.injEq, and_true] at ec7
 subst ec7
 obtain ⟨vc7, wc7⟩ := ints_trod Try.underlying95 Try.underlying129 (by kernel_rfl) g94_1
 have g94_2 : DataW.trod enc Try.prog W b sp hd n94 95 [c8] = xs94[2]? := by
  have h := hg94 2 _ rfl
  rw [show Try.prog.cellsOf _ = 1 by kernel_rfl] at h
  exact h
 rw [List.getElem?_eq_getElem (by rw [hl94]; decide)] at g94_2
 obtain ⟨Ac8, lc8, mc8, ec8⟩ := slice_form Try.underlying95 g94_2
 simp only [List.cons.injEq, and_true] at ec8
 subst ec8
 obtain ⟨vc8, wc8⟩ := ints_trod Try.underlying95 Try.underlying129 (by kernel_rfl) g94_2
 exact ⟨cs, rfl, by rw [he]; exact ⟨vc0, Ac1, lc1, mc1, Ac2, lc2, mc2, vc1, vc2, vc3, Ac4, lc4, mc4, Ac5, lc5, mc5, vc4, vc5, vc6, Ac7, lc7, mc7, Ac8, lc8, mc8, vc7, vc8, rfl, ratV_of wc1 wc2, ratV_of wc4 wc5, ratV_of wc7 wc8⟩⟩
end Go.Proofs.Ytikhlcgnlbinfaa
namespace Go.Proofs.Ytikhlcgnlbinfaa
open Lib (hid)
open Go.RowKit
section
variable {P : Program} {l : List Oper} {a : Act} {Q : Exit → Act → World → Prop}
theorem wp_region_g0 {id : Nat} {w : World} (n : Nat) (ds : List (Option Tmp)) (D A : List (List Nat)) (J : (Nat → Prop) → (Nat → Value) → World → Prop) (hm : P.follows .mixedOrders = true) (hB : jB l.toArray n ds D A = true)
  (hd : ∀ d, some d ∈ ds → d < a.tmps.size) (hJ : ∀ p q us W, (∀ k, p k ↔ q k) → J p us W → J q us W) (h0 : ∀ us : Nat → Value, (∀ j d, ds[j]? = some (some d) → a.tmps[d]? = some (us j)) → J (fun _ => False) us w.drew) (hop : GAllq P l.toArray J D A ds a 0 (l.take n))
  (hend : ∀ us W, J (fun k => k < n) us W → wpList P l.toArray Q (l.drop n) (fillO a ds us 0) W) : (Code.region id l.toArray true).wp P Q a w := by
 refine wp_region_any hm ?_
 have hB' := hB
 simp only [jB, Bool.and_eq_true, decide_eq_true_eq] at hB'
 obtain ⟨⟨⟨⟨⟨⟨hn, hl⟩, hnt⟩, _⟩, _⟩, _⟩, _⟩ := hB'
 have h := g_any hB hd hJ hop hend n (List.range n) (Array.replicate l.toArray.size false) (fun j => a.tmps.getD ((ds.getD j none).getD 0) undef) w.drew (by simp) List.nodup_range
  ⟨by simp, fun j oj _ hl => (by rw [getD_replicate_false] at hl; cases hl), fun t _ ht => getD_in (by simpa using ht) (getD_replicate_false _ _)⟩
  (fun j hj => ⟨fun _ => List.mem_range.2 hj, fun _ => getD_in (by simp at hn ⊢; omega) (getD_replicate_false _ _)⟩) (fun j hj => List.mem_range.1 hj)
  (hJ _ _ _ _ (fun k => by simp) (h0 _ (fun j d hj => by
   have hlt := hd d (List.mem_of_getElem? hj)
   simp only [List.getD, hj, Option.getD_some]
   simp [Array.getD, hlt])))
 rw [fillO_start ds a 0 _ hd (fun i d hi => by simp [List.getD, hi])] at h
 have e : n + (l.toArray.size - n) = l.toArray.size := by omega
 rw [e] at h
 exact h
end
theorem fitQ_zero (L : Nat) : FitQ 0 (L + 1) := ⟨Fit.zero (by decide), Fit.one (by decide) (by omega)⟩
theorem solP_fit {S : Int} {ms : List Mt} (h : ∀ m ∈ ms, VM S m) (hl : ms.length ≤ 64) {n : Nat} (hn : n ≤ 24) (j : Nat) : FitQ (solP n ms j) 53 := by
 unfold solP solG
 split
 ·
  rename_i i hp
  have hi := Stage.pivtop n j i hp
  have h2 := redG_top n (tabM ms n) n
  exact redG_fit h hl hn n (Nat.le_refl _) i (by omega) n (Nat.le_refl _)
 ·
  exact fitQ_zero 52
set_option maxRecDepth 100000 in
set_option maxHeartbeats 2000000 in
theorem solveP_ok (S : Nat) (A : Option Addr) (n c : Nat) (ms : List Mt) (w : World) (h : MsAt w A n ms) (hv : VP (S : Int) ms) :
  Calls Try.prog 48 #[.agg #[.int .i64 (S : Int), .slice A n c]] w (fun e w' => ∃ go, e = .returned (.tuple #[.slice (some ⟨go, 0, none⟩) S S, .int .i64 0]) ∧ w.heap.size ≤ go ∧ ShP RatC w' go 0 S (solP (3 * S) ms) ∧ Ext w w') := by
 have HX := hid ((Ext.refl w).alloc (.cells #[.int .i64 (S : Int), .slice A n c] 76))
 have HP := hid (Blk.new w 76 #[.int .i64 (S : Int), .slice A n c])
 have HB := hid (vpB_iff.2 hv)
 have H := hid h
 have HV := hid hv
 clear h hv
 go_enter Try.func48, Try.ntmps48
 go_upto_region 1 with (fail)
 generalize w.alloc (.cells #[.int .i64 (S : Int), .slice A n c] 76) = w1 at HX HP ⊢
 have p0 := HP.out.cell 0
 have p1 := HP.out.cell 1
 simp only [List.getElem?_toArray, List.getElem?_cons_zero, List.getElem?_cons_succ] at p0 p1
 go_wp2_with fail
 refine (valid5_any (S : Int) A n c ms _ (H.out.ext HX.out)).mono ?_
 rw [HB.out]
 rintro e w2 ⟨rfl, hX⟩
 replace HX := hid (HX.out.trans hX)
 replace HP := hid (HP.out.ext hX)
 clear hX p0 p1
 have hS8 : S ≤ 8 := by have := HV.out.2.1; omega
 have HF : Hid (∀ j, j < 3 * S → FitQW (solP (3 * S) ms j)) := hid (fun j _ => FitQW.of4 ((solP_fit HV.out.2.2.2 HV.out.2.2.1 (by omega) j)) (by omega))
 have p0 := HP.out.cell 0
 have p1 := HP.out.cell 1
 simp only [List.getElem?_toArray, List.getElem?_cons_zero, List.getElem?_cons_succ] at p0 p1
 go_wp2_with fail
 refine (solve_ok S A n c ms _ (H.out.ext HX.out) HV.out).mono ?_
 rintro e w3 ⟨go, rfl, hgo, hS, hX⟩
 have HS := hid hS
 have hs := HX.out.size
 replace HX := hid (HX.out.trans hX)
 clear hS hX p0 p1
 go_wp2_with fail
 refine (done_S 53 go 0 S S (solP (3 * S) ms) _ HS.out (by omega) HF.out (by omega)).mono ?_
 rintro e w4 ⟨g2, rfl, hg2, hS2, hX⟩
 have hs3 := HX.out.size
 replace HX := hid (HX.out.trans hX)
 have HS2 := hid hS2
 clear hS2 hX
 go_wp2
 go_ret2
 exact ⟨g2, rfl, by omega, HS2.out, HX.out⟩
set_option maxRecDepth 100000 in
set_option maxHeartbeats 2000000 in
theorem read_r14 (go S ss kk gr : Nat) (sy : Bool) (Ay By : Option Addr) (ly cy my ky : Nat) (q : Rat) (w : World) (x0 : w.cell? ⟨gr, 0, none⟩ = some (.bool sy)) (x1 : w.cell? ⟨gr, 1, none⟩ = some (.slice Ay ly cy)) (x2 : w.cell? ⟨gr, 2, none⟩ = some (.slice By my ky)) (hx : RatG w (.agg #[.bool sy, .slice Ay ly cy, .slice By my ky]) q) (_hs1 : ss < S) (_hk3 : (kk : Int) < 3) (_hk4 : kk < 3) (a : Act) (Q : Exit → Act → World → Prop) (hsize : 43 ≤ a.tmps.size)
  (s6 : a.tmps[6]? = some (.slice (some ⟨go, 0, none⟩) S S))
  (s7 : a.tmps[7]? = some (.int .i64 (ss : Int)))
  (s9 : a.tmps[9]? = some (.int .i64 (kk : Int)))
  (s10 : a.tmps[10]? = some (.pointer (some ⟨gr, 0, none⟩)))
  (hend : ∀ (xv0 xv1 xv2 xv3 xv4 xv5 xv6 : Value) (W : World), (xv0 = .slice (some ⟨go, 0, none⟩) S S) → (xv1 = .int .i64 (ss : Int)) → (xv2 = .int .i64 (kk : Int)) → (xv3 = .agg #[.bool sy, .slice Ay ly cy, .slice By my ky]) → (NumX W xv4 (q) (256)) → (xv5 = .pointer (some ⟨go, ss * 9, none⟩)) → (xv6 = .pointer (some ⟨go, ss * 9 + kk * 3, none⟩)) → Ext w W → wpList Try.prog (rops Try.f126 14).toArray Q ((rops Try.f126 14).drop 7) (((((((a.put (some 36) xv0).put (some 37) xv1).put (some 38) xv2).put (some 39) xv3).put (some 40) xv4).put (some 41) xv5).put (some 42) xv6) W) :
  (Code.region 14 (rops Try.f126 14).toArray true).wp Try.prog Q a w := by
 refine wp_region_k 7 [some 36, some 37, some 38, some 39, some 40, some 41, some 42] [[], [], [], [], [3], [0, 1], [2, 5]] [eqv (.slice (some ⟨go, 0, none⟩) S S), eqv (.int .i64 (ss : Int)), eqv (.int .i64 (kk : Int)), eqv (.agg #[.bool sy, .slice Ay ly cy, .slice By my ky]), fun v W => NumX W v (q) (256), eqv (.pointer (some ⟨go, ss * 9, none⟩)), eqv (.pointer (some ⟨go, ss * 9 + kk * 3, none⟩))] (by kernel_rfl) (by kernel_rfl) rfl (by decide) hsize ⟨monC, monC, monC, monC, by intro v W W' h hX; exact NumX.ext h hX, monC, monC, trivial⟩ ?_ ?_
 ·
  clear hend
  simp only [rops, Try.f126, regOf, Option.bind_some, Nat.reduceBEq, if_true, if_false, Bool.false_eq_true, Option.getD_some]
  simp only [List.take_succ_cons, List.take_zero]
  refine ⟨?_, ?_, ?_, ?_, ?_, ?_, ?_, trivial⟩
  ·
   rintro us W hJ _ b hb hbz K hK0 hK Qz
   have e6 := (hbz 6 (by simp)).trans s6
   clear hb hbz
   go_simp
   exact hK0 _ rfl
  ·
   rintro us W hJ _ b hb hbz K hK0 hK Qz
   have e7 := (hbz 7 (by simp)).trans s7
   clear hb hbz
   go_simp
   exact hK0 _ rfl
  ·
   rintro us W hJ _ b hb hbz K hK0 hK Qz
   have e9 := (hbz 9 (by simp)).trans s9
   clear hb hbz
   go_simp
   exact hK0 _ rfl
  ·
   rintro us W hJ _ b hb hbz K hK0 hK Qz
   have e10 := (hbz 10 (by simp)).trans s10
   clear hb hbz
   have z0 := Ext.cell hJ x0
   have z1 := Ext.cell hJ x1
   have z2 := Ext.cell hJ x2
   go_simp
   exact hK0 _ rfl
  ·
   rintro us W hJ d3 b hb hbz K hK0 hK Qz
   have e39 := slotV (hb 3 39 rfl) d3
   clear hb hbz d3
   go_simp
   refine (ofG (hx.ext hJ)).mono ?_
   rintro e w' ⟨v, rfl, hv, hX⟩
   exact hK _ _ hv hX
  ·
   rintro us W hJ ⟨d0, d1⟩ b hb hbz K hK0 hK Qz
   have e36 := slotV (hb 0 36 rfl) d0
   have e37 := slotV (hb 1 37 rfl) d1
   clear hb hbz d0 d1
   go_simp
   exact hK0 _ rfl
  ·
   rintro us W hJ ⟨d2, d5⟩ b hb hbz K hK0 hK Qz
   have e38 := slotV (hb 2 38 rfl) d2
   have e41 := slotV (hb 5 41 rfl) d5
   clear hb hbz d2 d5
   go_simp
   exact hK0 _ rfl
 ·
  rintro us W ⟨v0, v1, v2, v3, v4, v5, v6, _⟩ hJ
  exact hend _ _ _ _ _ _ _ W v0 v1 v2 v3 v4 v5 v6 hJ
set_option maxRecDepth 100000 in
set_option maxHeartbeats 16000000 in
theorem rdP_ok (S : Nat) (A : Option Addr) (n c : Nat) (ms : List Mt) (gt ot ct : Nat) (u : Nat → Rat) (w : World) (h : MsAt w A n ms) (hv : VP (S : Int) ms) (hS : ShP RatG w gt ot S u) :
  Calls Try.prog 126 #[.agg #[.int .i64 (S : Int), .slice A n c], .slice (some ⟨gt, ot, none⟩) S ct] w (fun e w' => ∃ go, e = .returned (.tuple #[.slice (some ⟨go, 0, none⟩) S S, .int .i64 0]) ∧ w.heap.size ≤ go ∧ ShP (fun w v q => NumX w v q 256) w' go 0 S u ∧ Ext w w') := by
 have HX := hid ((Ext.refl w).alloc (.cells #[.int .i64 (S : Int), .slice A n c] 76))
 have HP := hid (Blk.new w 76 #[.int .i64 (S : Int), .slice A n c])
 have HB := hid (vpB_iff.2 hv)
 have H := hid h
 have HV := hid hv
 clear h hv
 go_enter Try.func126, Try.ntmps126
 go_upto_region 1 with (fail)
 generalize w.alloc (.cells #[.int .i64 (S : Int), .slice A n c] 76) = w1 at HX HP ⊢
 have p0 := HP.out.cell 0
 have p1 := HP.out.cell 1
 simp only [List.getElem?_toArray, List.getElem?_cons_zero, List.getElem?_cons_succ] at p0 p1
 go_wp2_with fail
 refine (valid5_any (S : Int) A n c ms _ (H.out.ext HX.out)).mono ?_
 rw [HB.out]
 rintro e w2 ⟨rfl, hX⟩
 replace HX := hid (HX.out.trans hX)
 replace HP := hid (HP.out.ext hX)
 clear hX p0 p1
 have p0 := HP.out.cell 0
 simp only [List.getElem?_toArray, List.getElem?_cons_zero] at p0
 have q0 : ((S : Int) != (S : Int)) = false := by simp
 have hS8 : S ≤ 8 := by have := HV.out.2.1; omega
 have HS := hid hS
 clear hS
 have hsx := HX.out.size
 go_upto_region 6 with (at_make; refine wpList_mkS w2 elS9 rfl _ _ rfl w.heap.size _ _ _ _ S S rfl rfl (by first | rfl | omega) (by first | rfl | omega) (Nat.le_refl _) (by omega) (by unfold maxLen; omega) hsx ?_; intro w4 us hown hz1 hz2 hext hsz)
 have hrow : RowN (fun w v q => NumX w v q 256) 263 9 w.heap.size w4 w2.heap.size S S (3 * S) (fun _ => none) := RowN.make9 hown hz1 hz2
 replace HX := hid (HX.out.trans hext)
 generalize w2.heap.size = go at hrow hsx hsz ⊢
 have HR := hid hrow
 clear hrow hown hz1 hz2 hext p0
 go_wp2_with fail
 go_loopg [24] S (fun f iv wr => ∃ i : Nat, f = S - i ∧ i ≤ S ∧ iv = .int .i64 (i : Int) ∧ Hid (RowN (fun w v q => NumX w v q 256) 263 9 w.heap.size wr go S S (3 * S) (fun j => if j < 3 * i then some (u j) else none)) ∧ Hid (Ext w wr))
 case atStart => exact ⟨0, by omega, by omega, rfl, hid (HR.out.congr (fun j _ => by rw [if_neg (by omega)])), HX⟩
 case round =>
  clear HR HX hsz
  obtain ⟨i, rfl, hi, rfl, HR, HX⟩ := hrel
  by_cases hlt : i < S
  ·
   have q1 : decide (i < S) = true := decide_eq_true hlt
   obtain ⟨s0, A0, l0, c0, B0, m0, k0, a0, b0, d0, e0⟩ := HS.out i 0 hlt (by omega)
   replace a0 := HX.out.cell a0
   replace b0 := HX.out.cell b0
   replace d0 := HX.out.cell d0
   obtain ⟨s1, A1, l1, c1, B1, m1, k1, a1, b1, d1, e1⟩ := HS.out i 1 hlt (by omega)
   replace a1 := HX.out.cell a1
   replace b1 := HX.out.cell b1
   replace d1 := HX.out.cell d1
   obtain ⟨s2, A2, l2, c2, B2, m2, k2, a2, b2, d2, e2⟩ := HS.out i 2 hlt (by omega)
   replace a2 := HX.out.cell a2
   replace b2 := HX.out.cell b2
   replace d2 := HX.out.cell d2
   have HE0 := hid e0
   have HE1 := hid e1
   have HE2 := hid e2
   clear e0 e1 e2
   simp only [Nat.zero_mul, Nat.add_zero, Nat.one_mul] at a0 b0 d0 a1 b1 d1
   have e3 : ot + i * 9 + 3 + 1 = ot + i * 9 + 4 := by omega
   have e4 : ot + i * 9 + 3 + 2 = ot + i * 9 + 5 := by omega
   have e6 : ot + i * 9 + 2 * 3 = ot + i * 9 + 6 := by omega
   have e7 : ot + i * 9 + 2 * 3 + 1 = ot + i * 9 + 7 := by omega
   have e8 : ot + i * 9 + 2 * 3 + 2 = ot + i * 9 + 8 := by omega
   rw [e3] at b1
   rw [e4] at d1
   rw [e7] at b2
   rw [e8] at d2
   rw [e6] at a2
   clear e3 e4 e6 e7 e8
   go_upto_region 9 with (fail)
   have hXa : Ext wr (wr.alloc (.cells #[.bool s0, .slice A0 l0 c0, .slice B0 m0 k0, .bool s1, .slice A1 l1 c1, .slice B1 m1 k1, .bool s2, .slice A2 l2 c2, .slice B2 m2 k2] 98)) := (Ext.refl _).alloc _
   have kB := Blk.new wr 98 #[.bool s0, .slice A0 l0 c0, .slice B0 m0 k0, .bool s1, .slice A1 l1 c1, .slice B1 m1 k1, .bool s2, .slice A2 l2 c2, .slice B2 m2 k2]
   replace HR := hid (HR.out.ext (staysNum 256) hXa)
   replace HX := hid (HX.out.trans hXa)
   clear hXa a0 b0 d0 a1 b1 d1 a2 b2 d2
   generalize wr.heap.size = gv at kB ⊢
   generalize wr.alloc (.cells #[.bool s0, .slice A0 l0 c0, .slice B0 m0 k0, .bool s1, .slice A1 l1 c1, .slice B1 m1 k1, .bool s2, .slice A2 l2 c2, .slice B2 m2 k2] 98) = w5 at kB HR HX ⊢
   have y0 := kB.cell 0
   have y1 := kB.cell 1
   have y2 := kB.cell 2
   have y3 := kB.cell 3
   have y4 := kB.cell 4
   have y5 := kB.cell 5
   have y6 := kB.cell 6
   have y7 := kB.cell 7
   have y8 := kB.cell 8
   simp only [List.getElem?_toArray, List.getElem?_cons_zero, List.getElem?_cons_succ] at y0 y1 y2 y3 y4 y5 y6 y7 y8
   clear kB
   go_wp2_with fail
   clear y0 y1 y2 y3 y4 y5 y6 y7 y8
   go_loopg [30] 3 (fun f kv wr => ∃ k : Nat, f = 3 - k ∧ k ≤ 3 ∧ kv = .int .i64 (k : Int) ∧ Hid (RowN (fun w v q => NumX w v q 256) 263 9 w.heap.size wr go S S (3 * S) (fun j => if j < 3 * i + k then some (u j) else none)) ∧ Hid (Ext w wr))
   case atStart => exact ⟨0, by omega, by omega, rfl, HR, HX⟩
   case round =>
    clear HR HX
    obtain ⟨k, rfl, hk, rfl, HR, HX⟩ := hrel
    by_cases hkl : k < 3
    ·
     have q2 : decide (k < 3) = true := decide_eq_true hkl
     obtain ⟨s9, A9, l9, c9, B9, m9, k9, g1, g2, g3, hq⟩ := pick_agg (P := RatG) (w := wr) (q := fun k => u (3 * i + k)) hkl (HE0.out.ext HX.out) (HE1.out.ext HX.out) (HE2.out.ext HX.out)
     have ik := idx9R (.bool s0) (.slice A0 l0 c0) (.slice B0 m0 k0) (.bool s1) (.slice A1 l1 c1) (.slice B1 m1 k1) (.bool s2) (.slice A2 l2 c2) (.slice B2 m2 k2) hkl
     rw [g1, g2, g3] at ik
     have HQ := hid hq
     clear hq g1 g2 g3
     have hj3 : 3 * i + k < 3 * S := by omega
     go_upto_region 12 with (fail)
     have hXa : Ext wr (wr.alloc (.cells #[.bool s9, .slice A9 l9 c9, .slice B9 m9 k9] 97)) := (Ext.refl _).alloc _
     have kB := Blk.new wr 97 #[.bool s9, .slice A9 l9 c9, .slice B9 m9 k9]
     replace HR := hid (HR.out.ext (staysNum 256) hXa)
     replace HX := hid (HX.out.trans hXa)
     replace HQ := hid (HQ.out.ext hXa)
     clear hXa ik
     generalize wr.heap.size = gn at kB ⊢
     generalize wr.alloc (.cells #[.bool s9, .slice A9 l9 c9, .slice B9 m9 k9] 97) = w6 at kB HR HX HQ ⊢
     have KB := hid kB
     have y0 := kB.cell 0
     have y1 := kB.cell 1
     have y2 := kB.cell 2
     simp only [List.getElem?_toArray, List.getElem?_cons_zero, List.getElem?_cons_succ] at y0 y1 y2
     clear kB
     go_wp2_with fail
     refine (RatL.is HQ.out.small).mono ?_
     rintro e w7 ⟨rfl, hX⟩
     clear y0 y1 y2
     replace HR := hid (HR.out.ext (staysNum 256) hX)
     replace HX := hid (HX.out.trans hX)
     replace HQ := hid (HQ.out.ext hX)
     replace KB := hid (KB.out.ext hX)
     clear hX
     go_upto_region 14 with (fail)
     refine read_r14 go S i k gn s9 A9 B9 l9 c9 m9 k9 _ w7 (KB.out.cell 0) (KB.out.cell 1) (KB.out.cell 2) HQ.out hlt (by omega) hkl _ _ (by simp) rfl rfl rfl rfl ?_
     rintro xv0 xv1 xv2 xv3 xv4 xv5 xv6 W rfl rfl rfl rfl hv rfl rfl hX
     simp only [rops, Try.f126, regOf, Option.bind_some, Nat.reduceBEq, if_true, if_false, Bool.false_eq_true, Option.getD_some, List.drop_succ_cons, List.drop_zero]
     simp only [Act.put, List.setIfInBounds_toArray, List.set_cons_succ, List.set_cons_zero]
     obtain ⟨s4, A4, l4, c4, B4, m4, k4, rfl⟩ := NumX.open hv
     have HV4 := hid hv
     clear hv
     replace HR := hid (HR.out.ext (staysNum 256) hX)
     replace HX := hid (HX.out.trans hX)
     clear hX KB HQ
     have hpj : i * 9 + k * 3 = (3 * i + k) * 3 := by omega
     obtain ⟨s2, A2, l2, c2, B2, m2, k2, z0, z1, z2, _⟩ := HR.out.cells hj3 hpj
     have f0 := HR.out.free (i * 9 + k * 3)
     have f1 := HR.out.free (i * 9 + k * 3 + 1)
     have f2 := HR.out.free (i * 9 + k * 3 + 2)
     have HPUT := hid (HR.out.put (staysNum 256) hj3 hpj HV4.out)
     clear hpj
     go_wp2
     go_roundg (3 - (k + 1))
     case rel =>
      refine ⟨k + 1, rfl, by omega, by go_num, hid (HPUT.out.congr (fun j _ => ?_)), hid (((HX.out.setCell (by simp only; omega) _).setCell (by simp only; omega) _).setCell (by simp only; omega) _)⟩
      by_cases e : j = 3 * i + k
      ·
       rw [if_pos e, e, if_pos (by omega)]
      ·
       rw [if_neg e]
       by_cases h2 : j < 3 * i + k
       ·
        rw [if_pos h2, if_pos (by omega)]
       ·
        rw [if_neg h2, if_neg (by omega)]
     case measure => omega
    ·
     obtain rfl : k = 3 := by omega
     go_wp2
     go_roundg (S - (i + 1))
     case rel => exact ⟨i + 1, rfl, by omega, by go_num, hid (HR.out.congr (fun j _ => by rw [show 3 * (i + 1) = 3 * i + 3 by omega])), HX⟩
     case measure => omega
  ·
   obtain rfl : i = S := by omega
   go_wp2
   go_ret2
   exact ⟨go, rfl, by omega, HR.out.shp (fun j hj => by rw [if_pos hj]), HX.out⟩
theorem misfit_take {n : Nat} {ms : List Mt} {u : Nat → Rat} {k : Nat} {m : Mt} (h : ms[k]? = some m) : misfit n (ms.take (k + 1)) u = misfit n (ms.take k) u + wsq n u m := by
 unfold misfit
 rw [take_snoc h, sumM_append]
 simp only [sumM]
 grind
set_option maxRecDepth 100000 in
set_option maxHeartbeats 2000000 in
theorem misfit_r8 (gs gt ot S ct gm L M : Nat) (ma mb mx my mz md mw : Int) (un : Nat → Rat) (su : Bool) (Au Bu : Option Addr) (lu cu mu ku : Nat) (q : Rat) (w : World) (x0 : w.cell? ⟨gs, 0, none⟩ = some (.bool su)) (x1 : w.cell? ⟨gs, 1, none⟩ = some (.slice Au lu cu)) (x2 : w.cell? ⟨gs, 2, none⟩ = some (.slice Bu mu ku)) (v0 : w.cell? ⟨gm, 0, none⟩ = some (.int .i64 (ma))) (v1 : w.cell? ⟨gm, 1, none⟩ = some (.int .i64 (mb))) (v2 : w.cell? ⟨gm, 2, none⟩ = some (.int .i64 (mx))) (v3 : w.cell? ⟨gm, 3, none⟩ = some (.int .i64 (my))) (v4 : w.cell? ⟨gm, 4, none⟩ = some (.int .i64 (mz))) (v5 : w.cell? ⟨gm, 5, none⟩ = some (.int .i64 (md))) (v6 : w.cell? ⟨gm, 6, none⟩ = some (.int .i64 (mw))) (hS : ShP (fun w v q => NumX w v q L) w gt ot S un) (hm : VM S ⟨ma, mb, mx, my, mz, md, mw⟩) (hx : NumX w (.agg #[.bool su, .slice Au lu cu, .slice Bu mu ku]) q M) (hL : L ≤ 100000) (_hM : M ≤ 1000000000) (a : Act) (Q : Exit → Act → World → Prop) (hsize : 35 ≤ a.tmps.size)
  (s6 : a.tmps[6]? = some (.slice (some ⟨gt, ot, none⟩) S ct))
  (s8 : a.tmps[8]? = some (.pointer (some ⟨gs, 0, none⟩)))
  (s10 : a.tmps[10]? = some (.pointer (some ⟨gm, 0, none⟩)))
  (hend : ∀ (xv0 xv1 xv2 xv3 xv4 xv5 : Value) (W : World), (xv0 = .agg #[.bool su, .slice Au lu cu, .slice Bu mu ku]) → (xv1 = .slice (some ⟨gt, ot, none⟩) S ct) → (xv2 = .agg #[.int .i64 (ma), .int .i64 (mb), .int .i64 (mx), .int .i64 (my), .int .i64 (mz), .int .i64 (md), .int .i64 (mw)]) → (NumX W xv3 (wsq (3 * S) un ⟨ma, mb, mx, my, mz, md, mw⟩) (12 * L + 30)) → (NumX W xv4 (q + wsq (3 * S) un ⟨ma, mb, mx, my, mz, md, mw⟩) (M + (12 * L + 30) + 1)) → (NumX W xv5 (q + wsq (3 * S) un ⟨ma, mb, mx, my, mz, md, mw⟩) (M + (12 * L + 30) + 1)) → Ext w W → wpList Try.prog (rops Try.f50 8).toArray Q ((rops Try.f50 8).drop 6) ((((((a.put (some 29) xv0).put (some 30) xv1).put (some 31) xv2).put (some 32) xv3).put (some 33) xv4).put (some 34) xv5) W) :
  (Code.region 8 (rops Try.f50 8).toArray true).wp Try.prog Q a w := by
 refine wp_region_k 6 [some 29, some 30, some 31, some 32, some 33, some 34] [[], [], [], [1, 2], [0, 3], [4]] [eqv (.agg #[.bool su, .slice Au lu cu, .slice Bu mu ku]), eqv (.slice (some ⟨gt, ot, none⟩) S ct), eqv (.agg #[.int .i64 (ma), .int .i64 (mb), .int .i64 (mx), .int .i64 (my), .int .i64 (mz), .int .i64 (md), .int .i64 (mw)]), fun v W => NumX W v (wsq (3 * S) un ⟨ma, mb, mx, my, mz, md, mw⟩) (12 * L + 30), fun v W => NumX W v (q + wsq (3 * S) un ⟨ma, mb, mx, my, mz, md, mw⟩) (M + (12 * L + 30) + 1), fun v W => NumX W v (q + wsq (3 * S) un ⟨ma, mb, mx, my, mz, md, mw⟩) (M + (12 * L + 30) + 1)] (by kernel_rfl) (by kernel_rfl) rfl (by decide) hsize ⟨monC, monC, monC, by intro v W W' h hX; exact NumX.ext h hX, by intro v W W' h hX; exact NumX.ext h hX, by intro v W W' h hX; exact NumX.ext h hX, trivial⟩ ?_ ?_
 ·
  clear hend
  simp only [rops, Try.f50, regOf, Option.bind_some, Nat.reduceBEq, if_true, if_false, Bool.false_eq_true, Option.getD_some]
  simp only [List.take_succ_cons, List.take_zero]
  refine ⟨?_, ?_, ?_, ?_, ?_, ?_, trivial⟩
  ·
   rintro us W hJ _ b hb hbz K hK0 hK Qz
   have e8 := (hbz 8 (by simp)).trans s8
   clear hb hbz
   have z0 := Ext.cell hJ x0
   have z1 := Ext.cell hJ x1
   have z2 := Ext.cell hJ x2
   go_simp
   exact hK0 _ rfl
  ·
   rintro us W hJ _ b hb hbz K hK0 hK Qz
   have e6 := (hbz 6 (by simp)).trans s6
   clear hb hbz
   go_simp
   exact hK0 _ rfl
  ·
   rintro us W hJ _ b hb hbz K hK0 hK Qz
   have e10 := (hbz 10 (by simp)).trans s10
   clear hb hbz
   have z0 := Ext.cell hJ v0
   have z1 := Ext.cell hJ v1
   have z2 := Ext.cell hJ v2
   have z3 := Ext.cell hJ v3
   have z4 := Ext.cell hJ v4
   have z5 := Ext.cell hJ v5
   have z6 := Ext.cell hJ v6
   go_simp
   exact hK0 _ rfl
  ·
   rintro us W hJ ⟨d1, d2⟩ b hb hbz K hK0 hK Qz
   have e30 := slotV (hb 1 30 rfl) d1
   have e31 := slotV (hb 2 31 rfl) d2
   clear hb hbz d1 d2
   go_simp
   refine (weighted_any (m := ⟨ma, mb, mx, my, mz, md, mw⟩) (hS.ext (growsNum L) hJ) hm hL).mono ?_
   rintro e w' ⟨v, rfl, hv, hX⟩
   exact hK _ _ hv hX
  ·
   rintro us W hJ ⟨d0, d3⟩ b hb hbz K hK0 hK Qz
   have e29 := slotV (hb 0 29 rfl) d0
   have e32 := hb 3 32 rfl
   clear hb hbz d0
   go_simp
   refine (addX (hx.ext hJ) d3 (by omega)).mono ?_
   rintro e w' ⟨v, rfl, hv, hX⟩
   exact hK _ _ hv hX
  ·
   rintro us W hJ d4 b hb hbz K hK0 hK Qz
   have e33 := hb 4 33 rfl
   clear hb hbz
   go_simp
   refine (reducedX d4 (by omega)).mono ?_
   rintro e w' ⟨v, rfl, hv, hX⟩
   exact hK _ _ (hv.numx d4.fit) hX
 ·
  rintro us W ⟨v0, v1, v2, v3, v4, v5, _⟩ hJ
  exact hend _ _ _ _ _ _ W v0 v1 v2 v3 v4 v5 hJ
set_option maxRecDepth 100000 in
set_option maxHeartbeats 16000000 in
theorem misfit_ok (S : Nat) (A : Option Addr) (n c : Nat) (ms : List Mt) (gt ot ct : Nat) (u : Nat → Rat) (w : World) (h : MsAt w A n ms) (hv : VP (S : Int) ms) (hS : ShP RatG w gt ot S u) (hf : FitQW (misfit (3 * S) ms u)) :
  Calls Try.prog 50 #[.agg #[.int .i64 (S : Int), .slice A n c], .slice (some ⟨gt, ot, none⟩) S ct] w (fun e w' => ∃ v, e = .returned (.tuple #[v, .int .i64 0]) ∧ RatC w' v (misfit (3 * S) ms u) ∧ Ext w w') := by
 have H := hid h
 have HV := hid hv
 clear h hv
 have hXe : Ext w ((w.alloc (.cells #[.int .i64 (S : Int), .slice A n c] 76)).alloc (.cells #[.bool false, .slice none 0 0, .slice none 0 0] 97)) := ((Ext.refl w).alloc _).alloc _
 have kP : Blk ((w.alloc (.cells #[.int .i64 (S : Int), .slice A n c] 76)).alloc (.cells #[.bool false, .slice none 0 0, .slice none 0 0] 97)) w.heap.size 76 #[.int .i64 (S : Int), .slice A n c] := Blk.alloc (Blk.new w _ _) _
 have kR : Blk ((w.alloc (.cells #[.int .i64 (S : Int), .slice A n c] 76)).alloc (.cells #[.bool false, .slice none 0 0, .slice none 0 0] 97)) (w.heap.size + 1) 97 #[.bool false, .slice none 0 0, .slice none 0 0] := Blk.at_ (by simp)
 go_enter Try.func50, Try.ntmps50
 go_upto_region 1 with (fail)
 generalize (w.alloc (.cells #[.int .i64 (S : Int), .slice A n c] 76)).alloc (.cells #[.bool false, .slice none 0 0, .slice none 0 0] 97) = w1 at hXe kP kR ⊢
 have HX := hid hXe
 have HP := hid kP
 have HR := hid kR
 clear hXe kP kR
 have p0 := HP.out.cell 0
 have p1 := HP.out.cell 1
 simp only [List.getElem?_toArray, List.getElem?_cons_zero, List.getElem?_cons_succ] at p0 p1
 go_wp2_with fail
 have HS0 := hid hS
 have HF := hid hf
 have HVM := hid HV.out.2.2.2
 have HL := hid H.out.1
 have hn64 : n ≤ 64 := by have := HV.out.2.2.1; have := HL.out; omega
 clear hS hf
 refine (rdP_ok S A n c ms gt ot ct u _ (H.out.ext HX.out) HV.out (HS0.out.ext growsG HX.out)).mono ?_
 rintro e w2 ⟨go, rfl, hgo, hS, hX⟩
 have HS := hid hS
 replace HX := hid (HX.out.trans hX)
 replace HP := hid (HP.out.ext hX)
 replace HR := hid (HR.out.ext hX)
 clear hS hX p0 p1 hgo
 go_wp2_with fail
 refine (intX 0 _ (by omega) (by omega)).mono ?_
 rintro e w3 ⟨v3, rfl, hv, hX⟩
 obtain ⟨s0, A0, l0, c0, B0, m0, k0, rfl⟩ := NumX.open hv
 replace HX := hid (HX.out.trans hX)
 replace HP := hid (HP.out.ext hX)
 replace HR := hid (HR.out.ext hX)
 replace HS := hid (HS.out.ext (growsNum 256) hX)
 have HN := hid hv
 clear hv hX
 go_upto_region 5 with (fail)
 have hXa : Ext w3 (w3.alloc (.cells #[.bool s0, .slice A0 l0 c0, .slice B0 m0 k0] 217)) := (Ext.refl _).alloc _
 have kS := Blk.new w3 217 #[.bool s0, .slice A0 l0 c0, .slice B0 m0 k0]
 have hrl := HR.out.lt
 have hgl := HS.out.low (by have := HV.out.1; omega)
 replace HX := hid (HX.out.trans hXa)
 replace HP := hid (HP.out.ext hXa)
 replace HR := hid (HR.out.ext hXa)
 replace HS := hid (HS.out.ext (growsNum 256) hXa)
 replace HN : Hid (NumX _ (.agg #[.bool s0, .slice A0 l0 c0, .slice B0 m0 k0]) (misfit (3 * S) (ms.take 0) u) (2 + 0 * 3103)) := hid (HN.out.ext hXa)
 clear hXa
 generalize w3.alloc (.cells #[.bool s0, .slice A0 l0 c0, .slice B0 m0 k0] 217) = w4 at kS HX HP HR HS HN ⊢
 generalize w3.heap.size = gs at kS hrl hgl ⊢
 have KS := hid kS
 clear kS
 have p1 := HP.out.cell 1
 simp only [List.getElem?_toArray, List.getElem?_cons_zero, List.getElem?_cons_succ] at p1
 go_wp2_with fail
 clear p1
 go_loopg [25] n (fun f iv wr => ∃ (k : Nat) (s0 : Bool) (A0 B0 : Option Addr) (l0 c0 m0 k0 : Nat), f = n - k ∧ k ≤ n ∧ iv = .int .i64 (k : Int) ∧ Hid (NumX wr (.agg #[.bool s0, .slice A0 l0 c0, .slice B0 m0 k0]) (misfit (3 * S) (ms.take k) u) (2 + k * 3103)) ∧ Hid (Blk wr gs 217 #[.bool s0, .slice A0 l0 c0, .slice B0 m0 k0]) ∧ Hid (Blk wr (w.heap.size + 1) 97 #[.bool false, .slice none 0 0, .slice none 0 0]) ∧ Hid (Ext w wr) ∧ Hid (ShP (fun w v q => NumX w v q 256) wr go 0 S u))
 case atStart => exact ⟨0, s0, A0, B0, l0, c0, m0, k0, rfl, by omega, rfl, HN, KS, HR, HX, HS⟩
 case round =>
  clear HN KS HR HX HS
  obtain ⟨k, s0, A0, B0, l0, c0, m0, k0, rfl, hk, rfl, HN, KS, HR, HX, HS⟩ := hrel
  by_cases hlt : k < n
  ·
   have q1 : decide (k < n) = true := decide_eq_true hlt
   obtain ⟨g, o, ⟨a, b, x, y, z, d, ww⟩, rfl, hm, hmem, x0, x1, x2, x3, x4, x5, x6⟩ := (H.out.ext HX.out).get hlt
   simp only at x0 x1 x2 x3 x4 x5 x6
   have HTK := hid (misfit_take (n := 3 * S) (u := u) hm)
   have HMM := hid (HVM.out _ hmem)
   clear hm hmem
   go_upto_region 8 with (fail)
   have hXa : Ext wr (wr.alloc (.cells #[.int .i64 (a), .int .i64 (b), .int .i64 (x), .int .i64 (y), .int .i64 (z), .int .i64 (d), .int .i64 (ww)] 90)) := (Ext.refl _).alloc _
   have kM := Blk.new wr 90 #[.int .i64 (a), .int .i64 (b), .int .i64 (x), .int .i64 (y), .int .i64 (z), .int .i64 (d), .int .i64 (ww)]
   replace HX := hid (HX.out.trans hXa)
   replace HR := hid (HR.out.ext hXa)
   replace KS := hid (KS.out.ext hXa)
   replace HN := hid (HN.out.ext hXa)
   replace HS := hid (HS.out.ext (growsNum 256) hXa)
   clear hXa x0 x1 x2 x3 x4 x5 x6
   generalize wr.heap.size = gm at kM ⊢
   generalize wr.alloc (.cells #[.int .i64 (a), .int .i64 (b), .int .i64 (x), .int .i64 (y), .int .i64 (z), .int .i64 (d), .int .i64 (ww)] 90) = w5 at kM HX HR KS HN HS ⊢
   refine misfit_r8 gs go 0 S S gm 256 (2 + k * 3103) a b x y z d ww u s0 A0 B0 l0 c0 m0 k0 _ w5 (KS.out.cell 0) (KS.out.cell 1) (KS.out.cell 2) (kM.cell 0) (kM.cell 1) (kM.cell 2) (kM.cell 3) (kM.cell 4) (kM.cell 5) (kM.cell 6) HS.out HMM.out HN.out (by omega) (by omega) _ _ (by simp) rfl rfl rfl ?_
   rintro xv0 xv1 xv2 xv3 xv4 xv5 W rfl rfl rfl _ _ hv hX
   simp only [rops, Try.f50, regOf, Option.bind_some, Nat.reduceBEq, if_true, if_false, Bool.false_eq_true, Option.getD_some, List.drop_succ_cons, List.drop_zero]
   simp only [Act.put, List.setIfInBounds_toArray, List.set_cons_succ, List.set_cons_zero]
   clear kM HN
   obtain ⟨s4, A4, l4, c4, B4, m4, k4, rfl⟩ := NumX.open hv
   have HN := hid hv
   replace HX := hid (HX.out.trans hX)
   replace HR := hid (HR.out.ext hX)
   replace KS := hid (KS.out.ext hX)
   replace HS := hid (HS.out.ext (growsNum 256) hX)
   clear hv hX
   obtain ⟨r0, r1, r2, f0, f1, f2⟩ := KS.out.three
   have HNI := hid (NoInts.three KS.out)
   go_wp2
   go_roundg (n - (k + 1))
   case rel =>
    refine ⟨k + 1, s4, A4, B4, l4, c4, m4, k4, rfl, by omega, by go_num, hid ?_, hid (((KS.out.set 0 _).set 1 _).set 2 _), hid (((HR.out.far (by simp only; omega) _).far (by simp only; omega) _).far (by simp only; omega) _), hid (Ext.boxed HX.out (by omega) _ _ _), hid (ShP.keeps (staysNum 256) HS.out ((((Keeps.refl [gs] W).setCell (.inl (by simp)) _).setCell (.inl (by simp)) _).setCell (.inl (by simp)) _) (fun g hg => by simp at hg; subst hg; exact HNI.out) (by simp; omega))⟩
    rw [HTK.out]
    exact (HN.out.mono (show 2 + k * 3103 + (12 * 256 + 30) + 1 ≤ 2 + (k + 1) * 3103 by omega)).boxed HNI.out _ _ _ _ _ _ _
   case measure => omega
  ·
   obtain rfl : k = n := by omega
   have q1 : decide (k < k) = false := by simp
   have HTK : Hid (ms.take k = ms) := hid (List.take_of_length_le (by have := HL.out; omega))
   rw [HTK.out] at HN
   obtain ⟨r0, r1, r2, f0, f1, f2⟩ := KS.out.three
   clear f0 f1 f2
   go_wp2_with fail
   refine (doneG HN.out (by omega) HF.out).mono ?_
   rintro e w5 ⟨v5, rfl, hv, hX⟩
   obtain ⟨s4, A4, l4, c4, B4, m4, k4, rfl⟩ := RatC.open hv
   have HC := hid hv
   replace HX := hid (HX.out.trans hX)
   replace HR := hid (HR.out.ext hX)
   clear hv hX r0 r1 r2
   obtain ⟨r0, r1, r2, f0, f1, f2⟩ := HR.out.three
   have HNI := hid (NoInts.three HR.out)
   go_wp2
   refine bodyPost_ret (v := .tuple #[.agg #[.bool s4, .slice A4 l4 c4, .slice B4 m4 k4], .int .i64 0]) (by simp [results, Try.results50, go_sem, *]) rfl ?_
   exact ⟨_, rfl, staysC _ _ _ _ _ HC.out ((((Keeps.refl [w.heap.size + 1] w5).setCell (.inl (by simp)) _).setCell (.inl (by simp)) _).setCell (.inl (by simp)) _) (fun g hg => by simp at hg; subst hg; exact HNI.out), Ext.boxed HX.out (by omega) _ _ _⟩
def fstM : List Mt := [⟨0, -1, 0, 0, 1, 0, 1⟩, ⟨0, -1, 0, 0, 1, 30, 2⟩]
theorem fst_sol : solP (3 * 1) fstM 2 = ((-20 : Int) : Rat) := by decide +kernel
theorem fst_mis : misfit (3 * 1) fstM (solP (3 * 1) fstM) = ((600 : Int) : Rat) := by decide +kernel
theorem fst_vp : VP ((1 : Nat) : Int) fstM := vpB_iff.1 (by decide +kernel)
theorem fitQ_small' {z : Int} (h0 : -9223372036854775808 ≤ z) (h1 : z ≤ 9223372036854775807) : FitQW ((z : Int) : Rat) := FitQW.of4 (fitQ_small h0 h1) (by omega)
set_option maxRecDepth 100000 in
set_option maxHeartbeats 2000000 in
theorem first_r3 (go : Nat) (su : Bool) (Au Bu : Option Addr) (lu cu mu ku : Nat) (w : World) (x0 : w.cell? ⟨go, 6, none⟩ = some (.bool su)) (x1 : w.cell? ⟨go, 6 + 1, none⟩ = some (.slice Au lu cu)) (x2 : w.cell? ⟨go, 6 + 2, none⟩ = some (.slice Bu mu ku)) (hx : RatC w (.agg #[.bool su, .slice Au lu cu, .slice Bu mu ku]) ((-20 : Int) : Rat)) (a : Act) (Q : Exit → Act → World → Prop) (hsize : 33 ≤ a.tmps.size)
  (s2 : a.tmps[2]? = some (.slice (some ⟨go, 0, none⟩) 1 1))
  (s3 : a.tmps[3]? = some (.int .i64 (0)))
  (hend : ∀ (xv0 xv1 xv2 xv3 xv4 xv5 xv6 xv7 xv8 xv9 xv10 xv11 xv12 xv13 xv14 xv15 : Value) (W : World), (xv0 = .int .i64 (0)) → (xv1 = .bool false) → (xv2 = .bool false) → (xv3 = .slice (some ⟨go, 0, none⟩) 1 1) → (xv4 = .int .i64 (1)) → (xv5 = .bool false) → (xv6 = .bool false) → (xv7 = .bool false) → (xv8 = .slice (some ⟨go, 0, none⟩) 1 1) → (xv9 = .pointer (some ⟨go, 0, none⟩)) → (xv10 = .pointer (some ⟨go, 6, none⟩)) → (xv11 = .agg #[.bool su, .slice Au lu cu, .slice Bu mu ku]) → (QZ W xv12 ((-20 : Int) : Rat)) → (xv13 = .bool true) → (xv14 = .bool false) → (xv15 = .bool false) → Ext w W → wpList Try.prog (rops Try.f39 3).toArray Q ((rops Try.f39 3).drop 16) ((((((((((((((((a.put (some 17) xv0).put (some 18) xv1).put (some 19) xv2).put (some 20) xv3).put (some 21) xv4).put (some 22) xv5).put (some 23) xv6).put (some 24) xv7).put (some 25) xv8).put (some 26) xv9).put (some 27) xv10).put (some 28) xv11).put (some 29) xv12).put (some 30) xv13).put (some 31) xv14).put (some 32) xv15) W) :
  (Code.region 3 (rops Try.f39 3).toArray true).wp Try.prog Q a w := by
 refine wp_region_k 16 [some 17, some 18, some 19, some 20, some 21, some 22, some 23, some 24, some 25, some 26, some 27, some 28, some 29, some 30, some 31, some 32] [[], [0], [1], [2], [2, 3], [2, 4], [2, 5], [6], [7], [7, 8], [7, 9], [7, 10], [7], [7, 11, 12], [7, 13], [7, 14]] [eqv (.int .i64 (0)), eqv (.bool false), eqv (.bool false), eqv (.slice (some ⟨go, 0, none⟩) 1 1), eqv (.int .i64 (1)), eqv (.bool false), eqv (.bool false), eqv (.bool false), eqv (.slice (some ⟨go, 0, none⟩) 1 1), eqv (.pointer (some ⟨go, 0, none⟩)), eqv (.pointer (some ⟨go, 6, none⟩)), eqv (.agg #[.bool su, .slice Au lu cu, .slice Bu mu ku]), fun v W => QZ W v ((-20 : Int) : Rat), eqv (.bool true), eqv (.bool false), eqv (.bool false)] (by kernel_rfl) (by kernel_rfl) rfl (by decide) hsize ⟨monC, monC, monC, monC, monC, monC, monC, monC, monC, monC, monC, monC, by intro v W W' h hX; exact QZ.ext h hX, monC, monC, monC, trivial⟩ ?_ ?_
 ·
  clear hend
  simp only [rops, Try.f39, regOf, Option.bind_some, Nat.reduceBEq, if_true, if_false, Bool.false_eq_true, Option.getD_some]
  simp only [List.take_succ_cons, List.take_zero]
  refine ⟨?_, ?_, ?_, ?_, ?_, ?_, ?_, ?_, ?_, ?_, ?_, ?_, ?_, ?_, ?_, ?_, trivial⟩
  ·
   rintro us W hJ _ b hb hbz K hK0 hK Qz
   have e3 := (hbz 3 (by simp)).trans s3
   clear hb hbz
   go_simp
   exact hK0 _ rfl
  ·
   rintro us W hJ d0 b hb hbz K hK0 hK Qz
   have e17 := slotV (hb 0 17 rfl) d0
   clear hb hbz d0
   go_simp
   exact hK0 _ rfl
  ·
   rintro us W hJ d1 b hb hbz K hK0 hK Qz
   have e18 := slotV (hb 1 18 rfl) d1
   clear hb hbz d1
   go_simp
   exact hK0 _ rfl
  ·
   rintro us W hJ d2 b hb hbz K hK0 hK Qz
   have e2 := (hbz 2 (by simp)).trans s2
   have e19 := slotV (hb 2 19 rfl) d2
   clear hb hbz d2
   go_simp
   exact hK0 _ rfl
  ·
   rintro us W hJ ⟨d2, d3⟩ b hb hbz K hK0 hK Qz
   have e19 := slotV (hb 2 19 rfl) d2
   have e20 := slotV (hb 3 20 rfl) d3
   clear hb hbz d2 d3
   go_simp
   exact hK0 _ rfl
  ·
   rintro us W hJ ⟨d2, d4⟩ b hb hbz K hK0 hK Qz
   have e19 := slotV (hb 2 19 rfl) d2
   have e21 := slotV (hb 4 21 rfl) d4
   clear hb hbz d2 d4
   go_simp
   exact hK0 _ rfl
  ·
   rintro us W hJ ⟨d2, d5⟩ b hb hbz K hK0 hK Qz
   have e19 := slotV (hb 2 19 rfl) d2
   have e22 := slotV (hb 5 22 rfl) d5
   clear hb hbz d2 d5
   go_simp
   exact hK0 _ rfl
  ·
   rintro us W hJ d6 b hb hbz K hK0 hK Qz
   have e23 := slotV (hb 6 23 rfl) d6
   clear hb hbz d6
   go_simp
   exact hK0 _ rfl
  ·
   rintro us W hJ d7 b hb hbz K hK0 hK Qz
   have e2 := (hbz 2 (by simp)).trans s2
   have e24 := slotV (hb 7 24 rfl) d7
   clear hb hbz d7
   go_simp
   exact hK0 _ rfl
  ·
   rintro us W hJ ⟨d7, d8⟩ b hb hbz K hK0 hK Qz
   have e24 := slotV (hb 7 24 rfl) d7
   have e25 := slotV (hb 8 25 rfl) d8
   clear hb hbz d7 d8
   go_simp
   exact hK0 _ rfl
  ·
   rintro us W hJ ⟨d7, d9⟩ b hb hbz K hK0 hK Qz
   have e24 := slotV (hb 7 24 rfl) d7
   have e26 := slotV (hb 9 26 rfl) d9
   clear hb hbz d7 d9
   go_simp
   exact hK0 _ rfl
  ·
   rintro us W hJ ⟨d7, d10⟩ b hb hbz K hK0 hK Qz
   have e24 := slotV (hb 7 24 rfl) d7
   have e27 := slotV (hb 10 27 rfl) d10
   clear hb hbz d7 d10
   have z0 := Ext.cell hJ x0
   have z1 := Ext.cell hJ x1
   have z2 := Ext.cell hJ x2
   go_simp
   exact hK0 _ rfl
  ·
   rintro us W hJ d7 b hb hbz K hK0 hK Qz
   have e24 := slotV (hb 7 24 rfl) d7
   clear hb hbz d7
   go_simp
   refine (whole_any (-20) _ (by omega) (by omega)).mono ?_
   rintro e w' ⟨v, rfl, hv, hX⟩
   exact hK _ _ hv hX
  ·
   rintro us W hJ ⟨d7, d11, d12⟩ b hb hbz K hK0 hK Qz
   have e24 := slotV (hb 7 24 rfl) d7
   have e28 := slotV (hb 11 28 rfl) d11
   have e29 := hb 12 29 rfl
   clear hb hbz d7 d11
   go_simp
   refine (same_any (hx.ext hJ) d12 (fitQ_small' (by omega) (by omega))).mono ?_
   rintro e w' ⟨rfl, hX⟩
   exact hK _ _ rfl hX
  ·
   rintro us W hJ ⟨d7, d13⟩ b hb hbz K hK0 hK Qz
   have e24 := slotV (hb 7 24 rfl) d7
   have e30 := slotV (hb 13 30 rfl) d13
   clear hb hbz d7 d13
   go_simp
   exact hK0 _ rfl
  ·
   rintro us W hJ ⟨d7, d14⟩ b hb hbz K hK0 hK Qz
   have e24 := slotV (hb 7 24 rfl) d7
   have e31 := slotV (hb 14 31 rfl) d14
   clear hb hbz d7 d14
   go_simp
   exact hK0 _ rfl
 ·
  rintro us W ⟨v0, v1, v2, v3, v4, v5, v6, v7, v8, v9, v10, v11, v12, v13, v14, v15, _⟩ hJ
  exact hend _ _ _ _ _ _ _ _ _ _ _ _ _ _ _ _ W v0 v1 v2 v3 v4 v5 v6 v7 v8 v9 v10 v11 v12 v13 v14 v15 hJ
set_option maxRecDepth 100000 in
set_option maxHeartbeats 2000000 in
theorem first_r6 (gx : Nat) (su : Bool) (Au Bu : Option Addr) (lu cu mu ku : Nat) (w : World) (x0 : w.cell? ⟨gx, 0, none⟩ = some (.bool su)) (x1 : w.cell? ⟨gx, 1, none⟩ = some (.slice Au lu cu)) (x2 : w.cell? ⟨gx, 2, none⟩ = some (.slice Bu mu ku)) (hx : RatC w (.agg #[.bool su, .slice Au lu cu, .slice Bu mu ku]) ((600 : Int) : Rat)) (a : Act) (Q : Exit → Act → World → Prop) (hsize : 46 ≤ a.tmps.size)
  (s4 : a.tmps[4]? = some (.pointer (some ⟨gx, 0, none⟩)))
  (s5 : a.tmps[5]? = some (.int .i64 (0)))
  (hend : ∀ (xv0 xv1 xv2 xv3 xv4 xv5 xv6 xv7 : Value) (W : World), (xv0 = .int .i64 (0)) → (xv1 = .bool true) → (xv2 = .bool true) → (xv3 = .agg #[.bool su, .slice Au lu cu, .slice Bu mu ku]) → (QZ W xv4 ((600 : Int) : Rat)) → (xv5 = .bool true) → (xv6 = .bool true) → (xv7 = .bool true) → Ext w W → wpList Try.prog (rops Try.f39 6).toArray Q ((rops Try.f39 6).drop 8) ((((((((a.put (some 39) xv0).put (some 40) xv1).put (some 41) xv2).put (some 42) xv3).put (some 43) xv4).put (some 44) xv5).put (some 45) xv6).put (some 0) xv7) W) :
  (Code.region 6 (rops Try.f39 6).toArray true).wp Try.prog Q a w := by
 refine wp_region_k 8 [some 39, some 40, some 41, some 42, some 43, some 44, some 45, some 0] [[], [0], [1], [2], [2], [2, 3, 4], [2, 5], [6]] [eqv (.int .i64 (0)), eqv (.bool true), eqv (.bool true), eqv (.agg #[.bool su, .slice Au lu cu, .slice Bu mu ku]), fun v W => QZ W v ((600 : Int) : Rat), eqv (.bool true), eqv (.bool true), eqv (.bool true)] (by kernel_rfl) (by kernel_rfl) rfl (by decide) hsize ⟨monC, monC, monC, monC, by intro v W W' h hX; exact QZ.ext h hX, monC, monC, monC, trivial⟩ ?_ ?_
 ·
  clear hend
  simp only [rops, Try.f39, regOf, Option.bind_some, Nat.reduceBEq, if_true, if_false, Bool.false_eq_true, Option.getD_some]
  simp only [List.take_succ_cons, List.take_zero]
  refine ⟨?_, ?_, ?_, ?_, ?_, ?_, ?_, ?_, trivial⟩
  ·
   rintro us W hJ _ b hb hbz K hK0 hK Qz
   have e5 := (hbz 5 (by simp)).trans s5
   clear hb hbz
   go_simp
   exact hK0 _ rfl
  ·
   rintro us W hJ d0 b hb hbz K hK0 hK Qz
   have e39 := slotV (hb 0 39 rfl) d0
   clear hb hbz d0
   go_simp
   exact hK0 _ rfl
  ·
   rintro us W hJ d1 b hb hbz K hK0 hK Qz
   have e40 := slotV (hb 1 40 rfl) d1
   clear hb hbz d1
   go_simp
   exact hK0 _ rfl
  ·
   rintro us W hJ d2 b hb hbz K hK0 hK Qz
   have e4 := (hbz 4 (by simp)).trans s4
   have e41 := slotV (hb 2 41 rfl) d2
   clear hb hbz d2
   have z0 := Ext.cell hJ x0
   have z1 := Ext.cell hJ x1
   have z2 := Ext.cell hJ x2
   go_simp
   exact hK0 _ rfl
  ·
   rintro us W hJ d2 b hb hbz K hK0 hK Qz
   have e41 := slotV (hb 2 41 rfl) d2
   clear hb hbz d2
   go_simp
   refine (whole_any 600 _ (by omega) (by omega)).mono ?_
   rintro e w' ⟨v, rfl, hv, hX⟩
   exact hK _ _ hv hX
  ·
   rintro us W hJ ⟨d2, d3, d4⟩ b hb hbz K hK0 hK Qz
   have e41 := slotV (hb 2 41 rfl) d2
   have e42 := slotV (hb 3 42 rfl) d3
   have e43 := hb 4 43 rfl
   clear hb hbz d2 d3
   go_simp
   refine (same_any (hx.ext hJ) d4 (fitQ_small' (by omega) (by omega))).mono ?_
   rintro e w' ⟨rfl, hX⟩
   exact hK _ _ rfl hX
  ·
   rintro us W hJ ⟨d2, d5⟩ b hb hbz K hK0 hK Qz
   have e41 := slotV (hb 2 41 rfl) d2
   have e44 := slotV (hb 5 44 rfl) d5
   clear hb hbz d2 d5
   go_simp
   exact hK0 _ rfl
  ·
   rintro us W hJ d6 b hb hbz K hK0 hK Qz
   have e45 := slotV (hb 6 45 rfl) d6
   clear hb hbz d6
   go_simp
   exact hK0 _ rfl
 ·
  rintro us W ⟨v0, v1, v2, v3, v4, v5, v6, v7, _⟩ hJ
  exact hend _ _ _ _ _ _ _ _ W v0 v1 v2 v3 v4 v5 v6 v7 hJ
set_option maxRecDepth 100000 in
set_option maxHeartbeats 4000000 in
theorem first_any (w : World) : Calls Try.prog 39 #[] w (fun e w' => e = .returned (.bool true) ∧ Ext w w') := by
 have hXe : Ext w ((w.alloc (.cells #[.int .i64 0, .int .i64 (-1), .int .i64 0, .int .i64 0, .int .i64 1, .int .i64 0, .int .i64 1, .int .i64 0, .int .i64 (-1), .int .i64 0, .int .i64 0, .int .i64 1, .int .i64 30, .int .i64 2] 90)).alloc (.cells #[.int .i64 1, .slice (some ⟨w.heap.size, 0, none⟩) 2 2] 76)) := ((Ext.refl w).alloc _).alloc _
 have kP : Blk ((w.alloc (.cells #[.int .i64 0, .int .i64 (-1), .int .i64 0, .int .i64 0, .int .i64 1, .int .i64 0, .int .i64 1, .int .i64 0, .int .i64 (-1), .int .i64 0, .int .i64 0, .int .i64 1, .int .i64 30, .int .i64 2] 90)).alloc (.cells #[.int .i64 1, .slice (some ⟨w.heap.size, 0, none⟩) 2 2] 76)) (w.heap.size + 1) 76 #[.int .i64 1, .slice (some ⟨w.heap.size, 0, none⟩) 2 2] := Blk.at_ (by simp)
 have hat : At (w.alloc (.cells #[.int .i64 0, .int .i64 (-1), .int .i64 0, .int .i64 0, .int .i64 1, .int .i64 0, .int .i64 1, .int .i64 0, .int .i64 (-1), .int .i64 0, .int .i64 0, .int .i64 1, .int .i64 30, .int .i64 2] 90)) (some ⟨w.heap.size, 0, none⟩) (mtV fstM) := At.new w [.int .i64 0, .int .i64 (-1), .int .i64 0, .int .i64 0, .int .i64 1, .int .i64 0, .int .i64 1, .int .i64 0, .int .i64 (-1), .int .i64 0, .int .i64 0, .int .i64 1, .int .i64 30, .int .i64 2] 90
 have HM : Hid (MsAt (w.alloc (.cells #[.int .i64 0, .int .i64 (-1), .int .i64 0, .int .i64 0, .int .i64 1, .int .i64 0, .int .i64 1, .int .i64 0, .int .i64 (-1), .int .i64 0, .int .i64 0, .int .i64 1, .int .i64 30, .int .i64 2] 90)) (some ⟨w.heap.size, 0, none⟩) 2 fstM) := hid ⟨rfl, hat⟩
 have HM2 := hid (HM.out.ext ((Ext.refl _).alloc (.cells #[.int .i64 1, .slice (some ⟨w.heap.size, 0, none⟩) 2 2] 76)))
 clear hat HM
 go_enter Try.func39, Try.ntmps39
 go_upto_region 2 with (fail)
 generalize ((w.alloc (.cells #[.int .i64 0, .int .i64 (-1), .int .i64 0, .int .i64 0, .int .i64 1, .int .i64 0, .int .i64 1, .int .i64 0, .int .i64 (-1), .int .i64 0, .int .i64 0, .int .i64 1, .int .i64 30, .int .i64 2] 90)).alloc (.cells #[.int .i64 1, .slice (some ⟨w.heap.size, 0, none⟩) 2 2] 76)) = w1 at hXe kP HM2 ⊢
 generalize w.heap.size + 1 = gp at kP ⊢
 generalize w.heap.size = gm at kP HM2 ⊢
 have HX := hid hXe
 have HP := hid kP
 have p0 := kP.cell 0
 have p1 := kP.cell 1
 simp only [List.getElem?_toArray, List.getElem?_cons_zero, List.getElem?_cons_succ] at p0 p1
 clear hXe kP
 go_wp2_with fail
 refine (solveP_ok 1 (some ⟨gm, 0, none⟩) 2 2 fstM _ HM2.out fst_vp).mono ?_
 rintro e w2 ⟨go, rfl, _, hS, hX⟩
 clear p0 p1
 replace HX := hid (HX.out.trans hX)
 replace HP := hid (HP.out.ext hX)
 replace HM2 := hid (HM2.out.ext hX)
 have HS := hid hS
 clear hS hX
 obtain ⟨su, Au, lu, cu, Bu, mu, ku, x0, x1, x2, hx⟩ := HS.out 0 2 (by omega) (by omega)
 simp only [Nat.reduceMul, Nat.reduceAdd] at x0 x1 x2
 rw [show (3 * 0 + 2 : Nat) = 2 from rfl, show (3 : Nat) = 3 * 1 from rfl, fst_sol] at hx
 have HC := hid hx
 have hX0 := hid x0
 have hX1 := hid x1
 have hX2 := hid x2
 clear hx x0 x1 x2
 go_upto_region 3 with (fail)
 refine first_r3 go su Au Bu lu cu mu ku w2 hX0.out hX1.out hX2.out HC.out _ _ (by simp) rfl rfl ?_
 rintro xv0 xv1 xv2 xv3 xv4 xv5 xv6 xv7 xv8 xv9 xv10 xv11 xv12 xv13 xv14 xv15 W rfl rfl rfl rfl rfl rfl rfl rfl rfl rfl rfl rfl _ rfl rfl rfl hX
 simp only [rops, Try.f39, regOf, Option.bind_some, Nat.reduceBEq, if_true, if_false, Bool.false_eq_true, Option.getD_some, List.drop_succ_cons, List.drop_zero]
 simp only [Act.put, List.setIfInBounds_toArray, List.set_cons_succ, List.set_cons_zero]
 clear hX0 hX1 hX2 HC
 replace HX := hid (HX.out.trans hX)
 replace HP := hid (HP.out.ext hX)
 replace HM2 := hid (HM2.out.ext hX)
 replace HS := hid (HS.out.ext growsC hX)
 clear hX
 have p0 := HP.out.cell 0
 have p1 := HP.out.cell 1
 simp only [List.getElem?_toArray, List.getElem?_cons_zero, List.getElem?_cons_succ] at p0 p1
 have HF : Hid (FitQW (misfit (3 * 1) fstM (solP (3 * 1) fstM))) := hid (by rw [fst_mis]; exact fitQ_small' (by omega) (by omega))
 have HFS : Hid (∀ j, FitQW (solP (3 * 1) fstM j)) := hid (fun j => FitQW.of4 (solP_fit fst_vp.2.2.2 fst_vp.2.2.1 (by omega) j) (by omega))
 go_wp2_with fail
 refine (misfit_ok 1 (some ⟨gm, 0, none⟩) 2 2 fstM go 0 1 (solP (3 * 1) fstM) _ HM2.out fst_vp (HS.out.imp2 (fun j v _ h => h.good (HFS.out j))) HF.out).mono ?_
 rintro e w3 ⟨v3, rfl, hv, hX⟩
 rw [fst_mis] at hv
 obtain ⟨s4, A4, l4, c4, B4, m4, k4, rfl⟩ := RatC.open hv
 replace HX := hid (HX.out.trans hX)
 have HC := hid hv
 clear hv hX p0 p1
 go_upto_region 6 with (fail)
 have hXa : Ext w3 (w3.alloc (.cells #[.bool s4, .slice A4 l4 c4, .slice B4 m4 k4] 97)) := (Ext.refl _).alloc _
 have kB := Blk.new w3 97 #[.bool s4, .slice A4 l4 c4, .slice B4 m4 k4]
 replace HX := hid (HX.out.trans hXa)
 replace HC := hid (HC.out.ext hXa)
 clear hXa
 generalize w3.heap.size = gx at kB ⊢
 generalize w3.alloc (.cells #[.bool s4, .slice A4 l4 c4, .slice B4 m4 k4] 97) = w4 at kB HX HC ⊢
 refine first_r6 gx s4 A4 B4 l4 c4 m4 k4 w4 (kB.cell 0) (kB.cell 1) (kB.cell 2) HC.out _ _ (by simp) rfl rfl ?_
 rintro xv0 xv1 xv2 xv3 xv4 xv5 xv6 xv7 W rfl rfl rfl rfl _ rfl rfl rfl hX
 simp only [rops, Try.f39, regOf, Option.bind_some, Nat.reduceBEq, if_true, if_false, Bool.false_eq_true, Option.getD_some, List.drop_succ_cons, List.drop_zero]
 simp only [Act.put, List.setIfInBounds_toArray, List.set_cons_succ, List.set_cons_zero]
 have HX9 := hid (HX.out.trans hX)
 clear kB HC hX
 go_wp2
 go_ret
 exact ⟨rfl, HX9.out⟩
end Go.Proofs.Ytikhlcgnlbinfaa
