/- Lemmas of the proof that follows (Equations, part 14): walks of functions by contract, and plain lemmas. Conditions: none. -/
import Derived.Test.YtikhlcgnlbinfaaEquationsM
namespace Go.Proofs.Ytikhlcgnlbinfaa
open Lib (hid)
open Go.RowKit
set_option maxRecDepth 100000 in
set_option maxHeartbeats 2000000 in
theorem eqns_r14 (g1 g2 a1 a2 b1 b2 c1 c2 d1 d2 nn kk : Nat) (pv : Bool) (xs : List Int) (w : World) (h1 : w.cell? ⟨g1, kk, none⟩ = some (.slice (some ⟨a1, 0, none⟩) nn c1)) (h2 : w.cell? ⟨g2, kk, none⟩ = some (.slice (some ⟨a2, 0, none⟩) nn c2)) (h3 : w.cell? ⟨b1, kk, none⟩ = some (.bool pv)) (h4 : w.cell? ⟨b2, kk, none⟩ = some (.bool pv)) (k1 : Ints .i64 w (some ⟨a1, 0, none⟩) nn xs) (k2 : Ints .i64 w (some ⟨a2, 0, none⟩) nn xs) (_hn : nn ≤ 1000) (_hkn : kk < nn) (a : Act) (Q : Exit → Act → World → Prop) (hsize : 123 ≤ a.tmps.size)
  (s3 : a.tmps[3]? = some (.slice (some ⟨g1, 0, none⟩) nn nn))
  (s6 : a.tmps[6]? = some (.slice (some ⟨b1, 0, none⟩) nn d1))
  (s8 : a.tmps[8]? = some (.slice (some ⟨g2, 0, none⟩) nn nn))
  (s10 : a.tmps[10]? = some (.slice (some ⟨b2, 0, none⟩) nn d2))
  (s11 : a.tmps[11]? = some (.int .i64 (kk : Int)))
  (hend : ∀ (xv0 xv1 xv2 xv3 xv4 xv5 xv6 xv7 xv8 xv9 xv10 xv11 xv12 xv13 xv14 xv15 xv16 xv17 xv18 xv19 xv20 : Value) (W : World), (xv0 = .slice (some ⟨g1, 0, none⟩) nn nn) → (xv1 = .int .i64 (kk : Int)) → (xv2 = .pointer (some ⟨g1, kk, none⟩)) → (xv3 = .slice (some ⟨a1, 0, none⟩) nn c1) → (xv4 = .slice (some ⟨g2, 0, none⟩) nn nn) → (xv5 = .int .i64 (kk : Int)) → (xv6 = .pointer (some ⟨g2, kk, none⟩)) → (xv7 = .slice (some ⟨a2, 0, none⟩) nn c2) → (xv8 = .bool true) → (xv9 = .bool false) → (xv10 = .bool false) → (xv11 = .slice (some ⟨b1, 0, none⟩) nn d1) → (xv12 = .int .i64 (kk : Int)) → (xv13 = .pointer (some ⟨b1, kk, none⟩)) → (xv14 = .bool pv) → (xv15 = .slice (some ⟨b2, 0, none⟩) nn d2) → (xv16 = .int .i64 (kk : Int)) → (xv17 = .pointer (some ⟨b2, kk, none⟩)) → (xv18 = .bool pv) → (xv19 = .bool false) → (xv20 = .bool false) → Ext w W → wpList Try.prog (rops Try.f4 14).toArray Q ((rops Try.f4 14).drop 21) (((((((((((((((((((((a.put (some 102) xv0).put (some 103) xv1).put (some 104) xv2).put (some 105) xv3).put (some 106) xv4).put (some 107) xv5).put (some 108) xv6).put (some 109) xv7).put (some 110) xv8).put (some 111) xv9).put (some 112) xv10).put (some 113) xv11).put (some 114) xv12).put (some 115) xv13).put (some 116) xv14).put (some 117) xv15).put (some 118) xv16).put (some 119) xv17).put (some 120) xv18).put (some 121) xv19).put (some 122) xv20) W) :
  (Code.region 14 (rops Try.f4 14).toArray true).wp Try.prog Q a w := by
 refine wp_region_k 21 [some 102, some 103, some 104, some 105, some 106, some 107, some 108, some 109, some 110, some 111, some 112, some 113, some 114, some 115, some 116, some 117, some 118, some 119, some 120, some 121, some 122] [[], [], [0, 1], [2], [], [], [4, 5], [6], [3, 7], [8], [9], [10], [10], [10, 11, 12], [10, 13], [10], [10], [10, 15, 16], [10, 17], [10, 14, 18], [10, 19]] [eqv (.slice (some ⟨g1, 0, none⟩) nn nn), eqv (.int .i64 (kk : Int)), eqv (.pointer (some ⟨g1, kk, none⟩)), eqv (.slice (some ⟨a1, 0, none⟩) nn c1), eqv (.slice (some ⟨g2, 0, none⟩) nn nn), eqv (.int .i64 (kk : Int)), eqv (.pointer (some ⟨g2, kk, none⟩)), eqv (.slice (some ⟨a2, 0, none⟩) nn c2), eqv (.bool true), eqv (.bool false), eqv (.bool false), eqv (.slice (some ⟨b1, 0, none⟩) nn d1), eqv (.int .i64 (kk : Int)), eqv (.pointer (some ⟨b1, kk, none⟩)), eqv (.bool pv), eqv (.slice (some ⟨b2, 0, none⟩) nn d2), eqv (.int .i64 (kk : Int)), eqv (.pointer (some ⟨b2, kk, none⟩)), eqv (.bool pv), eqv (.bool false), eqv (.bool false)] (by kernel_rfl) (by kernel_rfl) rfl (by decide) hsize ⟨monC, monC, monC, monC, monC, monC, monC, monC, monC, monC, monC, monC, monC, monC, monC, monC, monC, monC, monC, monC, monC, trivial⟩ ?_ ?_
 ·
  clear hend
  simp only [rops, Try.f4, regOf, Option.bind_some, Nat.reduceBEq, if_true, if_false, Bool.false_eq_true, Option.getD_some]
  simp only [List.take_succ_cons, List.take_zero]
  refine ⟨?_, ?_, ?_, ?_, ?_, ?_, ?_, ?_, ?_, ?_, ?_, ?_, ?_, ?_, ?_, ?_, ?_, ?_, ?_, ?_, ?_, trivial⟩
  ·
   rintro us W hJ _ b hb hbz K hK0 hK Qz
   have e3 := (hbz 3 (by simp)).trans s3
   clear hb hbz
   go_simp
   exact hK0 _ rfl
  ·
   rintro us W hJ _ b hb hbz K hK0 hK Qz
   have e11 := (hbz 11 (by simp)).trans s11
   clear hb hbz
   go_simp
   exact hK0 _ rfl
  ·
   rintro us W hJ ⟨d0, d1⟩ b hb hbz K hK0 hK Qz
   have e102 := slotV (hb 0 102 rfl) d0
   have e103 := slotV (hb 1 103 rfl) d1
   clear hb hbz d0 d1
   go_simp
   exact hK0 _ rfl
  ·
   rintro us W hJ d2 b hb hbz K hK0 hK Qz
   have e104 := slotV (hb 2 104 rfl) d2
   clear hb hbz d2
   have q := Ext.cell hJ h1
   go_simp
   exact hK0 _ rfl
  ·
   rintro us W hJ _ b hb hbz K hK0 hK Qz
   have e8 := (hbz 8 (by simp)).trans s8
   clear hb hbz
   go_simp
   exact hK0 _ rfl
  ·
   rintro us W hJ _ b hb hbz K hK0 hK Qz
   have e11 := (hbz 11 (by simp)).trans s11
   clear hb hbz
   go_simp
   exact hK0 _ rfl
  ·
   rintro us W hJ ⟨d4, d5⟩ b hb hbz K hK0 hK Qz
   have e106 := slotV (hb 4 106 rfl) d4
   have e107 := slotV (hb 5 107 rfl) d5
   clear hb hbz d4 d5
   go_simp
   exact hK0 _ rfl
  ·
   rintro us W hJ d6 b hb hbz K hK0 hK Qz
   have e108 := slotV (hb 6 108 rfl) d6
   clear hb hbz d6
   have q := Ext.cell hJ h2
   go_simp
   exact hK0 _ rfl
  ·
   rintro us W hJ ⟨d3, d7⟩ b hb hbz K hK0 hK Qz
   have e105 := slotV (hb 3 105 rfl) d3
   have e109 := slotV (hb 7 109 rfl) d7
   clear hb hbz d3 d7
   go_simp
   refine (samI5_eq _ _ nn c1 c2 xs W (k1.ext hJ) (k2.ext hJ) (by omega)).mono ?_
   rintro e w' ⟨rfl, hX⟩
   exact hK _ _ rfl hX
  ·
   rintro us W hJ d8 b hb hbz K hK0 hK Qz
   have e110 := slotV (hb 8 110 rfl) d8
   clear hb hbz d8
   go_simp
   exact hK0 _ rfl
  ·
   rintro us W hJ d9 b hb hbz K hK0 hK Qz
   have e111 := slotV (hb 9 111 rfl) d9
   clear hb hbz d9
   go_simp
   exact hK0 _ rfl
  ·
   rintro us W hJ d10 b hb hbz K hK0 hK Qz
   have e6 := (hbz 6 (by simp)).trans s6
   have e112 := slotV (hb 10 112 rfl) d10
   clear hb hbz d10
   go_simp
   exact hK0 _ rfl
  ·
   rintro us W hJ d10 b hb hbz K hK0 hK Qz
   have e11 := (hbz 11 (by simp)).trans s11
   have e112 := slotV (hb 10 112 rfl) d10
   clear hb hbz d10
   go_simp
   exact hK0 _ rfl
  ·
   rintro us W hJ ⟨d10, d11, d12⟩ b hb hbz K hK0 hK Qz
   have e112 := slotV (hb 10 112 rfl) d10
   have e113 := slotV (hb 11 113 rfl) d11
   have e114 := slotV (hb 12 114 rfl) d12
   clear hb hbz d10 d11 d12
   go_simp
   exact hK0 _ rfl
  ·
   rintro us W hJ ⟨d10, d13⟩ b hb hbz K hK0 hK Qz
   have e112 := slotV (hb 10 112 rfl) d10
   have e115 := slotV (hb 13 115 rfl) d13
   clear hb hbz d10 d13
   have q := Ext.cell hJ h3
   go_simp
   exact hK0 _ rfl
  ·
   rintro us W hJ d10 b hb hbz K hK0 hK Qz
   have e10 := (hbz 10 (by simp)).trans s10
   have e112 := slotV (hb 10 112 rfl) d10
   clear hb hbz d10
   go_simp
   exact hK0 _ rfl
  ·
   rintro us W hJ d10 b hb hbz K hK0 hK Qz
   have e11 := (hbz 11 (by simp)).trans s11
   have e112 := slotV (hb 10 112 rfl) d10
   clear hb hbz d10
   go_simp
   exact hK0 _ rfl
  ·
   rintro us W hJ ⟨d10, d15, d16⟩ b hb hbz K hK0 hK Qz
   have e112 := slotV (hb 10 112 rfl) d10
   have e117 := slotV (hb 15 117 rfl) d15
   have e118 := slotV (hb 16 118 rfl) d16
   clear hb hbz d10 d15 d16
   go_simp
   exact hK0 _ rfl
  ·
   rintro us W hJ ⟨d10, d17⟩ b hb hbz K hK0 hK Qz
   have e112 := slotV (hb 10 112 rfl) d10
   have e119 := slotV (hb 17 119 rfl) d17
   clear hb hbz d10 d17
   have q := Ext.cell hJ h4
   go_simp
   exact hK0 _ rfl
  ·
   rintro us W hJ ⟨d10, d14, d18⟩ b hb hbz K hK0 hK Qz
   have e112 := slotV (hb 10 112 rfl) d10
   have e116 := slotV (hb 14 116 rfl) d14
   have e120 := slotV (hb 18 120 rfl) d18
   clear hb hbz d10 d14 d18
   go_simp
   exact hK0 _ rfl
  ·
   rintro us W hJ ⟨d10, d19⟩ b hb hbz K hK0 hK Qz
   have e112 := slotV (hb 10 112 rfl) d10
   have e121 := slotV (hb 19 121 rfl) d19
   clear hb hbz d10 d19
   go_simp
   exact hK0 _ rfl
 ·
  rintro us W ⟨v0, v1, v2, v3, v4, v5, v6, v7, v8, v9, v10, v11, v12, v13, v14, v15, v16, v17, v18, v19, v20, _⟩ hJ
  exact hend _ _ _ _ _ _ _ _ _ _ _ _ _ _ _ _ _ _ _ _ _ W v0 v1 v2 v3 v4 v5 v6 v7 v8 v9 v10 v11 v12 v13 v14 v15 v16 v17 v18 v19 v20 hJ
set_option maxRecDepth 100000 in
set_option maxHeartbeats 8000000 in
theorem eqns_heavy (S : Int) (A : Option Addr) (n c : Nat) (ms : List Mt) (w : World) (h : MsAt w A n ms) (hhv : hvB S ms = true) :
  Calls Try.prog 4 #[.agg #[.int .i64 S, .slice A n c]] w (fun e w' => e = .returned (.bool true) ∧ Ext w w') := by
 have H := hid h
 have HX := hid ((Ext.refl w).alloc (.cells #[.int .i64 S, .slice A n c] 76))
 have HP := hid (Blk.new w 76 #[.int .i64 S, .slice A n c])
 clear h
 go_enter Try.func4, Try.ntmps4
 go_upto_region 1 with (fail)
 generalize w.alloc (.cells #[.int .i64 S, .slice A n c] 76) = w1 at HX HP ⊢
 have p0 := HP.out.cell 0
 have p1 := HP.out.cell 1
 simp only [List.getElem?_toArray, List.getElem?_cons_zero, List.getElem?_cons_succ] at p0 p1
 have hh := heavy_any5 S A n c ms _ (H.out.ext HX.out)
 rw [hhv] at hh
 go_wp2_with fail
 refine hh.mono ?_
 rintro e w2 ⟨rfl, hX⟩
 clear hh
 replace HP := hid (HP.out.ext hX)
 replace HX := hid (HX.out.trans hX)
 clear hX p0 p1
 go_wp2_with fail
 refine (first_any _).mono ?_
 rintro e w19 ⟨rfl, hX⟩
 replace HX := hid (HX.out.trans hX)
 clear hX
 go_wp2
 go_ret
 exact ⟨rfl, HX.out⟩
set_option maxRecDepth 100000 in
set_option maxHeartbeats 8000000 in
theorem eqns_inv (S : Int) (A : Option Addr) (n c : Nat) (ms : List Mt) (w : World) (h : MsAt w A n ms) (hhv : hvB S ms = false) (hV : ¬ VP S ms) :
  Calls Try.prog 4 #[.agg #[.int .i64 S, .slice A n c]] w (fun e w' => e = .returned (.bool true) ∧ Ext w w') := by
 have H := hid h
 have HX := hid ((Ext.refl w).alloc (.cells #[.int .i64 S, .slice A n c] 76))
 have HP := hid (Blk.new w 76 #[.int .i64 S, .slice A n c])
 clear h
 go_enter Try.func4, Try.ntmps4
 go_upto_region 1 with (fail)
 generalize w.alloc (.cells #[.int .i64 S, .slice A n c] 76) = w1 at HX HP ⊢
 have p0 := HP.out.cell 0
 have p1 := HP.out.cell 1
 simp only [List.getElem?_toArray, List.getElem?_cons_zero, List.getElem?_cons_succ] at p0 p1
 have hh := heavy_any5 S A n c ms _ (H.out.ext HX.out)
 rw [hhv] at hh
 go_wp2_with fail
 refine hh.mono ?_
 rintro e w2 ⟨rfl, hX⟩
 clear hh
 replace HP := hid (HP.out.ext hX)
 replace HX := hid (HX.out.trans hX)
 clear hX p0 p1
 have p0 := HP.out.cell 0
 have p1 := HP.out.cell 1
 simp only [List.getElem?_toArray, List.getElem?_cons_zero, List.getElem?_cons_succ] at p0 p1
 go_wp2_with fail
 refine (equations_no S A n c ms _ (H.out.ext HX.out) hV).mono ?_
 rintro e w3 ⟨rfl, hX⟩
 replace HP := hid (HP.out.ext hX)
 replace HX := hid (HX.out.trans hX)
 clear hX p0 p1
 have p0 := HP.out.cell 0
 have p1 := HP.out.cell 1
 simp only [List.getElem?_toArray, List.getElem?_cons_zero, List.getElem?_cons_succ] at p0 p1
 go_wp2_with fail
 refine (pivots_no S A n c ms _ (H.out.ext HX.out) hV).mono ?_
 rintro e w3 ⟨rfl, hX⟩
 replace HP := hid (HP.out.ext hX)
 replace HX := hid (HX.out.trans hX)
 clear hX p0 p1
 have p0 := HP.out.cell 0
 have p1 := HP.out.cell 1
 simp only [List.getElem?_toArray, List.getElem?_cons_zero, List.getElem?_cons_succ] at p0 p1
 have hv := valid5R_any S A n c ms _ (H.out.ext HX.out)
 rw [vpB_no hV] at hv
 go_wp2_with fail
 refine hv.mono ?_
 rintro e w3 ⟨rfl, hX⟩
 clear hv
 replace HP := hid (HP.out.ext hX)
 replace HX := hid (HX.out.trans hX)
 clear hX p0 p1
 have p0 := HP.out.cell 0
 have p1 := HP.out.cell 1
 simp only [List.getElem?_toArray, List.getElem?_cons_zero, List.getElem?_cons_succ] at p0 p1
 have hv := valid5_any S A n c ms _ (H.out.ext HX.out)
 rw [vpB_no hV] at hv
 go_wp2_with fail
 refine hv.mono ?_
 rintro e w3 ⟨rfl, hX⟩
 clear hv
 replace HP := hid (HP.out.ext hX)
 replace HX := hid (HX.out.trans hX)
 clear hX p0 p1
 go_wp2_with fail
 refine (first_any _).mono ?_
 rintro e w19 ⟨rfl, hX⟩
 replace HX := hid (HX.out.trans hX)
 clear hX
 go_wp2
 go_ret
 exact ⟨rfl, HX.out⟩

theorem boolR_at {base g n c : Nat} {w : World} {f : Nat → Bool} (h : BoolR base w (.slice (some ⟨g, 0, none⟩) n c) n f) {j : Nat} (hj : j < n) : w.cell? ⟨g, j, none⟩ = some (.bool (f j)) :=
 own_cell h (by rw [List.getElem?_map, List.getElem?_range hj]; rfl)
set_option maxRecDepth 100000 in
set_option maxHeartbeats 8000000 in
theorem eqns_ok (S : Nat) (A : Option Addr) (n c : Nat) (ms : List Mt) (w : World) (h : MsAt w A n ms) (hhv : hvB (S : Int) ms = false) (hV : VP (S : Int) ms) :
  Calls Try.prog 4 #[.agg #[.int .i64 (S : Int), .slice A n c]] w (fun e w' => e = .returned (.bool true) ∧ Ext w w') := by
 have H := hid h
 have HX := hid ((Ext.refl w).alloc (.cells #[.int .i64 (S : Int), .slice A n c] 76))
 have HP := hid (Blk.new w 76 #[.int .i64 (S : Int), .slice A n c])
 clear h
 go_enter Try.func4, Try.ntmps4
 go_upto_region 1 with (fail)
 generalize w.alloc (.cells #[.int .i64 (S : Int), .slice A n c] 76) = w1 at HX HP ⊢
 have p0 := HP.out.cell 0
 have p1 := HP.out.cell 1
 simp only [List.getElem?_toArray, List.getElem?_cons_zero, List.getElem?_cons_succ] at p0 p1
 have hh := heavy_any5 (S : Int) A n c ms _ (H.out.ext HX.out)
 rw [hhv] at hh
 go_wp2_with fail
 refine hh.mono ?_
 rintro e w2 ⟨rfl, hX⟩
 clear hh
 replace HP := hid (HP.out.ext hX)
 replace HX := hid (HX.out.trans hX)
 clear hX p0 p1
 have HV := hid hV
 obtain ⟨nn, hN⟩ : ∃ nn, nn = 3 * S := ⟨_, rfl⟩
 have hS8 : S ≤ 8 := by have := hV.2.1; omega
 have hS1 : 1 ≤ S := by have := hV.1; omega
 have hnn : nn ≤ 24 := by omega
 have hn0 : 0 < nn := by omega
 have HNN := hid hN
 have HNB : Hid (∀ i j, -9223372036854775808 ≤ eqN ms i j ∧ eqN ms i j ≤ 9223372036854775807) := hid (fun i j => by
  have h1 := eqN_bound hV.2.2.2 i j
  have := hV.2.2.1
  omega)
 have HRB : Hid (∀ i, -9223372036854775808 ≤ eqR ms i ∧ eqR ms i ≤ 9223372036854775807) := hid (fun i => by
  have h1 := eqR_bound hV.2.2.2 i
  have := hV.2.2.1
  omega)
 clear hV hN
 have p0 := HP.out.cell 0
 have p1 := HP.out.cell 1
 simp only [List.getElem?_toArray, List.getElem?_cons_zero, List.getElem?_cons_succ] at p0 p1
 go_wp2_with fail
 refine (equations_ok S nn A n c ms _ (H.out.ext HX.out) HV.out HNN.out).mono ?_
 rintro e w3 ⟨g1, r1, vs1, rfl, hT1, hR1, hgr, hful, hX⟩
 have HT1 := hid (hT1)
 have HR1 := hid hR1
 clear hT1 hR1 hgr hful
 replace HP := hid (HP.out.ext hX)
 replace HX := hid (HX.out.trans hX)
 clear hX p0 p1
 have p0 := HP.out.cell 0
 have p1 := HP.out.cell 1
 simp only [List.getElem?_toArray, List.getElem?_cons_zero, List.getElem?_cons_succ] at p0 p1
 go_wp2_with fail
 refine (pivots_v S nn A n c ms _ (H.out.ext HX.out) HV.out HNN.out).mono ?_
 rintro e w3 ⟨v, rfl, hB, hX⟩
 obtain ⟨A1, d1, rfl⟩ := own_slice hB
 obtain ⟨b1, rfl, hb11, hb12⟩ := rowAt hB hn0
 have HB1 := hid hB
 clear hB hb11 hb12
 replace HT1 := hid (HT1.out.ext kindUno hX)
 replace HR1 := hid (HR1.out.ext hX)
 replace HP := hid (HP.out.ext hX)
 replace HX := hid (HX.out.trans hX)
 clear hX p0 p1
 have p0 := HP.out.cell 0
 have p1 := HP.out.cell 1
 simp only [List.getElem?_toArray, List.getElem?_cons_zero, List.getElem?_cons_succ] at p0 p1
 have hv := valid5R_any (S : Int) A n c ms _ (H.out.ext HX.out)
 rw [vpB_iff.2 HV.out] at hv
 go_wp2_with fail
 refine hv.mono ?_
 rintro e w3 ⟨rfl, hX⟩
 clear hv
 replace HT1 := hid (HT1.out.ext kindUno hX)
 replace HR1 := hid (HR1.out.ext hX)
 replace HB1 := hid (HB1.out.ext hX)
 replace HP := hid (HP.out.ext hX)
 replace HX := hid (HX.out.trans hX)
 clear hX p0 p1
 have p0 := HP.out.cell 0
 have p1 := HP.out.cell 1
 simp only [List.getElem?_toArray, List.getElem?_cons_zero, List.getElem?_cons_succ] at p0 p1
 go_wp2_with fail
 refine (equationsR S nn A n c ms _ (H.out.ext HX.out) HV.out HNN.out).mono ?_
 rintro e w3 ⟨g2, r2, vs2, rfl, hT2, hR2, hgr, hful, hX⟩
 have HT2 := hid (hT2)
 have HR2 := hid hR2
 clear hT2 hR2 hgr hful
 replace HT1 := hid (HT1.out.ext kindUno hX)
 replace HR1 := hid (HR1.out.ext hX)
 replace HB1 := hid (HB1.out.ext hX)
 replace HP := hid (HP.out.ext hX)
 replace HX := hid (HX.out.trans hX)
 clear hX p0 p1
 have p0 := HP.out.cell 0
 have p1 := HP.out.cell 1
 simp only [List.getElem?_toArray, List.getElem?_cons_zero, List.getElem?_cons_succ] at p0 p1
 go_wp2_with fail
 refine (pivotsR S nn A n c ms _ (H.out.ext HX.out) HV.out HNN.out).mono ?_
 rintro e w3 ⟨b2, rfl, hB, hX⟩
 have HB2 := hid hB
 clear hB
 replace HT1 := hid (HT1.out.ext kindUno hX)
 replace HR1 := hid (HR1.out.ext hX)
 replace HB1 := hid (HB1.out.ext hX)
 replace HT2 := hid (HT2.out.ext kindUno hX)
 replace HR2 := hid (HR2.out.ext hX)
 replace HP := hid (HP.out.ext hX)
 replace HX := hid (HX.out.trans hX)
 clear hX p0 p1
 have p0 := HP.out.cell 0
 have p1 := HP.out.cell 1
 simp only [List.getElem?_toArray, List.getElem?_cons_zero, List.getElem?_cons_succ] at p0 p1
 have hv := valid5_any (S : Int) A n c ms _ (H.out.ext HX.out)
 rw [vpB_iff.2 HV.out] at hv
 go_wp2_with fail
 refine hv.mono ?_
 rintro e w3 ⟨rfl, hX⟩
 clear hv p0 p1
 replace HT1 := hid (HT1.out.ext kindUno hX)
 replace HR1 := hid (HR1.out.ext hX)
 replace HB1 := hid (HB1.out.ext hX)
 replace HT2 := hid (HT2.out.ext kindUno hX)
 replace HR2 := hid (HR2.out.ext hX)
 replace HB2 := hid (HB2.out.ext hX)
 replace HP := hid (HP.out.ext hX)
 replace HX := hid (HX.out.trans hX)
 clear hX
 have hnn2 : ((nn : Int) != (nn : Int)) = false := by simp
 have p0 := HP.out.cell 0
 have p1 := HP.out.cell 1
 simp only [List.getElem?_toArray, List.getElem?_cons_zero, List.getElem?_cons_succ] at p0 p1
 go_wp2_with fail
 refine (samI5_eq _ _ nn _ _ _ _ (HR1.out.ints (fun j _ => HRB.out j)) (HR2.out.ints (fun j _ => HRB.out j)) (by omega)).mono ?_
 rintro e w3 ⟨rfl, hX⟩
 clear p0 p1
 replace HT1 := hid (HT1.out.ext kindUno hX)
 replace HR1 := hid (HR1.out.ext hX)
 replace HB1 := hid (HB1.out.ext hX)
 replace HT2 := hid (HT2.out.ext kindUno hX)
 replace HR2 := hid (HR2.out.ext hX)
 replace HB2 := hid (HB2.out.ext hX)
 replace HP := hid (HP.out.ext hX)
 replace HX := hid (HX.out.trans hX)
 clear hX
 clear HR1 HR2
 go_wp2_with fail
 go_loopg [11] nn (fun f iv wr => ∃ k : Nat, f = nn - k ∧ k ≤ nn ∧ iv = .int .i64 (k : Int) ∧ Hid (Ext w3 wr))
 case atStart => exact ⟨0, by omega, by omega, rfl, hid (Ext.refl _)⟩
 case round =>
  obtain ⟨k, rfl, hk, rfl, HXL⟩ := hrel
  by_cases hkn : k < nn
  ·
   have q1 : decide ((k : Int) < (nn : Int)) = true := decide_eq_true (by omega)
   have q2 : decide (k < nn) = true := decide_eq_true hkn
   obtain ⟨a1, c1, x1, hr1⟩ := (HT1.out.ext kindUno HXL.out).rowI hn0 hkn
   obtain ⟨a2, c2, x2, hr2⟩ := (HT2.out.ext kindUno HXL.out).rowI hn0 hkn
   have y1 := boolR_at (HB1.out.ext HXL.out) hkn
   have y2 := boolR_at (HB2.out.ext HXL.out) hkn
   have i1 := hr1.ints (fun j _ => HNB.out k j)
   have i2 := hr2.ints (fun j _ => HNB.out k j)
   go_upto_region 14 with (fail)
   refine eqns_r14 g1 g2 a1 a2 b1 b2 c1 c2 d1 nn nn k (pivB nn ms k) _ wr x1 x2 y1 y2 i1 i2 (by omega) hkn _ _ (by simp) rfl rfl rfl rfl rfl ?_
   rintro xv0 xv1 xv2 xv3 xv4 xv5 xv6 xv7 xv8 xv9 xv10 xv11 xv12 xv13 xv14 xv15 xv16 xv17 xv18 xv19 xv20 W rfl rfl rfl rfl rfl rfl rfl rfl rfl rfl rfl rfl rfl rfl rfl rfl rfl rfl rfl rfl rfl hX
   simp only [rops, Try.f4, regOf, Option.bind_some, Nat.reduceBEq, if_true, if_false, Bool.false_eq_true, Option.getD_some, List.drop_succ_cons, List.drop_zero]
   simp only [Act.put, List.setIfInBounds_toArray, List.set_cons_succ, List.set_cons_zero]
   replace HXL := hid (HXL.out.trans hX)
   clear hX x1 x2 y1 y2 i1 i2 hr1 hr2
   go_wp2
   go_roundg (nn - (k + 1))
   case rel => exact ⟨k + 1, rfl, by omega, by go_num, HXL⟩
   case measure => omega
  ·
   obtain rfl : nn = k := by omega
   have q1 : decide ((nn : Int) < (nn : Int)) = false := by simp
   have q2 : decide (nn < nn) = false := by simp
   replace HX := hid (HX.out.trans HXL.out)
   go_wp2_with fail
   refine (first_any _).mono ?_
   rintro e w19 ⟨rfl, hX⟩
   replace HX := hid (HX.out.trans hX)
   clear hX
   go_wp2
   go_ret
   exact ⟨rfl, HX.out⟩
theorem stripEquations_walk (S : Int) (A : Option Addr) (n c : Nat) (ms : List Mt) (w : World) (h : MsAt w A n ms) :
  Calls Try.prog 4 #[.agg #[.int .i64 S, .slice A n c]] w (fun e w' => e = .returned (.bool true) ∧ Ext w w') := by
 cases hhv : hvB S ms with
 | true => exact eqns_heavy S A n c ms w h hhv
 | false =>
  by_cases hv : VP S ms
  ·
   obtain ⟨s, rfl⟩ : ∃ s : Nat, S = s := ⟨S.toNat, by have := hv.1; omega⟩
   exact eqns_ok s A n c ms w h hhv hv
  ·
   exact eqns_inv S A n c ms w h hhv hv
end Go.Proofs.Ytikhlcgnlbinfaa
