/- Lemmas of the proof that follows (Measures, part 15): walks of functions by contract, and plain lemmas. Conditions: none. -/
import Derived.Test.YtikhlcgnlbinfaaMeasuresN
namespace Go.Proofs.Ytikhlcgnlbinfaa
open Lib (hid)
open Go.RowKit
set_option maxRecDepth 100000 in
set_option maxHeartbeats 2000000 in
theorem meas_r17 (gx gp gt ct S gm om n c kk L : Nat) (ma mb mx my mz md mw : Int) (un : Nat → Rat) (se : Bool) (Ae Be : Option Addr) (le ce me ke : Nat) (w : World) (y0 : w.cell? ⟨gx, 0, none⟩ = some (.bool se)) (y1 : w.cell? ⟨gx, 1, none⟩ = some (.slice Ae le ce)) (y2 : w.cell? ⟨gx, 2, none⟩ = some (.slice Be me ke)) (v0 : w.cell? ⟨gm, om + kk * 7, none⟩ = some (.int .i64 (ma))) (v1 : w.cell? ⟨gm, om + kk * 7 + 1, none⟩ = some (.int .i64 (mb))) (v2 : w.cell? ⟨gm, om + kk * 7 + 2, none⟩ = some (.int .i64 (mx))) (v3 : w.cell? ⟨gm, om + kk * 7 + 3, none⟩ = some (.int .i64 (my))) (v4 : w.cell? ⟨gm, om + kk * 7 + 4, none⟩ = some (.int .i64 (mz))) (v5 : w.cell? ⟨gm, om + kk * 7 + 5, none⟩ = some (.int .i64 (md))) (v6 : w.cell? ⟨gm, om + kk * 7 + 6, none⟩ = some (.int .i64 (mw))) (b0 : w.cell? ⟨gp, 0, none⟩ = some (.int .i64 (S : Int))) (b1 : w.cell? ⟨gp, 1, none⟩ = some (.slice (some ⟨gm, om, none⟩) n c)) (_hkn : kk < n) (_hkn2 : (kk : Int) < (n : Int)) (hS8 : S ≤ 8) (hS : ShP QZ w gt 0 S un) (hf : FitU S un L) (hL : L ≤ 1000) (hm : VM S ⟨ma, mb, mx, my, mz, md, mw⟩) (hgt : gt < w.heap.size) (hx : RatC w (.agg #[.bool se, .slice Ae le ce, .slice Be me ke]) (res (3 * S) ⟨ma, mb, mx, my, mz, md, mw⟩ un)) (hfq : FitQW (res (3 * S) ⟨ma, mb, mx, my, mz, md, mw⟩ un)) (a : Act) (Q : Exit → Act → World → Prop) (hsize : 106 ≤ a.tmps.size)
  (s2 : a.tmps[2]? = some (.int .i64 (kk : Int)))
  (s3 : a.tmps[3]? = some (.pointer (some ⟨gp, 0, none⟩)))
  (s7 : a.tmps[7]? = some (.pointer (some ⟨gx, 0, none⟩)))
  (s8 : a.tmps[8]? = some (.int .i64 (0)))
  (s13 : a.tmps[13]? = some (.slice (some ⟨gt, 0, none⟩) S ct))
  (hend : ∀ (xv0 xv1 xv2 xv3 xv4 xv5 xv6 xv7 xv8 xv9 xv10 xv11 xv12 xv13 xv14 : Value) (W : World), (xv0 = .int .i64 (0)) → (xv1 = .bool false) → (xv2 = .bool false) → (xv3 = .agg #[.bool se, .slice Ae le ce, .slice Be me ke]) → (xv4 = .agg #[.int .i64 (S : Int), .slice (some ⟨gm, om, none⟩) n c]) → (xv5 = .slice (some ⟨gt, 0, none⟩) S ct) → (xv6 = .pointer (some ⟨gp, 1, none⟩)) → (xv7 = .slice (some ⟨gm, om, none⟩) n c) → (xv8 = .int .i64 (kk : Int)) → (xv9 = .pointer (some ⟨gm, om + kk * 7, none⟩)) → (xv10 = .agg #[.int .i64 (ma), .int .i64 (mb), .int .i64 (mx), .int .i64 (my), .int .i64 (mz), .int .i64 (md), .int .i64 (mw)]) → (QZ W xv11 (res (3 * S) ⟨ma, mb, mx, my, mz, md, mw⟩ un)) → (xv12 = .bool true) → (xv13 = .bool false) → (xv14 = .bool false) → Ext w W → wpList Try.prog (rops Try.f9 17).toArray Q ((rops Try.f9 17).drop 15) (((((((((((((((a.put (some 91) xv0).put (some 92) xv1).put (some 93) xv2).put (some 94) xv3).put (some 95) xv4).put (some 96) xv5).put (some 97) xv6).put (some 98) xv7).put (some 99) xv8).put (some 100) xv9).put (some 101) xv10).put (some 102) xv11).put (some 103) xv12).put (some 104) xv13).put (some 105) xv14) W) :
  (Code.region 17 (rops Try.f9 17).toArray true).wp Try.prog Q a w := by
 refine wp_region_k 15 [some 91, some 92, some 93, some 94, some 95, some 96, some 97, some 98, some 99, some 100, some 101, some 102, some 103, some 104, some 105] [[], [0], [1], [2], [2], [2], [2], [2, 6], [2], [2, 7, 8], [2, 9], [2, 4, 5, 10], [2, 3, 11], [2, 12], [2, 13]] [eqv (.int .i64 (0)), eqv (.bool false), eqv (.bool false), eqv (.agg #[.bool se, .slice Ae le ce, .slice Be me ke]), eqv (.agg #[.int .i64 (S : Int), .slice (some ⟨gm, om, none⟩) n c]), eqv (.slice (some ⟨gt, 0, none⟩) S ct), eqv (.pointer (some ⟨gp, 1, none⟩)), eqv (.slice (some ⟨gm, om, none⟩) n c), eqv (.int .i64 (kk : Int)), eqv (.pointer (some ⟨gm, om + kk * 7, none⟩)), eqv (.agg #[.int .i64 (ma), .int .i64 (mb), .int .i64 (mx), .int .i64 (my), .int .i64 (mz), .int .i64 (md), .int .i64 (mw)]), fun v W => QZ W v (res (3 * S) ⟨ma, mb, mx, my, mz, md, mw⟩ un), eqv (.bool true), eqv (.bool false), eqv (.bool false)] (by kernel_rfl) (by kernel_rfl) rfl (by decide) hsize ⟨monC, monC, monC, monC, monC, monC, monC, monC, monC, monC, monC, by intro v W W' h hX; exact QZ.ext h hX, monC, monC, monC, trivial⟩ ?_ ?_
 ·
  clear hend
  simp only [rops, Try.f9, regOf, Option.bind_some, Nat.reduceBEq, if_true, if_false, Bool.false_eq_true, Option.getD_some]
  simp only [List.take_succ_cons, List.take_zero]
  refine ⟨?_, ?_, ?_, ?_, ?_, ?_, ?_, ?_, ?_, ?_, ?_, ?_, ?_, ?_, ?_, trivial⟩
  ·
   rintro us W hJ _ b hb hbz K hK0 hK Qz
   have e8 := (hbz 8 (by simp)).trans s8
   clear hb hbz
   go_simp
   exact hK0 _ rfl
  ·
   rintro us W hJ d0 b hb hbz K hK0 hK Qz
   have e91 := slotV (hb 0 91 rfl) d0
   clear hb hbz d0
   go_simp
   exact hK0 _ rfl
  ·
   rintro us W hJ d1 b hb hbz K hK0 hK Qz
   have e92 := slotV (hb 1 92 rfl) d1
   clear hb hbz d1
   go_simp
   exact hK0 _ rfl
  ·
   rintro us W hJ d2 b hb hbz K hK0 hK Qz
   have e7 := (hbz 7 (by simp)).trans s7
   have e93 := slotV (hb 2 93 rfl) d2
   clear hb hbz d2
   have z0 := Ext.cell hJ y0
   have z1 := Ext.cell hJ y1
   have z2 := Ext.cell hJ y2
   go_simp
   exact hK0 _ rfl
  ·
   rintro us W hJ d2 b hb hbz K hK0 hK Qz
   have e3 := (hbz 3 (by simp)).trans s3
   have e93 := slotV (hb 2 93 rfl) d2
   clear hb hbz d2
   have z0 := Ext.cell hJ b0
   have z1 := Ext.cell hJ b1
   go_simp
   exact hK0 _ rfl
  ·
   rintro us W hJ d2 b hb hbz K hK0 hK Qz
   have e13 := (hbz 13 (by simp)).trans s13
   have e93 := slotV (hb 2 93 rfl) d2
   clear hb hbz d2
   go_simp
   exact hK0 _ rfl
  ·
   rintro us W hJ d2 b hb hbz K hK0 hK Qz
   have e3 := (hbz 3 (by simp)).trans s3
   have e93 := slotV (hb 2 93 rfl) d2
   clear hb hbz d2
   go_simp
   exact hK0 _ rfl
  ·
   rintro us W hJ ⟨d2, d6⟩ b hb hbz K hK0 hK Qz
   have e93 := slotV (hb 2 93 rfl) d2
   have e97 := slotV (hb 6 97 rfl) d6
   clear hb hbz d2 d6
   have q := Ext.cell hJ b1
   go_simp
   exact hK0 _ rfl
  ·
   rintro us W hJ d2 b hb hbz K hK0 hK Qz
   have e2 := (hbz 2 (by simp)).trans s2
   have e93 := slotV (hb 2 93 rfl) d2
   clear hb hbz d2
   go_simp
   exact hK0 _ rfl
  ·
   rintro us W hJ ⟨d2, d7, d8⟩ b hb hbz K hK0 hK Qz
   have e93 := slotV (hb 2 93 rfl) d2
   have e98 := slotV (hb 7 98 rfl) d7
   have e99 := slotV (hb 8 99 rfl) d8
   clear hb hbz d2 d7 d8
   go_simp
   exact hK0 _ rfl
  ·
   rintro us W hJ ⟨d2, d9⟩ b hb hbz K hK0 hK Qz
   have e93 := slotV (hb 2 93 rfl) d2
   have e100 := slotV (hb 9 100 rfl) d9
   clear hb hbz d2 d9
   have z0 := Ext.cell hJ v0
   have z1 := Ext.cell hJ v1
   have z2 := Ext.cell hJ v2
   have z3 := Ext.cell hJ v3
   have z4 := Ext.cell hJ v4
   have z5 := Ext.cell hJ v5
   have z6 := Ext.cell hJ v6
   go_simp
   exact hK0 _ rfl
  ·
   rintro us W hJ ⟨d2, d4, d5, d10⟩ b hb hbz K hK0 hK Qz
   have e93 := slotV (hb 2 93 rfl) d2
   have e95 := slotV (hb 4 95 rfl) d4
   have e96 := slotV (hb 5 96 rfl) d5
   have e101 := slotV (hb 10 101 rfl) d10
   clear hb hbz d2 d4 d5 d10
   go_simp
   refine (resR_any (m := ⟨ma, mb, mx, my, mz, md, mw⟩) (S := S) (n := n) (c := c) (A := some ⟨gm, om, none⟩) (ct := ct) hS8 (hS.ext growsQ hJ) hf hL hm (Nat.lt_of_lt_of_le hgt hJ.size)).mono ?_
   rintro e w' ⟨v, rfl, hv, hX⟩
   exact hK _ _ hv hX
  ·
   rintro us W hJ ⟨d2, d3, d11⟩ b hb hbz K hK0 hK Qz
   have e93 := slotV (hb 2 93 rfl) d2
   have e94 := slotV (hb 3 94 rfl) d3
   have e102 := hb 11 102 rfl
   clear hb hbz d2 d3
   go_simp
   refine (same_any (RatC.ext hx hJ) d11 hfq).mono ?_
   rintro e w' ⟨rfl, hX⟩
   exact hK _ _ rfl hX
  ·
   rintro us W hJ ⟨d2, d12⟩ b hb hbz K hK0 hK Qz
   have e93 := slotV (hb 2 93 rfl) d2
   have e103 := slotV (hb 12 103 rfl) d12
   clear hb hbz d2 d12
   go_simp
   exact hK0 _ rfl
  ·
   rintro us W hJ ⟨d2, d13⟩ b hb hbz K hK0 hK Qz
   have e93 := slotV (hb 2 93 rfl) d2
   have e104 := slotV (hb 13 104 rfl) d13
   clear hb hbz d2 d13
   go_simp
   exact hK0 _ rfl
 ·
  rintro us W ⟨v0, v1, v2, v3, v4, v5, v6, v7, v8, v9, v10, v11, v12, v13, v14, _⟩ hJ
  exact hend _ _ _ _ _ _ _ _ _ _ _ _ _ _ _ W v0 v1 v2 v3 v4 v5 v6 v7 v8 v9 v10 v11 v12 v13 v14 hJ
set_option maxRecDepth 100000 in
set_option maxHeartbeats 2000000 in
theorem meas_r20 (gx gp gt ct S n c L nn cz cw : Nat) (A Az Aw : Option Addr) (ms : List Mt) (un : Nat → Rat) (sx : Bool) (Ax Bx : Option Addr) (lx cx mx kx : Nat) (w : World) (y0 : w.cell? ⟨gx, 0, none⟩ = some (.bool sx)) (y1 : w.cell? ⟨gx, 1, none⟩ = some (.slice Ax lx cx)) (y2 : w.cell? ⟨gx, 2, none⟩ = some (.slice Bx mx kx)) (b0 : w.cell? ⟨gp, 0, none⟩ = some (.int .i64 (S : Int))) (b1 : w.cell? ⟨gp, 1, none⟩ = some (.slice A n c)) (hM : MsAt w A n ms) (hV : VP S ms) (hS : ShP QZ w gt 0 S un) (hf : FitU S un L) (hL : L ≤ 100) (hgt : gt < w.heap.size) (hx : RatC w (.agg #[.bool sx, .slice Ax lx cx, .slice Bx mx kx]) (misfit (3 * S) ms un)) (hfq : FitQW (misfit (3 * S) ms un)) (a : Act) (Q : Exit → Act → World → Prop) (hsize : 130 ≤ a.tmps.size)
  (s3 : a.tmps[3]? = some (.pointer (some ⟨gp, 0, none⟩)))
  (s9 : a.tmps[9]? = some (.pointer (some ⟨gx, 0, none⟩)))
  (s10 : a.tmps[10]? = some (.int .i64 (0)))
  (s11 : a.tmps[11]? = some (.slice Az nn cz))
  (s12 : a.tmps[12]? = some (.int .i64 (0)))
  (s13 : a.tmps[13]? = some (.slice (some ⟨gt, 0, none⟩) S ct))
  (s16 : a.tmps[16]? = some (.slice Aw nn cw))
  (hend : ∀ (xv0 xv1 xv2 xv3 xv4 xv5 xv6 xv7 xv8 xv9 xv10 xv11 xv12 xv13 xv14 xv15 xv16 xv17 xv18 xv19 xv20 : Value) (W : World), (xv0 = .int .i64 (0)) → (xv1 = .bool false) → (xv2 = .bool false) → (xv3 = .int .i64 (0)) → (xv4 = .bool false) → (xv5 = .bool false) → (xv6 = .bool false) → (xv7 = .agg #[.bool sx, .slice Ax lx cx, .slice Bx mx kx]) → (xv8 = .agg #[.int .i64 (S : Int), .slice A n c]) → (xv9 = .slice (some ⟨gt, 0, none⟩) S ct) → (QZ W xv10 (misfit (3 * S) ms un)) → (xv11 = .bool true) → (xv12 = .bool false) → (xv13 = .bool false) → (xv14 = .bool false) → (xv15 = .slice Az nn cz) → (xv16 = .int .i64 (nn : Int)) → (xv17 = .slice Aw nn cw) → (xv18 = .int .i64 (nn : Int)) → (xv19 = .bool false) → (xv20 = .bool false) → Ext w W → wpList Try.prog (rops Try.f9 20).toArray Q ((rops Try.f9 20).drop 21) (((((((((((((((((((((a.put (some 109) xv0).put (some 110) xv1).put (some 111) xv2).put (some 112) xv3).put (some 113) xv4).put (some 114) xv5).put (some 115) xv6).put (some 116) xv7).put (some 117) xv8).put (some 118) xv9).put (some 119) xv10).put (some 120) xv11).put (some 121) xv12).put (some 122) xv13).put (some 123) xv14).put (some 124) xv15).put (some 125) xv16).put (some 126) xv17).put (some 127) xv18).put (some 128) xv19).put (some 129) xv20) W) :
  (Code.region 20 (rops Try.f9 20).toArray true).wp Try.prog Q a w := by
 refine wp_region_k 21 [some 109, some 110, some 111, some 112, some 113, some 114, some 115, some 116, some 117, some 118, some 119, some 120, some 121, some 122, some 123, some 124, some 125, some 126, some 127, some 128, some 129] [[], [0], [1], [2], [2, 3], [2, 4], [5], [6], [6], [6], [6, 8, 9], [6, 7, 10], [6, 11], [6, 12], [13], [14], [14, 15], [14], [14, 17], [14, 16, 18], [14, 19]] [eqv (.int .i64 (0)), eqv (.bool false), eqv (.bool false), eqv (.int .i64 (0)), eqv (.bool false), eqv (.bool false), eqv (.bool false), eqv (.agg #[.bool sx, .slice Ax lx cx, .slice Bx mx kx]), eqv (.agg #[.int .i64 (S : Int), .slice A n c]), eqv (.slice (some ⟨gt, 0, none⟩) S ct), fun v W => QZ W v (misfit (3 * S) ms un), eqv (.bool true), eqv (.bool false), eqv (.bool false), eqv (.bool false), eqv (.slice Az nn cz), eqv (.int .i64 (nn : Int)), eqv (.slice Aw nn cw), eqv (.int .i64 (nn : Int)), eqv (.bool false), eqv (.bool false)] (by kernel_rfl) (by kernel_rfl) rfl (by decide) hsize ⟨monC, monC, monC, monC, monC, monC, monC, monC, monC, monC, by intro v W W' h hX; exact QZ.ext h hX, monC, monC, monC, monC, monC, monC, monC, monC, monC, monC, trivial⟩ ?_ ?_
 ·
  clear hend
  simp only [rops, Try.f9, regOf, Option.bind_some, Nat.reduceBEq, if_true, if_false, Bool.false_eq_true, Option.getD_some]
  simp only [List.take_succ_cons, List.take_zero]
  refine ⟨?_, ?_, ?_, ?_, ?_, ?_, ?_, ?_, ?_, ?_, ?_, ?_, ?_, ?_, ?_, ?_, ?_, ?_, ?_, ?_, ?_, trivial⟩
  ·
   rintro us W hJ _ b hb hbz K hK0 hK Qz
   have e10 := (hbz 10 (by simp)).trans s10
   clear hb hbz
   go_simp
   exact hK0 _ rfl
  ·
   rintro us W hJ d0 b hb hbz K hK0 hK Qz
   have e109 := slotV (hb 0 109 rfl) d0
   clear hb hbz d0
   go_simp
   exact hK0 _ rfl
  ·
   rintro us W hJ d1 b hb hbz K hK0 hK Qz
   have e110 := slotV (hb 1 110 rfl) d1
   clear hb hbz d1
   go_simp
   exact hK0 _ rfl
  ·
   rintro us W hJ d2 b hb hbz K hK0 hK Qz
   have e12 := (hbz 12 (by simp)).trans s12
   have e111 := slotV (hb 2 111 rfl) d2
   clear hb hbz d2
   go_simp
   exact hK0 _ rfl
  ·
   rintro us W hJ ⟨d2, d3⟩ b hb hbz K hK0 hK Qz
   have e111 := slotV (hb 2 111 rfl) d2
   have e112 := slotV (hb 3 112 rfl) d3
   clear hb hbz d2 d3
   go_simp
   exact hK0 _ rfl
  ·
   rintro us W hJ ⟨d2, d4⟩ b hb hbz K hK0 hK Qz
   have e111 := slotV (hb 2 111 rfl) d2
   have e113 := slotV (hb 4 113 rfl) d4
   clear hb hbz d2 d4
   go_simp
   exact hK0 _ rfl
  ·
   rintro us W hJ d5 b hb hbz K hK0 hK Qz
   have e114 := slotV (hb 5 114 rfl) d5
   clear hb hbz d5
   go_simp
   exact hK0 _ rfl
  ·
   rintro us W hJ d6 b hb hbz K hK0 hK Qz
   have e9 := (hbz 9 (by simp)).trans s9
   have e115 := slotV (hb 6 115 rfl) d6
   clear hb hbz d6
   have z0 := Ext.cell hJ y0
   have z1 := Ext.cell hJ y1
   have z2 := Ext.cell hJ y2
   go_simp
   exact hK0 _ rfl
  ·
   rintro us W hJ d6 b hb hbz K hK0 hK Qz
   have e3 := (hbz 3 (by simp)).trans s3
   have e115 := slotV (hb 6 115 rfl) d6
   clear hb hbz d6
   have z0 := Ext.cell hJ b0
   have z1 := Ext.cell hJ b1
   go_simp
   exact hK0 _ rfl
  ·
   rintro us W hJ d6 b hb hbz K hK0 hK Qz
   have e13 := (hbz 13 (by simp)).trans s13
   have e115 := slotV (hb 6 115 rfl) d6
   clear hb hbz d6
   go_simp
   exact hK0 _ rfl
  ·
   rintro us W hJ ⟨d6, d8, d9⟩ b hb hbz K hK0 hK Qz
   have e115 := slotV (hb 6 115 rfl) d6
   have e117 := slotV (hb 8 117 rfl) d8
   have e118 := slotV (hb 9 118 rfl) d9
   clear hb hbz d6 d8 d9
   go_simp
   refine (misR_any S n c gt 0 ct L A ms un W (hM.ext hJ) hV (hS.ext growsQ hJ) hf hL (Nat.lt_of_lt_of_le hgt hJ.size)).mono ?_
   rintro e w' ⟨v, rfl, hv, hX⟩
   exact hK _ _ hv hX
  ·
   rintro us W hJ ⟨d6, d7, d10⟩ b hb hbz K hK0 hK Qz
   have e115 := slotV (hb 6 115 rfl) d6
   have e116 := slotV (hb 7 116 rfl) d7
   have e119 := hb 10 119 rfl
   clear hb hbz d6 d7
   go_simp
   refine (same_any (RatC.ext hx hJ) d10 hfq).mono ?_
   rintro e w' ⟨rfl, hX⟩
   exact hK _ _ rfl hX
  ·
   rintro us W hJ ⟨d6, d11⟩ b hb hbz K hK0 hK Qz
   have e115 := slotV (hb 6 115 rfl) d6
   have e120 := slotV (hb 11 120 rfl) d11
   clear hb hbz d6 d11
   go_simp
   exact hK0 _ rfl
  ·
   rintro us W hJ ⟨d6, d12⟩ b hb hbz K hK0 hK Qz
   have e115 := slotV (hb 6 115 rfl) d6
   have e121 := slotV (hb 12 121 rfl) d12
   clear hb hbz d6 d12
   go_simp
   exact hK0 _ rfl
  ·
   rintro us W hJ d13 b hb hbz K hK0 hK Qz
   have e122 := slotV (hb 13 122 rfl) d13
   clear hb hbz d13
   go_simp
   exact hK0 _ rfl
  ·
   rintro us W hJ d14 b hb hbz K hK0 hK Qz
   have e11 := (hbz 11 (by simp)).trans s11
   have e123 := slotV (hb 14 123 rfl) d14
   clear hb hbz d14
   go_simp
   exact hK0 _ rfl
  ·
   rintro us W hJ ⟨d14, d15⟩ b hb hbz K hK0 hK Qz
   have e123 := slotV (hb 14 123 rfl) d14
   have e124 := slotV (hb 15 124 rfl) d15
   clear hb hbz d14 d15
   go_simp
   exact hK0 _ rfl
  ·
   rintro us W hJ d14 b hb hbz K hK0 hK Qz
   have e16 := (hbz 16 (by simp)).trans s16
   have e123 := slotV (hb 14 123 rfl) d14
   clear hb hbz d14
   go_simp
   exact hK0 _ rfl
  ·
   rintro us W hJ ⟨d14, d17⟩ b hb hbz K hK0 hK Qz
   have e123 := slotV (hb 14 123 rfl) d14
   have e126 := slotV (hb 17 126 rfl) d17
   clear hb hbz d14 d17
   go_simp
   exact hK0 _ rfl
  ·
   rintro us W hJ ⟨d14, d16, d18⟩ b hb hbz K hK0 hK Qz
   have e123 := slotV (hb 14 123 rfl) d14
   have e125 := slotV (hb 16 125 rfl) d16
   have e127 := slotV (hb 18 127 rfl) d18
   clear hb hbz d14 d16 d18
   go_simp
   exact hK0 _ rfl
  ·
   rintro us W hJ ⟨d14, d19⟩ b hb hbz K hK0 hK Qz
   have e123 := slotV (hb 14 123 rfl) d14
   have e128 := slotV (hb 19 128 rfl) d19
   clear hb hbz d14 d19
   go_simp
   exact hK0 _ rfl
 ·
  rintro us W ⟨v0, v1, v2, v3, v4, v5, v6, v7, v8, v9, v10, v11, v12, v13, v14, v15, v16, v17, v18, v19, v20, _⟩ hJ
  exact hend _ _ _ _ _ _ _ _ _ _ _ _ _ _ _ _ _ _ _ _ _ W v0 v1 v2 v3 v4 v5 v6 v7 v8 v9 v10 v11 v12 v13 v14 v15 v16 v17 v18 v19 v20 hJ
set_option maxRecDepth 100000 in
set_option maxHeartbeats 2000000 in
theorem meas_r25 (gz gw nn cz cw kk : Nat) (q : Rat) (sx : Bool) (Ax Bx : Option Addr) (lx cx mx kx : Nat) (sy : Bool) (Ay By : Option Addr) (ly cy my ky : Nat) (w : World) (a0 : w.cell? ⟨gz, kk * 3, none⟩ = some (.bool sx)) (a1 : w.cell? ⟨gz, kk * 3 + 1, none⟩ = some (.slice Ax lx cx)) (a2 : w.cell? ⟨gz, kk * 3 + 2, none⟩ = some (.slice Bx mx kx)) (b0 : w.cell? ⟨gw, kk * 3, none⟩ = some (.bool sy)) (b1 : w.cell? ⟨gw, kk * 3 + 1, none⟩ = some (.slice Ay ly cy)) (b2 : w.cell? ⟨gw, kk * 3 + 2, none⟩ = some (.slice By my ky)) (_hkn : kk < nn) (_hkn2 : (kk : Int) < (nn : Int)) (hx : RatC w (.agg #[.bool sx, .slice Ax lx cx, .slice Bx mx kx]) q) (hy : QZ w (.agg #[.bool sy, .slice Ay ly cy, .slice By my ky]) q) (hfq : FitQW q) (a : Act) (Q : Exit → Act → World → Prop) (hsize : 146 ≤ a.tmps.size)
  (s11 : a.tmps[11]? = some (.slice (some ⟨gz, 0, none⟩) nn cz))
  (s16 : a.tmps[16]? = some (.slice (some ⟨gw, 0, none⟩) nn cw))
  (s17 : a.tmps[17]? = some (.int .i64 (kk : Int)))
  (hend : ∀ (xv0 xv1 xv2 xv3 xv4 xv5 xv6 xv7 xv8 xv9 : Value) (W : World), (xv0 = .slice (some ⟨gz, 0, none⟩) nn cz) → (xv1 = .int .i64 (kk : Int)) → (xv2 = .pointer (some ⟨gz, kk * 3, none⟩)) → (xv3 = .agg #[.bool sx, .slice Ax lx cx, .slice Bx mx kx]) → (xv4 = .slice (some ⟨gw, 0, none⟩) nn cw) → (xv5 = .int .i64 (kk : Int)) → (xv6 = .pointer (some ⟨gw, kk * 3, none⟩)) → (xv7 = .agg #[.bool sy, .slice Ay ly cy, .slice By my ky]) → (xv8 = .bool true) → (xv9 = .bool false) → Ext w W → wpList Try.prog (rops Try.f9 25).toArray Q ((rops Try.f9 25).drop 10) ((((((((((a.put (some 136) xv0).put (some 137) xv1).put (some 138) xv2).put (some 139) xv3).put (some 140) xv4).put (some 141) xv5).put (some 142) xv6).put (some 143) xv7).put (some 144) xv8).put (some 145) xv9) W) :
  (Code.region 25 (rops Try.f9 25).toArray true).wp Try.prog Q a w := by
 refine wp_region_k 10 [some 136, some 137, some 138, some 139, some 140, some 141, some 142, some 143, some 144, some 145] [[], [], [0, 1], [2], [], [], [4, 5], [6], [3, 7], [8]] [eqv (.slice (some ⟨gz, 0, none⟩) nn cz), eqv (.int .i64 (kk : Int)), eqv (.pointer (some ⟨gz, kk * 3, none⟩)), eqv (.agg #[.bool sx, .slice Ax lx cx, .slice Bx mx kx]), eqv (.slice (some ⟨gw, 0, none⟩) nn cw), eqv (.int .i64 (kk : Int)), eqv (.pointer (some ⟨gw, kk * 3, none⟩)), eqv (.agg #[.bool sy, .slice Ay ly cy, .slice By my ky]), eqv (.bool true), eqv (.bool false)] (by kernel_rfl) (by kernel_rfl) rfl (by decide) hsize ⟨monC, monC, monC, monC, monC, monC, monC, monC, monC, monC, trivial⟩ ?_ ?_
 ·
  clear hend
  simp only [rops, Try.f9, regOf, Option.bind_some, Nat.reduceBEq, if_true, if_false, Bool.false_eq_true, Option.getD_some]
  simp only [List.take_succ_cons, List.take_zero]
  refine ⟨?_, ?_, ?_, ?_, ?_, ?_, ?_, ?_, ?_, ?_, trivial⟩
  ·
   rintro us W hJ _ b hb hbz K hK0 hK Qz
   have e11 := (hbz 11 (by simp)).trans s11
   clear hb hbz
   go_simp
   exact hK0 _ rfl
  ·
   rintro us W hJ _ b hb hbz K hK0 hK Qz
   have e17 := (hbz 17 (by simp)).trans s17
   clear hb hbz
   go_simp
   exact hK0 _ rfl
  ·
   rintro us W hJ ⟨d0, d1⟩ b hb hbz K hK0 hK Qz
   have e136 := slotV (hb 0 136 rfl) d0
   have e137 := slotV (hb 1 137 rfl) d1
   clear hb hbz d0 d1
   go_simp
   exact hK0 _ rfl
  ·
   rintro us W hJ d2 b hb hbz K hK0 hK Qz
   have e138 := slotV (hb 2 138 rfl) d2
   clear hb hbz d2
   have z0 := Ext.cell hJ a0
   have z1 := Ext.cell hJ a1
   have z2 := Ext.cell hJ a2
   go_simp
   exact hK0 _ rfl
  ·
   rintro us W hJ _ b hb hbz K hK0 hK Qz
   have e16 := (hbz 16 (by simp)).trans s16
   clear hb hbz
   go_simp
   exact hK0 _ rfl
  ·
   rintro us W hJ _ b hb hbz K hK0 hK Qz
   have e17 := (hbz 17 (by simp)).trans s17
   clear hb hbz
   go_simp
   exact hK0 _ rfl
  ·
   rintro us W hJ ⟨d4, d5⟩ b hb hbz K hK0 hK Qz
   have e140 := slotV (hb 4 140 rfl) d4
   have e141 := slotV (hb 5 141 rfl) d5
   clear hb hbz d4 d5
   go_simp
   exact hK0 _ rfl
  ·
   rintro us W hJ d6 b hb hbz K hK0 hK Qz
   have e142 := slotV (hb 6 142 rfl) d6
   clear hb hbz d6
   have z0 := Ext.cell hJ b0
   have z1 := Ext.cell hJ b1
   have z2 := Ext.cell hJ b2
   go_simp
   exact hK0 _ rfl
  ·
   rintro us W hJ ⟨d3, d7⟩ b hb hbz K hK0 hK Qz
   have e139 := slotV (hb 3 139 rfl) d3
   have e143 := slotV (hb 7 143 rfl) d7
   clear hb hbz d3 d7
   go_simp
   refine (same_any (RatC.ext hx hJ) (hy.ext hJ) hfq).mono ?_
   rintro e w' ⟨rfl, hX⟩
   exact hK _ _ rfl hX
  ·
   rintro us W hJ d8 b hb hbz K hK0 hK Qz
   have e144 := slotV (hb 8 144 rfl) d8
   clear hb hbz d8
   go_simp
   exact hK0 _ rfl
 ·
  rintro us W ⟨v0, v1, v2, v3, v4, v5, v6, v7, v8, v9, _⟩ hJ
  exact hend _ _ _ _ _ _ _ _ _ _ W v0 v1 v2 v3 v4 v5 v6 v7 v8 v9 hJ
set_option maxRecDepth 100000 in
set_option maxHeartbeats 16000000 in
theorem meas_heavy (S : Int) (A : Option Addr) (n c : Nat) (ms : List Mt) (tA : Option Addr) (m ct gt ot : Nat) (N : Nat → Bool × List Int × List Int) (i : Int) (w : World) (h : MsAt w A n ms) (hT : ShV w gt ot m N) (_hA : 0 < m → tA = some ⟨gt, ot, none⟩) (_hmm : m ≤ 9223372036854775807) (hhv : hvB S ms = true) :
  Calls Try.prog 9 #[.agg #[.int .i64 S, .slice A n c], .slice tA m ct, .int .i64 i] w (fun e w' => e = .returned (.bool true) ∧ Ext w w') := by
 have H := hid h
 have HT := hid hT
 have HX := hid ((Ext.refl w).alloc (.cells #[.int .i64 S, .slice A n c] 76))
 have HP := hid (Blk.new w 76 #[.int .i64 S, .slice A n c])
 clear h hT
 go_enter Try.func9, Try.ntmps9
 go_upto_region 1 with (fail)
 generalize w.alloc (.cells #[.int .i64 S, .slice A n c] 76) = w1 at HX HP ⊢
 have p0 := HP.out.cell 0
 have p1 := HP.out.cell 1
 simp only [List.getElem?_toArray, List.getElem?_cons_zero, List.getElem?_cons_succ] at p0 p1
 have hh := heavy_any5 S A n c ms _ (H.out.ext HX.out)
 rw [hhv] at hh
 go_wp2_with fail
 refine hh.mono ?_
 rintro e w2 ⟨rfl, hX2⟩
 clear hh p0 p1
 replace HP := hid (HP.out.ext hX2)
 replace HX := hid (HX.out.trans hX2)
 clear hX2
 go_wp2_with fail
 refine (first_any _).mono ?_
 rintro e w19 ⟨rfl, hX⟩
 replace HX := hid (HX.out.trans hX)
 clear hX
 go_wp2
 go_ret
 exact ⟨rfl, HX.out⟩
set_option maxRecDepth 100000 in
set_option maxHeartbeats 16000000 in
theorem meas_long (S : Int) (A : Option Addr) (n c : Nat) (ms : List Mt) (tA : Option Addr) (m ct gt ot : Nat) (N : Nat → Bool × List Int × List Int) (i : Int) (w : World) (h : MsAt w A n ms) (hT : ShV w gt ot m N) (hA : 0 < m → tA = some ⟨gt, ot, none⟩) (hmm : m ≤ 9223372036854775807) (hhv : hvB S ms = false) (hlg : 20 < m ∨ lgN m N) :
  Calls Try.prog 9 #[.agg #[.int .i64 S, .slice A n c], .slice tA m ct, .int .i64 i] w (fun e w' => e = .returned (.bool true) ∧ Ext w w') := by
 have H := hid h
 have HT := hid hT
 have HX := hid ((Ext.refl w).alloc (.cells #[.int .i64 S, .slice A n c] 76))
 have HP := hid (Blk.new w 76 #[.int .i64 S, .slice A n c])
 clear h hT
 go_enter Try.func9, Try.ntmps9
 go_upto_region 1 with (fail)
 generalize w.alloc (.cells #[.int .i64 S, .slice A n c] 76) = w1 at HX HP ⊢
 have p0 := HP.out.cell 0
 have p1 := HP.out.cell 1
 simp only [List.getElem?_toArray, List.getElem?_cons_zero, List.getElem?_cons_succ] at p0 p1
 have hh := heavy_any5 S A n c ms _ (H.out.ext HX.out)
 rw [hhv] at hh
 go_wp2_with fail
 refine hh.mono ?_
 rintro e w2 ⟨rfl, hX2⟩
 clear hh p0 p1
 replace HP := hid (HP.out.ext hX2)
 replace HX := hid (HX.out.trans hX2)
 clear hX2
 have hl := long5_any m ct gt ot tA N true _ (HT.out.ext HX.out) hA hmm (by simp [hlg])
 go_wp2_with fail
 refine hl.mono ?_
 rintro e w3 ⟨rfl, hX2⟩
 clear hl
 replace HP := hid (HP.out.ext hX2)
 replace HX := hid (HX.out.trans hX2)
 clear hX2
 go_wp2_with fail
 refine (first_any _).mono ?_
 rintro e w19 ⟨rfl, hX⟩
 replace HX := hid (HX.out.trans hX)
 clear hX
 go_wp2
 go_ret
 exact ⟨rfl, HX.out⟩
set_option maxRecDepth 100000 in
set_option maxHeartbeats 16000000 in
theorem meas_inv_no (S : Int) (A : Option Addr) (n c : Nat) (ms : List Mt) (tA : Option Addr) (m ct gt ot : Nat) (N : Nat → Bool × List Int × List Int) (i : Int) (w : World) (h : MsAt w A n ms) (hT : ShV w gt ot m N) (hA : 0 < m → tA = some ⟨gt, ot, none⟩) (hmm : m ≤ 9223372036854775807) (hhv : hvB S ms = false) (hlg : ¬ (20 < m ∨ lgN m N)) (hne : ¬ (m : Int) = S) (hV : ¬ VP S ms) :
  Calls Try.prog 9 #[.agg #[.int .i64 S, .slice A n c], .slice tA m ct, .int .i64 i] w (fun e w' => e = .returned (.bool true) ∧ Ext w w') := by
 have H := hid h
 have HT := hid hT
 have HX := hid ((Ext.refl w).alloc (.cells #[.int .i64 S, .slice A n c] 76))
 have HP := hid (Blk.new w 76 #[.int .i64 S, .slice A n c])
 clear h hT
 go_enter Try.func9, Try.ntmps9
 go_upto_region 1 with (fail)
 generalize w.alloc (.cells #[.int .i64 S, .slice A n c] 76) = w1 at HX HP ⊢
 have p0 := HP.out.cell 0
 have p1 := HP.out.cell 1
 simp only [List.getElem?_toArray, List.getElem?_cons_zero, List.getElem?_cons_succ] at p0 p1
 have hh := heavy_any5 S A n c ms _ (H.out.ext HX.out)
 rw [hhv] at hh
 go_wp2_with fail
 refine hh.mono ?_
 rintro e w2 ⟨rfl, hX2⟩
 clear hh p0 p1
 replace HP := hid (HP.out.ext hX2)
 replace HX := hid (HX.out.trans hX2)
 clear hX2
 have hl := long5_any m ct gt ot tA N false _ (HT.out.ext HX.out) hA hmm (by simp [hlg])
 go_wp2_with fail
 refine hl.mono ?_
 rintro e w3 ⟨rfl, hX2⟩
 clear hl
 replace HP := hid (HP.out.ext hX2)
 replace HX := hid (HX.out.trans hX2)
 clear hX2
 have p0 := HP.out.cell 0
 have p1 := HP.out.cell 1
 simp only [List.getElem?_toArray, List.getElem?_cons_zero, List.getElem?_cons_succ] at p0 p1
 go_wp2_with fail
 refine (residP_inv S A n c ms (.slice tA m ct) i _ (H.out.ext HX.out) hV).mono ?_
 rintro e v1 ⟨rfl, hX2⟩
 clear p0 p1
 replace HP := hid (HP.out.ext hX2)
 replace HX := hid (HX.out.trans hX2)
 clear hX2
 go_upto_region 4 with (fail)
 have hX2 : Ext v1 (v1.alloc (.cells #[.bool false, .slice none 0 0, .slice none 0 0] 97)) := (Ext.refl _).alloc _
 have BX := hid (Blk.new v1 97 #[.bool false, .slice none 0 0, .slice none 0 0])
 generalize v1.heap.size = gBX at BX ⊢
 generalize v1.alloc (.cells #[.bool false, .slice none 0 0, .slice none 0 0] 97) = v1b at BX hX2 ⊢
 replace HP := hid (HP.out.ext hX2)
 replace HX := hid (HX.out.trans hX2)
 clear hX2

 have p0 := HP.out.cell 0
 have p1 := HP.out.cell 1
 simp only [List.getElem?_toArray, List.getElem?_cons_zero, List.getElem?_cons_succ] at p0 p1
 go_wp2_with fail
 refine (misfit_inv S A n c ms (.slice tA m ct) _ (H.out.ext HX.out) hV).mono ?_
 rintro e v2 ⟨rfl, hX2⟩
 clear p0 p1
 replace HP := hid (HP.out.ext hX2)
 replace BX := hid (BX.out.ext hX2)
 replace HX := hid (HX.out.trans hX2)
 clear hX2
 go_upto_region 5 with (fail)
 have hX2 : Ext v2 (v2.alloc (.cells #[.bool false, .slice none 0 0, .slice none 0 0] 97)) := (Ext.refl _).alloc _
 have BY := hid (Blk.new v2 97 #[.bool false, .slice none 0 0, .slice none 0 0])
 generalize v2.heap.size = gBY at BY ⊢
 generalize v2.alloc (.cells #[.bool false, .slice none 0 0, .slice none 0 0] 97) = v2b at BY hX2 ⊢
 replace HP := hid (HP.out.ext hX2)
 replace BX := hid (BX.out.ext hX2)
 replace HX := hid (HX.out.trans hX2)
 clear hX2

 have p0 := HP.out.cell 0
 have p1 := HP.out.cell 1
 simp only [List.getElem?_toArray, List.getElem?_cons_zero, List.getElem?_cons_succ] at p0 p1
 go_wp2_with fail
 refine (slopesP_inv S A n c ms (.slice tA m ct) _ (H.out.ext HX.out) hV).mono ?_
 rintro e v3 ⟨rfl, hX2⟩
 clear p0 p1
 replace HP := hid (HP.out.ext hX2)
 replace BX := hid (BX.out.ext hX2)
 replace BY := hid (BY.out.ext hX2)
 replace HX := hid (HX.out.trans hX2)
 clear hX2
 go_upto_region 6 with (fail)
 have p0 := HP.out.cell 0
 have p1 := HP.out.cell 1
 simp only [List.getElem?_toArray, List.getElem?_cons_zero, List.getElem?_cons_succ] at p0 p1
 go_wp2_with fail
 refine (shiftsR_no S A tA n c m ct _ hne hmm).mono ?_
 rintro e v4 ⟨rfl, hX2⟩
 clear p0 p1
 replace HP := hid (HP.out.ext hX2)
 replace BX := hid (BX.out.ext hX2)
 replace BY := hid (BY.out.ext hX2)
 replace HX := hid (HX.out.trans hX2)
 clear hX2
 go_upto_region 7 with (fail)
 have p0 := HP.out.cell 0
 have p1 := HP.out.cell 1
 simp only [List.getElem?_toArray, List.getElem?_cons_zero, List.getElem?_cons_succ] at p0 p1
 have hv := valid5R_any S A n c ms _ (H.out.ext HX.out)
 rw [vpB_no hV] at hv
 go_wp2_with fail
 refine hv.mono ?_
 rintro e v5 ⟨rfl, hX2⟩
 clear hv p0 p1
 replace HP := hid (HP.out.ext hX2)
 replace BX := hid (BX.out.ext hX2)
 replace BY := hid (BY.out.ext hX2)
 replace HX := hid (HX.out.trans hX2)
 clear hX2
 go_wp2_with fail
 refine (first_any _).mono ?_
 rintro e w19 ⟨rfl, hX⟩
 replace HX := hid (HX.out.trans hX)
 clear hX
 go_wp2
 go_ret
 exact ⟨rfl, HX.out⟩
set_option maxRecDepth 100000 in
set_option maxHeartbeats 16000000 in
theorem meas_inv_yes (_ : True) (A : Option Addr) (n c : Nat) (ms : List Mt) (tA : Option Addr) (m ct gt ot : Nat) (N : Nat → Bool × List Int × List Int) (i : Int) (w : World) (h : MsAt w A n ms) (hT : ShV w gt ot m N) (hA : 0 < m → tA = some ⟨gt, ot, none⟩) (hmm : m ≤ 9223372036854775807) (hhv : hvB (m : Int) ms = false) (hlg : ¬ (20 < m ∨ lgN m N)) (hV : ¬ VP (m : Int) ms) :
  Calls Try.prog 9 #[.agg #[.int .i64 (m : Int), .slice A n c], .slice tA m ct, .int .i64 i] w (fun e w' => e = .returned (.bool true) ∧ Ext w w') := by
 have H := hid h
 have HT := hid hT
 have HX := hid ((Ext.refl w).alloc (.cells #[.int .i64 (m : Int), .slice A n c] 76))
 have HP := hid (Blk.new w 76 #[.int .i64 (m : Int), .slice A n c])
 clear h hT
 go_enter Try.func9, Try.ntmps9
 go_upto_region 1 with (fail)
 generalize w.alloc (.cells #[.int .i64 (m : Int), .slice A n c] 76) = w1 at HX HP ⊢
 have p0 := HP.out.cell 0
 have p1 := HP.out.cell 1
 simp only [List.getElem?_toArray, List.getElem?_cons_zero, List.getElem?_cons_succ] at p0 p1
 have hh := heavy_any5 (m : Int) A n c ms _ (H.out.ext HX.out)
 rw [hhv] at hh
 go_wp2_with fail
 refine hh.mono ?_
 rintro e w2 ⟨rfl, hX2⟩
 clear hh p0 p1
 replace HP := hid (HP.out.ext hX2)
 replace HX := hid (HX.out.trans hX2)
 clear hX2
 have hl := long5_any m ct gt ot tA N false _ (HT.out.ext HX.out) hA hmm (by simp [hlg])
 go_wp2_with fail
 refine hl.mono ?_
 rintro e w3 ⟨rfl, hX2⟩
 clear hl
 replace HP := hid (HP.out.ext hX2)
 replace HX := hid (HX.out.trans hX2)
 clear hX2
 have p0 := HP.out.cell 0
 have p1 := HP.out.cell 1
 simp only [List.getElem?_toArray, List.getElem?_cons_zero, List.getElem?_cons_succ] at p0 p1
 go_wp2_with fail
 refine (residP_inv (m : Int) A n c ms (.slice tA m ct) i _ (H.out.ext HX.out) hV).mono ?_
 rintro e v1 ⟨rfl, hX2⟩
 clear p0 p1
 replace HP := hid (HP.out.ext hX2)
 replace HX := hid (HX.out.trans hX2)
 clear hX2
 go_upto_region 4 with (fail)
 have hX2 : Ext v1 (v1.alloc (.cells #[.bool false, .slice none 0 0, .slice none 0 0] 97)) := (Ext.refl _).alloc _
 have BX := hid (Blk.new v1 97 #[.bool false, .slice none 0 0, .slice none 0 0])
 generalize v1.heap.size = gBX at BX ⊢
 generalize v1.alloc (.cells #[.bool false, .slice none 0 0, .slice none 0 0] 97) = v1b at BX hX2 ⊢
 replace HP := hid (HP.out.ext hX2)
 replace HX := hid (HX.out.trans hX2)
 clear hX2

 have p0 := HP.out.cell 0
 have p1 := HP.out.cell 1
 simp only [List.getElem?_toArray, List.getElem?_cons_zero, List.getElem?_cons_succ] at p0 p1
 go_wp2_with fail
 refine (misfit_inv (m : Int) A n c ms (.slice tA m ct) _ (H.out.ext HX.out) hV).mono ?_
 rintro e v2 ⟨rfl, hX2⟩
 clear p0 p1
 replace HP := hid (HP.out.ext hX2)
 replace BX := hid (BX.out.ext hX2)
 replace HX := hid (HX.out.trans hX2)
 clear hX2
 go_upto_region 5 with (fail)
 have hX2 : Ext v2 (v2.alloc (.cells #[.bool false, .slice none 0 0, .slice none 0 0] 97)) := (Ext.refl _).alloc _
 have BY := hid (Blk.new v2 97 #[.bool false, .slice none 0 0, .slice none 0 0])
 generalize v2.heap.size = gBY at BY ⊢
 generalize v2.alloc (.cells #[.bool false, .slice none 0 0, .slice none 0 0] 97) = v2b at BY hX2 ⊢
 replace HP := hid (HP.out.ext hX2)
 replace BX := hid (BX.out.ext hX2)
 replace HX := hid (HX.out.trans hX2)
 clear hX2

 have p0 := HP.out.cell 0
 have p1 := HP.out.cell 1
 simp only [List.getElem?_toArray, List.getElem?_cons_zero, List.getElem?_cons_succ] at p0 p1
 go_wp2_with fail
 refine (slopesP_inv (m : Int) A n c ms (.slice tA m ct) _ (H.out.ext HX.out) hV).mono ?_
 rintro e v3 ⟨rfl, hX2⟩
 clear p0 p1
 replace HP := hid (HP.out.ext hX2)
 replace BX := hid (BX.out.ext hX2)
 replace BY := hid (BY.out.ext hX2)
 replace HX := hid (HX.out.trans hX2)
 clear hX2
 go_upto_region 6 with (fail)
 have p0 := HP.out.cell 0
 have p1 := HP.out.cell 1
 simp only [List.getElem?_toArray, List.getElem?_cons_zero, List.getElem?_cons_succ] at p0 p1
 go_wp2_with fail
 refine (shiftsR_yes m n c gt ot ct A tA (valU N) _ (shv_good (HT.out.ext HX.out) (fun q => hlg (.inr q))).1 hA (Nat.le_of_not_lt (fun q => hlg (.inl q)))).mono ?_
 rintro e v4 ⟨v, rfl, hv, hX2⟩
 obtain ⟨A9, c9, hA9⟩ := hv.slice
 subst hA9
 clear hv
 clear p0 p1
 replace HP := hid (HP.out.ext hX2)
 replace BX := hid (BX.out.ext hX2)
 replace BY := hid (BY.out.ext hX2)
 replace HX := hid (HX.out.trans hX2)
 clear hX2
 go_upto_region 7 with (fail)
 have p0 := HP.out.cell 0
 have p1 := HP.out.cell 1
 simp only [List.getElem?_toArray, List.getElem?_cons_zero, List.getElem?_cons_succ] at p0 p1
 have hv := valid5R_any (m : Int) A n c ms _ (H.out.ext HX.out)
 rw [vpB_no hV] at hv
 go_wp2_with fail
 refine hv.mono ?_
 rintro e v5 ⟨rfl, hX2⟩
 clear hv p0 p1
 replace HP := hid (HP.out.ext hX2)
 replace BX := hid (BX.out.ext hX2)
 replace BY := hid (BY.out.ext hX2)
 replace HX := hid (HX.out.trans hX2)
 clear hX2
 go_wp2_with fail
 refine (first_any _).mono ?_
 rintro e w19 ⟨rfl, hX⟩
 replace HX := hid (HX.out.trans hX)
 clear hX
 go_wp2
 go_ret
 exact ⟨rfl, HX.out⟩
set_option maxRecDepth 100000 in
set_option maxHeartbeats 16000000 in
theorem meas_len (S : Nat) (A : Option Addr) (n c : Nat) (ms : List Mt) (tA : Option Addr) (m ct gt ot : Nat) (N : Nat → Bool × List Int × List Int) (i : Int) (w : World) (h : MsAt w A n ms) (hT : ShV w gt ot m N) (hA : 0 < m → tA = some ⟨gt, ot, none⟩) (hmm : m ≤ 9223372036854775807) (hhv : hvB (S : Int) ms = false) (hlg : ¬ (20 < m ∨ lgN m N)) (hne : ¬ (m : Int) = (S : Int)) (hV : VP (S : Int) ms) :
  Calls Try.prog 9 #[.agg #[.int .i64 (S : Int), .slice A n c], .slice tA m ct, .int .i64 i] w (fun e w' => e = .returned (.bool true) ∧ Ext w w') := by
 have H := hid h
 have HT := hid hT
 have HX := hid ((Ext.refl w).alloc (.cells #[.int .i64 (S : Int), .slice A n c] 76))
 have HP := hid (Blk.new w 76 #[.int .i64 (S : Int), .slice A n c])
 clear h hT
 go_enter Try.func9, Try.ntmps9
 go_upto_region 1 with (fail)
 generalize w.alloc (.cells #[.int .i64 (S : Int), .slice A n c] 76) = w1 at HX HP ⊢
 have p0 := HP.out.cell 0
 have p1 := HP.out.cell 1
 simp only [List.getElem?_toArray, List.getElem?_cons_zero, List.getElem?_cons_succ] at p0 p1
 have hh := heavy_any5 (S : Int) A n c ms _ (H.out.ext HX.out)
 rw [hhv] at hh
 go_wp2_with fail
 refine hh.mono ?_
 rintro e w2 ⟨rfl, hX2⟩
 clear hh p0 p1
 replace HP := hid (HP.out.ext hX2)
 replace HX := hid (HX.out.trans hX2)
 clear hX2
 have hl := long5_any m ct gt ot tA N false _ (HT.out.ext HX.out) hA hmm (by simp [hlg])
 go_wp2_with fail
 refine hl.mono ?_
 rintro e w3 ⟨rfl, hX2⟩
 clear hl
 replace HP := hid (HP.out.ext hX2)
 replace HX := hid (HX.out.trans hX2)
 clear hX2
 have p0 := HP.out.cell 0
 have p1 := HP.out.cell 1
 simp only [List.getElem?_toArray, List.getElem?_cons_zero, List.getElem?_cons_succ] at p0 p1
 go_wp2_with fail
 refine (residP_len S A n c ms tA m ct i _ (H.out.ext HX.out) hV (by omega)).mono ?_
 rintro e v1 ⟨rfl, hX2⟩
 clear p0 p1
 replace HP := hid (HP.out.ext hX2)
 replace HX := hid (HX.out.trans hX2)
 clear hX2
 go_upto_region 4 with (fail)
 have hX2 : Ext v1 (v1.alloc (.cells #[.bool false, .slice none 0 0, .slice none 0 0] 97)) := (Ext.refl _).alloc _
 have BX := hid (Blk.new v1 97 #[.bool false, .slice none 0 0, .slice none 0 0])
 generalize v1.heap.size = gBX at BX ⊢
 generalize v1.alloc (.cells #[.bool false, .slice none 0 0, .slice none 0 0] 97) = v1b at BX hX2 ⊢
 replace HP := hid (HP.out.ext hX2)
 replace HX := hid (HX.out.trans hX2)
 clear hX2

 have p0 := HP.out.cell 0
 have p1 := HP.out.cell 1
 simp only [List.getElem?_toArray, List.getElem?_cons_zero, List.getElem?_cons_succ] at p0 p1
 go_wp2_with fail
 refine (misfit_len S A n c ms tA m ct _ (H.out.ext HX.out) hV (by omega)).mono ?_
 rintro e v2 ⟨rfl, hX2⟩
 clear p0 p1
 replace HP := hid (HP.out.ext hX2)
 replace BX := hid (BX.out.ext hX2)
 replace HX := hid (HX.out.trans hX2)
 clear hX2
 go_upto_region 5 with (fail)
 have hX2 : Ext v2 (v2.alloc (.cells #[.bool false, .slice none 0 0, .slice none 0 0] 97)) := (Ext.refl _).alloc _
 have BY := hid (Blk.new v2 97 #[.bool false, .slice none 0 0, .slice none 0 0])
 generalize v2.heap.size = gBY at BY ⊢
 generalize v2.alloc (.cells #[.bool false, .slice none 0 0, .slice none 0 0] 97) = v2b at BY hX2 ⊢
 replace HP := hid (HP.out.ext hX2)
 replace BX := hid (BX.out.ext hX2)
 replace HX := hid (HX.out.trans hX2)
 clear hX2

 have p0 := HP.out.cell 0
 have p1 := HP.out.cell 1
 simp only [List.getElem?_toArray, List.getElem?_cons_zero, List.getElem?_cons_succ] at p0 p1
 go_wp2_with fail
 refine (slopesP_len S A n c ms tA m ct _ (H.out.ext HX.out) hV (by omega)).mono ?_
 rintro e v3 ⟨rfl, hX2⟩
 clear p0 p1
 replace HP := hid (HP.out.ext hX2)
 replace BX := hid (BX.out.ext hX2)
 replace BY := hid (BY.out.ext hX2)
 replace HX := hid (HX.out.trans hX2)
 clear hX2
 go_upto_region 6 with (fail)
 have p0 := HP.out.cell 0
 have p1 := HP.out.cell 1
 simp only [List.getElem?_toArray, List.getElem?_cons_zero, List.getElem?_cons_succ] at p0 p1
 go_wp2_with fail
 refine (shiftsR_no (S : Int) A tA n c m ct _ hne hmm).mono ?_
 rintro e v4 ⟨rfl, hX2⟩
 clear p0 p1
 replace HP := hid (HP.out.ext hX2)
 replace BX := hid (BX.out.ext hX2)
 replace BY := hid (BY.out.ext hX2)
 replace HX := hid (HX.out.trans hX2)
 clear hX2
 go_upto_region 7 with (fail)
 have p0 := HP.out.cell 0
 have p1 := HP.out.cell 1
 simp only [List.getElem?_toArray, List.getElem?_cons_zero, List.getElem?_cons_succ] at p0 p1
 have hv := valid5R_any (S : Int) A n c ms _ (H.out.ext HX.out)
 rw [vpB_iff.2 hV] at hv
 go_wp2_with fail
 refine hv.mono ?_
 rintro e v5 ⟨rfl, hX2⟩
 clear hv p0 p1
 replace HP := hid (HP.out.ext hX2)
 replace BX := hid (BX.out.ext hX2)
 replace BY := hid (BY.out.ext hX2)
 replace HX := hid (HX.out.trans hX2)
 clear hX2
 go_wp2_with fail
 refine (first_any _).mono ?_
 rintro e w19 ⟨rfl, hX⟩
 replace HX := hid (HX.out.trans hX)
 clear hX
 go_wp2
 go_ret
 exact ⟨rfl, HX.out⟩
set_option maxRecDepth 100000 in
set_option maxHeartbeats 16000000 in
theorem meas_ok_neg (_ : True) (A : Option Addr) (n c : Nat) (ms : List Mt) (tA : Option Addr) (m ct gt ot : Nat) (N : Nat → Bool × List Int × List Int) (i : Int) (w : World) (h : MsAt w A n ms) (hT : ShV w gt ot m N) (hA : 0 < m → tA = some ⟨gt, ot, none⟩) (hmm : m ≤ 9223372036854775807) (hhv : hvB (m : Int) ms = false) (hlg : ¬ (20 < m ∨ lgN m N)) (hV : VP (m : Int) ms) (hi : i < 0) :
  Calls Try.prog 9 #[.agg #[.int .i64 (m : Int), .slice A n c], .slice tA m ct, .int .i64 i] w (fun e w' => e = .returned (.bool true) ∧ Ext w w') := by
 have H := hid h
 have HT := hid hT
 have HX := hid ((Ext.refl w).alloc (.cells #[.int .i64 (m : Int), .slice A n c] 76))
 have HP := hid (Blk.new w 76 #[.int .i64 (m : Int), .slice A n c])
 clear h hT
 go_enter Try.func9, Try.ntmps9
 go_upto_region 1 with (fail)
 generalize w.alloc (.cells #[.int .i64 (m : Int), .slice A n c] 76) = w1 at HX HP ⊢
 have p0 := HP.out.cell 0
 have p1 := HP.out.cell 1
 simp only [List.getElem?_toArray, List.getElem?_cons_zero, List.getElem?_cons_succ] at p0 p1
 have hh := heavy_any5 (m : Int) A n c ms _ (H.out.ext HX.out)
 rw [hhv] at hh
 go_wp2_with fail
 refine hh.mono ?_
 rintro e w2 ⟨rfl, hX2⟩
 clear hh p0 p1
 replace HP := hid (HP.out.ext hX2)
 replace HX := hid (HX.out.trans hX2)
 clear hX2
 have hl := long5_any m ct gt ot tA N false _ (HT.out.ext HX.out) hA hmm (by simp [hlg])
 go_wp2_with fail
 refine hl.mono ?_
 rintro e w3 ⟨rfl, hX2⟩
 clear hl
 replace HP := hid (HP.out.ext hX2)
 replace HX := hid (HX.out.trans hX2)
 clear hX2
 have hm1 : 0 < m := by have := hV.1; omega
 have hm4 : m ≤ 4 := by have := ((hvB_iff.1 hhv).2 hV).1; omega
 have hAe := hA hm1
 subst hAe
 have HG := hid (shv_good HT.out (fun q => hlg (.inr q)))
 have HTM := hid (tame_of hm4 HG.out.2)
 have HFU := hid (fitU_of HG.out.2)
 have HVP := hid hV
 have hn64 : n ≤ 64 := by have := hV.2.2.1; have := H.out.1; omega
 clear hV hA hhv
 have p0 := HP.out.cell 0
 have p1 := HP.out.cell 1
 simp only [List.getElem?_toArray, List.getElem?_cons_zero, List.getElem?_cons_succ] at p0 p1
 go_wp2_with fail
 refine (residP_neg m A n c ms gt ot ct (valU N) i _ (H.out.ext HX.out) HVP.out (HG.out.1.ext growsG HX.out) hi).mono ?_
 rintro e v1 ⟨rfl, hX2⟩
 clear p0 p1
 replace HP := hid (HP.out.ext hX2)
 replace HX := hid (HX.out.trans hX2)
 clear hX2
 go_upto_region 4 with (fail)
 have hX2 : Ext v1 (v1.alloc (.cells #[.bool false, .slice none 0 0, .slice none 0 0] 97)) := (Ext.refl _).alloc _
 have BX := hid (Blk.new v1 97 #[.bool false, .slice none 0 0, .slice none 0 0])
 generalize v1.heap.size = gBX at BX ⊢
 generalize v1.alloc (.cells #[.bool false, .slice none 0 0, .slice none 0 0] 97) = v1b at BX hX2 ⊢
 replace HP := hid (HP.out.ext hX2)
 replace HX := hid (HX.out.trans hX2)
 clear hX2

 have p0 := HP.out.cell 0
 have p1 := HP.out.cell 1
 simp only [List.getElem?_toArray, List.getElem?_cons_zero, List.getElem?_cons_succ] at p0 p1
 go_wp2_with fail
 refine (misfit_ok m A n c ms gt ot ct (valU N) _ (H.out.ext HX.out) HVP.out (HG.out.1.ext growsG HX.out) (misfit_fit HVP.out.2.2.2 HVP.out.2.2.1 (by omega) HTM.out)).mono ?_
 rintro e v2 ⟨v, rfl, hv, hX2⟩
 clear p0 p1
 replace HP := hid (HP.out.ext hX2)
 replace BX := hid (BX.out.ext hX2)
 replace HX := hid (HX.out.trans hX2)
 clear hX2
 obtain ⟨s8, A8, l8, c8, B8, m8, k8, rfl⟩ := RatC.open hv
 have HD := hid hv
 clear hv
 go_upto_region 5 with (fail)
 have hX2 : Ext v2 (v2.alloc (.cells #[.bool s8, .slice A8 l8 c8, .slice B8 m8 k8] 97)) := (Ext.refl _).alloc _
 have BY := hid (Blk.new v2 97 #[.bool s8, .slice A8 l8 c8, .slice B8 m8 k8])
 generalize v2.heap.size = gBY at BY ⊢
 generalize v2.alloc (.cells #[.bool s8, .slice A8 l8 c8, .slice B8 m8 k8] 97) = v2b at BY hX2 ⊢
 replace HD := hid (RatC.ext HD.out hX2)
 replace HP := hid (HP.out.ext hX2)
 replace BX := hid (BX.out.ext hX2)
 replace HX := hid (HX.out.trans hX2)
 clear hX2
 have p0 := HP.out.cell 0
 have p1 := HP.out.cell 1
 simp only [List.getElem?_toArray, List.getElem?_cons_zero, List.getElem?_cons_succ] at p0 p1
 go_wp2_with fail
 refine (slopesP_ok m A n c ms (3 * m) gt ot ct (valU N) _ (H.out.ext HX.out) HVP.out rfl (HG.out.1.ext growsG HX.out) HTM.out).mono ?_
 rintro e v3 ⟨v, rfl, hv, hX2⟩
 clear p0 p1
 obtain ⟨Az, cz, hAz⟩ := hv.slice
 subst hAz
 have HZ := hid hv
 clear hv
 replace HD := hid (RatC.ext HD.out hX2)
 replace HP := hid (HP.out.ext hX2)
 replace BX := hid (BX.out.ext hX2)
 replace BY := hid (BY.out.ext hX2)
 replace HX := hid (HX.out.trans hX2)
 clear hX2
 go_upto_region 6 with (fail)
 have p0 := HP.out.cell 0
 have p1 := HP.out.cell 1
 simp only [List.getElem?_toArray, List.getElem?_cons_zero, List.getElem?_cons_succ] at p0 p1
 go_wp2_with fail
 refine (shiftsR_yes m n c gt ot ct A (some ⟨gt, ot, none⟩) (valU N) _ (HG.out.1.ext growsG HX.out) (fun _ => rfl) (by omega)).mono ?_
 rintro e v4 ⟨v, rfl, hv, hX2⟩
 clear p0 p1
 obtain ⟨A9, c9, hA9⟩ := hv.slice
 subst hA9
 obtain ⟨gs, hgs, _, hgl, hsh⟩ := hv.shp hm1
 subst hgs
 have HSH := hid hsh
 have HGL := hid hgl
 clear hv hsh hgl
 replace HD := hid (RatC.ext HD.out hX2)
 replace HZ := hid (RatR.ext HZ.out hX2)
 replace HP := hid (HP.out.ext hX2)
 replace BX := hid (BX.out.ext hX2)
 replace BY := hid (BY.out.ext hX2)
 replace HX := hid (HX.out.trans hX2)
 clear hX2
 go_upto_region 7 with (fail)
 have p0 := HP.out.cell 0
 have p1 := HP.out.cell 1
 simp only [List.getElem?_toArray, List.getElem?_cons_zero, List.getElem?_cons_succ] at p0 p1
 have hv5 := valid5R_any (m : Int) A n c ms _ (H.out.ext HX.out)
 rw [vpB_iff.2 HVP.out] at hv5
 go_wp2_with fail
 refine hv5.mono ?_
 rintro e v5 ⟨rfl, hX2⟩
 clear hv5 p0 p1
 replace HD := hid (RatC.ext HD.out hX2)
 replace HZ := hid (RatR.ext HZ.out hX2)
 replace HSH := hid (HSH.out.ext growsQ hX2)
 replace HGL := hid (Nat.lt_of_lt_of_le HGL.out hX2.size)
 replace HP := hid (HP.out.ext hX2)
 replace BX := hid (BX.out.ext hX2)
 replace BY := hid (BY.out.ext hX2)
 replace HX := hid (HX.out.trans hX2)
 clear hX2
 have q0 : decide (i < 0) = true := decide_eq_true hi
 have p0 := HP.out.cell 0
 have p1 := HP.out.cell 1
 simp only [List.getElem?_toArray, List.getElem?_cons_zero, List.getElem?_cons_succ] at p0 p1
 go_upto_region 19 with (fail)
 clear p0 p1

 have p0 := HP.out.cell 0
 have p1 := HP.out.cell 1
 simp only [List.getElem?_toArray, List.getElem?_cons_zero, List.getElem?_cons_succ] at p0 p1
 go_wp2_with fail
 refine (slopesR_any m n c gs 0 c9 8 A ms (valU N) _ (H.out.ext HX.out) HVP.out HSH.out HFU.out (by omega) HGL.out).mono ?_
 rintro e w7 ⟨v, rfl, hv, hX2⟩
 clear p0 p1
 obtain ⟨Aw, cw, hAw⟩ := hv.slice
 subst hAw
 have HW := hid hv
 clear hv
 replace HD := hid (RatC.ext HD.out hX2)
 replace HZ := hid (RatR.ext HZ.out hX2)
 replace HSH := hid (HSH.out.ext growsQ hX2)
 replace HGL := hid (Nat.lt_of_lt_of_le HGL.out hX2.size)
 replace HP := hid (HP.out.ext hX2)
 replace BX := hid (BX.out.ext hX2)
 replace BY := hid (BY.out.ext hX2)
 replace HX := hid (HX.out.trans hX2)
 clear hX2
 go_upto_region 20 with (fail)
 have p0 := HP.out.cell 0
 have p1 := HP.out.cell 1
 simp only [List.getElem?_toArray, List.getElem?_cons_zero, List.getElem?_cons_succ] at p0 p1
 obtain ⟨nn, hnn⟩ : ∃ nn, 3 * m = nn := ⟨_, rfl⟩
 have hn24 : nn ≤ 24 := by omega
 have HMF := hid (misfit_fit HVP.out.2.2.2 HVP.out.2.2.1 (by omega) HTM.out)
 rw [hnn] at HZ HW HTM ⊢
 clear hnn
 refine meas_r20 gBY w.heap.size gs c9 m n c 8 nn cz cw A Az Aw ms (valU N) s8 A8 B8 l8 c8 m8 k8 w7 (BY.out.cell 0) (BY.out.cell 1) (BY.out.cell 2) p0 p1 (H.out.ext HX.out) HVP.out HSH.out HFU.out (by omega) HGL.out HD.out HMF.out _ _ (by simp) rfl rfl rfl rfl rfl rfl rfl ?_
 rintro xv0 xv1 xv2 xv3 xv4 xv5 xv6 xv7 xv8 xv9 xv10 xv11 xv12 xv13 xv14 xv15 xv16 xv17 xv18 xv19 xv20 w8 rfl rfl rfl rfl rfl rfl rfl rfl rfl rfl _ rfl rfl rfl rfl rfl rfl rfl rfl rfl rfl hX2
 simp only [rops, Try.f9, regOf, Option.bind_some, Nat.reduceBEq, if_true, if_false, Bool.false_eq_true, Option.getD_some, List.drop_succ_cons, List.drop_zero]
 simp only [Act.put, List.setIfInBounds_toArray, List.set_cons_succ, List.set_cons_zero]
 replace HW := hid (HW.out.ext hX2)
 replace HD := hid (RatC.ext HD.out hX2)
 replace HZ := hid (RatR.ext HZ.out hX2)
 replace HSH := hid (HSH.out.ext growsQ hX2)
 replace HGL := hid (Nat.lt_of_lt_of_le HGL.out hX2.size)
 replace HP := hid (HP.out.ext hX2)
 replace BX := hid (BX.out.ext hX2)
 replace BY := hid (BY.out.ext hX2)
 replace HX := hid (HX.out.trans hX2)
 clear hX2
 clear p0 p1
 go_wp2_with fail
 go_loopg [17] nn (fun fu iv wr => ∃ k : Nat, fu = nn - k ∧ k ≤ nn ∧ iv = .int .i64 (k : Int) ∧ Hid (Ext w8 wr))
 case atStart => exact ⟨0, by omega, by omega, rfl, hid (Ext.refl _)⟩
 case round =>
  obtain ⟨k, rfl, hk, rfl, HXL⟩ := hrel
  by_cases hkn : k < nn
  ·
   have q1 : decide ((k : Int) < (nn : Int)) = true := decide_eq_true (by omega)
   have q2 : decide (k < nn) = true := decide_eq_true hkn
   obtain ⟨gz, s1, A1, l1, c1, B1, m1, k1, hAz, x0, x1, x2, hx⟩ := (HZ.out.ext HXL.out).get hkn
   obtain ⟨gw, hAw, _, s2, A2, l2, c2, B2, m2, k2, y0, y1, y2, hy⟩ := (HW.out.ext HXL.out).get hkn
   subst hAz hAw
   go_upto_region 25 with (fail)
   refine meas_r25 gz gw nn cz cw k (slope nn ms (valU N) k) s1 A1 B1 l1 c1 m1 k1 s2 A2 B2 l2 c2 m2 k2 wr x0 x1 x2 y0 y1 y2 hkn (by omega) hx hy (slope_fit HVP.out.2.2.2 HVP.out.2.2.1 hn24 HTM.out k) _ _ (by simp) rfl rfl rfl ?_
   rintro xv0 xv1 xv2 xv3 xv4 xv5 xv6 xv7 xv8 xv9 w9 rfl rfl rfl rfl rfl rfl rfl rfl rfl rfl hX2
   simp only [rops, Try.f9, regOf, Option.bind_some, Nat.reduceBEq, if_true, if_false, Bool.false_eq_true, Option.getD_some, List.drop_succ_cons, List.drop_zero]
   simp only [Act.put, List.setIfInBounds_toArray, List.set_cons_succ, List.set_cons_zero]
   replace HXL := hid (HXL.out.trans hX2)
   clear hX2 x0 x1 x2 y0 y1 y2 hx hy
   go_wp2
   go_roundg (nn - (k + 1))
   case rel => exact ⟨k + 1, rfl, by omega, by go_num, HXL⟩
   case measure => omega
  ·
   obtain rfl : nn = k := by omega
   have q1 : decide ((nn : Int) < (nn : Int)) = false := by simp
   have q2 : decide (nn < nn) = false := by simp
   replace HX := hid (HX.out.trans HXL.out)
   go_wp2_with fail
   refine (first_any _).mono ?_
   rintro e w19 ⟨rfl, hX⟩
   replace HX := hid (HX.out.trans hX)
   clear hX
   go_wp2
   go_ret
   exact ⟨rfl, HX.out⟩
set_option maxRecDepth 100000 in
set_option maxHeartbeats 16000000 in
theorem meas_ok_big (kk : Nat) (A : Option Addr) (n c : Nat) (ms : List Mt) (tA : Option Addr) (m ct gt ot : Nat) (N : Nat → Bool × List Int × List Int) (i : Int) (w : World) (h : MsAt w A n ms) (hT : ShV w gt ot m N) (hA : 0 < m → tA = some ⟨gt, ot, none⟩) (hmm : m ≤ 9223372036854775807) (hhv : hvB (m : Int) ms = false) (hlg : ¬ (20 < m ∨ lgN m N)) (hV : VP (m : Int) ms) (hik : i = (kk : Int)) (hkn : n ≤ kk) :
  Calls Try.prog 9 #[.agg #[.int .i64 (m : Int), .slice A n c], .slice tA m ct, .int .i64 i] w (fun e w' => e = .returned (.bool true) ∧ Ext w w') := by
 have H := hid h
 have HT := hid hT
 have HX := hid ((Ext.refl w).alloc (.cells #[.int .i64 (m : Int), .slice A n c] 76))
 have HP := hid (Blk.new w 76 #[.int .i64 (m : Int), .slice A n c])
 clear h hT
 go_enter Try.func9, Try.ntmps9
 go_upto_region 1 with (fail)
 generalize w.alloc (.cells #[.int .i64 (m : Int), .slice A n c] 76) = w1 at HX HP ⊢
 have p0 := HP.out.cell 0
 have p1 := HP.out.cell 1
 simp only [List.getElem?_toArray, List.getElem?_cons_zero, List.getElem?_cons_succ] at p0 p1
 have hh := heavy_any5 (m : Int) A n c ms _ (H.out.ext HX.out)
 rw [hhv] at hh
 go_wp2_with fail
 refine hh.mono ?_
 rintro e w2 ⟨rfl, hX2⟩
 clear hh p0 p1
 replace HP := hid (HP.out.ext hX2)
 replace HX := hid (HX.out.trans hX2)
 clear hX2
 have hl := long5_any m ct gt ot tA N false _ (HT.out.ext HX.out) hA hmm (by simp [hlg])
 go_wp2_with fail
 refine hl.mono ?_
 rintro e w3 ⟨rfl, hX2⟩
 clear hl
 replace HP := hid (HP.out.ext hX2)
 replace HX := hid (HX.out.trans hX2)
 clear hX2
 have hm1 : 0 < m := by have := hV.1; omega
 have hm4 : m ≤ 4 := by have := ((hvB_iff.1 hhv).2 hV).1; omega
 have hAe := hA hm1
 subst hAe
 have HG := hid (shv_good HT.out (fun q => hlg (.inr q)))
 have HTM := hid (tame_of hm4 HG.out.2)
 have HFU := hid (fitU_of HG.out.2)
 have HVP := hid hV
 have hn64 : n ≤ 64 := by have := hV.2.2.1; have := H.out.1; omega
 clear hV hA hhv
 subst hik
 have p0 := HP.out.cell 0
 have p1 := HP.out.cell 1
 simp only [List.getElem?_toArray, List.getElem?_cons_zero, List.getElem?_cons_succ] at p0 p1
 go_wp2_with fail
 refine (residP_big m A n c ms gt ot ct (valU N) kk _ (H.out.ext HX.out) HVP.out (HG.out.1.ext growsG HX.out) hkn).mono ?_
 rintro e v1 ⟨rfl, hX2⟩
 clear p0 p1
 replace HP := hid (HP.out.ext hX2)
 replace HX := hid (HX.out.trans hX2)
 clear hX2
 go_upto_region 4 with (fail)
 have hX2 : Ext v1 (v1.alloc (.cells #[.bool false, .slice none 0 0, .slice none 0 0] 97)) := (Ext.refl _).alloc _
 have BX := hid (Blk.new v1 97 #[.bool false, .slice none 0 0, .slice none 0 0])
 generalize v1.heap.size = gBX at BX ⊢
 generalize v1.alloc (.cells #[.bool false, .slice none 0 0, .slice none 0 0] 97) = v1b at BX hX2 ⊢
 replace HP := hid (HP.out.ext hX2)
 replace HX := hid (HX.out.trans hX2)
 clear hX2

 have p0 := HP.out.cell 0
 have p1 := HP.out.cell 1
 simp only [List.getElem?_toArray, List.getElem?_cons_zero, List.getElem?_cons_succ] at p0 p1
 go_wp2_with fail
 refine (misfit_ok m A n c ms gt ot ct (valU N) _ (H.out.ext HX.out) HVP.out (HG.out.1.ext growsG HX.out) (misfit_fit HVP.out.2.2.2 HVP.out.2.2.1 (by omega) HTM.out)).mono ?_
 rintro e v2 ⟨v, rfl, hv, hX2⟩
 clear p0 p1
 replace HP := hid (HP.out.ext hX2)
 replace BX := hid (BX.out.ext hX2)
 replace HX := hid (HX.out.trans hX2)
 clear hX2
 obtain ⟨s8, A8, l8, c8, B8, m8, k8, rfl⟩ := RatC.open hv
 have HD := hid hv
 clear hv
 go_upto_region 5 with (fail)
 have hX2 : Ext v2 (v2.alloc (.cells #[.bool s8, .slice A8 l8 c8, .slice B8 m8 k8] 97)) := (Ext.refl _).alloc _
 have BY := hid (Blk.new v2 97 #[.bool s8, .slice A8 l8 c8, .slice B8 m8 k8])
 generalize v2.heap.size = gBY at BY ⊢
 generalize v2.alloc (.cells #[.bool s8, .slice A8 l8 c8, .slice B8 m8 k8] 97) = v2b at BY hX2 ⊢
 replace HD := hid (RatC.ext HD.out hX2)
 replace HP := hid (HP.out.ext hX2)
 replace BX := hid (BX.out.ext hX2)
 replace HX := hid (HX.out.trans hX2)
 clear hX2
 have p0 := HP.out.cell 0
 have p1 := HP.out.cell 1
 simp only [List.getElem?_toArray, List.getElem?_cons_zero, List.getElem?_cons_succ] at p0 p1
 go_wp2_with fail
 refine (slopesP_ok m A n c ms (3 * m) gt ot ct (valU N) _ (H.out.ext HX.out) HVP.out rfl (HG.out.1.ext growsG HX.out) HTM.out).mono ?_
 rintro e v3 ⟨v, rfl, hv, hX2⟩
 clear p0 p1
 obtain ⟨Az, cz, hAz⟩ := hv.slice
 subst hAz
 have HZ := hid hv
 clear hv
 replace HD := hid (RatC.ext HD.out hX2)
 replace HP := hid (HP.out.ext hX2)
 replace BX := hid (BX.out.ext hX2)
 replace BY := hid (BY.out.ext hX2)
 replace HX := hid (HX.out.trans hX2)
 clear hX2
 go_upto_region 6 with (fail)
 have p0 := HP.out.cell 0
 have p1 := HP.out.cell 1
 simp only [List.getElem?_toArray, List.getElem?_cons_zero, List.getElem?_cons_succ] at p0 p1
 go_wp2_with fail
 refine (shiftsR_yes m n c gt ot ct A (some ⟨gt, ot, none⟩) (valU N) _ (HG.out.1.ext growsG HX.out) (fun _ => rfl) (by omega)).mono ?_
 rintro e v4 ⟨v, rfl, hv, hX2⟩
 clear p0 p1
 obtain ⟨A9, c9, hA9⟩ := hv.slice
 subst hA9
 obtain ⟨gs, hgs, _, hgl, hsh⟩ := hv.shp hm1
 subst hgs
 have HSH := hid hsh
 have HGL := hid hgl
 clear hv hsh hgl
 replace HD := hid (RatC.ext HD.out hX2)
 replace HZ := hid (RatR.ext HZ.out hX2)
 replace HP := hid (HP.out.ext hX2)
 replace BX := hid (BX.out.ext hX2)
 replace BY := hid (BY.out.ext hX2)
 replace HX := hid (HX.out.trans hX2)
 clear hX2
 go_upto_region 7 with (fail)
 have p0 := HP.out.cell 0
 have p1 := HP.out.cell 1
 simp only [List.getElem?_toArray, List.getElem?_cons_zero, List.getElem?_cons_succ] at p0 p1
 have hv5 := valid5R_any (m : Int) A n c ms _ (H.out.ext HX.out)
 rw [vpB_iff.2 HVP.out] at hv5
 go_wp2_with fail
 refine hv5.mono ?_
 rintro e v5 ⟨rfl, hX2⟩
 clear hv5 p0 p1
 replace HD := hid (RatC.ext HD.out hX2)
 replace HZ := hid (RatR.ext HZ.out hX2)
 replace HSH := hid (HSH.out.ext growsQ hX2)
 replace HGL := hid (Nat.lt_of_lt_of_le HGL.out hX2.size)
 replace HP := hid (HP.out.ext hX2)
 replace BX := hid (BX.out.ext hX2)
 replace BY := hid (BY.out.ext hX2)
 replace HX := hid (HX.out.trans hX2)
 clear hX2
 have q0 : decide ((kk : Int) < 0) = false := decide_eq_false (by omega)
 have q1 : decide (n ≤ kk) = true := decide_eq_true hkn
 have q1b : decide ((n : Int) ≤ (kk : Int)) = true := decide_eq_true (by omega)
 have p0 := HP.out.cell 0
 have p1 := HP.out.cell 1
 simp only [List.getElem?_toArray, List.getElem?_cons_zero, List.getElem?_cons_succ] at p0 p1
 go_upto_region 19 with (fail)
 clear p0 p1

 have p0 := HP.out.cell 0
 have p1 := HP.out.cell 1
 simp only [List.getElem?_toArray, List.getElem?_cons_zero, List.getElem?_cons_succ] at p0 p1
 go_wp2_with fail
 refine (slopesR_any m n c gs 0 c9 8 A ms (valU N) _ (H.out.ext HX.out) HVP.out HSH.out HFU.out (by omega) HGL.out).mono ?_
 rintro e w7 ⟨v, rfl, hv, hX2⟩
 clear p0 p1
 obtain ⟨Aw, cw, hAw⟩ := hv.slice
 subst hAw
 have HW := hid hv
 clear hv
 replace HD := hid (RatC.ext HD.out hX2)
 replace HZ := hid (RatR.ext HZ.out hX2)
 replace HSH := hid (HSH.out.ext growsQ hX2)
 replace HGL := hid (Nat.lt_of_lt_of_le HGL.out hX2.size)
 replace HP := hid (HP.out.ext hX2)
 replace BX := hid (BX.out.ext hX2)
 replace BY := hid (BY.out.ext hX2)
 replace HX := hid (HX.out.trans hX2)
 clear hX2
 go_upto_region 20 with (fail)
 have p0 := HP.out.cell 0
 have p1 := HP.out.cell 1
 simp only [List.getElem?_toArray, List.getElem?_cons_zero, List.getElem?_cons_succ] at p0 p1
 obtain ⟨nn, hnn⟩ : ∃ nn, 3 * m = nn := ⟨_, rfl⟩
 have hn24 : nn ≤ 24 := by omega
 have HMF := hid (misfit_fit HVP.out.2.2.2 HVP.out.2.2.1 (by omega) HTM.out)
 rw [hnn] at HZ HW HTM ⊢
 clear hnn
 refine meas_r20 gBY w.heap.size gs c9 m n c 8 nn cz cw A Az Aw ms (valU N) s8 A8 B8 l8 c8 m8 k8 w7 (BY.out.cell 0) (BY.out.cell 1) (BY.out.cell 2) p0 p1 (H.out.ext HX.out) HVP.out HSH.out HFU.out (by omega) HGL.out HD.out HMF.out _ _ (by simp) rfl rfl rfl rfl rfl rfl rfl ?_
 rintro xv0 xv1 xv2 xv3 xv4 xv5 xv6 xv7 xv8 xv9 xv10 xv11 xv12 xv13 xv14 xv15 xv16 xv17 xv18 xv19 xv20 w8 rfl rfl rfl rfl rfl rfl rfl rfl rfl rfl _ rfl rfl rfl rfl rfl rfl rfl rfl rfl rfl hX2
 simp only [rops, Try.f9, regOf, Option.bind_some, Nat.reduceBEq, if_true, if_false, Bool.false_eq_true, Option.getD_some, List.drop_succ_cons, List.drop_zero]
 simp only [Act.put, List.setIfInBounds_toArray, List.set_cons_succ, List.set_cons_zero]
 replace HW := hid (HW.out.ext hX2)
 replace HD := hid (RatC.ext HD.out hX2)
 replace HZ := hid (RatR.ext HZ.out hX2)
 replace HSH := hid (HSH.out.ext growsQ hX2)
 replace HGL := hid (Nat.lt_of_lt_of_le HGL.out hX2.size)
 replace HP := hid (HP.out.ext hX2)
 replace BX := hid (BX.out.ext hX2)
 replace BY := hid (BY.out.ext hX2)
 replace HX := hid (HX.out.trans hX2)
 clear hX2
 clear p0 p1
 go_wp2_with fail
 go_loopg [17] nn (fun fu iv wr => ∃ k : Nat, fu = nn - k ∧ k ≤ nn ∧ iv = .int .i64 (k : Int) ∧ Hid (Ext w8 wr))
 case atStart => exact ⟨0, by omega, by omega, rfl, hid (Ext.refl _)⟩
 case round =>
  obtain ⟨k, rfl, hk, rfl, HXL⟩ := hrel
  by_cases hkn : k < nn
  ·
   have q1 : decide ((k : Int) < (nn : Int)) = true := decide_eq_true (by omega)
   have q2 : decide (k < nn) = true := decide_eq_true hkn
   obtain ⟨gz, s1, A1, l1, c1, B1, m1, k1, hAz, x0, x1, x2, hx⟩ := (HZ.out.ext HXL.out).get hkn
   obtain ⟨gw, hAw, _, s2, A2, l2, c2, B2, m2, k2, y0, y1, y2, hy⟩ := (HW.out.ext HXL.out).get hkn
   subst hAz hAw
   go_upto_region 25 with (fail)
   refine meas_r25 gz gw nn cz cw k (slope nn ms (valU N) k) s1 A1 B1 l1 c1 m1 k1 s2 A2 B2 l2 c2 m2 k2 wr x0 x1 x2 y0 y1 y2 hkn (by omega) hx hy (slope_fit HVP.out.2.2.2 HVP.out.2.2.1 hn24 HTM.out k) _ _ (by simp) rfl rfl rfl ?_
   rintro xv0 xv1 xv2 xv3 xv4 xv5 xv6 xv7 xv8 xv9 w9 rfl rfl rfl rfl rfl rfl rfl rfl rfl rfl hX2
   simp only [rops, Try.f9, regOf, Option.bind_some, Nat.reduceBEq, if_true, if_false, Bool.false_eq_true, Option.getD_some, List.drop_succ_cons, List.drop_zero]
   simp only [Act.put, List.setIfInBounds_toArray, List.set_cons_succ, List.set_cons_zero]
   replace HXL := hid (HXL.out.trans hX2)
   clear hX2 x0 x1 x2 y0 y1 y2 hx hy
   go_wp2
   go_roundg (nn - (k + 1))
   case rel => exact ⟨k + 1, rfl, by omega, by go_num, HXL⟩
   case measure => omega
  ·
   obtain rfl : nn = k := by omega
   have q1 : decide ((nn : Int) < (nn : Int)) = false := by simp
   have q2 : decide (nn < nn) = false := by simp
   replace HX := hid (HX.out.trans HXL.out)
   go_wp2_with fail
   refine (first_any _).mono ?_
   rintro e w19 ⟨rfl, hX⟩
   replace HX := hid (HX.out.trans hX)
   clear hX
   go_wp2
   go_ret
   exact ⟨rfl, HX.out⟩
set_option maxRecDepth 100000 in
set_option maxHeartbeats 16000000 in
theorem meas_ok_ok (kk : Nat) (A : Option Addr) (n c : Nat) (ms : List Mt) (tA : Option Addr) (m ct gt ot : Nat) (N : Nat → Bool × List Int × List Int) (i : Int) (w : World) (h : MsAt w A n ms) (hT : ShV w gt ot m N) (hA : 0 < m → tA = some ⟨gt, ot, none⟩) (hmm : m ≤ 9223372036854775807) (hhv : hvB (m : Int) ms = false) (hlg : ¬ (20 < m ∨ lgN m N)) (hV : VP (m : Int) ms) (hik : i = (kk : Int)) (hkn : kk < n) :
  Calls Try.prog 9 #[.agg #[.int .i64 (m : Int), .slice A n c], .slice tA m ct, .int .i64 i] w (fun e w' => e = .returned (.bool true) ∧ Ext w w') := by
 have H := hid h
 have HT := hid hT
 have HX := hid ((Ext.refl w).alloc (.cells #[.int .i64 (m : Int), .slice A n c] 76))
 have HP := hid (Blk.new w 76 #[.int .i64 (m : Int), .slice A n c])
 clear h hT
 go_enter Try.func9, Try.ntmps9
 go_upto_region 1 with (fail)
 generalize w.alloc (.cells #[.int .i64 (m : Int), .slice A n c] 76) = w1 at HX HP ⊢
 have p0 := HP.out.cell 0
 have p1 := HP.out.cell 1
 simp only [List.getElem?_toArray, List.getElem?_cons_zero, List.getElem?_cons_succ] at p0 p1
 have hh := heavy_any5 (m : Int) A n c ms _ (H.out.ext HX.out)
 rw [hhv] at hh
 go_wp2_with fail
 refine hh.mono ?_
 rintro e w2 ⟨rfl, hX2⟩
 clear hh p0 p1
 replace HP := hid (HP.out.ext hX2)
 replace HX := hid (HX.out.trans hX2)
 clear hX2
 have hl := long5_any m ct gt ot tA N false _ (HT.out.ext HX.out) hA hmm (by simp [hlg])
 go_wp2_with fail
 refine hl.mono ?_
 rintro e w3 ⟨rfl, hX2⟩
 clear hl
 replace HP := hid (HP.out.ext hX2)
 replace HX := hid (HX.out.trans hX2)
 clear hX2
 have hm1 : 0 < m := by have := hV.1; omega
 have hm4 : m ≤ 4 := by have := ((hvB_iff.1 hhv).2 hV).1; omega
 have hAe := hA hm1
 subst hAe
 have HG := hid (shv_good HT.out (fun q => hlg (.inr q)))
 have HTM := hid (tame_of hm4 HG.out.2)
 have HFU := hid (fitU_of HG.out.2)
 have HVP := hid hV
 have hn64 : n ≤ 64 := by have := hV.2.2.1; have := H.out.1; omega
 clear hV hA hhv
 subst hik
 obtain ⟨mt, hmt⟩ : ∃ mt, ms[kk]? = some mt := ⟨_, List.getElem?_eq_getElem (by rw [H.out.1]; exact hkn)⟩
 have HMT := hid hmt
 have HVM := hid (HVP.out.2.2.2 _ (List.mem_of_getElem? hmt))
 clear hmt
 have p0 := HP.out.cell 0
 have p1 := HP.out.cell 1
 simp only [List.getElem?_toArray, List.getElem?_cons_zero, List.getElem?_cons_succ] at p0 p1
 go_wp2_with fail
 refine (residP_ok m A n c ms gt ot ct (valU N) kk mt _ (H.out.ext HX.out) HVP.out (HG.out.1.ext growsG HX.out) HMT.out (res_fit HVM.out (by omega) HTM.out)).mono ?_
 rintro e v1 ⟨v, rfl, hv, hX2⟩
 clear p0 p1
 replace HP := hid (HP.out.ext hX2)
 replace HX := hid (HX.out.trans hX2)
 clear hX2
 obtain ⟨s7, A7, l7, c7, B7, m7, k7, rfl⟩ := RatC.open hv
 have HC := hid hv
 clear hv
 go_upto_region 4 with (fail)
 have hX2 : Ext v1 (v1.alloc (.cells #[.bool s7, .slice A7 l7 c7, .slice B7 m7 k7] 97)) := (Ext.refl _).alloc _
 have BX := hid (Blk.new v1 97 #[.bool s7, .slice A7 l7 c7, .slice B7 m7 k7])
 generalize v1.heap.size = gBX at BX ⊢
 generalize v1.alloc (.cells #[.bool s7, .slice A7 l7 c7, .slice B7 m7 k7] 97) = v1b at BX hX2 ⊢
 replace HC := hid (RatC.ext HC.out hX2)
 replace HP := hid (HP.out.ext hX2)
 replace HX := hid (HX.out.trans hX2)
 clear hX2
 have p0 := HP.out.cell 0
 have p1 := HP.out.cell 1
 simp only [List.getElem?_toArray, List.getElem?_cons_zero, List.getElem?_cons_succ] at p0 p1
 go_wp2_with fail
 refine (misfit_ok m A n c ms gt ot ct (valU N) _ (H.out.ext HX.out) HVP.out (HG.out.1.ext growsG HX.out) (misfit_fit HVP.out.2.2.2 HVP.out.2.2.1 (by omega) HTM.out)).mono ?_
 rintro e v2 ⟨v, rfl, hv, hX2⟩
 clear p0 p1
 replace HC := hid (RatC.ext HC.out hX2)
 replace HP := hid (HP.out.ext hX2)
 replace BX := hid (BX.out.ext hX2)
 replace HX := hid (HX.out.trans hX2)
 clear hX2
 obtain ⟨s8, A8, l8, c8, B8, m8, k8, rfl⟩ := RatC.open hv
 have HD := hid hv
 clear hv
 go_upto_region 5 with (fail)
 have hX2 : Ext v2 (v2.alloc (.cells #[.bool s8, .slice A8 l8 c8, .slice B8 m8 k8] 97)) := (Ext.refl _).alloc _
 have BY := hid (Blk.new v2 97 #[.bool s8, .slice A8 l8 c8, .slice B8 m8 k8])
 generalize v2.heap.size = gBY at BY ⊢
 generalize v2.alloc (.cells #[.bool s8, .slice A8 l8 c8, .slice B8 m8 k8] 97) = v2b at BY hX2 ⊢
 replace HD := hid (RatC.ext HD.out hX2)
 replace HC := hid (RatC.ext HC.out hX2)
 replace HP := hid (HP.out.ext hX2)
 replace BX := hid (BX.out.ext hX2)
 replace HX := hid (HX.out.trans hX2)
 clear hX2
 have p0 := HP.out.cell 0
 have p1 := HP.out.cell 1
 simp only [List.getElem?_toArray, List.getElem?_cons_zero, List.getElem?_cons_succ] at p0 p1
 go_wp2_with fail
 refine (slopesP_ok m A n c ms (3 * m) gt ot ct (valU N) _ (H.out.ext HX.out) HVP.out rfl (HG.out.1.ext growsG HX.out) HTM.out).mono ?_
 rintro e v3 ⟨v, rfl, hv, hX2⟩
 clear p0 p1
 obtain ⟨Az, cz, hAz⟩ := hv.slice
 subst hAz
 have HZ := hid hv
 clear hv
 replace HD := hid (RatC.ext HD.out hX2)
 replace HC := hid (RatC.ext HC.out hX2)
 replace HP := hid (HP.out.ext hX2)
 replace BX := hid (BX.out.ext hX2)
 replace BY := hid (BY.out.ext hX2)
 replace HX := hid (HX.out.trans hX2)
 clear hX2
 go_upto_region 6 with (fail)
 have p0 := HP.out.cell 0
 have p1 := HP.out.cell 1
 simp only [List.getElem?_toArray, List.getElem?_cons_zero, List.getElem?_cons_succ] at p0 p1
 go_wp2_with fail
 refine (shiftsR_yes m n c gt ot ct A (some ⟨gt, ot, none⟩) (valU N) _ (HG.out.1.ext growsG HX.out) (fun _ => rfl) (by omega)).mono ?_
 rintro e v4 ⟨v, rfl, hv, hX2⟩
 clear p0 p1
 obtain ⟨A9, c9, hA9⟩ := hv.slice
 subst hA9
 obtain ⟨gs, hgs, _, hgl, hsh⟩ := hv.shp hm1
 subst hgs
 have HSH := hid hsh
 have HGL := hid hgl
 clear hv hsh hgl
 replace HD := hid (RatC.ext HD.out hX2)
 replace HZ := hid (RatR.ext HZ.out hX2)
 replace HC := hid (RatC.ext HC.out hX2)
 replace HP := hid (HP.out.ext hX2)
 replace BX := hid (BX.out.ext hX2)
 replace BY := hid (BY.out.ext hX2)
 replace HX := hid (HX.out.trans hX2)
 clear hX2
 go_upto_region 7 with (fail)
 have p0 := HP.out.cell 0
 have p1 := HP.out.cell 1
 simp only [List.getElem?_toArray, List.getElem?_cons_zero, List.getElem?_cons_succ] at p0 p1
 have hv5 := valid5R_any (m : Int) A n c ms _ (H.out.ext HX.out)
 rw [vpB_iff.2 HVP.out] at hv5
 go_wp2_with fail
 refine hv5.mono ?_
 rintro e v5 ⟨rfl, hX2⟩
 clear hv5 p0 p1
 replace HD := hid (RatC.ext HD.out hX2)
 replace HZ := hid (RatR.ext HZ.out hX2)
 replace HSH := hid (HSH.out.ext growsQ hX2)
 replace HGL := hid (Nat.lt_of_lt_of_le HGL.out hX2.size)
 replace HC := hid (RatC.ext HC.out hX2)
 replace HP := hid (HP.out.ext hX2)
 replace BX := hid (BX.out.ext hX2)
 replace BY := hid (BY.out.ext hX2)
 replace HX := hid (HX.out.trans hX2)
 clear hX2
 obtain ⟨gm, om, ⟨a, b, x, y, z, dd, ww⟩, hAm, hm2, _, y0, y1, y2, y3, y4, y5, y6⟩ := (H.out.ext HX.out).get hkn
 have hmt2 := Option.some.inj (hm2.symm.trans HMT.out)
 subst hmt2
 subst hAm
 have q0 : decide ((kk : Int) < 0) = false := decide_eq_false (by omega)
 have q1 : decide (n ≤ kk) = false := decide_eq_false (by omega)
 have q1b : decide ((n : Int) ≤ (kk : Int)) = false := decide_eq_false (by omega)
 have p0 := HP.out.cell 0
 have p1 := HP.out.cell 1
 simp only [List.getElem?_toArray, List.getElem?_cons_zero, List.getElem?_cons_succ] at p0 p1
 go_upto_region 17 with (fail)
 refine meas_r17 gBX w.heap.size gs c9 m gm om n c kk 8 a b x y z dd ww (valU N) s7 A7 B7 l7 c7 m7 k7 v5 (BX.out.cell 0) (BX.out.cell 1) (BX.out.cell 2) y0 y1 y2 y3 y4 y5 y6 p0 p1 hkn (by omega) (by omega) HSH.out HFU.out (by omega) HVM.out HGL.out HC.out (res_fit HVM.out (by omega) HTM.out) _ _ (by simp) rfl rfl rfl rfl rfl ?_
 rintro xv0 xv1 xv2 xv3 xv4 xv5 xv6 xv7 xv8 xv9 xv10 xv11 xv12 xv13 xv14 w6 rfl rfl rfl rfl rfl rfl rfl rfl rfl rfl rfl _ rfl rfl rfl hX2
 simp only [rops, Try.f9, regOf, Option.bind_some, Nat.reduceBEq, if_true, if_false, Bool.false_eq_true, Option.getD_some, List.drop_succ_cons, List.drop_zero]
 simp only [Act.put, List.setIfInBounds_toArray, List.set_cons_succ, List.set_cons_zero]
 replace HD := hid (RatC.ext HD.out hX2)
 replace HZ := hid (RatR.ext HZ.out hX2)
 replace HSH := hid (HSH.out.ext growsQ hX2)
 replace HGL := hid (Nat.lt_of_lt_of_le HGL.out hX2.size)
 replace HC := hid (RatC.ext HC.out hX2)
 replace HP := hid (HP.out.ext hX2)
 replace BX := hid (BX.out.ext hX2)
 replace BY := hid (BY.out.ext hX2)
 replace HX := hid (HX.out.trans hX2)
 clear hX2
 clear p0 p1 y0 y1 y2 y3 y4 y5 y6 q0 q1 q1b
 go_upto_region 19 with (fail)

 have p0 := HP.out.cell 0
 have p1 := HP.out.cell 1
 simp only [List.getElem?_toArray, List.getElem?_cons_zero, List.getElem?_cons_succ] at p0 p1
 go_wp2_with fail
 refine (slopesR_any m n c gs 0 c9 8 (some ⟨gm, om, none⟩) ms (valU N) _ (H.out.ext HX.out) HVP.out HSH.out HFU.out (by omega) HGL.out).mono ?_
 rintro e w7 ⟨v, rfl, hv, hX2⟩
 clear p0 p1
 obtain ⟨Aw, cw, hAw⟩ := hv.slice
 subst hAw
 have HW := hid hv
 clear hv
 replace HD := hid (RatC.ext HD.out hX2)
 replace HZ := hid (RatR.ext HZ.out hX2)
 replace HSH := hid (HSH.out.ext growsQ hX2)
 replace HGL := hid (Nat.lt_of_lt_of_le HGL.out hX2.size)
 replace HC := hid (RatC.ext HC.out hX2)
 replace HP := hid (HP.out.ext hX2)
 replace BX := hid (BX.out.ext hX2)
 replace BY := hid (BY.out.ext hX2)
 replace HX := hid (HX.out.trans hX2)
 clear hX2
 go_upto_region 20 with (fail)
 have p0 := HP.out.cell 0
 have p1 := HP.out.cell 1
 simp only [List.getElem?_toArray, List.getElem?_cons_zero, List.getElem?_cons_succ] at p0 p1
 obtain ⟨nn, hnn⟩ : ∃ nn, 3 * m = nn := ⟨_, rfl⟩
 have hn24 : nn ≤ 24 := by omega
 have HMF := hid (misfit_fit HVP.out.2.2.2 HVP.out.2.2.1 (by omega) HTM.out)
 rw [hnn] at HZ HW HTM ⊢
 clear hnn
 refine meas_r20 gBY w.heap.size gs c9 m n c 8 nn cz cw (some ⟨gm, om, none⟩) Az Aw ms (valU N) s8 A8 B8 l8 c8 m8 k8 w7 (BY.out.cell 0) (BY.out.cell 1) (BY.out.cell 2) p0 p1 (H.out.ext HX.out) HVP.out HSH.out HFU.out (by omega) HGL.out HD.out HMF.out _ _ (by simp) rfl rfl rfl rfl rfl rfl rfl ?_
 rintro xv0 xv1 xv2 xv3 xv4 xv5 xv6 xv7 xv8 xv9 xv10 xv11 xv12 xv13 xv14 xv15 xv16 xv17 xv18 xv19 xv20 w8 rfl rfl rfl rfl rfl rfl rfl rfl rfl rfl _ rfl rfl rfl rfl rfl rfl rfl rfl rfl rfl hX2
 simp only [rops, Try.f9, regOf, Option.bind_some, Nat.reduceBEq, if_true, if_false, Bool.false_eq_true, Option.getD_some, List.drop_succ_cons, List.drop_zero]
 simp only [Act.put, List.setIfInBounds_toArray, List.set_cons_succ, List.set_cons_zero]
 replace HW := hid (HW.out.ext hX2)
 replace HD := hid (RatC.ext HD.out hX2)
 replace HZ := hid (RatR.ext HZ.out hX2)
 replace HSH := hid (HSH.out.ext growsQ hX2)
 replace HGL := hid (Nat.lt_of_lt_of_le HGL.out hX2.size)
 replace HC := hid (RatC.ext HC.out hX2)
 replace HP := hid (HP.out.ext hX2)
 replace BX := hid (BX.out.ext hX2)
 replace BY := hid (BY.out.ext hX2)
 replace HX := hid (HX.out.trans hX2)
 clear hX2
 clear p0 p1
 go_wp2_with fail
 go_loopg [17] nn (fun fu iv wr => ∃ k : Nat, fu = nn - k ∧ k ≤ nn ∧ iv = .int .i64 (k : Int) ∧ Hid (Ext w8 wr))
 case atStart => exact ⟨0, by omega, by omega, rfl, hid (Ext.refl _)⟩
 case round =>
  obtain ⟨k, rfl, hk, rfl, HXL⟩ := hrel
  by_cases hkn : k < nn
  ·
   have q1 : decide ((k : Int) < (nn : Int)) = true := decide_eq_true (by omega)
   have q2 : decide (k < nn) = true := decide_eq_true hkn
   obtain ⟨gz, s1, A1, l1, c1, B1, m1, k1, hAz, x0, x1, x2, hx⟩ := (HZ.out.ext HXL.out).get hkn
   obtain ⟨gw, hAw, _, s2, A2, l2, c2, B2, m2, k2, y0, y1, y2, hy⟩ := (HW.out.ext HXL.out).get hkn
   subst hAz hAw
   go_upto_region 25 with (fail)
   refine meas_r25 gz gw nn cz cw k (slope nn ms (valU N) k) s1 A1 B1 l1 c1 m1 k1 s2 A2 B2 l2 c2 m2 k2 wr x0 x1 x2 y0 y1 y2 hkn (by omega) hx hy (slope_fit HVP.out.2.2.2 HVP.out.2.2.1 hn24 HTM.out k) _ _ (by simp) rfl rfl rfl ?_
   rintro xv0 xv1 xv2 xv3 xv4 xv5 xv6 xv7 xv8 xv9 w9 rfl rfl rfl rfl rfl rfl rfl rfl rfl rfl hX2
   simp only [rops, Try.f9, regOf, Option.bind_some, Nat.reduceBEq, if_true, if_false, Bool.false_eq_true, Option.getD_some, List.drop_succ_cons, List.drop_zero]
   simp only [Act.put, List.setIfInBounds_toArray, List.set_cons_succ, List.set_cons_zero]
   replace HXL := hid (HXL.out.trans hX2)
   clear hX2 x0 x1 x2 y0 y1 y2 hx hy
   go_wp2
   go_roundg (nn - (k + 1))
   case rel => exact ⟨k + 1, rfl, by omega, by go_num, HXL⟩
   case measure => omega
  ·
   obtain rfl : nn = k := by omega
   have q1 : decide ((nn : Int) < (nn : Int)) = false := by simp
   have q2 : decide (nn < nn) = false := by simp
   replace HX := hid (HX.out.trans HXL.out)
   go_wp2_with fail
   refine (first_any _).mono ?_
   rintro e w19 ⟨rfl, hX⟩
   replace HX := hid (HX.out.trans hX)
   clear hX
   go_wp2
   go_ret
   exact ⟨rfl, HX.out⟩
theorem stripMeasures_walk (S : Int) (A : Option Addr) (n c : Nat) (ms : List Mt) (tA : Option Addr) (m ct : Nat) (i : Int) (w : World) (h : MsAt w A n ms) (hT : ShI w tA m) (hmm : m ≤ 9223372036854775807) :
  Calls Try.prog 9 #[.agg #[.int .i64 S, .slice A n c], .slice tA m ct, .int .i64 i] w (fun e w' => e = .returned (.bool true) ∧ Ext w w') := by
 obtain ⟨gt, ot, N, hA, hV⟩ := shV_of hT
 cases hhv : hvB S ms with
 | true => exact meas_heavy S A n c ms tA m ct gt ot N i w h hV hA hmm hhv
 | false =>
  by_cases hlg : 20 < m ∨ lgN m N
  ·
   exact meas_long S A n c ms tA m ct gt ot N i w h hV hA hmm hhv hlg
  ·
   by_cases hv : VP S ms
   ·
    obtain ⟨s, rfl⟩ : ∃ s : Nat, S = s := ⟨S.toNat, by have := hv.1; omega⟩
    by_cases hms : m = s
    ·
     subst hms
     by_cases hi : i < 0
     ·
      exact meas_ok_neg trivial A n c ms tA m ct gt ot N i w h hV hA hmm hhv hlg hv hi
     ·
      obtain ⟨kk, rfl⟩ : ∃ kk : Nat, i = kk := ⟨i.toNat, by omega⟩
      by_cases hk : n ≤ kk
      ·
       exact meas_ok_big kk A n c ms tA m ct gt ot N kk w h hV hA hmm hhv hlg hv rfl hk
      ·
       exact meas_ok_ok kk A n c ms tA m ct gt ot N kk w h hV hA hmm hhv hlg hv rfl (by omega)
    ·
     exact meas_len s A n c ms tA m ct gt ot N i w h hV hA hmm hhv hlg (by omega) hv
   ·
    by_cases hms : (m : Int) = S
    ·
     subst hms
     exact meas_inv_yes trivial A n c ms tA m ct gt ot N i w h hV hA hmm hhv hlg hv
    ·
     exact meas_inv_no S A n c ms tA m ct gt ot N i w h hV hA hmm hhv hlg hms hv
end Go.Proofs.Ytikhlcgnlbinfaa
