/- Lemmas of the proof that follows (Equations, part 12): walks of functions by contract, and plain lemmas. Conditions: none. -/
import Derived.Test.YtikhlcgnlbinfaaEquationsK
namespace Go.Proofs.Ytikhlcgnlbinfaa
open Lib (hid)
open Go.RowKit
section
variable {P : Program}
/-- 'make([]T, n)' as an operation of a drawn region, T of one cell. -/
theorem run_mk1 (w : World) {t e : TypeId} {bytes : Nat} {z : Value} (E : Elem P t e 1 bytes z) (hz1 : z.cells = #[z]) (base n : Nat) (_hb : bytes * n ≤ 281474976710656) (hm : n ≤ maxLen) (hbase : base ≤ w.heap.size) :
  ∃ w', (Instr.makeSlice t (.int .i64 (n : Int)) (.int .i64 (n : Int))).run P w = .ok (.slice (some ⟨w.heap.size, 0, none⟩) n n) w' ∧ w'.ownsRow base e 1 (.slice (some ⟨w.heap.size, 0, none⟩) n n) n (List.replicate n z) ∧ Ext w w' := by
 obtain ⟨i, hi, hz, hs, hby⟩ := E.info
 subst hby
 have hbI : (i.bytes : Int) * (n : Int) ≤ 281474976710656 := by
  have h : ((i.bytes * n : Nat) : Int) ≤ 281474976710656 := by omega
  rwa [Int.natCast_mul] at h
 have hrun := run_make (P := P) w t e i z E.und hi hz .i64 .i64 n n (by omega) (by omega) hbI (by unfold maxLen at hm; omega)
 simp only [Int.toNat_natCast] at hrun
 rw [hs, Nat.mul_one, hz1] at hrun
 refine ⟨_, hrun, ⟨by simp, .inr ⟨w.heap.size, n, _, rfl, hbase, heap_alloc_new w _, Nat.le_refl _, hm, by rw [size_madeCells]; simp, ?_⟩⟩, (Ext.refl w).alloc _⟩
 rw [toList_madeCells_one, Nat.mul_one, List.take_replicate, Nat.min_self]
end
theorem keeps_c {L : List Nat} {w W : World} {g i : Nat} {v : Value} (hk : Keeps L w W) (h : w.cell? ⟨g, i, none⟩ = some v) (hn : g ∉ L) : W.cell? ⟨g, i, none⟩ = some v := by
 rw [← h]
 exact World.cell?_of_block (w := w) (hk.block g (World.block_lt_of_cell? w _ h) hn)
set_option maxRecDepth 100000 in
set_option maxHeartbeats 2000000 in
theorem eqr_r2 (nn : Nat) (w : World) (_hnn : nn ≤ 100) (a : Act) (Q : Exit → Act → World → Prop) (hsize : 19 ≤ a.tmps.size)
  (s4 : a.tmps[4]? = some (.int .i64 (nn : Int)))
  (hend : ∀ (xv0 xv1 xv2 xv3 xv4 xv5 : Value) (W : World), (xv0 = .int .i64 (nn : Int)) → (∃ g, xv1 = .slice (some ⟨g, 0, none⟩) nn nn ∧ w.heap.size ≤ g ∧ W.ownsRow w.heap.size 61 1 (.slice (some ⟨g, 0, none⟩) nn nn) nn (List.replicate nn (.slice none 0 0))) → (xv2 = .int .i64 (nn : Int)) → (∃ g, xv3 = .slice (some ⟨g, 0, none⟩) nn nn ∧ w.heap.size ≤ g ∧ W.ownsRow w.heap.size 3 1 (.slice (some ⟨g, 0, none⟩) nn nn) nn (List.replicate nn (.int .i64 0))) → (∃ g, xv4 = .slice (some ⟨g, 0, none⟩) nn nn ∧ w.heap.size ≤ g ∧ W.ownsRow w.heap.size 61 1 (.slice (some ⟨g, 0, none⟩) nn nn) nn (List.replicate nn (.slice none 0 0))) → (∃ g, xv5 = .slice (some ⟨g, 0, none⟩) nn nn ∧ w.heap.size ≤ g ∧ W.ownsRow w.heap.size 3 1 (.slice (some ⟨g, 0, none⟩) nn nn) nn (List.replicate nn (.int .i64 0))) → Ext w W → wpList Try.prog (rops Try.f44 2).toArray Q ((rops Try.f44 2).drop 6) ((((((a.put (some 15) xv0).put (some 16) xv1).put (some 17) xv2).put (some 18) xv3).put (some 5) xv4).put (some 6) xv5) W) :
  (Code.region 2 (rops Try.f44 2).toArray true).wp Try.prog Q a w := by
 refine wp_region_k 6 [some 15, some 16, some 17, some 18, some 5, some 6] [[], [0], [], [2], [1], [3]] [eqv (.int .i64 (nn : Int)), fun v W => ∃ g, v = .slice (some ⟨g, 0, none⟩) nn nn ∧ w.heap.size ≤ g ∧ W.ownsRow w.heap.size 61 1 (.slice (some ⟨g, 0, none⟩) nn nn) nn (List.replicate nn (.slice none 0 0)), eqv (.int .i64 (nn : Int)), fun v W => ∃ g, v = .slice (some ⟨g, 0, none⟩) nn nn ∧ w.heap.size ≤ g ∧ W.ownsRow w.heap.size 3 1 (.slice (some ⟨g, 0, none⟩) nn nn) nn (List.replicate nn (.int .i64 0)), fun v W => ∃ g, v = .slice (some ⟨g, 0, none⟩) nn nn ∧ w.heap.size ≤ g ∧ W.ownsRow w.heap.size 61 1 (.slice (some ⟨g, 0, none⟩) nn nn) nn (List.replicate nn (.slice none 0 0)), fun v W => ∃ g, v = .slice (some ⟨g, 0, none⟩) nn nn ∧ w.heap.size ≤ g ∧ W.ownsRow w.heap.size 3 1 (.slice (some ⟨g, 0, none⟩) nn nn) nn (List.replicate nn (.int .i64 0))] (by kernel_rfl) (by kernel_rfl) rfl (by decide) hsize ⟨monC, by intro v W W' h hX; obtain ⟨g, h1, h2, h3⟩ := h; exact ⟨g, h1, h2, World.ownsRow.ext' h3 hX⟩, monC, by intro v W W' h hX; obtain ⟨g, h1, h2, h3⟩ := h; exact ⟨g, h1, h2, World.ownsRow.ext' h3 hX⟩, by intro v W W' h hX; obtain ⟨g, h1, h2, h3⟩ := h; exact ⟨g, h1, h2, World.ownsRow.ext' h3 hX⟩, by intro v W W' h hX; obtain ⟨g, h1, h2, h3⟩ := h; exact ⟨g, h1, h2, World.ownsRow.ext' h3 hX⟩, trivial⟩ ?_ ?_
 ·
  clear hend
  simp only [rops, Try.f44, regOf, Option.bind_some, Nat.reduceBEq, if_true, if_false, Bool.false_eq_true, Option.getD_some]
  simp only [List.take_succ_cons, List.take_zero]
  refine ⟨?_, ?_, ?_, ?_, ?_, ?_, trivial⟩
  ·
   rintro us W hJ _ b hb hbz K hK0 hK Qz
   have e4 := (hbz 4 (by simp)).trans s4
   clear hb hbz
   go_simp
   exact hK0 _ rfl
  ·
   rintro us W hJ d0 b hb hbz K hK0 hK Qz
   have e15 := slotV (hb 0 15 rfl) d0
   clear hb hbz d0
   have hsz := Ext.size hJ
   obtain ⟨w', hrun, hown, hX⟩ := run_mk1 W elII rfl w.heap.size nn (by omega) (by unfold maxLen; omega) hsz
   go_simp
   refine hK _ _ ⟨_, rfl, hsz, hown⟩ hX
  ·
   rintro us W hJ _ b hb hbz K hK0 hK Qz
   have e4 := (hbz 4 (by simp)).trans s4
   clear hb hbz
   go_simp
   exact hK0 _ rfl
  ·
   rintro us W hJ d2 b hb hbz K hK0 hK Qz
   have e17 := slotV (hb 2 17 rfl) d2
   clear hb hbz d2
   have hsz := Ext.size hJ
   obtain ⟨w', hrun, hown, hX⟩ := run_mk1 W elI rfl w.heap.size nn (by omega) (by unfold maxLen; omega) hsz
   go_simp
   refine hK _ _ ⟨_, rfl, hsz, hown⟩ hX
  ·
   rintro us W hJ d1 b hb hbz K hK0 hK Qz
   have e16 := hb 1 16 rfl
   clear hb hbz
   obtain ⟨g, hv1, h2, h3⟩ := d1
   rw [hv1] at e16
   go_simp
   exact hK0 _ ⟨g, rfl, h2, h3⟩
  ·
   rintro us W hJ d3 b hb hbz K hK0 hK Qz
   have e18 := hb 3 18 rfl
   clear hb hbz
   obtain ⟨g, hv1, h2, h3⟩ := d3
   rw [hv1] at e18
   go_simp
   exact hK0 _ ⟨g, rfl, h2, h3⟩
 ·
  rintro us W ⟨v0, v1, v2, v3, v4, v5, _⟩ hJ
  exact hend _ _ _ _ _ _ W v0 v1 v2 v3 v4 v5 hJ
set_option maxRecDepth 100000 in
set_option maxHeartbeats 2000000 in
theorem eqr_r12 (gr nn aa gm : Nat) (ee ww dd ci : Int) (w : World) (he : w.cell? ⟨gr, aa, none⟩ = some (.int .i64 ee)) (hw : w.cell? ⟨gm, 6, none⟩ = some (.int .i64 ww)) (hd : w.cell? ⟨gm, 5, none⟩ = some (.int .i64 dd)) (_hA1 : aa < nn) (_x1 : IntKind.i64.wrap (ww * dd) = ww * dd) (_x2 : IntKind.i64.wrap (ww * dd * ci) = ww * dd * ci) (_x3 : IntKind.i64.wrap (ee - ww * dd * ci) = ee - ww * dd * ci) (a : Act) (Q : Exit → Act → World → Prop) (hsize : 57 ≤ a.tmps.size)
  (s6 : a.tmps[6]? = some (.slice (some ⟨gr, 0, none⟩) nn nn))
  (s7 : a.tmps[7]? = some (.int .i64 (aa : Int)))
  (s9 : a.tmps[9]? = some (.pointer (some ⟨gm, 0, none⟩)))
  (s10 : a.tmps[10]? = some (.int .i64 (ci)))
  (hend : ∀ (xv0 xv1 xv2 xv3 xv4 xv5 xv6 xv7 xv8 xv9 xv10 xv11 xv12 : Value) (W : World), (xv0 = .slice (some ⟨gr, 0, none⟩) nn nn) → (xv1 = .int .i64 (aa : Int)) → (xv2 = .pointer (some ⟨gr, aa, none⟩)) → (xv3 = .int .i64 (ee)) → (xv4 = .pointer (some ⟨gm, 6, none⟩)) → (xv5 = .int .i64 (ww)) → (xv6 = .pointer (some ⟨gm, 5, none⟩)) → (xv7 = .int .i64 (dd)) → (xv8 = .int .i64 (ww * dd)) → (xv9 = .int .i64 (ci)) → (xv10 = .int .i64 (ww * dd * ci)) → (xv11 = .int .i64 (ee - ww * dd * ci)) → (xv12 = .pointer (some ⟨gr, aa, none⟩)) → Ext w W → wpList Try.prog (rops Try.f44 12).toArray Q ((rops Try.f44 12).drop 13) (((((((((((((a.put (some 44) xv0).put (some 45) xv1).put (some 46) xv2).put (some 47) xv3).put (some 48) xv4).put (some 49) xv5).put (some 50) xv6).put (some 51) xv7).put (some 52) xv8).put (some 53) xv9).put (some 54) xv10).put (some 55) xv11).put (some 56) xv12) W) :
  (Code.region 12 (rops Try.f44 12).toArray true).wp Try.prog Q a w := by
 refine wp_region_k 13 [some 44, some 45, some 46, some 47, some 48, some 49, some 50, some 51, some 52, some 53, some 54, some 55, some 56] [[], [], [0, 1], [2], [], [4], [], [6], [5, 7], [], [8, 9], [3, 10], [0, 1]] [eqv (.slice (some ⟨gr, 0, none⟩) nn nn), eqv (.int .i64 (aa : Int)), eqv (.pointer (some ⟨gr, aa, none⟩)), eqv (.int .i64 (ee)), eqv (.pointer (some ⟨gm, 6, none⟩)), eqv (.int .i64 (ww)), eqv (.pointer (some ⟨gm, 5, none⟩)), eqv (.int .i64 (dd)), eqv (.int .i64 (ww * dd)), eqv (.int .i64 (ci)), eqv (.int .i64 (ww * dd * ci)), eqv (.int .i64 (ee - ww * dd * ci)), eqv (.pointer (some ⟨gr, aa, none⟩))] (by kernel_rfl) (by kernel_rfl) rfl (by decide) hsize ⟨monC, monC, monC, monC, monC, monC, monC, monC, monC, monC, monC, monC, monC, trivial⟩ ?_ ?_
 ·
  clear hend
  simp only [rops, Try.f44, regOf, Option.bind_some, Nat.reduceBEq, if_true, if_false, Bool.false_eq_true, Option.getD_some]
  simp only [List.take_succ_cons, List.take_zero]
  refine ⟨?_, ?_, ?_, ?_, ?_, ?_, ?_, ?_, ?_, ?_, ?_, ?_, ?_, trivial⟩
  ·
   rintro us W hJ _ b hb hbz K hK0 hK Qz
   have e6 := (hbz 6 (by simp)).trans s6
   clear hb hbz
   go_simp
   exact hK0 _ rfl
  ·
   rintro us W hJ _ b hb hbz K hK0 hK Qz
   have e7 := (hbz 7 (by simp)).trans s7
   clear hb hbz
   go_simp
   exact hK0 _ rfl
  ·
   rintro us W hJ ⟨d0, d1⟩ b hb hbz K hK0 hK Qz
   have e44 := slotV (hb 0 44 rfl) d0
   have e45 := slotV (hb 1 45 rfl) d1
   clear hb hbz d0 d1
   go_simp
   exact hK0 _ rfl
  ·
   rintro us W hJ d2 b hb hbz K hK0 hK Qz
   have e46 := slotV (hb 2 46 rfl) d2
   clear hb hbz d2
   have q := Ext.cell hJ he
   go_simp
   exact hK0 _ rfl
  ·
   rintro us W hJ _ b hb hbz K hK0 hK Qz
   have e9 := (hbz 9 (by simp)).trans s9
   clear hb hbz
   go_simp
   exact hK0 _ rfl
  ·
   rintro us W hJ d4 b hb hbz K hK0 hK Qz
   have e48 := slotV (hb 4 48 rfl) d4
   clear hb hbz d4
   have q := Ext.cell hJ hw
   go_simp
   exact hK0 _ rfl
  ·
   rintro us W hJ _ b hb hbz K hK0 hK Qz
   have e9 := (hbz 9 (by simp)).trans s9
   clear hb hbz
   go_simp
   exact hK0 _ rfl
  ·
   rintro us W hJ d6 b hb hbz K hK0 hK Qz
   have e50 := slotV (hb 6 50 rfl) d6
   clear hb hbz d6
   have q := Ext.cell hJ hd
   go_simp
   exact hK0 _ rfl
  ·
   rintro us W hJ ⟨d5, d7⟩ b hb hbz K hK0 hK Qz
   have e49 := slotV (hb 5 49 rfl) d5
   have e51 := slotV (hb 7 51 rfl) d7
   clear hb hbz d5 d7
   go_simp
   exact hK0 _ rfl
  ·
   rintro us W hJ _ b hb hbz K hK0 hK Qz
   have e10 := (hbz 10 (by simp)).trans s10
   clear hb hbz
   go_simp
   exact hK0 _ rfl
  ·
   rintro us W hJ ⟨d8, d9⟩ b hb hbz K hK0 hK Qz
   have e52 := slotV (hb 8 52 rfl) d8
   have e53 := slotV (hb 9 53 rfl) d9
   clear hb hbz d8 d9
   go_simp
   exact hK0 _ rfl
  ·
   rintro us W hJ ⟨d3, d10⟩ b hb hbz K hK0 hK Qz
   have e47 := slotV (hb 3 47 rfl) d3
   have e54 := slotV (hb 10 54 rfl) d10
   clear hb hbz d3 d10
   go_simp
   exact hK0 _ rfl
  ·
   rintro us W hJ ⟨d0, d1⟩ b hb hbz K hK0 hK Qz
   have e44 := slotV (hb 0 44 rfl) d0
   have e45 := slotV (hb 1 45 rfl) d1
   clear hb hbz d0 d1
   go_simp
   exact hK0 _ rfl
 ·
  rintro us W ⟨v0, v1, v2, v3, v4, v5, v6, v7, v8, v9, v10, v11, v12, _⟩ hJ
  exact hend _ _ _ _ _ _ _ _ _ _ _ _ _ W v0 v1 v2 v3 v4 v5 v6 v7 v8 v9 v10 v11 v12 hJ
set_option maxRecDepth 100000 in
set_option maxHeartbeats 2000000 in
theorem eqr_r16 (gt nn aa bb ga gm S : Nat) (ee ww ci cj ma mb mx my mz md : Int) (w : World) (ha : w.cell? ⟨gt, aa, none⟩ = some (.slice (some ⟨ga, 0, none⟩) nn nn)) (he : w.cell? ⟨ga, bb, none⟩ = some (.int .i64 ee)) (v0 : w.cell? ⟨gm, 0, none⟩ = some (.int .i64 (ma))) (v1 : w.cell? ⟨gm, 1, none⟩ = some (.int .i64 (mb))) (v2 : w.cell? ⟨gm, 2, none⟩ = some (.int .i64 (mx))) (v3 : w.cell? ⟨gm, 3, none⟩ = some (.int .i64 (my))) (v4 : w.cell? ⟨gm, 4, none⟩ = some (.int .i64 (mz))) (v5 : w.cell? ⟨gm, 5, none⟩ = some (.int .i64 (md))) (v6 : w.cell? ⟨gm, 6, none⟩ = some (.int .i64 (ww))) (_hA1 : aa < nn) (_hB1 : bb < nn) (hb24 : bb < 24) (hm : VM S (⟨ma, mb, mx, my, mz, md, ww⟩ : Mt)) (hcj : cof (⟨ma, mb, mx, my, mz, md, ww⟩ : Mt) bb = cj) (_x1 : IntKind.i64.wrap (ww * ci) = ww * ci) (_x2 : IntKind.i64.wrap (ww * ci * cj) = ww * ci * cj) (_x3 : IntKind.i64.wrap (ee + ww * ci * cj) = ee + ww * ci * cj) (a : Act) (Q : Exit → Act → World → Prop) (hsize : 79 ≤ a.tmps.size)
  (s5 : a.tmps[5]? = some (.slice (some ⟨gt, 0, none⟩) nn nn))
  (s7 : a.tmps[7]? = some (.int .i64 (aa : Int)))
  (s9 : a.tmps[9]? = some (.pointer (some ⟨gm, 0, none⟩)))
  (s10 : a.tmps[10]? = some (.int .i64 (ci)))
  (s11 : a.tmps[11]? = some (.int .i64 (bb : Int)))
  (hend : ∀ (xv0 xv1 xv2 xv3 xv4 xv5 xv6 xv7 xv8 xv9 xv10 xv11 xv12 xv13 xv14 xv15 xv16 : Value) (W : World), (xv0 = .slice (some ⟨gt, 0, none⟩) nn nn) → (xv1 = .int .i64 (aa : Int)) → (xv2 = .pointer (some ⟨gt, aa, none⟩)) → (xv3 = .slice (some ⟨ga, 0, none⟩) nn nn) → (xv4 = .int .i64 (bb : Int)) → (xv5 = .pointer (some ⟨ga, bb, none⟩)) → (xv6 = .int .i64 (ee)) → (xv7 = .pointer (some ⟨gm, 6, none⟩)) → (xv8 = .int .i64 (ww)) → (xv9 = .int .i64 (ci)) → (xv10 = .int .i64 (ww * ci)) → (xv11 = .agg #[.int .i64 (ma), .int .i64 (mb), .int .i64 (mx), .int .i64 (my), .int .i64 (mz), .int .i64 (md), .int .i64 (ww)]) → (xv12 = .int .i64 (bb : Int)) → (xv13 = .int .i64 (cj)) → (xv14 = .int .i64 (ww * ci * cj)) → (xv15 = .int .i64 (ee + ww * ci * cj)) → (xv16 = .pointer (some ⟨ga, bb, none⟩)) → Ext w W → wpList Try.prog (rops Try.f44 16).toArray Q ((rops Try.f44 16).drop 17) (((((((((((((((((a.put (some 62) xv0).put (some 63) xv1).put (some 64) xv2).put (some 65) xv3).put (some 66) xv4).put (some 67) xv5).put (some 68) xv6).put (some 69) xv7).put (some 70) xv8).put (some 71) xv9).put (some 72) xv10).put (some 73) xv11).put (some 74) xv12).put (some 75) xv13).put (some 76) xv14).put (some 77) xv15).put (some 78) xv16) W) :
  (Code.region 16 (rops Try.f44 16).toArray true).wp Try.prog Q a w := by
 refine wp_region_k 17 [some 62, some 63, some 64, some 65, some 66, some 67, some 68, some 69, some 70, some 71, some 72, some 73, some 74, some 75, some 76, some 77, some 78] [[], [], [0, 1], [2], [], [3, 4], [5], [], [7], [], [8, 9], [], [], [11, 12], [10, 13], [6, 14], [3, 4]] [eqv (.slice (some ⟨gt, 0, none⟩) nn nn), eqv (.int .i64 (aa : Int)), eqv (.pointer (some ⟨gt, aa, none⟩)), eqv (.slice (some ⟨ga, 0, none⟩) nn nn), eqv (.int .i64 (bb : Int)), eqv (.pointer (some ⟨ga, bb, none⟩)), eqv (.int .i64 (ee)), eqv (.pointer (some ⟨gm, 6, none⟩)), eqv (.int .i64 (ww)), eqv (.int .i64 (ci)), eqv (.int .i64 (ww * ci)), eqv (.agg #[.int .i64 (ma), .int .i64 (mb), .int .i64 (mx), .int .i64 (my), .int .i64 (mz), .int .i64 (md), .int .i64 (ww)]), eqv (.int .i64 (bb : Int)), eqv (.int .i64 (cj)), eqv (.int .i64 (ww * ci * cj)), eqv (.int .i64 (ee + ww * ci * cj)), eqv (.pointer (some ⟨ga, bb, none⟩))] (by kernel_rfl) (by kernel_rfl) rfl (by decide) hsize ⟨monC, monC, monC, monC, monC, monC, monC, monC, monC, monC, monC, monC, monC, monC, monC, monC, monC, trivial⟩ ?_ ?_
 ·
  clear hend
  simp only [rops, Try.f44, regOf, Option.bind_some, Nat.reduceBEq, if_true, if_false, Bool.false_eq_true, Option.getD_some]
  simp only [List.take_succ_cons, List.take_zero]
  refine ⟨?_, ?_, ?_, ?_, ?_, ?_, ?_, ?_, ?_, ?_, ?_, ?_, ?_, ?_, ?_, ?_, ?_, trivial⟩
  ·
   rintro us W hJ _ b hb hbz K hK0 hK Qz
   have e5 := (hbz 5 (by simp)).trans s5
   clear hb hbz
   go_simp
   exact hK0 _ rfl
  ·
   rintro us W hJ _ b hb hbz K hK0 hK Qz
   have e7 := (hbz 7 (by simp)).trans s7
   clear hb hbz
   go_simp
   exact hK0 _ rfl
  ·
   rintro us W hJ ⟨d0, d1⟩ b hb hbz K hK0 hK Qz
   have e62 := slotV (hb 0 62 rfl) d0
   have e63 := slotV (hb 1 63 rfl) d1
   clear hb hbz d0 d1
   go_simp
   exact hK0 _ rfl
  ·
   rintro us W hJ d2 b hb hbz K hK0 hK Qz
   have e64 := slotV (hb 2 64 rfl) d2
   clear hb hbz d2
   have q := Ext.cell hJ ha
   go_simp
   exact hK0 _ rfl
  ·
   rintro us W hJ _ b hb hbz K hK0 hK Qz
   have e11 := (hbz 11 (by simp)).trans s11
   clear hb hbz
   go_simp
   exact hK0 _ rfl
  ·
   rintro us W hJ ⟨d3, d4⟩ b hb hbz K hK0 hK Qz
   have e65 := slotV (hb 3 65 rfl) d3
   have e66 := slotV (hb 4 66 rfl) d4
   clear hb hbz d3 d4
   go_simp
   exact hK0 _ rfl
  ·
   rintro us W hJ d5 b hb hbz K hK0 hK Qz
   have e67 := slotV (hb 5 67 rfl) d5
   clear hb hbz d5
   have q := Ext.cell hJ he
   go_simp
   exact hK0 _ rfl
  ·
   rintro us W hJ _ b hb hbz K hK0 hK Qz
   have e9 := (hbz 9 (by simp)).trans s9
   clear hb hbz
   go_simp
   exact hK0 _ rfl
  ·
   rintro us W hJ d7 b hb hbz K hK0 hK Qz
   have e69 := slotV (hb 7 69 rfl) d7
   clear hb hbz d7
   have q := Ext.cell hJ v6
   go_simp
   exact hK0 _ rfl
  ·
   rintro us W hJ _ b hb hbz K hK0 hK Qz
   have e10 := (hbz 10 (by simp)).trans s10
   clear hb hbz
   go_simp
   exact hK0 _ rfl
  ·
   rintro us W hJ ⟨d8, d9⟩ b hb hbz K hK0 hK Qz
   have e70 := slotV (hb 8 70 rfl) d8
   have e71 := slotV (hb 9 71 rfl) d9
   clear hb hbz d8 d9
   go_simp
   exact hK0 _ rfl
  ·
   rintro us W hJ _ b hb hbz K hK0 hK Qz
   have e9 := (hbz 9 (by simp)).trans s9
   clear hb hbz
   have z0 := Ext.cell hJ v0
   have z1 := Ext.cell hJ v1
   have z2 := Ext.cell hJ v2
   have z3 := Ext.cell hJ v3
   have z4 := Ext.cell hJ v4
   have z5 := Ext.cell hJ v5
   have z6 := Ext.cell hJ v6
   go_simp
   exact hK0 _ rfl
  ·
   rintro us W hJ _ b hb hbz K hK0 hK Qz
   have e11 := (hbz 11 (by simp)).trans s11
   clear hb hbz
   go_simp
   exact hK0 _ rfl
  ·
   rintro us W hJ ⟨d11, d12⟩ b hb hbz K hK0 hK Qz
   have e73 := slotV (hb 11 73 rfl) d11
   have e74 := slotV (hb 12 74 rfl) d12
   clear hb hbz d11 d12
   have hco := coefR_any (m := (⟨ma, mb, mx, my, mz, md, ww⟩ : Mt)) (u := bb) (S := S) (w := W) hb24 hm
   unfold Mt.val at hco
   rw [hcj] at hco
   go_simp
   refine hco.mono ?_
   rintro e w' ⟨rfl, hX⟩
   exact hK _ _ rfl hX
  ·
   rintro us W hJ ⟨d10, d13⟩ b hb hbz K hK0 hK Qz
   have e72 := slotV (hb 10 72 rfl) d10
   have e75 := slotV (hb 13 75 rfl) d13
   clear hb hbz d10 d13
   go_simp
   exact hK0 _ rfl
  ·
   rintro us W hJ ⟨d6, d14⟩ b hb hbz K hK0 hK Qz
   have e68 := slotV (hb 6 68 rfl) d6
   have e76 := slotV (hb 14 76 rfl) d14
   clear hb hbz d6 d14
   go_simp
   exact hK0 _ rfl
  ·
   rintro us W hJ ⟨d3, d4⟩ b hb hbz K hK0 hK Qz
   have e65 := slotV (hb 3 65 rfl) d3
   have e66 := slotV (hb 4 66 rfl) d4
   clear hb hbz d3 d4
   go_simp
   exact hK0 _ rfl
 ·
  rintro us W ⟨v0, v1, v2, v3, v4, v5, v6, v7, v8, v9, v10, v11, v12, v13, v14, v15, v16, _⟩ hJ
  exact hend _ _ _ _ _ _ _ _ _ _ _ _ _ _ _ _ _ W v0 v1 v2 v3 v4 v5 v6 v7 v8 v9 v10 v11 v12 v13 v14 v15 v16 hJ
set_option maxRecDepth 100000 in
set_option maxHeartbeats 16000000 in
theorem equationsR (S nn : Nat) (A : Option Addr) (n c : Nat) (ms : List Mt) (w : World) (h : MsAt w A n ms) (hv : VP S ms) (hN : nn = 3 * S) :
  Calls Try.prog 44 #[.agg #[.int .i64 (S : Int), .slice A n c]] w (fun e w' => ∃ gt gr vs, e = .returned (.tuple #[.slice (some ⟨gt, 0, none⟩) nn nn, .slice (some ⟨gr, 0, none⟩) nn nn]) ∧ TabG 1 Uno 3 61 w.heap.size w' gt nn nn nn vs (eqN ms) ∧ RowI w.heap.size w' gr nn nn (eqR ms) ∧ gr ∉ tabL gt vs ∧ (∀ v ∈ vs, ∃ g, v = .slice (some ⟨g, 0, none⟩) nn nn) ∧ Ext w w') := by
 have hS1 : 1 ≤ S := by have := hv.1; omega
 have hS8 : S ≤ 8 := by have := hv.2.1; omega
 have hn64 : n ≤ 64 := by have := hv.2.2.1; have := h.1; omega
 have hNb : nn ≤ 24 := by omega
 have hqN : IntKind.i64.wrap (3 * (S : Int)) = (nn : Int) := by rw [IntWalk.i64_in _ (by omega)]; omega
 have HX := hid ((Ext.refl w).alloc (.cells #[.int .i64 (S : Int), .slice A n c] 76))
 have HP := hid (Blk.new w 76 #[.int .i64 (S : Int), .slice A n c])
 have HVM := hid hv.2.2.2
 have H := hid h
 have HL := hid h.1
 clear h hv hN
 go_enter Try.func44, Try.ntmps44
 go_upto_region 1 with (fail)
 generalize w.alloc (.cells #[.int .i64 (S : Int), .slice A n c] 76) = w1 at HX HP ⊢
 have p0 := HP.out.cell 0
 simp only [List.getElem?_toArray, List.getElem?_cons_zero, List.getElem?_cons_succ] at p0
 go_upto_region 2 with (fail)
 clear p0
 have hpl := HP.out.lt
 have hs0 := HX.out.size
 refine eqr_r2 nn w1 (by omega) _ _ (by simp) rfl ?_
 rintro xv0 xv1 xv2 xv3 xv4 xv5 w2 rfl _ rfl _ ⟨gt, rfl, hgt, hown⟩ ⟨gr, rfl, hgr, hrow⟩ hX
 simp only [rops, Try.f44, regOf, Option.bind_some, Nat.reduceBEq, if_true, if_false, Bool.false_eq_true, Option.getD_some, List.drop_succ_cons, List.drop_zero]
 simp only [Act.put, List.setIfInBounds_toArray, List.set_cons_succ, List.set_cons_zero]
 have hne : gt ≠ gr := by
  rcases own_ne hown hrow (by decide) with q | q
  ·
   simp [Value.ownBlock] at q
  ·
   simpa [Value.ownBlock] using q
 have hgr2 := (rowLow hrow (g := gr) (by simp [Value.ownBlock])).2
 have hgt2 := (rowLow hown (g := gt) (by simp [Value.ownBlock])).2
 replace HX := hid (HX.out.trans hX)
 replace HP := hid (HP.out.ext hX)
 have HO := hid (World.ownsRow.mono' hown hs0)
 have HR := hid (RowI.zero (World.ownsRow.mono' hrow hs0))
 clear hX hown hrow
 go_wp2_with fail
 go_loopg [7] nn (fun f iv wr => ∃ (q : Nat) (vs : List Value), f = nn - q ∧ q ≤ nn ∧ iv = .int .i64 (q : Int) ∧ Hid (wr.ownsRow w.heap.size 61 1 (.slice (some ⟨gt, 0, none⟩) nn nn) nn (vs ++ List.replicate (nn - q) (.slice none 0 0))) ∧ Hid (Tbl 1 Uno 3 w.heap.size wr q nn vs (eqN ms)) ∧ Hid (RowI w.heap.size wr gr nn nn (fun i => if i < q then eqR ms i else 0)) ∧ Hid (Blk wr w.heap.size 76 #[.int .i64 (S : Int), .slice A n c]) ∧ Hid (Ext w wr) ∧ Hid (∀ v ∈ vs, ∃ g, v = .slice (some ⟨g, 0, none⟩) nn nn ∧ w.heap.size < g ∧ g < wr.heap.size ∧ g ≠ gr) ∧ gr < wr.heap.size ∧ gt < wr.heap.size)
 case atStart => exact ⟨0, [], rfl, by omega, rfl, hid (by rw [Nat.sub_zero, List.nil_append]; exact HO.out), hid (Tbl.nil 1 Uno _ _ _ nn _), hid (HR.out.congr (fun i _ => by rw [if_neg (by omega)])), HP, HX, hid (by simp), hgr2, hgt2⟩
 case round =>
  clear HO HR HP HX hgr2 hgt2
  obtain ⟨q, vs, rfl, hq, rfl, HO, HT, HR, HP, HX, HNL, hgr2, hgt2⟩ := hrel
  by_cases hql : q < nn
  ·
   have q1 : decide (q < nn) = true := decide_eq_true hql
   have q1b : decide ((q : Int) < (nn : Int)) = true := decide_eq_true (by omega)
   have hs2 := HX.out.size
   go_upto_region 7 with (at_make; refine wpList_mk wr elI rfl rfl _ _ rfl w.heap.size _ _ _ _ nn nn rfl rfl (by first | rfl | omega) (by first | rfl | omega) (Nat.le_refl _) (by omega) (by unfold maxLen; omega) hs2 ?_; intro w4 hown hext hsz; have HOX := hid (World.ownsRow.ext' HO.out hext); have hfr := own_free HOX.out q; have hxe := own_cell HOX.out (i := q) (u := .slice none 0 0) (by rw [List.getElem?_append_right (by rw [HT.out.len]; omega), HT.out.len, Nat.sub_self, List.getElem?_replicate, if_pos (by omega)]))
   have hput := rowPut (i := q) (u := .slice (some ⟨wr.heap.size, 0, none⟩) nn nn) HOX.out
   have hgg : gt ≠ wr.heap.size := by omega
   have hkp : Keeps [gt] w4 (w4.setCell ⟨gt, q, none⟩ (.slice (some ⟨wr.heap.size, 0, none⟩) nn nn)) := (Keeps.refl [gt] w4).setCell (.inl (by simp)) _
   have hne1 : ∀ v ∈ vs, v.ownBlock ≠ some gt := fun v hv e => by
    obtain ⟨i, hi, rfl⟩ := List.getElem_of_mem hv
    obtain ⟨v', r, h1, h2, _⟩ := HT.out.row (i := i) (by rw [← HT.out.len]; exact hi)
    rw [List.getElem?_eq_getElem hi] at h1
    injection h1 with h1
    subst h1
    rcases own_ne h2 HO.out (by decide) with h3 | h3
    ·
     rw [h3] at e; cases e
    ·
     rw [e] at h3; exact h3 (by simp [Value.ownBlock])
   have HT5 : Hid (Tbl 1 Uno 3 w.heap.size (w4.setCell ⟨gt, q, none⟩ (.slice (some ⟨wr.heap.size, 0, none⟩) nn nn)) q nn vs (eqN ms)) := hid (by
    have h1 := HT.out.ext kindUno hext
    obtain ⟨hl, rows, hr, hn⟩ := h1
    exact ⟨hl, rows, hr.keeps hkp (fun v hv g hg hl2 => by simp at hl2; subst hl2; exact hne1 v hv hg), fun i r hi => (hn i r hi).any _⟩)
   have HA5 : Hid (RowI w.heap.size (w4.setCell ⟨gt, q, none⟩ (.slice (some ⟨wr.heap.size, 0, none⟩) nn nn)) wr.heap.size nn nn (fun _ => 0)) := hid ((RowI.zero hown).keeps hkp (fun h => by simp at h; omega))
   have HR5 : Hid (RowI w.heap.size (w4.setCell ⟨gt, q, none⟩ (.slice (some ⟨wr.heap.size, 0, none⟩) nn nn)) gr nn nn (fun i => if i < q then eqR ms i else 0)) := hid ((HR.out.ext hext).keeps hkp (fun h => by simp at h; omega))
   have HO5 : Hid ((w4.setCell ⟨gt, q, none⟩ (.slice (some ⟨wr.heap.size, 0, none⟩) nn nn)).ownsRow w.heap.size 61 1 (.slice (some ⟨gt, 0, none⟩) nn nn) nn ((vs ++ [.slice (some ⟨wr.heap.size, 0, none⟩) nn nn]) ++ List.replicate (nn - (q + 1)) (.slice none 0 0))) := hid (by
    rw [show nn - q = (nn - (q + 1)) + 1 by omega] at hput
    have e := set_push vs (nn - (q + 1)) (.slice none 0 0) (.slice (some ⟨wr.heap.size, 0, none⟩) nn nn)
    rw [HT.out.len] at e
    rw [e] at hput
    exact hput)
   have HVL := hid HT.out.len
   have hplr := HP.out.lt
   replace HP := hid ((HP.out.ext hext).far (p := ⟨gt, q, none⟩) (by simp only; omega) (.slice (some ⟨wr.heap.size, 0, none⟩) nn nn))
   replace HX := hid ((HX.out.trans hext).setCell (p := ⟨gt, q, none⟩) (by simp only; omega) (.slice (some ⟨wr.heap.size, 0, none⟩) nn nn))
   have hsz5 : wr.heap.size < (w4.setCell ⟨gt, q, none⟩ (.slice (some ⟨wr.heap.size, 0, none⟩) nn nn)).heap.size := by simpa using hsz
   go_upto_region 7 with (fail)
   clear hput hgg hkp HO HT HR hext hown hsz HOX hfr hxe hs2
   generalize w4.setCell ⟨gt, q, none⟩ (.slice (some ⟨wr.heap.size, 0, none⟩) nn nn) = w5 at HT5 HA5 HR5 HO5 HP HX hsz5 ⊢
   have HNE := hid hne1
   clear hne1
   generalize wr.heap.size = ga at HA5 HO5 hsz5 hgr2 hgt2 hplr HNL ⊢
   go_wp2_with fail
   go_loopg [8] n (fun f iv wz => ∃ k : Nat, f = n - k ∧ k ≤ n ∧ iv = .int .i64 (k : Int) ∧ Hid (RowI w.heap.size wz ga nn nn (fun j => eqN (ms.take k) q j)) ∧ Hid (RowI w.heap.size wz gr nn nn (fun i => if i < q then eqR ms i else if i = q then eqR (ms.take k) q else 0)) ∧ Hid (Keeps [ga, gr] w5 wz) ∧ Hid (Ext w wz))
   case atStart => exact ⟨0, rfl, by omega, rfl, hid (HA5.out.congr (fun j _ => by simp [eqN])), hid (HR5.out.congr (fun i _ => by simp [eqR])), hid (Keeps.refl _ _), HX⟩
   case round =>
    clear HA5 HR5 HX
    obtain ⟨k, rfl, hk, rfl, HA, HR, HK, HX⟩ := hrel
    have hpz := HP.out.keeps HK.out (fun h => by simp at h; omega)
    have p1 := hpz.cell 1
    simp only [List.getElem?_toArray, List.getElem?_cons_zero, List.getElem?_cons_succ] at p1
    clear hpz
    by_cases hkl : k < n
    ·
     have q2 : decide (k < n) = true := decide_eq_true hkl
     have q2b : decide ((k : Int) < (n : Int)) = true := decide_eq_true (by omega)
     obtain ⟨g, o, mt, rfl, hm, hmem, x0, x1, x2, x3, x4, x5, x6⟩ := (H.out.ext HX.out).get hkl
     have hvm := HVM.out mt hmem
     have HTK := hid (take_snoc hm)
     have HCB := hid (fun u => cof_bound hvm u)
     have HTN := hid (fun i j => termN hvm i j)
     have HTR := hid (fun i => termR hvm i)
     have HTD := hid (termD hvm)
     have HBN := hid (fun i j => eqN_take HVM.out k i j (by omega))
     have HBR := hid (fun i => eqR_take HVM.out k i (by omega))
     have HVK := hid hvm
     have hw1 := hvm.w1
     have hw2 := hvm.w2
     obtain ⟨⟨a, b, x, y, z, d, ww⟩, hmm⟩ : ∃ m', mt = m' := ⟨_, rfl⟩
     have hmw : mt.w = ww := by rw [hmm]
     have hmd : mt.d = d := by rw [hmm]
     rw [hmw] at HTN HTR HTD hw1 hw2
     rw [hmd] at HTR HTD
     rw [hmm] at x0 x1 x2 x3 x4 x5 x6
     simp only at x0 x1 x2 x3 x4 x5 x6
     have HMW := hid hmw
     have HMD := hid hmd
     clear hmw hmd
     have HMM := hid hmm
     clear hm hmem hvm hmm
     go_upto_region 11 with (fail)
     have hszz := HK.out.size
     have hXa : Ext wr (wr.alloc (.cells #[.int .i64 (a), .int .i64 (b), .int .i64 (x), .int .i64 (y), .int .i64 (z), .int .i64 (d), .int .i64 (ww)] 90)) := (Ext.refl _).alloc _
     have hB := Blk.new wr 90 #[.int .i64 (a), .int .i64 (b), .int .i64 (x), .int .i64 (y), .int .i64 (z), .int .i64 (d), .int .i64 (ww)]
     replace HX := hid (HX.out.trans hXa)
     replace HA := hid (HA.out.ext hXa)
     replace HR := hid (HR.out.ext hXa)
     replace HK := hid (HK.out.trans (.of_ext hXa _))
     have hgm : w5.heap.size ≤ wr.heap.size := hszz
     clear hXa x0 x1 x2 x3 x4 x5 x6 p1 hszz
     generalize wr.heap.size = gm at hB hgm ⊢
     generalize wr.alloc (.cells #[.int .i64 (a), .int .i64 (b), .int .i64 (x), .int .i64 (y), .int .i64 (z), .int .i64 (d), .int .i64 (ww)] 90) = w6 at hB HX HA HR HK ⊢
     have HM := hid hB
     clear hB
     have y0 := HM.out.cell 0
     have y1 := HM.out.cell 1
     have y2 := HM.out.cell 2
     have y3 := HM.out.cell 3
     have y4 := HM.out.cell 4
     have y5 := HM.out.cell 5
     have y6 := HM.out.cell 6
     simp only [List.getElem?_toArray, List.getElem?_cons_zero, List.getElem?_cons_succ] at y0 y1 y2 y3 y4 y5 y6
     go_wp2_with fail
     have hco := coefR_any (m := mt) (u := q) (S := S) (w := w6) (by omega) HVK.out
     rw [HMM.out] at hco
     unfold Mt.val at hco
     simp only at hco
     rw [← HMM.out] at hco
     refine hco.mono ?_
     clear hco
     rintro e w7 ⟨rfl, hX⟩
     clear y0 y1 y2 y3 y4 y5 y6
     replace HX := hid (HX.out.trans hX)
     replace HA := hid (HA.out.ext hX)
     replace HR := hid (HR.out.ext hX)
     replace HK := hid (HK.out.trans (.of_ext hX _))
     replace HM := hid (HM.out.ext hX)
     clear hX
     have xe := HR.out.cell hql
     have fe := HR.out.free q
     rw [if_neg (by omega), if_pos rfl] at xe
     have y0 := HM.out.cell 0
     have y1 := HM.out.cell 1
     have y2 := HM.out.cell 2
     have y3 := HM.out.cell 3
     have y4 := HM.out.cell 4
     have y5 := HM.out.cell 5
     have y6 := HM.out.cell 6
     simp only [List.getElem?_toArray, List.getElem?_cons_zero, List.getElem?_cons_succ] at y0 y1 y2 y3 y4 y5 y6
     have b1 := HBR.out q
     obtain ⟨b2, b3⟩ := HTR.out q
     have qx1 : IntKind.i64.wrap (ww * d) = ww * d := IntWalk.i64_in _ (by have := HTD.out; omega)
     have qx2 : IntKind.i64.wrap (ww * d * cof mt q) = ww * d * cof mt q := IntWalk.i64_in _ (by omega)
     have qx3 : IntKind.i64.wrap (eqR (ms.take k) q - ww * d * cof mt q) = eqR (ms.take k) q - ww * d * cof mt q := IntWalk.i64_in _ (by omega)
     go_upto_region 12 with (fail)
     refine eqr_r12 gr nn q gm _ ww d _ w7 xe y6 y5 hql qx1 qx2 qx3 _ _ (by simp) rfl rfl rfl rfl ?_
     rintro xv0 xv1 xv2 xv3 xv4 xv5 xv6 xv7 xv8 xv9 xv10 xv11 xv12 W rfl rfl rfl rfl rfl rfl rfl rfl rfl rfl rfl rfl rfl hX
     simp only [rops, Try.f44, regOf, Option.bind_some, Nat.reduceBEq, if_true, if_false, Bool.false_eq_true, Option.getD_some, List.drop_succ_cons, List.drop_zero]
     simp only [Act.put, List.setIfInBounds_toArray, List.set_cons_succ, List.set_cons_zero]
     replace HX := hid (HX.out.trans hX)
     replace HA := hid (HA.out.ext hX)
     replace HR := hid (HR.out.ext hX)
     replace HK := hid (HK.out.trans (.of_ext hX _))
     replace HM := hid (HM.out.ext hX)
     have xe2 := hX.cell xe
     have fe2 := HR.out.free q
     clear hX fe xe b1 b2 b3 qx1 qx2 qx3 y0 y1 y2 y3 y4 y5 y6
     have hP := HR.out.put hql (eqR (ms.take k) q - ww * d * cof mt q)
     have hKR : Keeps [gr] W (W.setCell ⟨gr, q, none⟩ (.int .i64 (eqR (ms.take k) q - ww * d * cof mt q))) := (Keeps.refl [gr] W).setCell (.inl (by simp)) _
     have HA8 := hid (HA.out.keeps hKR (fun h => by simp at h; omega))
     have HM8 := hid (HM.out.keeps hKR (fun h => by simp at h; omega))
     have HK8 := hid (HK.out.trans (hKR.mono (M := [ga, gr]) (fun g hg _ => by simp at hg; subst hg; simp)))
     have hsw := HX.out.size
     have HX8 := hid (hKR.ext HX.out (fun g hg => by simp at hg; subst hg; omega))
     have HR8 : Hid (RowI w.heap.size (W.setCell ⟨gr, q, none⟩ (.int .i64 (eqR (ms.take k) q - ww * d * cof mt q))) gr nn nn (fun i => if i < q then eqR ms i else if i = q then eqR (ms.take (k + 1)) q else 0)) := hid (hP.congr (fun i _ => by
      rw [HTK.out, eqR_snoc, HMW.out, HMD.out]
      by_cases h1 : i = q
      ·
       rw [if_pos h1, if_neg (by omega), if_pos h1]
      ·
       simp only [if_neg h1]))
     clear hP hKR HA HR HK HX HM
     go_upto_region 13 with (fail)
     clear xe2 fe2
     generalize W.setCell ⟨gr, q, none⟩ (.int .i64 (eqR (ms.take k) q - ww * d * cof mt q)) = w8 at HA8 HM8 HK8 HX8 HR8 ⊢
     go_wp2_with fail
     go_loopg [11] nn (fun f iv wy => ∃ r : Nat, f = nn - r ∧ r ≤ nn ∧ iv = .int .i64 (r : Int) ∧ Hid (RowI w.heap.size wy ga nn nn (fun j => eqN (ms.take k) q j + if j < r then ww * cof mt q * cof mt j else 0)) ∧ Hid (Keeps [ga] w8 wy))
     case atStart => exact ⟨0, rfl, by omega, rfl, hid (HA8.out.congr (fun j _ => by rw [if_neg (by omega), Int.add_zero])), hid (Keeps.refl _ _)⟩
     case round =>
      clear HA8
      obtain ⟨r, rfl, hr, rfl, HA, HKA⟩ := hrel
      by_cases hrl : r < nn
      ·
       have q5 : decide (r < nn) = true := decide_eq_true hrl
       have q5b : decide ((r : Int) < (nn : Int)) = true := decide_eq_true (by omega)
       have hm8 := HM8.out.keeps HKA.out (fun h => by simp at h; omega)
       have hca : w5.cell? ⟨gt, q, none⟩ = some (.slice (some ⟨ga, 0, none⟩) nn nn) := own_cell HO5.out (by rw [List.append_assoc, List.getElem?_append_right (by rw [HVL.out]; omega), HVL.out, Nat.sub_self]; rfl)
       have tca := keeps_c HKA.out (keeps_c HK8.out hca (fun h => by simp at h; omega)) (fun h => by simp at h; omega)
       clear hca
       have HMZ := hid hm8
       clear hm8
       have z0 := HMZ.out.cell 0
       have z1 := HMZ.out.cell 1
       have z2 := HMZ.out.cell 2
       have z3 := HMZ.out.cell 3
       have z4 := HMZ.out.cell 4
       have z5 := HMZ.out.cell 5
       have z6 := HMZ.out.cell 6
       simp only [List.getElem?_toArray, List.getElem?_cons_zero, List.getElem?_cons_succ] at z0 z1 z2 z3 z4 z5 z6
       have xe := HA.out.cell hrl
       have fe := HA.out.free r
       rw [if_neg (by omega), Int.add_zero] at xe
       have b1 := HBN.out q r
       obtain ⟨b2, b3⟩ := HTN.out q r
       have e1 := HCB.out q
       have qx1 : IntKind.i64.wrap (ww * cof mt q) = ww * cof mt q := IntWalk.i64_in _ (by have := prod_bound (A := 1000) (B := 100) (show -1000 ≤ ww by omega) hw2 e1.1 e1.2; omega)
       have qx2 : IntKind.i64.wrap (ww * cof mt q * cof mt r) = ww * cof mt q * cof mt r := IntWalk.i64_in _ (by omega)
       have qx3 : IntKind.i64.wrap (eqN (ms.take k) q r + ww * cof mt q * cof mt r) = eqN (ms.take k) q r + ww * cof mt q * cof mt r := IntWalk.i64_in _ (by omega)
       go_upto_region 16 with (fail)
       refine eqr_r16 gt nn q r ga gm S _ ww (cof mt q) (cof mt r) a b x y z d wr tca xe z0 z1 z2 z3 z4 z5 z6 hql hrl (by omega) (by rw [← HMM.out]; exact HVK.out) (by rw [← HMM.out]) qx1 qx2 qx3 _ _ (by simp) rfl rfl rfl rfl rfl ?_
       rintro xv0 xv1 xv2 xv3 xv4 xv5 xv6 xv7 xv8 xv9 xv10 xv11 xv12 xv13 xv14 xv15 xv16 W2 rfl rfl rfl rfl rfl rfl rfl rfl rfl rfl rfl rfl rfl rfl rfl rfl rfl hX
       simp only [rops, Try.f44, regOf, Option.bind_some, Nat.reduceBEq, if_true, if_false, Bool.false_eq_true, Option.getD_some, List.drop_succ_cons, List.drop_zero]
       simp only [Act.put, List.setIfInBounds_toArray, List.set_cons_succ, List.set_cons_zero]
       replace HA := hid (HA.out.ext hX)
       replace HKA := hid (HKA.out.trans (.of_ext hX _))
       have xe2 := hX.cell xe
       have fe2 := HA.out.free r
       clear hX fe xe b1 b2 b3 e1 qx1 qx2 qx3 z0 z1 z2 z3 z4 z5 z6 HMZ tca
       have hP := HA.out.put hrl (eqN (ms.take k) q r + ww * cof mt q * cof mt r)
       have HKP : Hid (Keeps [ga] w8 (W2.setCell ⟨ga, r, none⟩ (.int .i64 (eqN (ms.take k) q r + ww * cof mt q * cof mt r)))) := hid (HKA.out.trans ((Keeps.refl [ga] W2).setCell (.inl (by simp)) _))
       have HPP : Hid (RowI w.heap.size (W2.setCell ⟨ga, r, none⟩ (.int .i64 (eqN (ms.take k) q r + ww * cof mt q * cof mt r))) ga nn nn (fun j => eqN (ms.take k) q j + if j < r + 1 then ww * cof mt q * cof mt j else 0)) := hid (hP.congr (fun j _ => by
        by_cases h1 : j = r
        ·
         rw [if_pos h1, if_pos (by omega), h1]
        ·
         rw [if_neg h1]
         by_cases h2 : j < r
         ·
          rw [if_pos h2, if_pos (by omega)]
         ·
          rw [if_neg h2, if_neg (by omega)]))
       clear hP HA
       go_wp2
       go_roundg (nn - (r + 1))
       case rel => exact ⟨r + 1, rfl, by omega, by go_num, HPP, HKP⟩
       case measure => omega
      ·
       obtain rfl : r = nn := by omega
       have q5 : decide (r < r) = false := by simp
       have q5b : decide ((r : Int) < (r : Int)) = false := by simp
       have hsy := HX8.out.size
       have HX9 := hid (HKA.out.ext HX8.out (fun g hg => by simp at hg; subst hg; omega))
       have HR9 := hid (HR8.out.keeps HKA.out (fun h => by simp at h; omega))
       have HK9 := hid (HK8.out.trans (HKA.out.mono (M := [ga, gr]) (fun g hg _ => by simp at hg; subst hg; simp)))
       have HA9 : Hid (RowI w.heap.size wr ga r r (fun j => eqN (ms.take (k + 1)) q j)) := hid (HA.out.congr (fun j hj => by rw [if_pos hj, HTK.out, eqN_snoc, HMW.out]))
       clear HKA HA
       go_wp2
       go_roundg (n - (k + 1))
       case rel => exact ⟨k + 1, rfl, by omega, by go_num, HA9, HR9, HK9, HX9⟩
       case measure => omega
    ·
     obtain rfl : k = n := by omega
     have q2 : decide (k < k) = false := by simp
     have q2b : decide ((k : Int) < (k : Int)) = false := by simp
     have HTK : Hid (ms.take k = ms) := hid (List.take_of_length_le (by have := HL.out; omega))
     have hszz := HK.out.size
     have ho5 := ownsRow_keeps HO5.out HK.out (fun g hg hl => by simp [Value.ownBlock] at hg; subst hg; simp at hl; omega)
     have ht5 : Tbl 1 Uno 3 w.heap.size wr q nn vs (eqN ms) := by
      obtain ⟨hl, rows, hr, hn⟩ := HT5.out
      exact ⟨hl, rows, hr.keeps HK.out (fun v hv g hg hl2 => by
       obtain ⟨g', rfl, h1, h2, h3⟩ := HNL.out v hv
       simp [Value.ownBlock] at hg
       subst hg
       simp at hl2
       omega), fun i r hi => (hn i r hi).any _⟩
     obtain ⟨us, hou, hnu⟩ := HA.out
     have hpush := ht5.push hou hnu (fun u hu e => by
      obtain ⟨g', rfl, h1, h2, h3⟩ := HNL.out u hu
      simp [Value.ownBlock] at e
      omega)
     have HT6 : Hid (Tbl 1 Uno 3 w.heap.size wr (q + 1) nn (vs ++ [.slice (some ⟨ga, 0, none⟩) nn nn]) (eqN ms)) := hid (hpush.congr (fun i j _ _ => by
      by_cases e : i = q
      ·
       rw [if_pos e, e, HTK.out]
      ·
       rw [if_neg e]))
     have HO6 := hid ho5
     have HP6 := hid (HP.out.keeps HK.out (fun h => by simp at h; omega))
     clear ho5 ht5 hou hnu hpush
     go_wp2
     go_roundg (nn - (q + 1))
     case rel =>
      refine ⟨q + 1, _, rfl, by omega, by go_num, HO6, HT6, hid (HR.out.congr (fun i _ => ?_)), HP6, HX, hid (fun v hv => ?_), by omega, by omega⟩
      ·
       rw [HTK.out]
       by_cases h1 : i < q
       ·
        rw [if_pos h1, if_pos (by omega)]
       ·
        rw [if_neg h1]
        by_cases h2 : i = q
        ·
         rw [if_pos h2, if_pos (by omega), h2]
        ·
         rw [if_neg h2, if_neg (by omega)]
      ·
       rcases List.mem_append.1 hv with h | h
       ·
        obtain ⟨g', h1, h2, h3, h4⟩ := HNL.out v h
        exact ⟨g', h1, h2, by omega, h4⟩
       ·
        simp at h
        subst h
        exact ⟨ga, rfl, by omega, by omega, by omega⟩
     case measure => omega
  ·
   obtain rfl : nn = q := by omega
   have q1 : decide (nn < nn) = false := by simp
   have q1b : decide ((nn : Int) < (nn : Int)) = false := by simp
   have hT0 : TabG 1 Uno 3 61 w.heap.size wr gt nn nn nn vs (eqN ms) := ⟨by have := HO.out; rw [Nat.sub_self, List.replicate_zero, List.append_nil] at this; exact this, HT.out, .inl rfl⟩
   have HT0 := hid hT0
   have HR0 : Hid (RowI w.heap.size wr gr nn nn (eqR ms)) := hid (HR.out.congr (fun i hi => by rw [if_pos hi]))
   have HGR : Hid (gr ∉ tabL gt vs) := hid (fun h => by
    rcases List.mem_cons.1 h with h | h
    ·
     omega
    ·
     obtain ⟨v, hv, hvg⟩ := List.mem_filterMap.1 h
     obtain ⟨g', rfl, h1, h2, h3⟩ := HNL.out v hv
     simp [Value.ownBlock] at hvg
     omega)
   clear hT0
   go_wp2
   go_ret2
   exact ⟨gt, gr, vs, rfl, HT0.out, HR0.out, HGR.out, fun v hv => by obtain ⟨g, h1, _⟩ := HNL.out v hv; exact ⟨g, h1⟩, HX.out⟩
end Go.Proofs.Ytikhlcgnlbinfaa
