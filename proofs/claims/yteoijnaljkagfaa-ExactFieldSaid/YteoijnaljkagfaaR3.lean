/- Walks: Mul, Div of rational numbers (program). -/
import Derived.Test.YteoijnaljkagfaaR2
import Derived.Test.YteoijnaljkagfaaMono2
namespace Go.Proofs.Yteoijnaljkagfaa
open Go.RowKit

set_option maxRecDepth 100000 in
set_option maxHeartbeats 2000000 in
theorem rmul_r1 (ga gb : Nat) (s t : Bool) (A1 A2 B1 B2 : Option Addr) (l1 c1 l2 c2 m1 k1 m2 k2 n d m e L M : Nat) (w : World) (a0 : w.cell? ⟨ga, 0, none⟩ = some (.bool s)) (a1 : w.cell? ⟨ga, 1, none⟩ = some (.slice A1 l1 c1)) (a2 : w.cell? ⟨ga, 2, none⟩ = some (.slice A2 l2 c2)) (b0 : w.cell? ⟨gb, 0, none⟩ = some (.bool t)) (b1 : w.cell? ⟨gb, 1, none⟩ = some (.slice B1 m1 k1)) (b2 : w.cell? ⟨gb, 2, none⟩ = some (.slice B2 m2 k2)) (h1 : W32 w (.slice A1 l1 c1) n) (h2 : W32 w (.slice A2 l2 c2) d) (h3 : W32 w (.slice B1 m1 k1) m) (h4 : W32 w (.slice B2 m2 k2) e) (f1 : Fit 4294967296 n L) (f2 : Fit 4294967296 d L) (f3 : Fit 4294967296 m M) (f4 : Fit 4294967296 e M) (hL : L ≤ 1099511627776) (hM : M ≤ 1099511627776) (a : Act) (Q : Exit → Act → World → Prop) (hsize : 21 ≤ a.tmps.size)
    (s2 : a.tmps[2]? = some (.pointer (some ⟨ga, 0, none⟩)))
    (s3 : a.tmps[3]? = some (.pointer (some ⟨gb, 0, none⟩)))
    (hend : ∀ (x0 x1 x2 x3 x4 x5 x6 x7 x8 x9 x10 x11 x12 x13 x14 x15 : Value) (W : World), (x0 = .pointer (some ⟨ga, 0, none⟩)) → (x1 = .bool s) → (x2 = .pointer (some ⟨gb, 0, none⟩)) → (x3 = .bool t) → (x4 = .bool (s != t)) → (x5 = .pointer (some ⟨ga, 1, none⟩)) → (x6 = .slice A1 l1 c1) → (x7 = .pointer (some ⟨gb, 1, none⟩)) → (x8 = .slice B1 m1 k1) → (W32 W x9 (n * m)) → (x10 = .pointer (some ⟨ga, 2, none⟩)) → (x11 = .slice A2 l2 c2) → (x12 = .pointer (some ⟨gb, 2, none⟩)) → (x13 = .slice B2 m2 k2) → (W32 W x14 (d * e)) → (NumV W x15 (s != t) (n * m) (d * e)) → Ext w W → wpList Try.prog (rops Try.f98 1).toArray Q ((rops Try.f98 1).drop 16) ((((((((((((((((a.put (some 5) x0).put (some 6) x1).put (some 7) x2).put (some 8) x3).put (some 9) x4).put (some 10) x5).put (some 11) x6).put (some 12) x7).put (some 13) x8).put (some 14) x9).put (some 15) x10).put (some 16) x11).put (some 17) x12).put (some 18) x13).put (some 19) x14).put (some 20) x15) W) :
    (Code.region 1 (rops Try.f98 1).toArray true).wp Try.prog Q a w := by
  have hmono : ∀ (W W' : World) (j : Nat) (u : Value), Ext W W' → (fun (i : Nat) (v : Value) (W : World) => match i with
    | 0 => v = .pointer (some ⟨ga, 0, none⟩)
    | 1 => v = .bool s
    | 2 => v = .pointer (some ⟨gb, 0, none⟩)
    | 3 => v = .bool t
    | 4 => v = .bool (s != t)
    | 5 => v = .pointer (some ⟨ga, 1, none⟩)
    | 6 => v = .slice A1 l1 c1
    | 7 => v = .pointer (some ⟨gb, 1, none⟩)
    | 8 => v = .slice B1 m1 k1
    | 9 => W32 W v (n * m)
    | 10 => v = .pointer (some ⟨ga, 2, none⟩)
    | 11 => v = .slice A2 l2 c2
    | 12 => v = .pointer (some ⟨gb, 2, none⟩)
    | 13 => v = .slice B2 m2 k2
    | 14 => W32 W v (d * e)
    | 15 => NumV W v (s != t) (n * m) (d * e)
    | _ => True) j u W → (fun (i : Nat) (v : Value) (W : World) => match i with
    | 0 => v = .pointer (some ⟨ga, 0, none⟩)
    | 1 => v = .bool s
    | 2 => v = .pointer (some ⟨gb, 0, none⟩)
    | 3 => v = .bool t
    | 4 => v = .bool (s != t)
    | 5 => v = .pointer (some ⟨ga, 1, none⟩)
    | 6 => v = .slice A1 l1 c1
    | 7 => v = .pointer (some ⟨gb, 1, none⟩)
    | 8 => v = .slice B1 m1 k1
    | 9 => W32 W v (n * m)
    | 10 => v = .pointer (some ⟨ga, 2, none⟩)
    | 11 => v = .slice A2 l2 c2
    | 12 => v = .pointer (some ⟨gb, 2, none⟩)
    | 13 => v = .slice B2 m2 k2
    | 14 => W32 W v (d * e)
    | 15 => NumV W v (s != t) (n * m) (d * e)
    | _ => True) j u W' := by
    intro W W' j u hX h
    match j, h with
    | 0, h => exact h
    | 1, h => exact h
    | 2, h => exact h
    | 3, h => exact h
    | 4, h => exact h
    | 5, h => exact h
    | 6, h => exact h
    | 7, h => exact h
    | 8, h => exact h
    | 9, h => exact W32.ext h hX
    | 10, h => exact h
    | 11, h => exact h
    | 12, h => exact h
    | 13, h => exact h
    | 14, h => exact W32.ext h hX
    | 15, h => exact NumV.ext h hX
    | _ + 16, h => exact h
  have hsz : ∀ d, some d ∈ ([some 5, some 6, some 7, some 8, some 9, some 10, some 11, some 12, some 13, some 14, some 15, some 16, some 17, some 18, some 19, some 20] : List (Option Tmp)) → d < a.tmps.size := slots_lt (by decide) hsize
  refine wp_region_j 16 [some 5, some 6, some 7, some 8, some 9, some 10, some 11, some 12, some 13, some 14, some 15, some 16, some 17, some 18, some 19, some 20] [[], [0], [], [2], [1, 3], [], [5], [], [7], [6, 8], [], [10], [], [12], [11, 13], [4, 9, 14]] [[], [], [], [], [], [], [], [], [], [], [], [], [], [], [], []] (fun (i : Nat) (v : Value) (W : World) => match i with
    | 0 => v = .pointer (some ⟨ga, 0, none⟩)
    | 1 => v = .bool s
    | 2 => v = .pointer (some ⟨gb, 0, none⟩)
    | 3 => v = .bool t
    | 4 => v = .bool (s != t)
    | 5 => v = .pointer (some ⟨ga, 1, none⟩)
    | 6 => v = .slice A1 l1 c1
    | 7 => v = .pointer (some ⟨gb, 1, none⟩)
    | 8 => v = .slice B1 m1 k1
    | 9 => W32 W v (n * m)
    | 10 => v = .pointer (some ⟨ga, 2, none⟩)
    | 11 => v = .slice A2 l2 c2
    | 12 => v = .pointer (some ⟨gb, 2, none⟩)
    | 13 => v = .slice B2 m2 k2
    | 14 => W32 W v (d * e)
    | 15 => NumV W v (s != t) (n * m) (d * e)
    | _ => True) (fun _ W => Ext w W) (by kernel_rfl) (by kernel_rfl) hsz (fun _ _ _ _ h => h) ((Ext.refl w).drew) ?_ ?_
  · clear hend
    simp only [rops, Try.f98, regOf, Option.bind_some, Nat.reduceBEq, if_true, if_false, Bool.false_eq_true, Option.getD_some]
    simp only [List.take_succ_cons, List.take_zero]
    refine ⟨?_, ?_, ?_, ?_, ?_, ?_, ?_, ?_, ?_, ?_, ?_, ?_, ?_, ?_, ?_, ?_, trivial⟩
    · intro done us W hJ hdep haft hnot b hb hb' K hK Q'
      have e2 := (hb' 2 (by simp)).trans s2
      clear hb hb'
      go_simp
      exact hK _ _ rfl (fun _ _ _ h => h) hJ
    · intro done us W hJ hdep haft hnot b hb hb' K hK Q'
      simp only [List.getD_cons_succ, List.getD_cons_zero, List.mem_cons, List.not_mem_nil, or_false, forall_eq] at hdep
      have e5 := hb 0 5 rfl
      have d0 := hdep
      rw [d0.1] at e5
      clear hb hb' hdep d0
      have q := Ext.cell hJ a0
      go_simp
      exact hK _ _ rfl (fun _ _ _ h => h) hJ
    · intro done us W hJ hdep haft hnot b hb hb' K hK Q'
      have e3 := (hb' 3 (by simp)).trans s3
      clear hb hb'
      go_simp
      exact hK _ _ rfl (fun _ _ _ h => h) hJ
    · intro done us W hJ hdep haft hnot b hb hb' K hK Q'
      simp only [List.getD_cons_succ, List.getD_cons_zero, List.mem_cons, List.not_mem_nil, or_false, forall_eq] at hdep
      have e7 := hb 2 7 rfl
      have d2 := hdep
      rw [d2.1] at e7
      clear hb hb' hdep d2
      have q := Ext.cell hJ b0
      go_simp
      exact hK _ _ rfl (fun _ _ _ h => h) hJ
    · intro done us W hJ hdep haft hnot b hb hb' K hK Q'
      simp only [List.getD_cons_succ, List.getD_cons_zero, List.mem_cons, List.not_mem_nil, or_false, forall_eq_or_imp, forall_eq] at hdep
      have e6 := hb 1 6 rfl
      have e8 := hb 3 8 rfl
      have d1 := hdep.1
      have d3 := hdep.2
      rw [d1.1] at e6
      rw [d3.1] at e8
      clear hb hb' hdep d1 d3
      go_simp
      exact hK _ _ rfl (fun _ _ _ h => h) hJ
    · intro done us W hJ hdep haft hnot b hb hb' K hK Q'
      have e2 := (hb' 2 (by simp)).trans s2
      clear hb hb'
      go_simp
      exact hK _ _ rfl (fun _ _ _ h => h) hJ
    · intro done us W hJ hdep haft hnot b hb hb' K hK Q'
      simp only [List.getD_cons_succ, List.getD_cons_zero, List.mem_cons, List.not_mem_nil, or_false, forall_eq] at hdep
      have e10 := hb 5 10 rfl
      have d5 := hdep
      rw [d5.1] at e10
      clear hb hb' hdep d5
      have q := Ext.cell hJ a1
      go_simp
      exact hK _ _ rfl (fun _ _ _ h => h) hJ
    · intro done us W hJ hdep haft hnot b hb hb' K hK Q'
      have e3 := (hb' 3 (by simp)).trans s3
      clear hb hb'
      go_simp
      exact hK _ _ rfl (fun _ _ _ h => h) hJ
    · intro done us W hJ hdep haft hnot b hb hb' K hK Q'
      simp only [List.getD_cons_succ, List.getD_cons_zero, List.mem_cons, List.not_mem_nil, or_false, forall_eq] at hdep
      have e12 := hb 7 12 rfl
      have d7 := hdep
      rw [d7.1] at e12
      clear hb hb' hdep d7
      have q := Ext.cell hJ b1
      go_simp
      exact hK _ _ rfl (fun _ _ _ h => h) hJ
    · intro done us W hJ hdep haft hnot b hb hb' K hK Q'
      simp only [List.getD_cons_succ, List.getD_cons_zero, List.mem_cons, List.not_mem_nil, or_false, forall_eq_or_imp, forall_eq] at hdep
      have e11 := hb 6 11 rfl
      have e13 := hb 8 13 rfl
      have d6 := hdep.1
      have d8 := hdep.2
      rw [d6.1] at e11
      rw [d8.1] at e13
      clear hb hb' hdep d6 d8
      go_simp
      refine (mul_any _ _ n m L M _ (W32.ext h1 hJ) (W32.ext h3 hJ) f1 f3 hL hM).mono ?_
      rintro e w' ⟨v, rfl, hv, hX⟩
      exact hK _ _ hv (fun j u _ h => hmono _ _ j u hX h) (Ext.trans hJ hX)
    · intro done us W hJ hdep haft hnot b hb hb' K hK Q'
      have e2 := (hb' 2 (by simp)).trans s2
      clear hb hb'
      go_simp
      exact hK _ _ rfl (fun _ _ _ h => h) hJ
    · intro done us W hJ hdep haft hnot b hb hb' K hK Q'
      simp only [List.getD_cons_succ, List.getD_cons_zero, List.mem_cons, List.not_mem_nil, or_false, forall_eq] at hdep
      have e15 := hb 10 15 rfl
      have d10 := hdep
      rw [d10.1] at e15
      clear hb hb' hdep d10
      have q := Ext.cell hJ a2
      go_simp
      exact hK _ _ rfl (fun _ _ _ h => h) hJ
    · intro done us W hJ hdep haft hnot b hb hb' K hK Q'
      have e3 := (hb' 3 (by simp)).trans s3
      clear hb hb'
      go_simp
      exact hK _ _ rfl (fun _ _ _ h => h) hJ
    · intro done us W hJ hdep haft hnot b hb hb' K hK Q'
      simp only [List.getD_cons_succ, List.getD_cons_zero, List.mem_cons, List.not_mem_nil, or_false, forall_eq] at hdep
      have e17 := hb 12 17 rfl
      have d12 := hdep
      rw [d12.1] at e17
      clear hb hb' hdep d12
      have q := Ext.cell hJ b2
      go_simp
      exact hK _ _ rfl (fun _ _ _ h => h) hJ
    · intro done us W hJ hdep haft hnot b hb hb' K hK Q'
      simp only [List.getD_cons_succ, List.getD_cons_zero, List.mem_cons, List.not_mem_nil, or_false, forall_eq_or_imp, forall_eq] at hdep
      have e16 := hb 11 16 rfl
      have e18 := hb 13 18 rfl
      have d11 := hdep.1
      have d13 := hdep.2
      rw [d11.1] at e16
      rw [d13.1] at e18
      clear hb hb' hdep d11 d13
      go_simp
      refine (mul_any _ _ d e L M _ (W32.ext h2 hJ) (W32.ext h4 hJ) f2 f4 hL hM).mono ?_
      rintro e w' ⟨v, rfl, hv, hX⟩
      exact hK _ _ hv (fun j u _ h => hmono _ _ j u hX h) (Ext.trans hJ hX)
    · intro done us W hJ hdep haft hnot b hb hb' K hK Q'
      simp only [List.getD_cons_succ, List.getD_cons_zero, List.mem_cons, List.not_mem_nil, or_false, forall_eq_or_imp, forall_eq] at hdep
      have e9 := hb 4 9 rfl
      have e14 := hb 9 14 rfl
      have e19 := hb 14 19 rfl
      have d4 := hdep.1
      have d9 := hdep.2.1
      have d14 := hdep.2.2
      rw [d4.1] at e9
      clear hb hb' hdep d4
      obtain ⟨P1, q1, r1, hv1, g1, _⟩ := W32.open d9.1
      obtain ⟨P2, q2, r2, hv2, g2, _⟩ := W32.open d14.1
      rw [hv1] at e14
      rw [hv2] at e19
      go_simp
      exact hK _ _ ⟨_, _, rfl, g1, g2⟩ (fun _ _ _ h => h) hJ
  · intro us W hV hJ
    exact hend (us 0) (us 1) (us 2) (us 3) (us 4) (us 5) (us 6) (us 7) (us 8) (us 9) (us 10) (us 11) (us 12) (us 13) (us 14) (us 15) W (hV 0 (by omega)) (hV 1 (by omega)) (hV 2 (by omega)) (hV 3 (by omega)) (hV 4 (by omega)) (hV 5 (by omega)) (hV 6 (by omega)) (hV 7 (by omega)) (hV 8 (by omega)) (hV 9 (by omega)) (hV 10 (by omega)) (hV 11 (by omega)) (hV 12 (by omega)) (hV 13 (by omega)) (hV 14 (by omega)) (hV 15 (by omega)) hJ

set_option maxRecDepth 100000 in
set_option maxHeartbeats 1000000 in
theorem rmul_any (va vb : Value) (s t : Bool) (n d m e L M : Nat) (w : World) (ha : NumV w va s n d) (hb : NumV w vb t m e) (f1 : Fit 4294967296 n L) (f2 : Fit 4294967296 d L) (f3 : Fit 4294967296 m M) (f4 : Fit 4294967296 e M) (hL : L ≤ 1099511627776) (hM : M ≤ 1099511627776) :
    Calls Try.prog 98 #[va, vb] w (RetR w (s != t) (n * m) (d * e)) := by
  obtain ⟨A1, l1, c1, A2, l2, c2, rfl, h1, h2, _, _⟩ := ha.open
  obtain ⟨B1, m1, k1, B2, m2, k2, rfl, h3, h4, _, _⟩ := hb.open
  clear ha hb
  have H1 := Lib.hid h1
  have H2 := Lib.hid h2
  have H3 := Lib.hid h3
  have H4 := Lib.hid h4
  clear h1 h2 h3 h4
  go_enter Try.func98, Try.ntmps98
  go_wp2_with fail
  have hXw : Ext w (((w.alloc (.cells #[.bool s, .slice A1 l1 c1, .slice A2 l2 c2] 96)).alloc (.cells #[.bool t, .slice B1 m1 k1, .slice B2 m2 k2] 96)).alloc (.cells #[.bool false, .slice none 0 0, .slice none 0 0] 96)) := (((Ext.refl w).alloc _).alloc _).alloc _
  have hBA : Blk (((w.alloc (.cells #[.bool s, .slice A1 l1 c1, .slice A2 l2 c2] 96)).alloc (.cells #[.bool t, .slice B1 m1 k1, .slice B2 m2 k2] 96)).alloc (.cells #[.bool false, .slice none 0 0, .slice none 0 0] 96)) w.heap.size 96 #[.bool s, .slice A1 l1 c1, .slice A2 l2 c2] := ((Blk.new w _ _).alloc _).alloc _
  have hBB : Blk (((w.alloc (.cells #[.bool s, .slice A1 l1 c1, .slice A2 l2 c2] 96)).alloc (.cells #[.bool t, .slice B1 m1 k1, .slice B2 m2 k2] 96)).alloc (.cells #[.bool false, .slice none 0 0, .slice none 0 0] 96)) (w.heap.size + 1) 96 #[.bool t, .slice B1 m1 k1, .slice B2 m2 k2] := by
    have := (Blk.new (w.alloc (.cells #[.bool s, .slice A1 l1 c1, .slice A2 l2 c2] 96)) 96 #[.bool t, .slice B1 m1 k1, .slice B2 m2 k2]).alloc (.cells #[.bool false, .slice none 0 0, .slice none 0 0] 96)
    simpa using this
  have hBR : Blk (((w.alloc (.cells #[.bool s, .slice A1 l1 c1, .slice A2 l2 c2] 96)).alloc (.cells #[.bool t, .slice B1 m1 k1, .slice B2 m2 k2] 96)).alloc (.cells #[.bool false, .slice none 0 0, .slice none 0 0] 96)) (w.heap.size + 1 + 1) 96 #[.bool false, .slice none 0 0, .slice none 0 0] := by
    have := Blk.new ((w.alloc (.cells #[.bool s, .slice A1 l1 c1, .slice A2 l2 c2] 96)).alloc (.cells #[.bool t, .slice B1 m1 k1, .slice B2 m2 k2] 96)) 96 #[.bool false, .slice none 0 0, .slice none 0 0]
    simpa using this
  generalize ((w.alloc (.cells #[.bool s, .slice A1 l1 c1, .slice A2 l2 c2] 96)).alloc (.cells #[.bool t, .slice B1 m1 k1, .slice B2 m2 k2] 96)).alloc (.cells #[.bool false, .slice none 0 0, .slice none 0 0] 96) = w1 at hXw hBA hBB hBR ⊢
  obtain ⟨a0, a1, a2, _, _, _⟩ := hBA.three
  obtain ⟨b0, b1, b2, _, _, _⟩ := hBB.three
  have HXw := Lib.hid hXw
  have HBA := Lib.hid hBA
  have HBB := Lib.hid hBB
  have HBR := Lib.hid hBR
  replace H1 := Lib.hid (H1.out.ext hXw)
  replace H2 := Lib.hid (H2.out.ext hXw)
  replace H3 := Lib.hid (H3.out.ext hXw)
  replace H4 := Lib.hid (H4.out.ext hXw)
  clear hXw hBA hBB hBR
  refine rmul_r1 w.heap.size (w.heap.size + 1) s t A1 A2 B1 B2 l1 c1 l2 c2 m1 k1 m2 k2 n d m e L M w1 a0 a1 a2 b0 b1 b2 H1.out H2.out H3.out H4.out f1 f2 f3 f4 hL hM _ _ (by simp) rfl rfl ?_
  rintro x0 x1 x2 x3 x4 x5 x6 x7 x8 x9 x10 x11 x12 x13 x14 x15 W rfl rfl rfl rfl rfl rfl rfl rfl rfl h9 rfl rfl rfl rfl h14 h15 hXW
  simp only [rops, Try.f98, regOf, Option.bind_some, Nat.reduceBEq, if_true, if_false, Bool.false_eq_true, Option.getD_some, List.drop_succ_cons, List.drop_zero]
  simp only [Act.put, List.setIfInBounds_toArray, List.set_cons_succ, List.set_cons_zero]
  obtain ⟨P1, q1, r1, P2, q2, r2, rfl, g1, g2, _, _⟩ := NumV.open h15
  clear h9 h14 h15
  obtain ⟨y0, y1, y2, f0, f1', f2'⟩ := (HBR.out.ext hXW).three
  have HNB := Lib.hid (NoInts.three (HBR.out.ext hXW))
  have G1 := Lib.hid g1
  have G2 := Lib.hid g2
  have HXW := Lib.hid hXW
  clear g1 g2 hXW a0 a1 a2 b0 b1 b2
  go_wp2
  refine bodyPost_ret (v := .agg #[.bool (s != t), .slice P1 q1 r1, .slice P2 q2 r2]) (by simp [results, Try.results98, go_sem, *]) rfl ?_
  exact ⟨_, rfl, ⟨_, _, rfl, G1.out.boxed HNB.out _ _ _ _ _ _ _, G2.out.boxed HNB.out _ _ _ _ _ _ _⟩, Ext.boxed (HXw.out.trans HXW.out) (by omega) _ _ _⟩

set_option maxRecDepth 100000 in
set_option maxHeartbeats 2000000 in
theorem rdiv_r1 (ga gb : Nat) (s t : Bool) (A1 A2 B1 B2 : Option Addr) (l1 c1 l2 c2 m1 k1 m2 k2 n d m e L M : Nat) (w : World) (a0 : w.cell? ⟨ga, 0, none⟩ = some (.bool s)) (a1 : w.cell? ⟨ga, 1, none⟩ = some (.slice A1 l1 c1)) (a2 : w.cell? ⟨ga, 2, none⟩ = some (.slice A2 l2 c2)) (b0 : w.cell? ⟨gb, 0, none⟩ = some (.bool t)) (b1 : w.cell? ⟨gb, 1, none⟩ = some (.slice B1 m1 k1)) (b2 : w.cell? ⟨gb, 2, none⟩ = some (.slice B2 m2 k2)) (h1 : W32 w (.slice A1 l1 c1) n) (h2 : W32 w (.slice A2 l2 c2) d) (h3 : W32 w (.slice B1 m1 k1) m) (h4 : W32 w (.slice B2 m2 k2) e) (f1 : Fit 4294967296 n L) (f2 : Fit 4294967296 d L) (f3 : Fit 4294967296 m M) (f4 : Fit 4294967296 e M) (hL : L ≤ 1099511627776) (hM : M ≤ 1099511627776) (a : Act) (Q : Exit → Act → World → Prop) (hsize : 21 ≤ a.tmps.size)
    (s2 : a.tmps[2]? = some (.pointer (some ⟨ga, 0, none⟩)))
    (s3 : a.tmps[3]? = some (.pointer (some ⟨gb, 0, none⟩)))
    (hend : ∀ (x0 x1 x2 x3 x4 x5 x6 x7 x8 x9 x10 x11 x12 x13 x14 x15 : Value) (W : World), (x0 = .pointer (some ⟨ga, 0, none⟩)) → (x1 = .bool s) → (x2 = .pointer (some ⟨gb, 0, none⟩)) → (x3 = .bool t) → (x4 = .bool (s != t)) → (x5 = .pointer (some ⟨ga, 1, none⟩)) → (x6 = .slice A1 l1 c1) → (x7 = .pointer (some ⟨gb, 2, none⟩)) → (x8 = .slice B2 m2 k2) → (W32 W x9 (n * e)) → (x10 = .pointer (some ⟨ga, 2, none⟩)) → (x11 = .slice A2 l2 c2) → (x12 = .pointer (some ⟨gb, 1, none⟩)) → (x13 = .slice B1 m1 k1) → (W32 W x14 (d * m)) → (NumV W x15 (s != t) (n * e) (d * m)) → Ext w W → wpList Try.prog (rops Try.f76 1).toArray Q ((rops Try.f76 1).drop 16) ((((((((((((((((a.put (some 5) x0).put (some 6) x1).put (some 7) x2).put (some 8) x3).put (some 9) x4).put (some 10) x5).put (some 11) x6).put (some 12) x7).put (some 13) x8).put (some 14) x9).put (some 15) x10).put (some 16) x11).put (some 17) x12).put (some 18) x13).put (some 19) x14).put (some 20) x15) W) :
    (Code.region 1 (rops Try.f76 1).toArray true).wp Try.prog Q a w := by
  have hmono : ∀ (W W' : World) (j : Nat) (u : Value), Ext W W' → (fun (i : Nat) (v : Value) (W : World) => match i with
    | 0 => v = .pointer (some ⟨ga, 0, none⟩)
    | 1 => v = .bool s
    | 2 => v = .pointer (some ⟨gb, 0, none⟩)
    | 3 => v = .bool t
    | 4 => v = .bool (s != t)
    | 5 => v = .pointer (some ⟨ga, 1, none⟩)
    | 6 => v = .slice A1 l1 c1
    | 7 => v = .pointer (some ⟨gb, 2, none⟩)
    | 8 => v = .slice B2 m2 k2
    | 9 => W32 W v (n * e)
    | 10 => v = .pointer (some ⟨ga, 2, none⟩)
    | 11 => v = .slice A2 l2 c2
    | 12 => v = .pointer (some ⟨gb, 1, none⟩)
    | 13 => v = .slice B1 m1 k1
    | 14 => W32 W v (d * m)
    | 15 => NumV W v (s != t) (n * e) (d * m)
    | _ => True) j u W → (fun (i : Nat) (v : Value) (W : World) => match i with
    | 0 => v = .pointer (some ⟨ga, 0, none⟩)
    | 1 => v = .bool s
    | 2 => v = .pointer (some ⟨gb, 0, none⟩)
    | 3 => v = .bool t
    | 4 => v = .bool (s != t)
    | 5 => v = .pointer (some ⟨ga, 1, none⟩)
    | 6 => v = .slice A1 l1 c1
    | 7 => v = .pointer (some ⟨gb, 2, none⟩)
    | 8 => v = .slice B2 m2 k2
    | 9 => W32 W v (n * e)
    | 10 => v = .pointer (some ⟨ga, 2, none⟩)
    | 11 => v = .slice A2 l2 c2
    | 12 => v = .pointer (some ⟨gb, 1, none⟩)
    | 13 => v = .slice B1 m1 k1
    | 14 => W32 W v (d * m)
    | 15 => NumV W v (s != t) (n * e) (d * m)
    | _ => True) j u W' := by
    intro W W' j u hX h
    match j, h with
    | 0, h => exact h
    | 1, h => exact h
    | 2, h => exact h
    | 3, h => exact h
    | 4, h => exact h
    | 5, h => exact h
    | 6, h => exact h
    | 7, h => exact h
    | 8, h => exact h
    | 9, h => exact W32.ext h hX
    | 10, h => exact h
    | 11, h => exact h
    | 12, h => exact h
    | 13, h => exact h
    | 14, h => exact W32.ext h hX
    | 15, h => exact NumV.ext h hX
    | _ + 16, h => exact h
  have hsz : ∀ d, some d ∈ ([some 5, some 6, some 7, some 8, some 9, some 10, some 11, some 12, some 13, some 14, some 15, some 16, some 17, some 18, some 19, some 20] : List (Option Tmp)) → d < a.tmps.size := slots_lt (by decide) hsize
  refine wp_region_j 16 [some 5, some 6, some 7, some 8, some 9, some 10, some 11, some 12, some 13, some 14, some 15, some 16, some 17, some 18, some 19, some 20] [[], [0], [], [2], [1, 3], [], [5], [], [7], [6, 8], [], [10], [], [12], [11, 13], [4, 9, 14]] [[], [], [], [], [], [], [], [], [], [], [], [], [], [], [], []] (fun (i : Nat) (v : Value) (W : World) => match i with
    | 0 => v = .pointer (some ⟨ga, 0, none⟩)
    | 1 => v = .bool s
    | 2 => v = .pointer (some ⟨gb, 0, none⟩)
    | 3 => v = .bool t
    | 4 => v = .bool (s != t)
    | 5 => v = .pointer (some ⟨ga, 1, none⟩)
    | 6 => v = .slice A1 l1 c1
    | 7 => v = .pointer (some ⟨gb, 2, none⟩)
    | 8 => v = .slice B2 m2 k2
    | 9 => W32 W v (n * e)
    | 10 => v = .pointer (some ⟨ga, 2, none⟩)
    | 11 => v = .slice A2 l2 c2
    | 12 => v = .pointer (some ⟨gb, 1, none⟩)
    | 13 => v = .slice B1 m1 k1
    | 14 => W32 W v (d * m)
    | 15 => NumV W v (s != t) (n * e) (d * m)
    | _ => True) (fun _ W => Ext w W) (by kernel_rfl) (by kernel_rfl) hsz (fun _ _ _ _ h => h) ((Ext.refl w).drew) ?_ ?_
  · clear hend
    simp only [rops, Try.f76, regOf, Option.bind_some, Nat.reduceBEq, if_true, if_false, Bool.false_eq_true, Option.getD_some]
    simp only [List.take_succ_cons, List.take_zero]
    refine ⟨?_, ?_, ?_, ?_, ?_, ?_, ?_, ?_, ?_, ?_, ?_, ?_, ?_, ?_, ?_, ?_, trivial⟩
    · intro done us W hJ hdep haft hnot b hb hb' K hK Q'
      have e2 := (hb' 2 (by simp)).trans s2
      clear hb hb'
      go_simp
      exact hK _ _ rfl (fun _ _ _ h => h) hJ
    · intro done us W hJ hdep haft hnot b hb hb' K hK Q'
      simp only [List.getD_cons_succ, List.getD_cons_zero, List.mem_cons, List.not_mem_nil, or_false, forall_eq] at hdep
      have e5 := hb 0 5 rfl
      have d0 := hdep
      rw [d0.1] at e5
      clear hb hb' hdep d0
      have q := Ext.cell hJ a0
      go_simp
      exact hK _ _ rfl (fun _ _ _ h => h) hJ
    · intro done us W hJ hdep haft hnot b hb hb' K hK Q'
      have e3 := (hb' 3 (by simp)).trans s3
      clear hb hb'
      go_simp
      exact hK _ _ rfl (fun _ _ _ h => h) hJ
    · intro done us W hJ hdep haft hnot b hb hb' K hK Q'
      simp only [List.getD_cons_succ, List.getD_cons_zero, List.mem_cons, List.not_mem_nil, or_false, forall_eq] at hdep
      have e7 := hb 2 7 rfl
      have d2 := hdep
      rw [d2.1] at e7
      clear hb hb' hdep d2
      have q := Ext.cell hJ b0
      go_simp
      exact hK _ _ rfl (fun _ _ _ h => h) hJ
    · intro done us W hJ hdep haft hnot b hb hb' K hK Q'
      simp only [List.getD_cons_succ, List.getD_cons_zero, List.mem_cons, List.not_mem_nil, or_false, forall_eq_or_imp, forall_eq] at hdep
      have e6 := hb 1 6 rfl
      have e8 := hb 3 8 rfl
      have d1 := hdep.1
      have d3 := hdep.2
      rw [d1.1] at e6
      rw [d3.1] at e8
      clear hb hb' hdep d1 d3
      go_simp
      exact hK _ _ rfl (fun _ _ _ h => h) hJ
    · intro done us W hJ hdep haft hnot b hb hb' K hK Q'
      have e2 := (hb' 2 (by simp)).trans s2
      clear hb hb'
      go_simp
      exact hK _ _ rfl (fun _ _ _ h => h) hJ
    · intro done us W hJ hdep haft hnot b hb hb' K hK Q'
      simp only [List.getD_cons_succ, List.getD_cons_zero, List.mem_cons, List.not_mem_nil, or_false, forall_eq] at hdep
      have e10 := hb 5 10 rfl
      have d5 := hdep
      rw [d5.1] at e10
      clear hb hb' hdep d5
      have q := Ext.cell hJ a1
      go_simp
      exact hK _ _ rfl (fun _ _ _ h => h) hJ
    · intro done us W hJ hdep haft hnot b hb hb' K hK Q'
      have e3 := (hb' 3 (by simp)).trans s3
      clear hb hb'
      go_simp
      exact hK _ _ rfl (fun _ _ _ h => h) hJ
    · intro done us W hJ hdep haft hnot b hb hb' K hK Q'
      simp only [List.getD_cons_succ, List.getD_cons_zero, List.mem_cons, List.not_mem_nil, or_false, forall_eq] at hdep
      have e12 := hb 7 12 rfl
      have d7 := hdep
      rw [d7.1] at e12
      clear hb hb' hdep d7
      have q := Ext.cell hJ b2
      go_simp
      exact hK _ _ rfl (fun _ _ _ h => h) hJ
    · intro done us W hJ hdep haft hnot b hb hb' K hK Q'
      simp only [List.getD_cons_succ, List.getD_cons_zero, List.mem_cons, List.not_mem_nil, or_false, forall_eq_or_imp, forall_eq] at hdep
      have e11 := hb 6 11 rfl
      have e13 := hb 8 13 rfl
      have d6 := hdep.1
      have d8 := hdep.2
      rw [d6.1] at e11
      rw [d8.1] at e13
      clear hb hb' hdep d6 d8
      go_simp
      refine (mul_any _ _ n e L M _ (W32.ext h1 hJ) (W32.ext h4 hJ) f1 f4 hL hM).mono ?_
      rintro e w' ⟨v, rfl, hv, hX⟩
      exact hK _ _ hv (fun j u _ h => hmono _ _ j u hX h) (Ext.trans hJ hX)
    · intro done us W hJ hdep haft hnot b hb hb' K hK Q'
      have e2 := (hb' 2 (by simp)).trans s2
      clear hb hb'
      go_simp
      exact hK _ _ rfl (fun _ _ _ h => h) hJ
    · intro done us W hJ hdep haft hnot b hb hb' K hK Q'
      simp only [List.getD_cons_succ, List.getD_cons_zero, List.mem_cons, List.not_mem_nil, or_false, forall_eq] at hdep
      have e15 := hb 10 15 rfl
      have d10 := hdep
      rw [d10.1] at e15
      clear hb hb' hdep d10
      have q := Ext.cell hJ a2
      go_simp
      exact hK _ _ rfl (fun _ _ _ h => h) hJ
    · intro done us W hJ hdep haft hnot b hb hb' K hK Q'
      have e3 := (hb' 3 (by simp)).trans s3
      clear hb hb'
      go_simp
      exact hK _ _ rfl (fun _ _ _ h => h) hJ
    · intro done us W hJ hdep haft hnot b hb hb' K hK Q'
      simp only [List.getD_cons_succ, List.getD_cons_zero, List.mem_cons, List.not_mem_nil, or_false, forall_eq] at hdep
      have e17 := hb 12 17 rfl
      have d12 := hdep
      rw [d12.1] at e17
      clear hb hb' hdep d12
      have q := Ext.cell hJ b1
      go_simp
      exact hK _ _ rfl (fun _ _ _ h => h) hJ
    · intro done us W hJ hdep haft hnot b hb hb' K hK Q'
      simp only [List.getD_cons_succ, List.getD_cons_zero, List.mem_cons, List.not_mem_nil, or_false, forall_eq_or_imp, forall_eq] at hdep
      have e16 := hb 11 16 rfl
      have e18 := hb 13 18 rfl
      have d11 := hdep.1
      have d13 := hdep.2
      rw [d11.1] at e16
      rw [d13.1] at e18
      clear hb hb' hdep d11 d13
      go_simp
      refine (mul_any _ _ d m L M _ (W32.ext h2 hJ) (W32.ext h3 hJ) f2 f3 hL hM).mono ?_
      rintro e w' ⟨v, rfl, hv, hX⟩
      exact hK _ _ hv (fun j u _ h => hmono _ _ j u hX h) (Ext.trans hJ hX)
    · intro done us W hJ hdep haft hnot b hb hb' K hK Q'
      simp only [List.getD_cons_succ, List.getD_cons_zero, List.mem_cons, List.not_mem_nil, or_false, forall_eq_or_imp, forall_eq] at hdep
      have e9 := hb 4 9 rfl
      have e14 := hb 9 14 rfl
      have e19 := hb 14 19 rfl
      have d4 := hdep.1
      have d9 := hdep.2.1
      have d14 := hdep.2.2
      rw [d4.1] at e9
      clear hb hb' hdep d4
      obtain ⟨P1, q1, r1, hv1, g1, _⟩ := W32.open d9.1
      obtain ⟨P2, q2, r2, hv2, g2, _⟩ := W32.open d14.1
      rw [hv1] at e14
      rw [hv2] at e19
      go_simp
      exact hK _ _ ⟨_, _, rfl, g1, g2⟩ (fun _ _ _ h => h) hJ
  · intro us W hV hJ
    exact hend (us 0) (us 1) (us 2) (us 3) (us 4) (us 5) (us 6) (us 7) (us 8) (us 9) (us 10) (us 11) (us 12) (us 13) (us 14) (us 15) W (hV 0 (by omega)) (hV 1 (by omega)) (hV 2 (by omega)) (hV 3 (by omega)) (hV 4 (by omega)) (hV 5 (by omega)) (hV 6 (by omega)) (hV 7 (by omega)) (hV 8 (by omega)) (hV 9 (by omega)) (hV 10 (by omega)) (hV 11 (by omega)) (hV 12 (by omega)) (hV 13 (by omega)) (hV 14 (by omega)) (hV 15 (by omega)) hJ

set_option maxRecDepth 100000 in
set_option maxHeartbeats 1000000 in
theorem rdiv_any (va vb : Value) (s t : Bool) (n d m e L M : Nat) (w : World) (ha : NumV w va s n d) (hb : NumV w vb t m e) (f1 : Fit 4294967296 n L) (f2 : Fit 4294967296 d L) (f3 : Fit 4294967296 m M) (f4 : Fit 4294967296 e M) (hL : L ≤ 1099511627776) (hM : M ≤ 1099511627776) :
    Calls Try.prog 76 #[va, vb] w (RetR w (s != t) (n * e) (d * m)) := by
  obtain ⟨A1, l1, c1, A2, l2, c2, rfl, h1, h2, _, _⟩ := ha.open
  obtain ⟨B1, m1, k1, B2, m2, k2, rfl, h3, h4, _, _⟩ := hb.open
  clear ha hb
  have H1 := Lib.hid h1
  have H2 := Lib.hid h2
  have H3 := Lib.hid h3
  have H4 := Lib.hid h4
  clear h1 h2 h3 h4
  go_enter Try.func76, Try.ntmps76
  go_wp2_with fail
  have hXw : Ext w (((w.alloc (.cells #[.bool s, .slice A1 l1 c1, .slice A2 l2 c2] 96)).alloc (.cells #[.bool t, .slice B1 m1 k1, .slice B2 m2 k2] 96)).alloc (.cells #[.bool false, .slice none 0 0, .slice none 0 0] 96)) := (((Ext.refl w).alloc _).alloc _).alloc _
  have hBA : Blk (((w.alloc (.cells #[.bool s, .slice A1 l1 c1, .slice A2 l2 c2] 96)).alloc (.cells #[.bool t, .slice B1 m1 k1, .slice B2 m2 k2] 96)).alloc (.cells #[.bool false, .slice none 0 0, .slice none 0 0] 96)) w.heap.size 96 #[.bool s, .slice A1 l1 c1, .slice A2 l2 c2] := ((Blk.new w _ _).alloc _).alloc _
  have hBB : Blk (((w.alloc (.cells #[.bool s, .slice A1 l1 c1, .slice A2 l2 c2] 96)).alloc (.cells #[.bool t, .slice B1 m1 k1, .slice B2 m2 k2] 96)).alloc (.cells #[.bool false, .slice none 0 0, .slice none 0 0] 96)) (w.heap.size + 1) 96 #[.bool t, .slice B1 m1 k1, .slice B2 m2 k2] := by
    have := (Blk.new (w.alloc (.cells #[.bool s, .slice A1 l1 c1, .slice A2 l2 c2] 96)) 96 #[.bool t, .slice B1 m1 k1, .slice B2 m2 k2]).alloc (.cells #[.bool false, .slice none 0 0, .slice none 0 0] 96)
    simpa using this
  have hBR : Blk (((w.alloc (.cells #[.bool s, .slice A1 l1 c1, .slice A2 l2 c2] 96)).alloc (.cells #[.bool t, .slice B1 m1 k1, .slice B2 m2 k2] 96)).alloc (.cells #[.bool false, .slice none 0 0, .slice none 0 0] 96)) (w.heap.size + 1 + 1) 96 #[.bool false, .slice none 0 0, .slice none 0 0] := by
    have := Blk.new ((w.alloc (.cells #[.bool s, .slice A1 l1 c1, .slice A2 l2 c2] 96)).alloc (.cells #[.bool t, .slice B1 m1 k1, .slice B2 m2 k2] 96)) 96 #[.bool false, .slice none 0 0, .slice none 0 0]
    simpa using this
  generalize ((w.alloc (.cells #[.bool s, .slice A1 l1 c1, .slice A2 l2 c2] 96)).alloc (.cells #[.bool t, .slice B1 m1 k1, .slice B2 m2 k2] 96)).alloc (.cells #[.bool false, .slice none 0 0, .slice none 0 0] 96) = w1 at hXw hBA hBB hBR ⊢
  obtain ⟨a0, a1, a2, _, _, _⟩ := hBA.three
  obtain ⟨b0, b1, b2, _, _, _⟩ := hBB.three
  have HXw := Lib.hid hXw
  have HBA := Lib.hid hBA
  have HBB := Lib.hid hBB
  have HBR := Lib.hid hBR
  replace H1 := Lib.hid (H1.out.ext hXw)
  replace H2 := Lib.hid (H2.out.ext hXw)
  replace H3 := Lib.hid (H3.out.ext hXw)
  replace H4 := Lib.hid (H4.out.ext hXw)
  clear hXw hBA hBB hBR
  refine rdiv_r1 w.heap.size (w.heap.size + 1) s t A1 A2 B1 B2 l1 c1 l2 c2 m1 k1 m2 k2 n d m e L M w1 a0 a1 a2 b0 b1 b2 H1.out H2.out H3.out H4.out f1 f2 f3 f4 hL hM _ _ (by simp) rfl rfl ?_
  rintro x0 x1 x2 x3 x4 x5 x6 x7 x8 x9 x10 x11 x12 x13 x14 x15 W rfl rfl rfl rfl rfl rfl rfl rfl rfl h9 rfl rfl rfl rfl h14 h15 hXW
  simp only [rops, Try.f76, regOf, Option.bind_some, Nat.reduceBEq, if_true, if_false, Bool.false_eq_true, Option.getD_some, List.drop_succ_cons, List.drop_zero]
  simp only [Act.put, List.setIfInBounds_toArray, List.set_cons_succ, List.set_cons_zero]
  obtain ⟨P1, q1, r1, P2, q2, r2, rfl, g1, g2, _, _⟩ := NumV.open h15
  clear h9 h14 h15
  obtain ⟨y0, y1, y2, f0, f1', f2'⟩ := (HBR.out.ext hXW).three
  have HNB := Lib.hid (NoInts.three (HBR.out.ext hXW))
  have G1 := Lib.hid g1
  have G2 := Lib.hid g2
  have HXW := Lib.hid hXW
  clear g1 g2 hXW a0 a1 a2 b0 b1 b2
  go_wp2
  refine bodyPost_ret (v := .agg #[.bool (s != t), .slice P1 q1 r1, .slice P2 q2 r2]) (by simp [results, Try.results76, go_sem, *]) rfl ?_
  exact ⟨_, rfl, ⟨_, _, rfl, G1.out.boxed HNB.out _ _ _ _ _ _ _, G2.out.boxed HNB.out _ _ _ _ _ _ _⟩, Ext.boxed (HXw.out.trans HXW.out) (by omega) _ _ _⟩

end Go.Proofs.Yteoijnaljkagfaa
