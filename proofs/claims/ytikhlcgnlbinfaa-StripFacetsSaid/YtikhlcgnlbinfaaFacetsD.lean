/- Lemmas of the proof that follows (Facets, part 4): walks of functions by contract, and plain lemmas. Conditions: none. -/
import Derived.Test.YtikhlcgnlbinfaaFacetsC
namespace Go.Proofs.Ytikhlcgnlbinfaa
open Go.RowKit

set_option maxRecDepth 100000 in
set_option maxHeartbeats 2000000 in
theorem radd_r1 (ga gb : Nat) (s t : Bool) (A1 A2 B1 B2 : Option Addr) (l1 c1 l2 c2 m1 k1 m2 k2 n d m e L M : Nat) (w : World) (_a0 : w.cell? ⟨ga, 0, none⟩ = some (.bool s)) (a1 : w.cell? ⟨ga, 1, none⟩ = some (.slice A1 l1 c1)) (a2 : w.cell? ⟨ga, 2, none⟩ = some (.slice A2 l2 c2)) (_b0 : w.cell? ⟨gb, 0, none⟩ = some (.bool t)) (b1 : w.cell? ⟨gb, 1, none⟩ = some (.slice B1 m1 k1)) (b2 : w.cell? ⟨gb, 2, none⟩ = some (.slice B2 m2 k2)) (h1 : W32 w (.slice A1 l1 c1) n) (h2 : W32 w (.slice A2 l2 c2) d) (h3 : W32 w (.slice B1 m1 k1) m) (h4 : W32 w (.slice B2 m2 k2) e) (f1 : Fit 4294967296 n L) (f2 : Fit 4294967296 d L) (f3 : Fit 4294967296 m M) (f4 : Fit 4294967296 e M) (hL : L ≤ 1099511627776) (hM : M ≤ 1099511627776) (a : Act) (Q : Exit → Act → World → Prop) (hsize : 18 ≤ a.tmps.size)
    (s2 : a.tmps[2]? = some (.pointer (some ⟨ga, 0, none⟩)))
    (s3 : a.tmps[3]? = some (.pointer (some ⟨gb, 0, none⟩)))
    (hend : ∀ (xv0 xv1 xv2 xv3 xv4 xv5 xv6 xv7 xv8 xv9 : Value) (W : World), (xv0 = .pointer (some ⟨ga, 1, none⟩)) → (xv1 = .slice A1 l1 c1) → (xv2 = .pointer (some ⟨gb, 2, none⟩)) → (xv3 = .slice B2 m2 k2) → (W32 W xv4 (n * e)) → (xv5 = .pointer (some ⟨gb, 1, none⟩)) → (xv6 = .slice B1 m1 k1) → (xv7 = .pointer (some ⟨ga, 2, none⟩)) → (xv8 = .slice A2 l2 c2) → (W32 W xv9 (m * d)) → Ext w W → wpList Try.prog (rops Try.f128 1).toArray Q ((rops Try.f128 1).drop 10) ((((((((((a.put (some 8) xv0).put (some 9) xv1).put (some 10) xv2).put (some 11) xv3).put (some 12) xv4).put (some 13) xv5).put (some 14) xv6).put (some 15) xv7).put (some 16) xv8).put (some 17) xv9) W) :
    (Code.region 1 (rops Try.f128 1).toArray true).wp Try.prog Q a w := by
  have hmono : ∀ (W W' : World) (j : Nat) (u : Value), Ext W W' → (fun (i : Nat) (v : Value) (W : World) => match i with
    | 0 => v = .pointer (some ⟨ga, 1, none⟩)
    | 1 => v = .slice A1 l1 c1
    | 2 => v = .pointer (some ⟨gb, 2, none⟩)
    | 3 => v = .slice B2 m2 k2
    | 4 => W32 W v (n * e)
    | 5 => v = .pointer (some ⟨gb, 1, none⟩)
    | 6 => v = .slice B1 m1 k1
    | 7 => v = .pointer (some ⟨ga, 2, none⟩)
    | 8 => v = .slice A2 l2 c2
    | 9 => W32 W v (m * d)
    | _ => True) j u W → (fun (i : Nat) (v : Value) (W : World) => match i with
    | 0 => v = .pointer (some ⟨ga, 1, none⟩)
    | 1 => v = .slice A1 l1 c1
    | 2 => v = .pointer (some ⟨gb, 2, none⟩)
    | 3 => v = .slice B2 m2 k2
    | 4 => W32 W v (n * e)
    | 5 => v = .pointer (some ⟨gb, 1, none⟩)
    | 6 => v = .slice B1 m1 k1
    | 7 => v = .pointer (some ⟨ga, 2, none⟩)
    | 8 => v = .slice A2 l2 c2
    | 9 => W32 W v (m * d)
    | _ => True) j u W' := by
    intro W W' j u hX h
    match j, h with
    | 0, h => exact h
    | 1, h => exact h
    | 2, h => exact h
    | 3, h => exact h
    | 4, h => exact W32.ext h hX
    | 5, h => exact h
    | 6, h => exact h
    | 7, h => exact h
    | 8, h => exact h
    | 9, h => exact W32.ext h hX
    | _ + 10, h => exact h
  have hsz : ∀ d, some d ∈ ([some 8, some 9, some 10, some 11, some 12, some 13, some 14, some 15, some 16, some 17] : List (Option Tmp)) → d < a.tmps.size := slots_lt (by decide) hsize
  refine wp_region_j 10 [some 8, some 9, some 10, some 11, some 12, some 13, some 14, some 15, some 16, some 17] [[], [0], [], [2], [1, 3], [], [5], [], [7], [6, 8]] [[], [], [], [], [], [], [], [], [], []] (fun (i : Nat) (v : Value) (W : World) => match i with
    | 0 => v = .pointer (some ⟨ga, 1, none⟩)
    | 1 => v = .slice A1 l1 c1
    | 2 => v = .pointer (some ⟨gb, 2, none⟩)
    | 3 => v = .slice B2 m2 k2
    | 4 => W32 W v (n * e)
    | 5 => v = .pointer (some ⟨gb, 1, none⟩)
    | 6 => v = .slice B1 m1 k1
    | 7 => v = .pointer (some ⟨ga, 2, none⟩)
    | 8 => v = .slice A2 l2 c2
    | 9 => W32 W v (m * d)
    | _ => True) (fun _ W => Ext w W) (by kernel_rfl) (by kernel_rfl) hsz (fun _ _ _ _ h => h) ((Ext.refl w).drew) ?_ ?_
  · clear hend
    simp only [rops, Try.f128, regOf, Option.bind_some, Nat.reduceBEq, if_true, if_false, Bool.false_eq_true, Option.getD_some]
    simp only [List.take_succ_cons, List.take_zero]
    refine ⟨?_, ?_, ?_, ?_, ?_, ?_, ?_, ?_, ?_, ?_, trivial⟩
    · intro done us W hJ hdep haft hnot b hb hb' K hK Q'
      have e2 := (hb' 2 (by simp)).trans s2
      clear hb hb'
      go_simp
      exact hK _ _ rfl (fun _ _ _ h => h) hJ
    · intro done us W hJ hdep haft hnot b hb hb' K hK Q'
      simp only [List.getD_cons_succ, List.getD_cons_zero, List.mem_cons, List.not_mem_nil, or_false, forall_eq] at hdep
      have e8 := hb 0 8 rfl
      have d0 := hdep
      rw [d0.1] at e8
      clear hb hb' hdep d0
      have q := Ext.cell hJ a1
      go_simp
      exact hK _ _ rfl (fun _ _ _ h => h) hJ
    · intro done us W hJ hdep haft hnot b hb hb' K hK Q'
      have e3 := (hb' 3 (by simp)).trans s3
      clear hb hb'
      go_simp
      exact hK _ _ rfl (fun _ _ _ h => h) hJ
    · intro done us W hJ hdep haft hnot b hb hb' K hK Q'
      simp only [List.getD_cons_succ, List.getD_cons_zero, List.mem_cons, List.not_mem_nil, or_false, forall_eq] at hdep
      have e10 := hb 2 10 rfl
      have d2 := hdep
      rw [d2.1] at e10
      clear hb hb' hdep d2
      have q := Ext.cell hJ b2
      go_simp
      exact hK _ _ rfl (fun _ _ _ h => h) hJ
    · intro done us W hJ hdep haft hnot b hb hb' K hK Q'
      simp only [List.getD_cons_succ, List.getD_cons_zero, List.mem_cons, List.not_mem_nil, or_false, forall_eq_or_imp, forall_eq] at hdep
      have e9 := hb 1 9 rfl
      have e11 := hb 3 11 rfl
      have d1 := hdep.1
      have d3 := hdep.2
      rw [d1.1] at e9
      rw [d3.1] at e11
      clear hb hb' hdep d1 d3
      go_simp
      refine (mul_any _ _ n e L M _ (W32.ext h1 hJ) (W32.ext h4 hJ) f1 f4 hL hM).mono ?_
      rintro e w' ⟨v, rfl, hv, hX⟩
      exact hK _ _ hv (fun j u _ h => hmono _ _ j u hX h) (Ext.trans hJ hX)
    · intro done us W hJ hdep haft hnot b hb hb' K hK Q'
      have e3 := (hb' 3 (by simp)).trans s3
      clear hb hb'
      go_simp
      exact hK _ _ rfl (fun _ _ _ h => h) hJ
    · intro done us W hJ hdep haft hnot b hb hb' K hK Q'
      simp only [List.getD_cons_succ, List.getD_cons_zero, List.mem_cons, List.not_mem_nil, or_false, forall_eq] at hdep
      have e13 := hb 5 13 rfl
      have d5 := hdep
      rw [d5.1] at e13
      clear hb hb' hdep d5
      have q := Ext.cell hJ b1
      go_simp
      exact hK _ _ rfl (fun _ _ _ h => h) hJ
    · intro done us W hJ hdep haft hnot b hb hb' K hK Q'
      have e2 := (hb' 2 (by simp)).trans s2
      clear hb hb'
      go_simp
      exact hK _ _ rfl (fun _ _ _ h => h) hJ
    · intro done us W hJ hdep haft hnot b hb hb' K hK Q'
      simp only [List.getD_cons_succ, List.getD_cons_zero, List.mem_cons, List.not_mem_nil, or_false, forall_eq] at hdep
      have e15 := hb 7 15 rfl
      have d7 := hdep
      rw [d7.1] at e15
      clear hb hb' hdep d7
      have q := Ext.cell hJ a2
      go_simp
      exact hK _ _ rfl (fun _ _ _ h => h) hJ
    · intro done us W hJ hdep haft hnot b hb hb' K hK Q'
      simp only [List.getD_cons_succ, List.getD_cons_zero, List.mem_cons, List.not_mem_nil, or_false, forall_eq_or_imp, forall_eq] at hdep
      have e14 := hb 6 14 rfl
      have e16 := hb 8 16 rfl
      have d6 := hdep.1
      have d8 := hdep.2
      rw [d6.1] at e14
      rw [d8.1] at e16
      clear hb hb' hdep d6 d8
      go_simp
      refine (mul_any _ _ m d M L _ (W32.ext h3 hJ) (W32.ext h2 hJ) f3 f2 hM hL).mono ?_
      rintro e w' ⟨v, rfl, hv, hX⟩
      exact hK _ _ hv (fun j u _ h => hmono _ _ j u hX h) (Ext.trans hJ hX)
  · intro us W hV hJ
    exact hend (us 0) (us 1) (us 2) (us 3) (us 4) (us 5) (us 6) (us 7) (us 8) (us 9) W (hV 0 (by omega)) (hV 1 (by omega)) (hV 2 (by omega)) (hV 3 (by omega)) (hV 4 (by omega)) (hV 5 (by omega)) (hV 6 (by omega)) (hV 7 (by omega)) (hV 8 (by omega)) (hV 9 (by omega)) hJ
set_option maxRecDepth 100000 in
set_option maxHeartbeats 2000000 in
theorem radd_r4 (ga : Nat) (s : Bool) (X1 Y1 Z1 : Option Addr) (x2 x3 y2 y3 z2 z3 X Y D La : Nat) (w : World) (s0 : w.cell? ⟨ga, 0, none⟩ = some (.bool s)) (hx : W32 w (.slice X1 x2 x3) X) (hy : W32 w (.slice Y1 y2 y3) Y) (hz : W32 w (.slice Z1 z2 z3) D) (fx : Fit 4294967296 X La) (fy : Fit 4294967296 Y La) (hLa : La ≤ 1099511627776)  (a : Act) (Q : Exit → Act → World → Prop) (hsize : 35 ≤ a.tmps.size)
    (s2 : a.tmps[2]? = some (.pointer (some ⟨ga, 0, none⟩)))
    (s5 : a.tmps[5]? = some (.slice X1 x2 x3))
    (s6 : a.tmps[6]? = some (.slice Y1 y2 y3))
    (s7 : a.tmps[7]? = some (.slice Z1 z2 z3))
    (hend : ∀ (xv0 xv1 xv2 xv3 xv4 xv5 xv6 : Value) (W : World), (xv0 = .pointer (some ⟨ga, 0, none⟩)) → (xv1 = .bool s) → (xv2 = .slice X1 x2 x3) → (xv3 = .slice Y1 y2 y3) → (W32 W xv4 (X + Y)) → (xv5 = .slice Z1 z2 z3) → (NumV W xv6 s (X + Y) D) → Ext w W → wpList Try.prog (rops Try.f128 4).toArray Q ((rops Try.f128 4).drop 7) (((((((a.put (some 28) xv0).put (some 29) xv1).put (some 30) xv2).put (some 31) xv3).put (some 32) xv4).put (some 33) xv5).put (some 34) xv6) W) :
    (Code.region 4 (rops Try.f128 4).toArray true).wp Try.prog Q a w := by
  have hmono : ∀ (W W' : World) (j : Nat) (u : Value), Ext W W' → (fun (i : Nat) (v : Value) (W : World) => match i with
    | 0 => v = .pointer (some ⟨ga, 0, none⟩)
    | 1 => v = .bool s
    | 2 => v = .slice X1 x2 x3
    | 3 => v = .slice Y1 y2 y3
    | 4 => W32 W v (X + Y)
    | 5 => v = .slice Z1 z2 z3
    | 6 => NumV W v s (X + Y) D
    | _ => True) j u W → (fun (i : Nat) (v : Value) (W : World) => match i with
    | 0 => v = .pointer (some ⟨ga, 0, none⟩)
    | 1 => v = .bool s
    | 2 => v = .slice X1 x2 x3
    | 3 => v = .slice Y1 y2 y3
    | 4 => W32 W v (X + Y)
    | 5 => v = .slice Z1 z2 z3
    | 6 => NumV W v s (X + Y) D
    | _ => True) j u W' := by
    intro W W' j u hX h
    match j, h with
    | 0, h => exact h
    | 1, h => exact h
    | 2, h => exact h
    | 3, h => exact h
    | 4, h => exact W32.ext h hX
    | 5, h => exact h
    | 6, h => exact NumV.ext h hX
    | _ + 7, h => exact h
  have hsz : ∀ d, some d ∈ ([some 28, some 29, some 30, some 31, some 32, some 33, some 34] : List (Option Tmp)) → d < a.tmps.size := slots_lt (by decide) hsize
  refine wp_region_j 7 [some 28, some 29, some 30, some 31, some 32, some 33, some 34] [[], [0], [], [], [2, 3], [], [1, 4, 5]] [[], [], [], [], [], [], []] (fun (i : Nat) (v : Value) (W : World) => match i with
    | 0 => v = .pointer (some ⟨ga, 0, none⟩)
    | 1 => v = .bool s
    | 2 => v = .slice X1 x2 x3
    | 3 => v = .slice Y1 y2 y3
    | 4 => W32 W v (X + Y)
    | 5 => v = .slice Z1 z2 z3
    | 6 => NumV W v s (X + Y) D
    | _ => True) (fun _ W => Ext w W) (by kernel_rfl) (by kernel_rfl) hsz (fun _ _ _ _ h => h) ((Ext.refl w).drew) ?_ ?_
  · clear hend
    simp only [rops, Try.f128, regOf, Option.bind_some, Nat.reduceBEq, if_true, if_false, Bool.false_eq_true, Option.getD_some]
    simp only [List.take_succ_cons, List.take_zero]
    refine ⟨?_, ?_, ?_, ?_, ?_, ?_, ?_, trivial⟩
    · intro done us W hJ hdep haft hnot b hb hb' K hK Q'
      have e2 := (hb' 2 (by simp)).trans s2
      clear hb hb'
      go_simp
      exact hK _ _ rfl (fun _ _ _ h => h) hJ
    · intro done us W hJ hdep haft hnot b hb hb' K hK Q'
      simp only [List.getD_cons_succ, List.getD_cons_zero, List.mem_cons, List.not_mem_nil, or_false, forall_eq] at hdep
      have e28 := hb 0 28 rfl
      have d0 := hdep
      rw [d0.1] at e28
      clear hb hb' hdep d0
      have q := Ext.cell hJ s0
      go_simp
      exact hK _ _ rfl (fun _ _ _ h => h) hJ
    · intro done us W hJ hdep haft hnot b hb hb' K hK Q'
      have e5 := (hb' 5 (by simp)).trans s5
      clear hb hb'
      go_simp
      exact hK _ _ rfl (fun _ _ _ h => h) hJ
    · intro done us W hJ hdep haft hnot b hb hb' K hK Q'
      have e6 := (hb' 6 (by simp)).trans s6
      clear hb hb'
      go_simp
      exact hK _ _ rfl (fun _ _ _ h => h) hJ
    · intro done us W hJ hdep haft hnot b hb hb' K hK Q'
      simp only [List.getD_cons_succ, List.getD_cons_zero, List.mem_cons, List.not_mem_nil, or_false, forall_eq_or_imp, forall_eq] at hdep
      have e30 := hb 2 30 rfl
      have e31 := hb 3 31 rfl
      have d2 := hdep.1
      have d3 := hdep.2
      rw [d2.1] at e30
      rw [d3.1] at e31
      clear hb hb' hdep d2 d3
      go_simp
      refine (add_any _ _ X Y La _ (W32.ext hx hJ) (W32.ext hy hJ) fx fy hLa).mono ?_
      rintro e w' ⟨v, rfl, hv, hX⟩
      exact hK _ _ hv (fun j u _ h => hmono _ _ j u hX h) (Ext.trans hJ hX)
    · intro done us W hJ hdep haft hnot b hb hb' K hK Q'
      have e7 := (hb' 7 (by simp)).trans s7
      clear hb hb'
      go_simp
      exact hK _ _ rfl (fun _ _ _ h => h) hJ
    · intro done us W hJ hdep haft hnot b hb hb' K hK Q'
      simp only [List.getD_cons_succ, List.getD_cons_zero, List.mem_cons, List.not_mem_nil, or_false, forall_eq_or_imp, forall_eq] at hdep
      have e29 := hb 1 29 rfl
      have e32 := hb 4 32 rfl
      have e33 := hb 5 33 rfl
      have d1 := hdep.1
      have d4 := hdep.2.1
      have d5 := hdep.2.2
      rw [d1.1] at e29
      rw [d5.1] at e33
      clear hb hb' hdep d1 d5
      obtain ⟨P1, q1, r1, hv1, g1, _⟩ := W32.open d4.1
      rw [hv1] at e32
      go_simp
      exact hK _ _ ⟨_, _, rfl, g1, W32.ext hz hJ⟩ (fun _ _ _ h => h) hJ
  · intro us W hV hJ
    exact hend (us 0) (us 1) (us 2) (us 3) (us 4) (us 5) (us 6) W (hV 0 (by omega)) (hV 1 (by omega)) (hV 2 (by omega)) (hV 3 (by omega)) (hV 4 (by omega)) (hV 5 (by omega)) (hV 6 (by omega)) hJ
set_option maxRecDepth 100000 in
set_option maxHeartbeats 2000000 in
theorem radd_r6 (ga : Nat) (s : Bool) (X1 Y1 Z1 : Option Addr) (x2 x3 y2 y3 z2 z3 X Y D La : Nat) (w : World) (s0 : w.cell? ⟨ga, 0, none⟩ = some (.bool s)) (hx : W32 w (.slice X1 x2 x3) X) (hy : W32 w (.slice Y1 y2 y3) Y) (hz : W32 w (.slice Z1 z2 z3) D) (fx : Fit 4294967296 X La) (_fy : Fit 4294967296 Y La) (hLa : La ≤ 1099511627776) (hle : Y ≤ X) (a : Act) (Q : Exit → Act → World → Prop) (hsize : 46 ≤ a.tmps.size)
    (s2 : a.tmps[2]? = some (.pointer (some ⟨ga, 0, none⟩)))
    (s5 : a.tmps[5]? = some (.slice X1 x2 x3))
    (s6 : a.tmps[6]? = some (.slice Y1 y2 y3))
    (s7 : a.tmps[7]? = some (.slice Z1 z2 z3))
    (hend : ∀ (xv0 xv1 xv2 xv3 xv4 xv5 xv6 : Value) (W : World), (xv0 = .pointer (some ⟨ga, 0, none⟩)) → (xv1 = .bool s) → (xv2 = .slice X1 x2 x3) → (xv3 = .slice Y1 y2 y3) → (W32 W xv4 (X - Y)) → (xv5 = .slice Z1 z2 z3) → (NumV W xv6 s (X - Y) D) → Ext w W → wpList Try.prog (rops Try.f128 6).toArray Q ((rops Try.f128 6).drop 7) (((((((a.put (some 39) xv0).put (some 40) xv1).put (some 41) xv2).put (some 42) xv3).put (some 43) xv4).put (some 44) xv5).put (some 45) xv6) W) :
    (Code.region 6 (rops Try.f128 6).toArray true).wp Try.prog Q a w := by
  have hmono : ∀ (W W' : World) (j : Nat) (u : Value), Ext W W' → (fun (i : Nat) (v : Value) (W : World) => match i with
    | 0 => v = .pointer (some ⟨ga, 0, none⟩)
    | 1 => v = .bool s
    | 2 => v = .slice X1 x2 x3
    | 3 => v = .slice Y1 y2 y3
    | 4 => W32 W v (X - Y)
    | 5 => v = .slice Z1 z2 z3
    | 6 => NumV W v s (X - Y) D
    | _ => True) j u W → (fun (i : Nat) (v : Value) (W : World) => match i with
    | 0 => v = .pointer (some ⟨ga, 0, none⟩)
    | 1 => v = .bool s
    | 2 => v = .slice X1 x2 x3
    | 3 => v = .slice Y1 y2 y3
    | 4 => W32 W v (X - Y)
    | 5 => v = .slice Z1 z2 z3
    | 6 => NumV W v s (X - Y) D
    | _ => True) j u W' := by
    intro W W' j u hX h
    match j, h with
    | 0, h => exact h
    | 1, h => exact h
    | 2, h => exact h
    | 3, h => exact h
    | 4, h => exact W32.ext h hX
    | 5, h => exact h
    | 6, h => exact NumV.ext h hX
    | _ + 7, h => exact h
  have hsz : ∀ d, some d ∈ ([some 39, some 40, some 41, some 42, some 43, some 44, some 45] : List (Option Tmp)) → d < a.tmps.size := slots_lt (by decide) hsize
  refine wp_region_j 7 [some 39, some 40, some 41, some 42, some 43, some 44, some 45] [[], [0], [], [], [2, 3], [], [1, 4, 5]] [[], [], [], [], [], [], []] (fun (i : Nat) (v : Value) (W : World) => match i with
    | 0 => v = .pointer (some ⟨ga, 0, none⟩)
    | 1 => v = .bool s
    | 2 => v = .slice X1 x2 x3
    | 3 => v = .slice Y1 y2 y3
    | 4 => W32 W v (X - Y)
    | 5 => v = .slice Z1 z2 z3
    | 6 => NumV W v s (X - Y) D
    | _ => True) (fun _ W => Ext w W) (by kernel_rfl) (by kernel_rfl) hsz (fun _ _ _ _ h => h) ((Ext.refl w).drew) ?_ ?_
  · clear hend
    simp only [rops, Try.f128, regOf, Option.bind_some, Nat.reduceBEq, if_true, if_false, Bool.false_eq_true, Option.getD_some]
    simp only [List.take_succ_cons, List.take_zero]
    refine ⟨?_, ?_, ?_, ?_, ?_, ?_, ?_, trivial⟩
    · intro done us W hJ hdep haft hnot b hb hb' K hK Q'
      have e2 := (hb' 2 (by simp)).trans s2
      clear hb hb'
      go_simp
      exact hK _ _ rfl (fun _ _ _ h => h) hJ
    · intro done us W hJ hdep haft hnot b hb hb' K hK Q'
      simp only [List.getD_cons_succ, List.getD_cons_zero, List.mem_cons, List.not_mem_nil, or_false, forall_eq] at hdep
      have e39 := hb 0 39 rfl
      have d0 := hdep
      rw [d0.1] at e39
      clear hb hb' hdep d0
      have q := Ext.cell hJ s0
      go_simp
      exact hK _ _ rfl (fun _ _ _ h => h) hJ
    · intro done us W hJ hdep haft hnot b hb hb' K hK Q'
      have e5 := (hb' 5 (by simp)).trans s5
      clear hb hb'
      go_simp
      exact hK _ _ rfl (fun _ _ _ h => h) hJ
    · intro done us W hJ hdep haft hnot b hb hb' K hK Q'
      have e6 := (hb' 6 (by simp)).trans s6
      clear hb hb'
      go_simp
      exact hK _ _ rfl (fun _ _ _ h => h) hJ
    · intro done us W hJ hdep haft hnot b hb hb' K hK Q'
      simp only [List.getD_cons_succ, List.getD_cons_zero, List.mem_cons, List.not_mem_nil, or_false, forall_eq_or_imp, forall_eq] at hdep
      have e41 := hb 2 41 rfl
      have e42 := hb 3 42 rfl
      have d2 := hdep.1
      have d3 := hdep.2
      rw [d2.1] at e41
      rw [d3.1] at e42
      clear hb hb' hdep d2 d3
      go_simp
      refine (sub_any _ _ X Y La _ (W32.ext hx hJ) (W32.ext hy hJ) fx hle hLa).mono ?_
      rintro e w' ⟨v, rfl, hv, hX⟩
      exact hK _ _ hv (fun j u _ h => hmono _ _ j u hX h) (Ext.trans hJ hX)
    · intro done us W hJ hdep haft hnot b hb hb' K hK Q'
      have e7 := (hb' 7 (by simp)).trans s7
      clear hb hb'
      go_simp
      exact hK _ _ rfl (fun _ _ _ h => h) hJ
    · intro done us W hJ hdep haft hnot b hb hb' K hK Q'
      simp only [List.getD_cons_succ, List.getD_cons_zero, List.mem_cons, List.not_mem_nil, or_false, forall_eq_or_imp, forall_eq] at hdep
      have e40 := hb 1 40 rfl
      have e43 := hb 4 43 rfl
      have e44 := hb 5 44 rfl
      have d1 := hdep.1
      have d4 := hdep.2.1
      have d5 := hdep.2.2
      rw [d1.1] at e40
      rw [d5.1] at e44
      clear hb hb' hdep d1 d5
      obtain ⟨P1, q1, r1, hv1, g1, _⟩ := W32.open d4.1
      rw [hv1] at e43
      go_simp
      exact hK _ _ ⟨_, _, rfl, g1, W32.ext hz hJ⟩ (fun _ _ _ h => h) hJ
  · intro us W hV hJ
    exact hend (us 0) (us 1) (us 2) (us 3) (us 4) (us 5) (us 6) W (hV 0 (by omega)) (hV 1 (by omega)) (hV 2 (by omega)) (hV 3 (by omega)) (hV 4 (by omega)) (hV 5 (by omega)) (hV 6 (by omega)) hJ
set_option maxRecDepth 100000 in
set_option maxHeartbeats 2000000 in
theorem radd_r7 (gb : Nat) (t : Bool) (X1 Y1 Z1 : Option Addr) (x2 x3 y2 y3 z2 z3 X Y D La : Nat) (w : World) (s0 : w.cell? ⟨gb, 0, none⟩ = some (.bool t)) (hx : W32 w (.slice X1 x2 x3) X) (hy : W32 w (.slice Y1 y2 y3) Y) (hz : W32 w (.slice Z1 z2 z3) D) (_fx : Fit 4294967296 X La) (fy : Fit 4294967296 Y La) (hLa : La ≤ 1099511627776) (hle : X ≤ Y) (a : Act) (Q : Exit → Act → World → Prop) (hsize : 53 ≤ a.tmps.size)
    (s3 : a.tmps[3]? = some (.pointer (some ⟨gb, 0, none⟩)))
    (s5 : a.tmps[5]? = some (.slice X1 x2 x3))
    (s6 : a.tmps[6]? = some (.slice Y1 y2 y3))
    (s7 : a.tmps[7]? = some (.slice Z1 z2 z3))
    (hend : ∀ (xv0 xv1 xv2 xv3 xv4 xv5 xv6 : Value) (W : World), (xv0 = .pointer (some ⟨gb, 0, none⟩)) → (xv1 = .bool t) → (xv2 = .slice Y1 y2 y3) → (xv3 = .slice X1 x2 x3) → (W32 W xv4 (Y - X)) → (xv5 = .slice Z1 z2 z3) → (NumV W xv6 t (Y - X) D) → Ext w W → wpList Try.prog (rops Try.f128 7).toArray Q ((rops Try.f128 7).drop 7) (((((((a.put (some 46) xv0).put (some 47) xv1).put (some 48) xv2).put (some 49) xv3).put (some 50) xv4).put (some 51) xv5).put (some 52) xv6) W) :
    (Code.region 7 (rops Try.f128 7).toArray true).wp Try.prog Q a w := by
  have hmono : ∀ (W W' : World) (j : Nat) (u : Value), Ext W W' → (fun (i : Nat) (v : Value) (W : World) => match i with
    | 0 => v = .pointer (some ⟨gb, 0, none⟩)
    | 1 => v = .bool t
    | 2 => v = .slice Y1 y2 y3
    | 3 => v = .slice X1 x2 x3
    | 4 => W32 W v (Y - X)
    | 5 => v = .slice Z1 z2 z3
    | 6 => NumV W v t (Y - X) D
    | _ => True) j u W → (fun (i : Nat) (v : Value) (W : World) => match i with
    | 0 => v = .pointer (some ⟨gb, 0, none⟩)
    | 1 => v = .bool t
    | 2 => v = .slice Y1 y2 y3
    | 3 => v = .slice X1 x2 x3
    | 4 => W32 W v (Y - X)
    | 5 => v = .slice Z1 z2 z3
    | 6 => NumV W v t (Y - X) D
    | _ => True) j u W' := by
    intro W W' j u hX h
    match j, h with
    | 0, h => exact h
    | 1, h => exact h
    | 2, h => exact h
    | 3, h => exact h
    | 4, h => exact W32.ext h hX
    | 5, h => exact h
    | 6, h => exact NumV.ext h hX
    | _ + 7, h => exact h
  have hsz : ∀ d, some d ∈ ([some 46, some 47, some 48, some 49, some 50, some 51, some 52] : List (Option Tmp)) → d < a.tmps.size := slots_lt (by decide) hsize
  refine wp_region_j 7 [some 46, some 47, some 48, some 49, some 50, some 51, some 52] [[], [0], [], [], [2, 3], [], [1, 4, 5]] [[], [], [], [], [], [], []] (fun (i : Nat) (v : Value) (W : World) => match i with
    | 0 => v = .pointer (some ⟨gb, 0, none⟩)
    | 1 => v = .bool t
    | 2 => v = .slice Y1 y2 y3
    | 3 => v = .slice X1 x2 x3
    | 4 => W32 W v (Y - X)
    | 5 => v = .slice Z1 z2 z3
    | 6 => NumV W v t (Y - X) D
    | _ => True) (fun _ W => Ext w W) (by kernel_rfl) (by kernel_rfl) hsz (fun _ _ _ _ h => h) ((Ext.refl w).drew) ?_ ?_
  · clear hend
    simp only [rops, Try.f128, regOf, Option.bind_some, Nat.reduceBEq, if_true, if_false, Bool.false_eq_true, Option.getD_some]
    simp only [List.take_succ_cons, List.take_zero]
    refine ⟨?_, ?_, ?_, ?_, ?_, ?_, ?_, trivial⟩
    · intro done us W hJ hdep haft hnot b hb hb' K hK Q'
      have e3 := (hb' 3 (by simp)).trans s3
      clear hb hb'
      go_simp
      exact hK _ _ rfl (fun _ _ _ h => h) hJ
    · intro done us W hJ hdep haft hnot b hb hb' K hK Q'
      simp only [List.getD_cons_succ, List.getD_cons_zero, List.mem_cons, List.not_mem_nil, or_false, forall_eq] at hdep
      have e46 := hb 0 46 rfl
      have d0 := hdep
      rw [d0.1] at e46
      clear hb hb' hdep d0
      have q := Ext.cell hJ s0
      go_simp
      exact hK _ _ rfl (fun _ _ _ h => h) hJ
    · intro done us W hJ hdep haft hnot b hb hb' K hK Q'
      have e6 := (hb' 6 (by simp)).trans s6
      clear hb hb'
      go_simp
      exact hK _ _ rfl (fun _ _ _ h => h) hJ
    · intro done us W hJ hdep haft hnot b hb hb' K hK Q'
      have e5 := (hb' 5 (by simp)).trans s5
      clear hb hb'
      go_simp
      exact hK _ _ rfl (fun _ _ _ h => h) hJ
    · intro done us W hJ hdep haft hnot b hb hb' K hK Q'
      simp only [List.getD_cons_succ, List.getD_cons_zero, List.mem_cons, List.not_mem_nil, or_false, forall_eq_or_imp, forall_eq] at hdep
      have e48 := hb 2 48 rfl
      have e49 := hb 3 49 rfl
      have d2 := hdep.1
      have d3 := hdep.2
      rw [d2.1] at e48
      rw [d3.1] at e49
      clear hb hb' hdep d2 d3
      go_simp
      refine (sub_any _ _ Y X La _ (W32.ext hy hJ) (W32.ext hx hJ) fy hle hLa).mono ?_
      rintro e w' ⟨v, rfl, hv, hX⟩
      exact hK _ _ hv (fun j u _ h => hmono _ _ j u hX h) (Ext.trans hJ hX)
    · intro done us W hJ hdep haft hnot b hb hb' K hK Q'
      have e7 := (hb' 7 (by simp)).trans s7
      clear hb hb'
      go_simp
      exact hK _ _ rfl (fun _ _ _ h => h) hJ
    · intro done us W hJ hdep haft hnot b hb hb' K hK Q'
      simp only [List.getD_cons_succ, List.getD_cons_zero, List.mem_cons, List.not_mem_nil, or_false, forall_eq_or_imp, forall_eq] at hdep
      have e47 := hb 1 47 rfl
      have e50 := hb 4 50 rfl
      have e51 := hb 5 51 rfl
      have d1 := hdep.1
      have d4 := hdep.2.1
      have d5 := hdep.2.2
      rw [d1.1] at e47
      rw [d5.1] at e51
      clear hb hb' hdep d1 d5
      obtain ⟨P1, q1, r1, hv1, g1, _⟩ := W32.open d4.1
      rw [hv1] at e50
      go_simp
      exact hK _ _ ⟨_, _, rfl, g1, W32.ext hz hJ⟩ (fun _ _ _ h => h) hJ
  · intro us W hV hJ
    exact hend (us 0) (us 1) (us 2) (us 3) (us 4) (us 5) (us 6) W (hV 0 (by omega)) (hV 1 (by omega)) (hV 2 (by omega)) (hV 3 (by omega)) (hV 4 (by omega)) (hV 5 (by omega)) (hV 6 (by omega)) hJ

set_option maxRecDepth 100000 in
set_option maxHeartbeats 4000000 in
theorem radd_same (va vb : Value) (s t : Bool) (n d m e L M : Nat) (w : World) (ha : NumV w va s n d) (hb : NumV w vb t m e) (f1 : Fit 4294967296 n L) (f2 : Fit 4294967296 d L) (f3 : Fit 4294967296 m M) (f4 : Fit 4294967296 e M) (hLM : L + M ≤ 1099511627776) (hst : s = t) :
    Calls Try.prog 128 #[va, vb] w (RetR w s (n * e + m * d) (d * e)) := by
  obtain ⟨A1, l1, c1, A2, l2, c2, rfl, h1, h2, _, _⟩ := ha.open
  obtain ⟨B1, m1, k1, B2, m2, k2, rfl, h3, h4, _, _⟩ := hb.open
  have hL : L ≤ 1099511627776 := by omega
  have hM : M ≤ 1099511627776 := by omega
  clear ha hb
  have H1 := Lib.hid h1
  have H2 := Lib.hid h2
  have H3 := Lib.hid h3
  have H4 := Lib.hid h4
  have FX : Hid (Fit 4294967296 (n * e) (L + M)) := f1.mul (by omega) f4
  have FY : Hid (Fit 4294967296 (m * d) (L + M)) := by have := f3.mul (by omega) f2; rw [Nat.add_comm] at this; exact this
  have hstb : (s == t) = true := by simpa using hst
  clear hst
  clear h1 h2 h3 h4
  go_enter Try.func128, Try.ntmps128
  go_wp2_with fail
  have hXw : Ext w (((w.alloc (.cells #[.bool s, .slice A1 l1 c1, .slice A2 l2 c2] 217)).alloc (.cells #[.bool t, .slice B1 m1 k1, .slice B2 m2 k2] 217)).alloc (.cells #[.bool false, .slice none 0 0, .slice none 0 0] 217)) := (((Ext.refl w).alloc _).alloc _).alloc _
  have hBA : Blk (((w.alloc (.cells #[.bool s, .slice A1 l1 c1, .slice A2 l2 c2] 217)).alloc (.cells #[.bool t, .slice B1 m1 k1, .slice B2 m2 k2] 217)).alloc (.cells #[.bool false, .slice none 0 0, .slice none 0 0] 217)) w.heap.size 217 #[.bool s, .slice A1 l1 c1, .slice A2 l2 c2] := ((Blk.new w _ _).alloc _).alloc _
  have hBB : Blk (((w.alloc (.cells #[.bool s, .slice A1 l1 c1, .slice A2 l2 c2] 217)).alloc (.cells #[.bool t, .slice B1 m1 k1, .slice B2 m2 k2] 217)).alloc (.cells #[.bool false, .slice none 0 0, .slice none 0 0] 217)) (w.heap.size + 1) 217 #[.bool t, .slice B1 m1 k1, .slice B2 m2 k2] := by
    have := (Blk.new (w.alloc (.cells #[.bool s, .slice A1 l1 c1, .slice A2 l2 c2] 217)) 217 #[.bool t, .slice B1 m1 k1, .slice B2 m2 k2]).alloc (.cells #[.bool false, .slice none 0 0, .slice none 0 0] 217)
    simpa using this
  have hBR : Blk (((w.alloc (.cells #[.bool s, .slice A1 l1 c1, .slice A2 l2 c2] 217)).alloc (.cells #[.bool t, .slice B1 m1 k1, .slice B2 m2 k2] 217)).alloc (.cells #[.bool false, .slice none 0 0, .slice none 0 0] 217)) (w.heap.size + 1 + 1) 217 #[.bool false, .slice none 0 0, .slice none 0 0] := by
    have := Blk.new ((w.alloc (.cells #[.bool s, .slice A1 l1 c1, .slice A2 l2 c2] 217)).alloc (.cells #[.bool t, .slice B1 m1 k1, .slice B2 m2 k2] 217)) 217 #[.bool false, .slice none 0 0, .slice none 0 0]
    simpa using this
  generalize ((w.alloc (.cells #[.bool s, .slice A1 l1 c1, .slice A2 l2 c2] 217)).alloc (.cells #[.bool t, .slice B1 m1 k1, .slice B2 m2 k2] 217)).alloc (.cells #[.bool false, .slice none 0 0, .slice none 0 0] 217) = w1 at hXw hBA hBB hBR ⊢
  obtain ⟨a0, a1, a2, _, _, _⟩ := hBA.three
  obtain ⟨b0, b1, b2, _, _, _⟩ := hBB.three
  have HXw := Lib.hid hXw
  have HBA := Lib.hid hBA
  have HBB := Lib.hid hBB
  have HBR := Lib.hid hBR
  replace H1 := Lib.hid (H1.out.ext hXw)
  replace H2 := Lib.hid (H2.out.ext hXw)
  replace H3 := Lib.hid (H3.out.ext hXw)
  replace H4 := Lib.hid (H4.out.ext hXw)
  clear hXw hBA hBB hBR
  refine radd_r1 w.heap.size (w.heap.size + 1) s t A1 A2 B1 B2 l1 c1 l2 c2 m1 k1 m2 k2 n d m e L M w1 a0 a1 a2 b0 b1 b2 H1.out H2.out H3.out H4.out f1 f2 f3 f4 hL hM _ _ (by simp) rfl rfl ?_
  rintro xv0 xv1 xv2 xv3 xv4 xv5 xv6 xv7 xv8 xv9 W rfl rfl rfl rfl h4' rfl rfl rfl rfl h9 hXW
  simp only [rops, Try.f128, regOf, Option.bind_some, Nat.reduceBEq, if_true, if_false, Bool.false_eq_true, Option.getD_some, List.drop_succ_cons, List.drop_zero]
  simp only [Act.put, List.setIfInBounds_toArray, List.set_cons_succ, List.set_cons_zero]
  obtain ⟨X1, x2', x3', rfl, hx, _⟩ := W32.open h4'
  obtain ⟨Y1, y2', y3', rfl, hy, _⟩ := W32.open h9
  obtain ⟨a0, a1, a2, _, _, _⟩ := (HBA.out.ext hXW).three
  obtain ⟨b0, b1, b2, _, _, _⟩ := (HBB.out.ext hXW).three
  have HX5 := Lib.hid hx
  have HY5 := Lib.hid hy
  have HXW := Lib.hid hXW
  clear hx hy hXW h4' h9
  go_wp2_with fail
  refine (mul_any _ _ d e L M _ (H2.out.ext HXW.out) (H4.out.ext HXW.out) f2 f4 hL hM).mono ?_
  rintro e' w2 ⟨vz, rfl, hz, hX2⟩
  obtain ⟨Z1, z2, z3, rfl, hz, _⟩ := W32.open hz
  have hX2' := HXW.out.trans hX2
  obtain ⟨a0, a1, a2, _, _, _⟩ := (HBA.out.ext hX2').three
  obtain ⟨b0, b1, b2, _, _, _⟩ := (HBB.out.ext hX2').three
  have HZ := Lib.hid hz
  have HX6 := Lib.hid (HX5.out.ext hX2)
  have HY6 := Lib.hid (HY5.out.ext hX2)
  have HX2 := Lib.hid hX2'
  clear hz hX2 hX2'
  go_wp2_with fail

  refine radd_r4 w.heap.size s X1 Y1 Z1 x2' x3' y2' y3' z2 z3 (n * e) (m * d) (d * e) (L + M) w2 a0 HX6.out HY6.out HZ.out FX.out FY.out hLM _ _ (by simp) rfl rfl rfl rfl ?_
  rintro xv0 xv1 xv2 xv3 xv4 xv5 xv6 W rfl rfl rfl rfl h4' rfl h6 hXW
  simp only [rops, Try.f128, regOf, Option.bind_some, Nat.reduceBEq, if_true, if_false, Bool.false_eq_true, Option.getD_some, List.drop_succ_cons, List.drop_zero]
  simp only [Act.put, List.setIfInBounds_toArray, List.set_cons_succ, List.set_cons_zero]
  obtain ⟨P1, q1, r1, P2, q2, r2, rfl, g1, g2, _, _⟩ := NumV.open h6
  clear h4' h6
  replace hXW := HX2.out.trans hXW
  obtain ⟨y0, y1, y2, f0, f1', f2'⟩ := (HBR.out.ext hXW).three
  have HNB := Lib.hid (NoInts.three (HBR.out.ext hXW))
  have G1 := Lib.hid g1
  have G2 := Lib.hid g2
  have HXW := Lib.hid hXW
  clear g1 g2 hXW a0 a1 a2 b0 b1 b2
  go_wp2
  refine bodyPost_ret (v := .agg #[.bool s, .slice P1 q1 r1, .slice P2 q2 r2]) (by simp [results, Try.results128, go_sem, *]) rfl ?_
  exact ⟨_, rfl, ⟨_, _, rfl, G1.out.boxed HNB.out _ _ _ _ _ _ _, G2.out.boxed HNB.out _ _ _ _ _ _ _⟩, Ext.boxed (HXw.out.trans HXW.out) (by omega) _ _ _⟩


set_option maxRecDepth 100000 in
set_option maxHeartbeats 4000000 in
theorem radd_ge (va vb : Value) (s t : Bool) (n d m e L M : Nat) (w : World) (ha : NumV w va s n d) (hb : NumV w vb t m e) (f1 : Fit 4294967296 n L) (f2 : Fit 4294967296 d L) (f3 : Fit 4294967296 m M) (f4 : Fit 4294967296 e M) (hLM : L + M ≤ 1099511627776) (hst : s ≠ t) (hle : m * d ≤ n * e) :
    Calls Try.prog 128 #[va, vb] w (RetR w s (n * e - m * d) (d * e)) := by
  obtain ⟨A1, l1, c1, A2, l2, c2, rfl, h1, h2, _, _⟩ := ha.open
  obtain ⟨B1, m1, k1, B2, m2, k2, rfl, h3, h4, _, _⟩ := hb.open
  have hL : L ≤ 1099511627776 := by omega
  have hM : M ≤ 1099511627776 := by omega
  clear ha hb
  have H1 := Lib.hid h1
  have H2 := Lib.hid h2
  have H3 := Lib.hid h3
  have H4 := Lib.hid h4
  have FX : Hid (Fit 4294967296 (n * e) (L + M)) := f1.mul (by omega) f4
  have FY : Hid (Fit 4294967296 (m * d) (L + M)) := by have := f3.mul (by omega) f2; rw [Nat.add_comm] at this; exact this
  have hstb : (s == t) = false := by simpa using hst
  obtain ⟨cr, hcr, hcr0⟩ : ∃ cr, cmpI (n * e) (m * d) = cr ∧ 0 ≤ cr := ⟨_, rfl, by unfold cmpI; rw [if_neg (by omega)]; split <;> omega⟩
  have HCR := Lib.hid hcr
  clear hcr hst
  clear h1 h2 h3 h4
  go_enter Try.func128, Try.ntmps128
  go_wp2_with fail
  have hXw : Ext w (((w.alloc (.cells #[.bool s, .slice A1 l1 c1, .slice A2 l2 c2] 217)).alloc (.cells #[.bool t, .slice B1 m1 k1, .slice B2 m2 k2] 217)).alloc (.cells #[.bool false, .slice none 0 0, .slice none 0 0] 217)) := (((Ext.refl w).alloc _).alloc _).alloc _
  have hBA : Blk (((w.alloc (.cells #[.bool s, .slice A1 l1 c1, .slice A2 l2 c2] 217)).alloc (.cells #[.bool t, .slice B1 m1 k1, .slice B2 m2 k2] 217)).alloc (.cells #[.bool false, .slice none 0 0, .slice none 0 0] 217)) w.heap.size 217 #[.bool s, .slice A1 l1 c1, .slice A2 l2 c2] := ((Blk.new w _ _).alloc _).alloc _
  have hBB : Blk (((w.alloc (.cells #[.bool s, .slice A1 l1 c1, .slice A2 l2 c2] 217)).alloc (.cells #[.bool t, .slice B1 m1 k1, .slice B2 m2 k2] 217)).alloc (.cells #[.bool false, .slice none 0 0, .slice none 0 0] 217)) (w.heap.size + 1) 217 #[.bool t, .slice B1 m1 k1, .slice B2 m2 k2] := by
    have := (Blk.new (w.alloc (.cells #[.bool s, .slice A1 l1 c1, .slice A2 l2 c2] 217)) 217 #[.bool t, .slice B1 m1 k1, .slice B2 m2 k2]).alloc (.cells #[.bool false, .slice none 0 0, .slice none 0 0] 217)
    simpa using this
  have hBR : Blk (((w.alloc (.cells #[.bool s, .slice A1 l1 c1, .slice A2 l2 c2] 217)).alloc (.cells #[.bool t, .slice B1 m1 k1, .slice B2 m2 k2] 217)).alloc (.cells #[.bool false, .slice none 0 0, .slice none 0 0] 217)) (w.heap.size + 1 + 1) 217 #[.bool false, .slice none 0 0, .slice none 0 0] := by
    have := Blk.new ((w.alloc (.cells #[.bool s, .slice A1 l1 c1, .slice A2 l2 c2] 217)).alloc (.cells #[.bool t, .slice B1 m1 k1, .slice B2 m2 k2] 217)) 217 #[.bool false, .slice none 0 0, .slice none 0 0]
    simpa using this
  generalize ((w.alloc (.cells #[.bool s, .slice A1 l1 c1, .slice A2 l2 c2] 217)).alloc (.cells #[.bool t, .slice B1 m1 k1, .slice B2 m2 k2] 217)).alloc (.cells #[.bool false, .slice none 0 0, .slice none 0 0] 217) = w1 at hXw hBA hBB hBR ⊢
  obtain ⟨a0, a1, a2, _, _, _⟩ := hBA.three
  obtain ⟨b0, b1, b2, _, _, _⟩ := hBB.three
  have HXw := Lib.hid hXw
  have HBA := Lib.hid hBA
  have HBB := Lib.hid hBB
  have HBR := Lib.hid hBR
  replace H1 := Lib.hid (H1.out.ext hXw)
  replace H2 := Lib.hid (H2.out.ext hXw)
  replace H3 := Lib.hid (H3.out.ext hXw)
  replace H4 := Lib.hid (H4.out.ext hXw)
  clear hXw hBA hBB hBR
  refine radd_r1 w.heap.size (w.heap.size + 1) s t A1 A2 B1 B2 l1 c1 l2 c2 m1 k1 m2 k2 n d m e L M w1 a0 a1 a2 b0 b1 b2 H1.out H2.out H3.out H4.out f1 f2 f3 f4 hL hM _ _ (by simp) rfl rfl ?_
  rintro xv0 xv1 xv2 xv3 xv4 xv5 xv6 xv7 xv8 xv9 W rfl rfl rfl rfl h4' rfl rfl rfl rfl h9 hXW
  simp only [rops, Try.f128, regOf, Option.bind_some, Nat.reduceBEq, if_true, if_false, Bool.false_eq_true, Option.getD_some, List.drop_succ_cons, List.drop_zero]
  simp only [Act.put, List.setIfInBounds_toArray, List.set_cons_succ, List.set_cons_zero]
  obtain ⟨X1, x2', x3', rfl, hx, _⟩ := W32.open h4'
  obtain ⟨Y1, y2', y3', rfl, hy, _⟩ := W32.open h9
  obtain ⟨a0, a1, a2, _, _, _⟩ := (HBA.out.ext hXW).three
  obtain ⟨b0, b1, b2, _, _, _⟩ := (HBB.out.ext hXW).three
  have HX5 := Lib.hid hx
  have HY5 := Lib.hid hy
  have HXW := Lib.hid hXW
  clear hx hy hXW h4' h9
  go_wp2_with fail
  refine (mul_any _ _ d e L M _ (H2.out.ext HXW.out) (H4.out.ext HXW.out) f2 f4 hL hM).mono ?_
  rintro e' w2 ⟨vz, rfl, hz, hX2⟩
  obtain ⟨Z1, z2, z3, rfl, hz, _⟩ := W32.open hz
  have hX2' := HXW.out.trans hX2
  obtain ⟨a0, a1, a2, _, _, _⟩ := (HBA.out.ext hX2').three
  obtain ⟨b0, b1, b2, _, _, _⟩ := (HBB.out.ext hX2').three
  have HZ := Lib.hid hz
  have HX6 := Lib.hid (HX5.out.ext hX2)
  have HY6 := Lib.hid (HY5.out.ext hX2)
  have HX2 := Lib.hid hX2'
  clear hz hX2 hX2'
  go_wp2_with fail
  refine (cmp_any _ _ (n * e) (m * d) _ HX6.out HY6.out).mono ?_
  rw [HCR.out]
  rintro e' w3 ⟨rfl, hX3⟩
  have hX3' := HX2.out.trans hX3
  obtain ⟨a0, a1, a2, _, _, _⟩ := (HBA.out.ext hX3').three
  obtain ⟨b0, b1, b2, _, _, _⟩ := (HBB.out.ext hX3').three
  replace HZ := Lib.hid (HZ.out.ext hX3)
  replace HX6 := Lib.hid (HX6.out.ext hX3)
  replace HY6 := Lib.hid (HY6.out.ext hX3)
  replace HX2 := Lib.hid hX3'
  clear hX3 hX3'
  go_wp2_with fail
  refine radd_r6 w.heap.size s X1 Y1 Z1 x2' x3' y2' y3' z2 z3 (n * e) (m * d) (d * e) (L + M) w3 a0 HX6.out HY6.out HZ.out FX.out FY.out hLM hle _ _ (by simp) rfl rfl rfl rfl ?_
  rintro xv0 xv1 xv2 xv3 xv4 xv5 xv6 W rfl rfl rfl rfl h4' rfl h6 hXW
  simp only [rops, Try.f128, regOf, Option.bind_some, Nat.reduceBEq, if_true, if_false, Bool.false_eq_true, Option.getD_some, List.drop_succ_cons, List.drop_zero]
  simp only [Act.put, List.setIfInBounds_toArray, List.set_cons_succ, List.set_cons_zero]
  obtain ⟨P1, q1, r1, P2, q2, r2, rfl, g1, g2, _, _⟩ := NumV.open h6
  clear h4' h6
  replace hXW := HX2.out.trans hXW
  obtain ⟨y0, y1, y2, f0, f1', f2'⟩ := (HBR.out.ext hXW).three
  have HNB := Lib.hid (NoInts.three (HBR.out.ext hXW))
  have G1 := Lib.hid g1
  have G2 := Lib.hid g2
  have HXW := Lib.hid hXW
  clear g1 g2 hXW a0 a1 a2 b0 b1 b2
  go_wp2
  refine bodyPost_ret (v := .agg #[.bool s, .slice P1 q1 r1, .slice P2 q2 r2]) (by simp [results, Try.results128, go_sem, *]) rfl ?_
  exact ⟨_, rfl, ⟨_, _, rfl, G1.out.boxed HNB.out _ _ _ _ _ _ _, G2.out.boxed HNB.out _ _ _ _ _ _ _⟩, Ext.boxed (HXw.out.trans HXW.out) (by omega) _ _ _⟩


set_option maxRecDepth 100000 in
set_option maxHeartbeats 4000000 in
theorem radd_lt (va vb : Value) (s t : Bool) (n d m e L M : Nat) (w : World) (ha : NumV w va s n d) (hb : NumV w vb t m e) (f1 : Fit 4294967296 n L) (f2 : Fit 4294967296 d L) (f3 : Fit 4294967296 m M) (f4 : Fit 4294967296 e M) (hLM : L + M ≤ 1099511627776) (hst : s ≠ t) (hlt : n * e < m * d) :
    Calls Try.prog 128 #[va, vb] w (RetR w t (m * d - n * e) (d * e)) := by
  obtain ⟨A1, l1, c1, A2, l2, c2, rfl, h1, h2, _, _⟩ := ha.open
  obtain ⟨B1, m1, k1, B2, m2, k2, rfl, h3, h4, _, _⟩ := hb.open
  have hL : L ≤ 1099511627776 := by omega
  have hM : M ≤ 1099511627776 := by omega
  clear ha hb
  have H1 := Lib.hid h1
  have H2 := Lib.hid h2
  have H3 := Lib.hid h3
  have H4 := Lib.hid h4
  have FX : Hid (Fit 4294967296 (n * e) (L + M)) := f1.mul (by omega) f4
  have FY : Hid (Fit 4294967296 (m * d) (L + M)) := by have := f3.mul (by omega) f2; rw [Nat.add_comm] at this; exact this
  have hstb : (s == t) = false := by simpa using hst
  obtain ⟨cr, hcr, hcr0⟩ : ∃ cr, cmpI (n * e) (m * d) = cr ∧ cr < 0 := ⟨_, rfl, by rw [cmpI_lt hlt]; omega⟩
  have HCR := Lib.hid hcr
  clear hcr hst
  clear h1 h2 h3 h4
  go_enter Try.func128, Try.ntmps128
  go_wp2_with fail
  have hXw : Ext w (((w.alloc (.cells #[.bool s, .slice A1 l1 c1, .slice A2 l2 c2] 217)).alloc (.cells #[.bool t, .slice B1 m1 k1, .slice B2 m2 k2] 217)).alloc (.cells #[.bool false, .slice none 0 0, .slice none 0 0] 217)) := (((Ext.refl w).alloc _).alloc _).alloc _
  have hBA : Blk (((w.alloc (.cells #[.bool s, .slice A1 l1 c1, .slice A2 l2 c2] 217)).alloc (.cells #[.bool t, .slice B1 m1 k1, .slice B2 m2 k2] 217)).alloc (.cells #[.bool false, .slice none 0 0, .slice none 0 0] 217)) w.heap.size 217 #[.bool s, .slice A1 l1 c1, .slice A2 l2 c2] := ((Blk.new w _ _).alloc _).alloc _
  have hBB : Blk (((w.alloc (.cells #[.bool s, .slice A1 l1 c1, .slice A2 l2 c2] 217)).alloc (.cells #[.bool t, .slice B1 m1 k1, .slice B2 m2 k2] 217)).alloc (.cells #[.bool false, .slice none 0 0, .slice none 0 0] 217)) (w.heap.size + 1) 217 #[.bool t, .slice B1 m1 k1, .slice B2 m2 k2] := by
    have := (Blk.new (w.alloc (.cells #[.bool s, .slice A1 l1 c1, .slice A2 l2 c2] 217)) 217 #[.bool t, .slice B1 m1 k1, .slice B2 m2 k2]).alloc (.cells #[.bool false, .slice none 0 0, .slice none 0 0] 217)
    simpa using this
  have hBR : Blk (((w.alloc (.cells #[.bool s, .slice A1 l1 c1, .slice A2 l2 c2] 217)).alloc (.cells #[.bool t, .slice B1 m1 k1, .slice B2 m2 k2] 217)).alloc (.cells #[.bool false, .slice none 0 0, .slice none 0 0] 217)) (w.heap.size + 1 + 1) 217 #[.bool false, .slice none 0 0, .slice none 0 0] := by
    have := Blk.new ((w.alloc (.cells #[.bool s, .slice A1 l1 c1, .slice A2 l2 c2] 217)).alloc (.cells #[.bool t, .slice B1 m1 k1, .slice B2 m2 k2] 217)) 217 #[.bool false, .slice none 0 0, .slice none 0 0]
    simpa using this
  generalize ((w.alloc (.cells #[.bool s, .slice A1 l1 c1, .slice A2 l2 c2] 217)).alloc (.cells #[.bool t, .slice B1 m1 k1, .slice B2 m2 k2] 217)).alloc (.cells #[.bool false, .slice none 0 0, .slice none 0 0] 217) = w1 at hXw hBA hBB hBR ⊢
  obtain ⟨a0, a1, a2, _, _, _⟩ := hBA.three
  obtain ⟨b0, b1, b2, _, _, _⟩ := hBB.three
  have HXw := Lib.hid hXw
  have HBA := Lib.hid hBA
  have HBB := Lib.hid hBB
  have HBR := Lib.hid hBR
  replace H1 := Lib.hid (H1.out.ext hXw)
  replace H2 := Lib.hid (H2.out.ext hXw)
  replace H3 := Lib.hid (H3.out.ext hXw)
  replace H4 := Lib.hid (H4.out.ext hXw)
  clear hXw hBA hBB hBR
  refine radd_r1 w.heap.size (w.heap.size + 1) s t A1 A2 B1 B2 l1 c1 l2 c2 m1 k1 m2 k2 n d m e L M w1 a0 a1 a2 b0 b1 b2 H1.out H2.out H3.out H4.out f1 f2 f3 f4 hL hM _ _ (by simp) rfl rfl ?_
  rintro xv0 xv1 xv2 xv3 xv4 xv5 xv6 xv7 xv8 xv9 W rfl rfl rfl rfl h4' rfl rfl rfl rfl h9 hXW
  simp only [rops, Try.f128, regOf, Option.bind_some, Nat.reduceBEq, if_true, if_false, Bool.false_eq_true, Option.getD_some, List.drop_succ_cons, List.drop_zero]
  simp only [Act.put, List.setIfInBounds_toArray, List.set_cons_succ, List.set_cons_zero]
  obtain ⟨X1, x2', x3', rfl, hx, _⟩ := W32.open h4'
  obtain ⟨Y1, y2', y3', rfl, hy, _⟩ := W32.open h9
  obtain ⟨a0, a1, a2, _, _, _⟩ := (HBA.out.ext hXW).three
  obtain ⟨b0, b1, b2, _, _, _⟩ := (HBB.out.ext hXW).three
  have HX5 := Lib.hid hx
  have HY5 := Lib.hid hy
  have HXW := Lib.hid hXW
  clear hx hy hXW h4' h9
  go_wp2_with fail
  refine (mul_any _ _ d e L M _ (H2.out.ext HXW.out) (H4.out.ext HXW.out) f2 f4 hL hM).mono ?_
  rintro e' w2 ⟨vz, rfl, hz, hX2⟩
  obtain ⟨Z1, z2, z3, rfl, hz, _⟩ := W32.open hz
  have hX2' := HXW.out.trans hX2
  obtain ⟨a0, a1, a2, _, _, _⟩ := (HBA.out.ext hX2').three
  obtain ⟨b0, b1, b2, _, _, _⟩ := (HBB.out.ext hX2').three
  have HZ := Lib.hid hz
  have HX6 := Lib.hid (HX5.out.ext hX2)
  have HY6 := Lib.hid (HY5.out.ext hX2)
  have HX2 := Lib.hid hX2'
  clear hz hX2 hX2'
  go_wp2_with fail
  refine (cmp_any _ _ (n * e) (m * d) _ HX6.out HY6.out).mono ?_
  rw [HCR.out]
  rintro e' w3 ⟨rfl, hX3⟩
  have hX3' := HX2.out.trans hX3
  obtain ⟨a0, a1, a2, _, _, _⟩ := (HBA.out.ext hX3').three
  obtain ⟨b0, b1, b2, _, _, _⟩ := (HBB.out.ext hX3').three
  replace HZ := Lib.hid (HZ.out.ext hX3)
  replace HX6 := Lib.hid (HX6.out.ext hX3)
  replace HY6 := Lib.hid (HY6.out.ext hX3)
  replace HX2 := Lib.hid hX3'
  clear hX3 hX3'
  go_wp2_with fail
  refine radd_r7 (w.heap.size + 1) t X1 Y1 Z1 x2' x3' y2' y3' z2 z3 (n * e) (m * d) (d * e) (L + M) w3 b0 HX6.out HY6.out HZ.out FX.out FY.out hLM (Nat.le_of_lt hlt) _ _ (by simp) rfl rfl rfl rfl ?_
  rintro xv0 xv1 xv2 xv3 xv4 xv5 xv6 W rfl rfl rfl rfl h4' rfl h6 hXW
  simp only [rops, Try.f128, regOf, Option.bind_some, Nat.reduceBEq, if_true, if_false, Bool.false_eq_true, Option.getD_some, List.drop_succ_cons, List.drop_zero]
  simp only [Act.put, List.setIfInBounds_toArray, List.set_cons_succ, List.set_cons_zero]
  obtain ⟨P1, q1, r1, P2, q2, r2, rfl, g1, g2, _, _⟩ := NumV.open h6
  clear h4' h6
  replace hXW := HX2.out.trans hXW
  obtain ⟨y0, y1, y2, f0, f1', f2'⟩ := (HBR.out.ext hXW).three
  have HNB := Lib.hid (NoInts.three (HBR.out.ext hXW))
  have G1 := Lib.hid g1
  have G2 := Lib.hid g2
  have HXW := Lib.hid hXW
  clear g1 g2 hXW a0 a1 a2 b0 b1 b2
  go_wp2
  refine bodyPost_ret (v := .agg #[.bool t, .slice P1 q1 r1, .slice P2 q2 r2]) (by simp [results, Try.results128, go_sem, *]) rfl ?_
  exact ⟨_, rfl, ⟨_, _, rfl, G1.out.boxed HNB.out _ _ _ _ _ _ _, G2.out.boxed HNB.out _ _ _ _ _ _ _⟩, Ext.boxed (HXw.out.trans HXW.out) (by omega) _ _ _⟩

end Go.Proofs.Ytikhlcgnlbinfaa
namespace Go.Proofs.Ytikhlcgnlbinfaa
open Go.RowKit

/-- A value that is the rational number q, perhaps not in lowest terms, of at most L words above and below. -/
def NumX (w : World) (v : Value) (q : Rat) (L : Nat) : Prop := ∃ s n d, NumV w v s n d ∧ 0 < d ∧ ratV s n d = q ∧ Fit 4294967296 n L ∧ Fit 4294967296 d L
/-- The same in lowest terms. -/
def NumQ (w : World) (v : Value) (q : Rat) : Prop := NumV w v (decide (q.num < 0)) q.num.natAbs q.den
theorem NumX.ext {w w' : World} {v : Value} {q : Rat} {L : Nat} (h : NumX w v q L) (he : Ext w w') : NumX w' v q L := by
  obtain ⟨s, n, d, h1, h2⟩ := h
  exact ⟨s, n, d, h1.ext he, h2⟩
theorem NumQ.ext {w w' : World} {v : Value} {q : Rat} (h : NumQ w v q) (he : Ext w w') : NumQ w' v q := NumV.ext h he
theorem NumX.mono {w : World} {v : Value} {q : Rat} {L M : Nat} (h : NumX w v q L) (hl : L ≤ M) : NumX w v q M := by
  obtain ⟨s, n, d, h1, h2, h3, h4, h5⟩ := h
  exact ⟨s, n, d, h1, h2, h3, h4.mono (by omega) hl, h5.mono (by omega) hl⟩
theorem NumQ.numx {w : World} {v : Value} {q : Rat} {L : Nat} (h : NumQ w v q) (hf : FitQ q L) : NumX w v q L := ⟨_, _, _, h, q.den_pos, ratV_self q, hf.1, hf.2⟩
theorem NumX.fit {w : World} {v : Value} {q : Rat} {L : Nat} (h : NumX w v q L) : FitQ q L := by
  obtain ⟨s, n, d, _, h2, h3, h4, h5⟩ := h
  rw [← h3]; exact fit_red h2 h4 h5
theorem FitQ.mono {q : Rat} {L M : Nat} (h : FitQ q L) (hl : L ≤ M) : FitQ q M := ⟨h.1.mono (by omega) hl, h.2.mono (by omega) hl⟩

def RetX (w : World) (q : Rat) (L : Nat) (e : Ending) (w' : World) : Prop := ∃ v, e = .returned v ∧ NumX w' v q L ∧ Ext w w'
def RetQ2 (w : World) (q : Rat) (e : Ending) (w' : World) : Prop := ∃ v, e = .returned v ∧ NumQ w' v q ∧ Ext w w'

section
variable {va vb : Value} {a b : Rat} {L M : Nat} {w : World}
theorem intX (x : Int) (w : World) (h0 : -9223372036854775808 ≤ x) (h1 : x ≤ 9223372036854775807) : Calls Try.prog 127 #[.int .i64 x] w (RetX w (x : Rat) 2) := by
  refine (int_any x w h0 h1).mono ?_
  rintro e w' ⟨v, rfl, hv, hX⟩
  refine ⟨v, rfl, ⟨_, _, _, hv, by omega, ratV_int x, ?_, Fit.one (by omega) (by omega)⟩, hX⟩
  unfold Fit
  have : (4294967296 : Int) ^ 2 = 18446744073709551616 := by decide
  omega
theorem reducedX (h : NumX w va a L) (hL : L ≤ 1099511627775) : Calls Try.prog 130 #[va] w (RetQ2 w a) := by
  obtain ⟨s, n, d, h1, h2, h3, h4, h5⟩ := h
  refine (reduced_any va s n d L w h1 h2 h4 h5 hL).mono ?_
  rintro e w' ⟨v, rfl, hv, hX⟩
  refine ⟨v, rfl, ?_, hX⟩
  unfold NumQ
  rw [← h3, (ratV_neg s n d h2).1, (ratV_neg s n d h2).2, (ratV_red s n d h2).2]
  exact hv
theorem negX (h : NumX w va a L) : Calls Try.prog 143 #[va] w (RetX w (-a) L) := by
  obtain ⟨s, n, d, h1, h2, h3, h4, h5⟩ := h
  refine (neg_any va s n d w h1).mono ?_
  rintro e w' ⟨v, rfl, hv, hX⟩
  exact ⟨v, rfl, ⟨_, _, _, hv, h2, by rw [← ratV_opp, h3], h4, h5⟩, hX⟩
theorem signX (h : NumX w va a L) : Calls Try.prog 134 #[va] w fun e w' => e = .returned (.int .i64 (sgnQ a)) ∧ Ext w w' := by
  obtain ⟨s, n, d, h1, h2, h3, h4, h5⟩ := h
  rw [← h3]
  exact sign_any va s n d w h1 h2
theorem mulX (ha : NumX w va a L) (hb : NumX w vb b M) (hL : L ≤ 1099511627776) (hM : M ≤ 1099511627776) : Calls Try.prog 184 #[va, vb] w (RetX w (a * b) (L + M)) := by
  obtain ⟨s, n, d, h1, h2, h3, h4, h5⟩ := ha
  obtain ⟨t, m, e, g1, g2, g3, g4, g5⟩ := hb
  refine (rmul_any va vb s t n d m e L M w h1 g1 h4 h5 g4 g5 hL hM).mono ?_
  rintro e' w' ⟨v, rfl, hv, hX⟩
  exact ⟨v, rfl, ⟨_, _, _, hv, Nat.mul_pos h2 g2, by rw [← ratV_mul, h3, g3], h4.mul (by omega) g4, h5.mul (by omega) g5⟩, hX⟩
theorem divX (ha : NumX w va a L) (hb : NumX w vb b M) (hz : b ≠ 0) (hL : L ≤ 1099511627776) (hM : M ≤ 1099511627776) : Calls Try.prog 176 #[va, vb] w (RetX w (a / b) (L + M)) := by
  obtain ⟨s, n, d, h1, h2, h3, h4, h5⟩ := ha
  obtain ⟨t, m, e, g1, g2, g3, g4, g5⟩ := hb
  have hm : 0 < m := by
    rcases Nat.eq_zero_or_pos m with h | h
    · exfalso; apply hz; rw [← g3]; exact (ratV_zero t m e g2).2 h
    · exact h
  refine (rdiv_any va vb s t n d m e L M w h1 g1 h4 h5 g4 g5 hL hM).mono ?_
  rintro e' w' ⟨v, rfl, hv, hX⟩
  exact ⟨v, rfl, ⟨_, _, _, hv, Nat.mul_pos h2 hm, by rw [← ratV_div h2 hm, h3, g3], h4.mul (by omega) g5, h5.mul (by omega) g4⟩, hX⟩
theorem addX (ha : NumX w va a L) (hb : NumX w vb b M) (hLM : L + M ≤ 1099511627776) : Calls Try.prog 128 #[va, vb] w (RetX w (a + b) (L + M + 1)) := by
  obtain ⟨s, n, d, h1, h2, h3, h4, h5⟩ := ha
  obtain ⟨t, m, e, g1, g2, g3, g4, g5⟩ := hb
  have fx := h4.mul (by omega) g5
  have fy := g4.mul (by omega) h5
  rw [Nat.add_comm M L] at fy
  have fd := (h5.mul (by omega) g5).mono (b := L + M + 1) (by omega) (by omega)
  by_cases hst : s = t
  · refine (radd_same va vb s t n d m e L M w h1 g1 h4 h5 g4 g5 hLM hst).mono ?_
    rintro e' w' ⟨v, rfl, hv, hX⟩
    exact ⟨v, rfl, ⟨_, _, _, hv, Nat.mul_pos h2 g2, by rw [← ratV_add_same h2 g2 hst, h3, g3], fx.add (by omega) fy, fd⟩, hX⟩
  · rcases Nat.lt_or_ge (n * e) (m * d) with hl | hl
    · refine (radd_lt va vb s t n d m e L M w h1 g1 h4 h5 g4 g5 hLM hst hl).mono ?_
      rintro e' w' ⟨v, rfl, hv, hX⟩
      exact ⟨v, rfl, ⟨_, _, _, hv, Nat.mul_pos h2 g2, by rw [← ratV_add_lt h2 g2 hst (Nat.le_of_lt hl), h3, g3], (fy.le (Nat.sub_le _ _)).mono (by omega) (by omega), fd⟩, hX⟩
    · refine (radd_ge va vb s t n d m e L M w h1 g1 h4 h5 g4 g5 hLM hst hl).mono ?_
      rintro e' w' ⟨v, rfl, hv, hX⟩
      exact ⟨v, rfl, ⟨_, _, _, hv, Nat.mul_pos h2 g2, by rw [← ratV_add_ge h2 g2 hst hl, h3, g3], (fx.le (Nat.sub_le _ _)).mono (by omega) (by omega), fd⟩, hX⟩
end
theorem NumX.open {w : World} {v : Value} {q : Rat} {L : Nat} (h : NumX w v q L) : ∃ s A1 l1 c1 A2 l2 c2, v = .agg #[.bool s, .slice A1 l1 c1, .slice A2 l2 c2] := by
  obtain ⟨s, n, d, h1, _⟩ := h
  obtain ⟨A1, l1, c1, A2, l2, c2, hv, _⟩ := h1.open
  exact ⟨s, A1, l1, c1, A2, l2, c2, hv⟩
theorem NumX.boxed {w : World} {v : Value} {q : Rat} {L g : Nat} (h : NumX w v q L) (hg : NoInts w g) (b : Bool) (A1 A2 : Option Addr) (l1 c1 l2 c2 : Nat) :
    NumX (((w.setCell ⟨g, 0, none⟩ (.bool b)).setCell ⟨g, 1, none⟩ (.slice A1 l1 c1)).setCell ⟨g, 2, none⟩ (.slice A2 l2 c2)) v q L := by
  obtain ⟨s, n, d, ⟨vn, vd, hv, h1, h2⟩, h3⟩ := h
  exact ⟨s, n, d, ⟨vn, vd, hv, h1.boxed hg _ _ _ _ _ _ _, h2.boxed hg _ _ _ _ _ _ _⟩, h3⟩
theorem NumQ.boxed {w : World} {v : Value} {q : Rat} {g : Nat} (h : NumQ w v q) (hg : NoInts w g) (b : Bool) (A1 A2 : Option Addr) (l1 c1 l2 c2 : Nat) :
    NumQ (((w.setCell ⟨g, 0, none⟩ (.bool b)).setCell ⟨g, 1, none⟩ (.slice A1 l1 c1)).setCell ⟨g, 2, none⟩ (.slice A2 l2 c2)) v q := by
  obtain ⟨vn, vd, hv, h1, h2⟩ := h
  exact ⟨vn, vd, hv, h1.boxed hg _ _ _ _ _ _ _, h2.boxed hg _ _ _ _ _ _ _⟩

set_option maxRecDepth 100000 in
set_option maxHeartbeats 2000000 in
theorem rsub_r1 (ga gb : Nat) (s t : Bool) (A1 A2 B1 B2 : Option Addr) (l1 c1 l2 c2 m1 k1 m2 k2 L M : Nat) (q r : Rat) (w : World) (a0 : w.cell? ⟨ga, 0, none⟩ = some (.bool s)) (a1 : w.cell? ⟨ga, 1, none⟩ = some (.slice A1 l1 c1)) (a2 : w.cell? ⟨ga, 2, none⟩ = some (.slice A2 l2 c2)) (b0 : w.cell? ⟨gb, 0, none⟩ = some (.bool t)) (b1 : w.cell? ⟨gb, 1, none⟩ = some (.slice B1 m1 k1)) (b2 : w.cell? ⟨gb, 2, none⟩ = some (.slice B2 m2 k2)) (hq : NumX w (.agg #[.bool s, .slice A1 l1 c1, .slice A2 l2 c2]) q L) (hr : NumX w (.agg #[.bool t, .slice B1 m1 k1, .slice B2 m2 k2]) r M) (hLM : L + M ≤ 1099511627776) (a : Act) (Q : Exit → Act → World → Prop) (hsize : 9 ≤ a.tmps.size)
    (s2 : a.tmps[2]? = some (.pointer (some ⟨ga, 0, none⟩)))
    (s3 : a.tmps[3]? = some (.pointer (some ⟨gb, 0, none⟩)))
    (hend : ∀ (xv0 xv1 xv2 xv3 : Value) (W : World), (xv0 = .agg #[.bool s, .slice A1 l1 c1, .slice A2 l2 c2]) → (xv1 = .agg #[.bool t, .slice B1 m1 k1, .slice B2 m2 k2]) → (NumX W xv2 (-r) M) → (NumX W xv3 (q - r) (L + M + 1)) → Ext w W → wpList Try.prog (rops Try.f188 1).toArray Q ((rops Try.f188 1).drop 4) ((((a.put (some 5) xv0).put (some 6) xv1).put (some 7) xv2).put (some 8) xv3) W) :
    (Code.region 1 (rops Try.f188 1).toArray true).wp Try.prog Q a w := by
  have hmono : ∀ (W W' : World) (j : Nat) (u : Value), Ext W W' → (fun (i : Nat) (v : Value) (W : World) => match i with
    | 0 => v = .agg #[.bool s, .slice A1 l1 c1, .slice A2 l2 c2]
    | 1 => v = .agg #[.bool t, .slice B1 m1 k1, .slice B2 m2 k2]
    | 2 => NumX W v (-r) M
    | 3 => NumX W v (q - r) (L + M + 1)
    | _ => True) j u W → (fun (i : Nat) (v : Value) (W : World) => match i with
    | 0 => v = .agg #[.bool s, .slice A1 l1 c1, .slice A2 l2 c2]
    | 1 => v = .agg #[.bool t, .slice B1 m1 k1, .slice B2 m2 k2]
    | 2 => NumX W v (-r) M
    | 3 => NumX W v (q - r) (L + M + 1)
    | _ => True) j u W' := by
    intro W W' j u hX h
    match j, h with
    | 0, h => exact h
    | 1, h => exact h
    | 2, h => exact NumX.ext h hX
    | 3, h => exact NumX.ext h hX
    | _ + 4, h => exact h
  have hsz : ∀ d, some d ∈ ([some 5, some 6, some 7, some 8] : List (Option Tmp)) → d < a.tmps.size := slots_lt (by decide) hsize
  refine wp_region_j 4 [some 5, some 6, some 7, some 8] [[], [], [1], [0, 2]] [[], [], [], []] (fun (i : Nat) (v : Value) (W : World) => match i with
    | 0 => v = .agg #[.bool s, .slice A1 l1 c1, .slice A2 l2 c2]
    | 1 => v = .agg #[.bool t, .slice B1 m1 k1, .slice B2 m2 k2]
    | 2 => NumX W v (-r) M
    | 3 => NumX W v (q - r) (L + M + 1)
    | _ => True) (fun _ W => Ext w W) (by kernel_rfl) (by kernel_rfl) hsz (fun _ _ _ _ h => h) ((Ext.refl w).drew) ?_ ?_
  · clear hend
    simp only [rops, Try.f188, regOf, Option.bind_some, Nat.reduceBEq, if_true, if_false, Bool.false_eq_true, Option.getD_some]
    simp only [List.take_succ_cons, List.take_zero]
    refine ⟨?_, ?_, ?_, ?_, trivial⟩
    · intro done us W hJ hdep haft hnot b hb hb' K hK Q'
      have e2 := (hb' 2 (by simp)).trans s2
      clear hb hb'
      have q0 := Ext.cell hJ a0
      have q1 := Ext.cell hJ a1
      have q2 := Ext.cell hJ a2
      go_simp
      exact hK _ _ rfl (fun _ _ _ h => h) hJ
    · intro done us W hJ hdep haft hnot b hb hb' K hK Q'
      have e3 := (hb' 3 (by simp)).trans s3
      clear hb hb'
      have q0 := Ext.cell hJ b0
      have q1 := Ext.cell hJ b1
      have q2 := Ext.cell hJ b2
      go_simp
      exact hK _ _ rfl (fun _ _ _ h => h) hJ
    · intro done us W hJ hdep haft hnot b hb hb' K hK Q'
      simp only [List.getD_cons_succ, List.getD_cons_zero, List.mem_cons, List.not_mem_nil, or_false, forall_eq] at hdep
      have e6 := hb 1 6 rfl
      have d1 := hdep
      rw [d1.1] at e6
      clear hb hb' hdep d1
      go_simp
      refine (negX (NumX.ext hr hJ)).mono ?_
      rintro e w' ⟨v, rfl, hv, hX⟩
      exact hK _ _ hv (fun j u _ h => hmono _ _ j u hX h) (Ext.trans hJ hX)
    · intro done us W hJ hdep haft hnot b hb hb' K hK Q'
      simp only [List.getD_cons_succ, List.getD_cons_zero, List.mem_cons, List.not_mem_nil, or_false, forall_eq_or_imp, forall_eq] at hdep
      have e5 := hb 0 5 rfl
      have e7 := hb 2 7 rfl
      have d0 := hdep.1
      have d2 := hdep.2
      rw [d0.1] at e5
      clear hb hb' hdep d0
      have hA := addX (NumX.ext hq hJ) d2.1 hLM
      rw [← Rat.sub_eq_add_neg] at hA
      go_simp
      refine (hA).mono ?_
      rintro e w' ⟨v, rfl, hv, hX⟩
      exact hK _ _ hv (fun j u _ h => hmono _ _ j u hX h) (Ext.trans hJ hX)
  · intro us W hV hJ
    exact hend (us 0) (us 1) (us 2) (us 3) W (hV 0 (by omega)) (hV 1 (by omega)) (hV 2 (by omega)) (hV 3 (by omega)) hJ

set_option maxRecDepth 100000 in
set_option maxHeartbeats 1000000 in
theorem subX {va vb : Value} {q r : Rat} {L M : Nat} {w : World} (ha : NumX w va q L) (hb : NumX w vb r M) (hLM : L + M ≤ 1099511627776) : Calls Try.prog 188 #[va, vb] w (RetX w (q - r) (L + M + 1)) := by
  obtain ⟨s, A1, l1, c1, A2, l2, c2, rfl⟩ := ha.open
  obtain ⟨t, B1, m1, k1, B2, m2, k2, rfl⟩ := hb.open
  have HA := Lib.hid ha
  have HB := Lib.hid hb
  clear ha hb
  go_enter Try.func188, Try.ntmps188
  go_wp2_with fail
  have hXw : Ext w (((w.alloc (.cells #[.bool s, .slice A1 l1 c1, .slice A2 l2 c2] 217)).alloc (.cells #[.bool t, .slice B1 m1 k1, .slice B2 m2 k2] 217)).alloc (.cells #[.bool false, .slice none 0 0, .slice none 0 0] 217)) := (((Ext.refl w).alloc _).alloc _).alloc _
  have hBA : Blk (((w.alloc (.cells #[.bool s, .slice A1 l1 c1, .slice A2 l2 c2] 217)).alloc (.cells #[.bool t, .slice B1 m1 k1, .slice B2 m2 k2] 217)).alloc (.cells #[.bool false, .slice none 0 0, .slice none 0 0] 217)) w.heap.size 217 #[.bool s, .slice A1 l1 c1, .slice A2 l2 c2] := ((Blk.new w _ _).alloc _).alloc _
  have hBB : Blk (((w.alloc (.cells #[.bool s, .slice A1 l1 c1, .slice A2 l2 c2] 217)).alloc (.cells #[.bool t, .slice B1 m1 k1, .slice B2 m2 k2] 217)).alloc (.cells #[.bool false, .slice none 0 0, .slice none 0 0] 217)) (w.heap.size + 1) 217 #[.bool t, .slice B1 m1 k1, .slice B2 m2 k2] := by
    have := (Blk.new (w.alloc (.cells #[.bool s, .slice A1 l1 c1, .slice A2 l2 c2] 217)) 217 #[.bool t, .slice B1 m1 k1, .slice B2 m2 k2]).alloc (.cells #[.bool false, .slice none 0 0, .slice none 0 0] 217)
    simpa using this
  have hBR : Blk (((w.alloc (.cells #[.bool s, .slice A1 l1 c1, .slice A2 l2 c2] 217)).alloc (.cells #[.bool t, .slice B1 m1 k1, .slice B2 m2 k2] 217)).alloc (.cells #[.bool false, .slice none 0 0, .slice none 0 0] 217)) (w.heap.size + 1 + 1) 217 #[.bool false, .slice none 0 0, .slice none 0 0] := by
    have := Blk.new ((w.alloc (.cells #[.bool s, .slice A1 l1 c1, .slice A2 l2 c2] 217)).alloc (.cells #[.bool t, .slice B1 m1 k1, .slice B2 m2 k2] 217)) 217 #[.bool false, .slice none 0 0, .slice none 0 0]
    simpa using this
  generalize ((w.alloc (.cells #[.bool s, .slice A1 l1 c1, .slice A2 l2 c2] 217)).alloc (.cells #[.bool t, .slice B1 m1 k1, .slice B2 m2 k2] 217)).alloc (.cells #[.bool false, .slice none 0 0, .slice none 0 0] 217) = w1 at hXw hBA hBB hBR ⊢
  obtain ⟨a0, a1, a2, _, _, _⟩ := hBA.three
  obtain ⟨b0, b1, b2, _, _, _⟩ := hBB.three
  have HXw := Lib.hid hXw
  have HBA := Lib.hid hBA
  have HBB := Lib.hid hBB
  have HBR := Lib.hid hBR
  replace HA := Lib.hid (HA.out.ext hXw)
  replace HB := Lib.hid (HB.out.ext hXw)
  clear hXw hBA hBB hBR
  refine rsub_r1 w.heap.size (w.heap.size + 1) s t A1 A2 B1 B2 l1 c1 l2 c2 m1 k1 m2 k2 L M q r w1 a0 a1 a2 b0 b1 b2 HA.out HB.out hLM _ _ (by simp) rfl rfl ?_
  rintro xv0 xv1 xv2 xv3 W rfl rfl h2 h3 hXW
  simp only [rops, Try.f188, regOf, Option.bind_some, Nat.reduceBEq, if_true, if_false, Bool.false_eq_true, Option.getD_some, List.drop_succ_cons, List.drop_zero]
  simp only [Act.put, List.setIfInBounds_toArray, List.set_cons_succ, List.set_cons_zero]
  obtain ⟨u, P1, q1, r1, P2, q2, r2, rfl⟩ := NumX.open h3
  obtain ⟨y0, y1, y2, f0, f1', f2'⟩ := (HBR.out.ext hXW).three
  have HNB := Lib.hid (NoInts.three (HBR.out.ext hXW))
  have G3 := Lib.hid h3
  have HXW := Lib.hid hXW
  clear h2 h3 hXW a0 a1 a2 b0 b1 b2
  go_wp2
  refine bodyPost_ret (v := .agg #[.bool u, .slice P1 q1 r1, .slice P2 q2 r2]) (by simp [results, Try.results188, go_sem, *]) rfl ?_
  exact ⟨_, rfl, G3.out.boxed HNB.out _ _ _ _ _ _ _, Ext.boxed (HXw.out.trans HXW.out) (by omega) _ _ _⟩


end Go.Proofs.Ytikhlcgnlbinfaa
namespace Go.Proofs.Ytikhlcgnlbinfaa
open Go.RowKit

theorem elI : Elem Try.prog 61 3 1 8 (.int .i64 0) := Elem.mk' (by kernel_rfl) (by kernel_rfl) rfl (by decide)
/-- A number of the reference. -/
def Z16 (w : World) (v : Value) (n : Nat) : Prop := NatV .i64 65536 w v n
theorem Z16.ext {w w' : World} {v : Value} {n : Nat} (h : Z16 w v n) (he : Ext w w') : Z16 w' v n := NatV.ext h he
theorem wf16 {x : Int} (h : 0 ≤ x ∧ x < 65536) : (Lit.int .i64 x).wf = true := WalkArith.wf_i64 (by omega)
theorem dg_wf {xs : List Int} (h : Dg 65536 xs) : ∀ x ∈ xs, (Lit.int .i64 x).wf = true := fun x hx => wf16 (h x hx)

theorem val_take_next (xs : List Int) (k : Nat) : val 65536 (xs.take (k + 1)) = val 65536 (xs.take k) + 65536 ^ k * xs.getD k 0 := by
  by_cases h : k < xs.length
  · have hx : xs[k]? = some xs[k] := List.getElem?_eq_getElem h
    rw [val_take_succ hx]
    simp [List.getD, hx]
  · rw [List.take_of_length_le (by omega), List.take_of_length_le (by omega)]
    simp [List.getD, List.getElem?_eq_none (by omega : xs.length ≤ k)]
theorem getD_some {xs : List Int} {k : Nat} {x : Int} (h : xs[k]? = some x) : xs.getD k 0 = x := by simp [List.getD, h]
theorem getD_none {xs : List Int} {k : Nat} (h : xs.length ≤ k) : xs.getD k 0 = 0 := by simp [List.getD, List.getElem?_eq_none h]
end Go.Proofs.Ytikhlcgnlbinfaa
namespace Go.Proofs.Ytikhlcgnlbinfaa
open Go.RowKit

/-- What a call returns that makes a number in memory of its own. -/
def RetOwn (w : World) (n : Nat) (e : Ending) (w' : World) : Prop := ∃ A l c xs, e = .returned (.slice A l c) ∧ OwnS .i64 3 w.heap.size w' A l c xs ∧ Rep 65536 xs n ∧ Ext w w'
theorem RetOwn.n {w : World} {n : Nat} {e : Ending} {w' : World} (h : RetOwn w n e w') : RetN .i64 65536 w n e w' := by
  obtain ⟨A, l, c, xs, h1, h2, h3, h4⟩ := h
  exact ⟨_, h1, h2.natv h3, h4⟩
end Go.Proofs.Ytikhlcgnlbinfaa
namespace Go.Proofs.Ytikhlcgnlbinfaa
open Go.RowKit
theorem Blk.at_ {W : World} {t : TypeId} {cs : Array Value} {g : Nat} (hg : W.heap.size = g) : Blk (W.alloc (.cells cs t)) g t cs := hg ▸ Blk.new W t cs
theorem Ext.two {w0 w : World} {g : Nat} (h : Ext w0 w) (hg : w0.heap.size ≤ g) (x y : Value) : Ext w0 ((w.setCell ⟨g, 0, none⟩ x).setCell ⟨g, 1, none⟩ y) := (h.setCell hg x).setCell hg y
end Go.Proofs.Ytikhlcgnlbinfaa
namespace Go.Proofs.Ytikhlcgnlbinfaa
open Go.RowKit

/-- An integer of the reference. -/
def IntZ (w : World) (v : Value) (z : Int) : Prop := ∃ A l c, v = .agg #[.bool (decide (z < 0)), .slice A l c] ∧ Z16 w (.slice A l c) z.natAbs
theorem IntZ.ext {w w' : World} {v : Value} {z : Int} (h : IntZ w v z) (he : Ext w w') : IntZ w' v z := by
  obtain ⟨A, l, c, h1, h2⟩ := h
  exact ⟨A, l, c, h1, h2.ext he⟩
/-- What a call returns that makes an integer. -/
def RetZ (w : World) (z : Int) (e : Ending) (w' : World) : Prop := ∃ v, e = .returned v ∧ IntZ w' v z ∧ Ext w w'
theorem nats_past {w : World} {v : Value} {n g : Nat} {k : IntKind} {B : Int} (h : NatV k B w v n) (hN : NoInts w g) (i : Nat) (x : Value) : NatV k B (w.setCell ⟨g, i, none⟩ x) v n := by
  obtain ⟨A, m, c, xs, h1, h2, h3⟩ := h
  exact ⟨A, m, c, xs, h1, h2.past hN.cell i x, h3⟩
theorem NoInts.two {w : World} {g : Nat} {t : TypeId} {b : Bool} {A1 : Option Addr} {l1 c1 : Nat} (h : Blk w g t #[.bool b, .slice A1 l1 c1]) : NoInts w g :=
  ⟨t, _, h, fun v hv => by
    simp at hv
    rcases hv with rfl | rfl
    · exact noInt_bool _
    · exact noInt_slice _ _ _⟩
theorem small_step {out : List Int} {k : Nat} {u N : Int} (hl : out.length = k) (hI : val 65536 out + u * 65536 ^ k = N) : val 65536 (out ++ [u % 65536]) + u / 65536 * 65536 ^ (k + 1) = N := by
  rw [val_snoc, hl, Int.pow_succ, ← hI]
  have h := Int.mul_ediv_add_emod u 65536
  generalize u / 65536 = q at *
  generalize u % 65536 = r at *
  grind

set_option maxRecDepth 100000 in
set_option maxHeartbeats 2000000 in
theorem small_any (n : Int) (w : World) (h0 : -9223372036854775808 ≤ n) (h1 : n ≤ 9223372036854775807) :
    Calls Try.prog 111 #[.int .i64 n] w (RetZ w n) := by
  obtain ⟨N, U, hN0, hN1, hNn, hu, hNu, hNp⟩ : ∃ N U : Int, 0 ≤ N ∧ N ≤ 9223372036854775808 ∧ Hid (N = (n.natAbs : Int)) ∧ IntKind.u64.wrap n = U ∧ (n < 0 → IntKind.u64.wrap (-U) = N) ∧ (¬ n < 0 → U = N) := by
    refine ⟨(n.natAbs : Int), IntKind.u64.wrap n, by omega, by omega, rfl, rfl, fun h => ?_, fun h => ?_⟩
    · rw [IntKind.wrap_u64, IntKind.wrap_u64]; omega
    · rw [IntKind.wrap_u64]; omega
  by_cases hneg : n < 0
  · have hw := hNu hneg
    have hb : decide (n < 0) = true := decide_eq_true hneg
    clear hNu hNp
    go_enter Try.func111, Try.ntmps111
    go_wp2_with fail
    clear hu hw
    go_loopg [3, 4] N.toNat (fun g s v wr => ∃ (k : Nat) (u : Int) (out : List Int), g = u.toNat ∧ s = .int .u64 u ∧ 0 ≤ u ∧ u ≤ 9223372036854775808 ∧ k ≤ 4 ∧ Hid (u * 65536 ^ k ≤ 9223372036854775808) ∧ Hid (wr.ownsRow (w.heap.size + 1) 3 1 v k (out.map (.int .i64))) ∧ Hid (Dg 65536 out) ∧ Hid (out.length = k) ∧ Hid (u = 0 → Nm out) ∧ Hid (val 65536 out + u * 65536 ^ k = N) ∧ Hid (Blk wr w.heap.size 63 #[.bool false, .slice none 0 0]) ∧ Hid (Ext w wr))
    case atStart => exact ⟨0, N, [], rfl, rfl, hN0, hN1, by omega, by simp [Hid]; omega, World.ownsRow_nil _ _ _ _, Dg.nil, rfl, fun _ => Nm.nil, by simp [Hid, val], Blk.new _ _ _, (Ext.refl w).alloc _⟩
    case round =>
      obtain ⟨k, u, out, rfl, rfl, hu0, hu1, hk4, HB, HO, HD, HLO, HNM, HI, KR, HX⟩ := hrel
      by_cases hz : u = 0
      · subst hz
        have hI := HI.out
        rw [Int.zero_mul, Int.add_zero] at hI
        obtain ⟨A2, c2, rfl⟩ := own_slice HO.out
        have HOS : Hid (OwnS .i64 3 (w.heap.size + 1) wr A2 k c2 out) := ⟨HO.out, HLO.out, dg_wf HD.out⟩
        have HV : Hid (Z16 wr (.slice A2 k c2) n.natAbs) := ⟨A2, k, c2, out, rfl, HOS.out.ints, ⟨HD.out, HNM.out rfl, by rw [hI, hNn.out]⟩, HOS.out.cap.1, HOS.out.cap.2⟩
        clear hI HI HNM
        have r0 : wr.cell? ⟨w.heap.size, 0, none⟩ = some (.bool false) := KR.out.cell 0
        have r1 : wr.cell? ⟨w.heap.size, 1, none⟩ = some (.slice none 0 0) := KR.out.cell 1
        have f0 : wr.frozen? ⟨w.heap.size, 0, none⟩ = false := KR.out.free 0
        have f1 : wr.frozen? ⟨w.heap.size, 1, none⟩ = false := KR.out.free 1
        go_wp2
        refine bodyPost_ret (v := .agg #[.bool true, .slice A2 k c2]) (by simp [results, Try.results111, go_sem, *]) rfl ?_
        refine ⟨_, rfl, ⟨A2, k, c2, by rw [hb], ?_⟩, HX.out.two (Nat.le_refl _) _ _⟩
        have hNI := NoInts.two KR.out
        exact nats_past (nats_past HV.out hNI 0 _) (hNI.set 0 (noInt_bool _)) 1 _
      · have hup : 0 < u := by omega
        have hkl : k < 4 := by
          apply Nat.lt_of_not_le
          intro h
          obtain rfl : k = 4 := by omega
          have := HB.out
          rw [show (65536 : Int) ^ 4 = 18446744073709551616 by decide] at this
          omega
        have hm0 := Int.emod_nonneg u (show (65536 : Int) ≠ 0 by omega)
        have hm1 := Int.emod_lt_of_pos u (show (0 : Int) < 65536 by omega)
        have hw2 : IntKind.i64.wrap (u % 65536) = u % 65536 := IntWalk.i64_in _ (by omega)
        have HST := Lib.hid (small_step HLO.out HI.out)
        have HDD := Lib.hid (HD.out.append (Dg.one ⟨hm0, hm1⟩))
        have HBB : Hid (u / 65536 * 65536 ^ (k + 1) ≤ 9223372036854775808) := by
          show _ ≤ _
          have h2 := HB.out
          have h3 : u / 65536 * 65536 ≤ u := Int.ediv_mul_le u (by omega)
          have h4 : u / 65536 * 65536 * 65536 ^ k ≤ u * 65536 ^ k := Int.mul_le_mul_of_nonneg_right h3 (Int.le_of_lt (pow_pos' (by omega) k))
          have h5 : u / 65536 * 65536 ^ (k + 1) = u / 65536 * 65536 * 65536 ^ k := by rw [Int.pow_succ]; grind
          omega
        have HNN : Hid (u / 65536 = 0 → Nm (out ++ [u % 65536])) := fun h => Nm.snoc (by omega)
        have hown := HO.out
        clear hm0 hm1
        go_wp2_with (at_builtin; refine wpList_app _ elI rfl _ _ rfl (w.heap.size + 1) _ k _ rfl (hown.alloc _) _ 1 1 [.int .i64 (u % 65536)] rfl rfl (At.new _ [_] _) (by simp [Value.oneCell']) (by omega) (by unfold maxLen; omega) (by have := KR.out.lt; simp; omega) ?_; intro v1 w1 hown1 hgr1 _; have HO1 := Lib.hid hown1; have HX1 := Lib.hid (Ext.push HX.out (World.ownsRow.mono' HO.out (Nat.le_succ _)) hgr1); have KR1 := Lib.hid ((KR.out.alloc _).grown hgr1 (fun e => by have := (HO.out.lt _ e.symm).1; omega)); clear hown1 hgr1)
        go_roundg (u / 65536).toNat
        case rel => exact ⟨k + 1, u / 65536, out ++ [u % 65536], rfl, rfl, by omega, by omega, by omega, HBB.out, by rw [List.map_append]; exact HO1.out, HDD.out, by rw [List.length_append, HLO.out]; rfl, HNN.out, HST.out, KR1.out, HX1.out⟩
        case measure => omega
  · obtain rfl := hNp hneg
    have hb : decide (n < 0) = false := decide_eq_false hneg
    clear hNu hNp
    go_enter Try.func111, Try.ntmps111
    go_wp2_with fail
    clear hu
    go_loopg [3, 4] U.toNat (fun g s v wr => ∃ (k : Nat) (u : Int) (out : List Int), g = u.toNat ∧ s = .int .u64 u ∧ 0 ≤ u ∧ u ≤ 9223372036854775808 ∧ k ≤ 4 ∧ Hid (u * 65536 ^ k ≤ 9223372036854775808) ∧ Hid (wr.ownsRow (w.heap.size + 1) 3 1 v k (out.map (.int .i64))) ∧ Hid (Dg 65536 out) ∧ Hid (out.length = k) ∧ Hid (u = 0 → Nm out) ∧ Hid (val 65536 out + u * 65536 ^ k = U) ∧ Hid (Blk wr w.heap.size 63 #[.bool false, .slice none 0 0]) ∧ Hid (Ext w wr))
    case atStart => exact ⟨0, U, [], rfl, rfl, hN0, hN1, by omega, by simp [Hid]; omega, World.ownsRow_nil _ _ _ _, Dg.nil, rfl, fun _ => Nm.nil, by simp [Hid, val], Blk.new _ _ _, (Ext.refl w).alloc _⟩
    case round =>
      obtain ⟨k, u, out, rfl, rfl, hu0, hu1, hk4, HB, HO, HD, HLO, HNM, HI, KR, HX⟩ := hrel
      by_cases hz : u = 0
      · subst hz
        have hI := HI.out
        rw [Int.zero_mul, Int.add_zero] at hI
        obtain ⟨A2, c2, rfl⟩ := own_slice HO.out
        have HOS : Hid (OwnS .i64 3 (w.heap.size + 1) wr A2 k c2 out) := ⟨HO.out, HLO.out, dg_wf HD.out⟩
        have HV : Hid (Z16 wr (.slice A2 k c2) n.natAbs) := ⟨A2, k, c2, out, rfl, HOS.out.ints, ⟨HD.out, HNM.out rfl, by rw [hI, hNn.out]⟩, HOS.out.cap.1, HOS.out.cap.2⟩
        clear hI HI HNM
        have r0 : wr.cell? ⟨w.heap.size, 0, none⟩ = some (.bool false) := KR.out.cell 0
        have r1 : wr.cell? ⟨w.heap.size, 1, none⟩ = some (.slice none 0 0) := KR.out.cell 1
        have f0 : wr.frozen? ⟨w.heap.size, 0, none⟩ = false := KR.out.free 0
        have f1 : wr.frozen? ⟨w.heap.size, 1, none⟩ = false := KR.out.free 1
        go_wp2
        refine bodyPost_ret (v := .agg #[.bool false, .slice A2 k c2]) (by simp [results, Try.results111, go_sem, *]) rfl ?_
        refine ⟨_, rfl, ⟨A2, k, c2, by rw [hb], ?_⟩, HX.out.two (Nat.le_refl _) _ _⟩
        have hNI := NoInts.two KR.out
        exact nats_past (nats_past HV.out hNI 0 _) (hNI.set 0 (noInt_bool _)) 1 _
      · have hup : 0 < u := by omega
        have hkl : k < 4 := by
          apply Nat.lt_of_not_le
          intro h
          obtain rfl : k = 4 := by omega
          have := HB.out
          rw [show (65536 : Int) ^ 4 = 18446744073709551616 by decide] at this
          omega
        have hm0 := Int.emod_nonneg u (show (65536 : Int) ≠ 0 by omega)
        have hm1 := Int.emod_lt_of_pos u (show (0 : Int) < 65536 by omega)
        have hw2 : IntKind.i64.wrap (u % 65536) = u % 65536 := IntWalk.i64_in _ (by omega)
        have HST := Lib.hid (small_step HLO.out HI.out)
        have HDD := Lib.hid (HD.out.append (Dg.one ⟨hm0, hm1⟩))
        have HBB : Hid (u / 65536 * 65536 ^ (k + 1) ≤ 9223372036854775808) := by
          show _ ≤ _
          have h2 := HB.out
          have h3 : u / 65536 * 65536 ≤ u := Int.ediv_mul_le u (by omega)
          have h4 : u / 65536 * 65536 * 65536 ^ k ≤ u * 65536 ^ k := Int.mul_le_mul_of_nonneg_right h3 (Int.le_of_lt (pow_pos' (by omega) k))
          have h5 : u / 65536 * 65536 ^ (k + 1) = u / 65536 * 65536 * 65536 ^ k := by rw [Int.pow_succ]; grind
          omega
        have HNN : Hid (u / 65536 = 0 → Nm (out ++ [u % 65536])) := fun h => Nm.snoc (by omega)
        have hown := HO.out
        clear hm0 hm1
        go_wp2_with (at_builtin; refine wpList_app _ elI rfl _ _ rfl (w.heap.size + 1) _ k _ rfl (hown.alloc _) _ 1 1 [.int .i64 (u % 65536)] rfl rfl (At.new _ [_] _) (by simp [Value.oneCell']) (by omega) (by unfold maxLen; omega) (by have := KR.out.lt; simp; omega) ?_; intro v1 w1 hown1 hgr1 _; have HO1 := Lib.hid hown1; have HX1 := Lib.hid (Ext.push HX.out (World.ownsRow.mono' HO.out (Nat.le_succ _)) hgr1); have KR1 := Lib.hid ((KR.out.alloc _).grown hgr1 (fun e => by have := (HO.out.lt _ e.symm).1; omega)); clear hown1 hgr1)
        go_roundg (u / 65536).toNat
        case rel => exact ⟨k + 1, u / 65536, out ++ [u % 65536], rfl, rfl, by omega, by omega, by omega, HBB.out, by rw [List.map_append]; exact HO1.out, HDD.out, by rw [List.length_append, HLO.out]; rfl, HNN.out, HST.out, KR1.out, HX1.out⟩
        case measure => omega

end Go.Proofs.Ytikhlcgnlbinfaa
namespace Go.Proofs.Ytikhlcgnlbinfaa
open Go.RowKit

theorem grownBy_set' (w : World) (g i : Nat) (u : Value) : w.grownBy (w.setCell ⟨g, i, none⟩ u) (some g) :=
  ⟨rfl, rfl, rfl, by simp, fun k _ hk => heap_setCell_other w ⟨g, i, none⟩ k u (fun e => hk (by simp [e]))⟩
theorem OwnS.far {k : IntKind} {e : TypeId} {base g n c : Nat} {w : World} {A : Option Addr} {xs : List Int} (h : OwnS k e base w A n c xs) (hg : g < base) (i : Nat) (u : Value) : OwnS k e base (w.setCell ⟨g, i, none⟩ u) A n c xs := by
  refine ⟨World.ownsRow.kept h.own (grownBy_set' w g i u) ?_, h.len, h.wf⟩
  rcases hv : (Value.slice A n c).ownBlock with _ | b
  · exact .inl rfl
  · right
    intro e
    injection e with e
    have := (h.own.lt b hv).1
    omega
end Go.Proofs.Ytikhlcgnlbinfaa
namespace Go.Proofs.Ytikhlcgnlbinfaa
open Go.RowKit

/-- A slice's words do not lie in the block 'row'. -/
def Sep (v : Value) (row : Option Nat) : Prop := ∀ A n c, v = .slice A n c → 0 < n → ∀ b off, A = some ⟨b, off, none⟩ → row ≠ some b
theorem Sep.nil (v : Value) : Sep v none := fun _ _ _ _ _ _ _ _ h => by cases h
theorem NatV.grown {k : IntKind} {B : Int} {w w' : World} {v : Value} {n : Nat} {row : Option Nat} (h : NatV k B w v n) (hg : w.grownBy w' row) (hs : Sep v row) : NatV k B w' v n := by
  obtain ⟨A, m, c, xs, rfl, ⟨h1, h2, h3⟩, h4⟩ := h
  refine ⟨A, m, c, xs, rfl, ⟨h1, h2, fun hn => ?_⟩, h4⟩
  obtain ⟨b, off, hA, hc⟩ := h3 hn
  have hm : 0 < m := by
    rw [← h1]; rcases xs with _ | ⟨x, xs⟩
    · simp at hn
    · simp
  refine ⟨b, off, hA, fun j v hv => ?_⟩
  have hcell := hc j v hv
  rw [← hcell]
  exact World.cell?_of_block (w := w) (hg.block b (World.block_lt_of_cell? w _ hcell) (fun e => hs A m c rfl hm b off hA e.symm))
theorem Sep.new {k : IntKind} {B : Int} {w : World} {v : Value} {n : Nat} (h : NatV k B w v n) {s : Nat} (hs : w.heap.size ≤ s) : Sep v (some s) := by
  obtain ⟨A, m, c, xs, rfl, ⟨h1, h2, h3⟩, h4⟩ := h
  intro A' n' c' e hn b off hA hb
  injection e with e1 e2 e3
  subst e1 e2 e3
  rcases xs with _ | ⟨x, xs⟩
  · simp at h1; omega
  · obtain ⟨b', off', hA', hc⟩ := h3 (by simp)
    rw [hA] at hA'
    injection hA' with hA'
    injection hA' with hb' _ _
    subst hb'
    have := World.block_lt_of_cell? w _ (hc 0 _ rfl)
    injection hb with hb
    simp only at this
    omega
end Go.Proofs.Ytikhlcgnlbinfaa
namespace Go.Proofs.Ytikhlcgnlbinfaa
open Go.RowKit

/-- A value that is a number of the interface: a sign and two lists of words. -/
def RatV (w : World) (v : Value) (neg : Bool) (xs ys : List Int) : Prop :=
  ∃ A l c B m k, v = .agg #[.bool neg, .slice A l c, .slice B m k] ∧ Ints .u32 w A l xs ∧ l ≤ c ∧ c ≤ 9223372036854775807 ∧ Ints .u32 w B m ys ∧ m ≤ k ∧ k ≤ 9223372036854775807
theorem RatV.ext {w w' : World} {v : Value} {neg : Bool} {xs ys : List Int} (h : RatV w v neg xs ys) (he : Ext w w') : RatV w' v neg xs ys := by
  obtain ⟨A, l, c, B, m, k, h1, h2, h3, h4, h5, h6⟩ := h
  exact ⟨A, l, c, B, m, k, h1, h2.ext he, h3, h4, h5.ext he, h6⟩
/-- What the words denote. -/
def wN (xs : List Int) : Nat := (val 4294967296 xs).toNat
def wD (ys : List Int) : Nat := if wN ys = 0 then 1 else wN ys
def ratOf (neg : Bool) (xs ys : List Int) : Rat := ratV neg (wN xs) (wD ys)
theorem wD_pos (ys : List Int) : 0 < wD ys := by unfold wD; split <;> omega
theorem wN_val {w : World} {A : Option Addr} {l : Nat} {xs : List Int} (h : Ints .u32 w A l xs) : val 4294967296 xs = (wN xs : Int) := by
  have := val_nonneg (B := 4294967296) (by omega) (dg32 h); unfold wN; omega
theorem norm_len {w : World} {A : Option Addr} {l m : Nat} {xs : List Int} (h : Ints .u32 w A l xs) (hm : m ≤ l) (hN : Nm (xs.take m)) (hv : val 4294967296 (xs.take m) = val 4294967296 xs) (K : Nat) : m ≤ K ↔ Fit 4294967296 (wN xs) K := by
  have hr : Rep 4294967296 (xs.take m) (wN xs) := Rep.of_take (dg32 h) hv hN (wN_val h)
  have hl : (xs.take m).length = m := by rw [List.length_take, h.1]; omega
  constructor
  · intro hk
    have := hr.lt (by omega)
    rw [hl] at this
    have h2 := pow_le (B := 4294967296) (by omega) hk
    unfold Fit; omega
  · intro hf
    have := hf.len (by omega) hr
    omega
theorem norm_nil {w : World} {A : Option Addr} {l m : Nat} {xs : List Int} (h : Ints .u32 w A l xs) (hm : m ≤ l) (hN : Nm (xs.take m)) (hv : val 4294967296 (xs.take m) = val 4294967296 xs) : m = 0 ↔ wN xs = 0 := by
  have hr : Rep 4294967296 (xs.take m) (wN xs) := Rep.of_take (dg32 h) hv hN (wN_val h)
  have hl : (xs.take m).length = m := by rw [List.length_take, h.1]; omega
  rw [hr.pos (by omega), ← List.length_eq_zero_iff, hl]

set_option maxRecDepth 100000 in
set_option maxHeartbeats 2000000 in
theorem of_r4 (g : Nat) (neg : Bool) (A B : Option Addr) (l c m k : Nat) (xs : List Int) (D L : Nat) (w : World) (a0 : w.cell? ⟨g, 0, none⟩ = some (.bool neg)) (a1 : w.cell? ⟨g, 1, none⟩ = some (.slice A l c)) (hI : Ints .u32 w A l xs) (hlc : l ≤ c) (hcm : c ≤ 9223372036854775807) (hd : W32 w (.slice B m k) D) (hD : 0 < D) (fN : Fit 4294967296 (wN xs) L) (fD : Fit 4294967296 D L) (hL : L ≤ 1099511627775) (a : Act) (Q : Exit → Act → World → Prop) (hsize : 19 ≤ a.tmps.size)
    (s1 : a.tmps[1]? = some (.pointer (some ⟨g, 0, none⟩)))
    (s3 : a.tmps[3]? = some (.slice B m k))
    (hend : ∀ (xv0 xv1 xv2 xv3 xv4 xv5 xv6 xv7 : Value) (W : World), (xv0 = .pointer (some ⟨g, 0, none⟩)) → (xv1 = .bool neg) → (xv2 = .pointer (some ⟨g, 1, none⟩)) → (xv3 = .slice A l c) → (W32 W xv4 (wN xs)) → (xv5 = .slice B m k) → (NumV W xv6 neg (wN xs) D) → (NumQ W xv7 (ratV neg (wN xs) D)) → Ext w W → wpList Try.prog (rops Try.f133 4).toArray Q ((rops Try.f133 4).drop 8) ((((((((a.put (some 11) xv0).put (some 12) xv1).put (some 13) xv2).put (some 14) xv3).put (some 15) xv4).put (some 16) xv5).put (some 17) xv6).put (some 18) xv7) W) :
    (Code.region 4 (rops Try.f133 4).toArray true).wp Try.prog Q a w := by
  have hmono : ∀ (W W' : World) (j : Nat) (u : Value), Ext W W' → (fun (i : Nat) (v : Value) (W : World) => match i with
    | 0 => v = .pointer (some ⟨g, 0, none⟩)
    | 1 => v = .bool neg
    | 2 => v = .pointer (some ⟨g, 1, none⟩)
    | 3 => v = .slice A l c
    | 4 => W32 W v (wN xs)
    | 5 => v = .slice B m k
    | 6 => NumV W v neg (wN xs) D
    | 7 => NumQ W v (ratV neg (wN xs) D)
    | _ => True) j u W → (fun (i : Nat) (v : Value) (W : World) => match i with
    | 0 => v = .pointer (some ⟨g, 0, none⟩)
    | 1 => v = .bool neg
    | 2 => v = .pointer (some ⟨g, 1, none⟩)
    | 3 => v = .slice A l c
    | 4 => W32 W v (wN xs)
    | 5 => v = .slice B m k
    | 6 => NumV W v neg (wN xs) D
    | 7 => NumQ W v (ratV neg (wN xs) D)
    | _ => True) j u W' := by
    intro W W' j u hX h
    match j, h with
    | 0, h => exact h
    | 1, h => exact h
    | 2, h => exact h
    | 3, h => exact h
    | 4, h => exact W32.ext h hX
    | 5, h => exact h
    | 6, h => exact NumV.ext h hX
    | 7, h => exact NumQ.ext h hX
    | _ + 8, h => exact h
  have hsz : ∀ d, some d ∈ ([some 11, some 12, some 13, some 14, some 15, some 16, some 17, some 18] : List (Option Tmp)) → d < a.tmps.size := slots_lt (by decide) hsize
  refine wp_region_j 8 [some 11, some 12, some 13, some 14, some 15, some 16, some 17, some 18] [[], [0], [], [2], [3], [], [1, 4, 5], [6]] [[], [], [], [], [], [], [], []] (fun (i : Nat) (v : Value) (W : World) => match i with
    | 0 => v = .pointer (some ⟨g, 0, none⟩)
    | 1 => v = .bool neg
    | 2 => v = .pointer (some ⟨g, 1, none⟩)
    | 3 => v = .slice A l c
    | 4 => W32 W v (wN xs)
    | 5 => v = .slice B m k
    | 6 => NumV W v neg (wN xs) D
    | 7 => NumQ W v (ratV neg (wN xs) D)
    | _ => True) (fun _ W => Ext w W) (by kernel_rfl) (by kernel_rfl) hsz (fun _ _ _ _ h => h) ((Ext.refl w).drew) ?_ ?_
  · clear hend
    simp only [rops, Try.f133, regOf, Option.bind_some, Nat.reduceBEq, if_true, if_false, Bool.false_eq_true, Option.getD_some]
    simp only [List.take_succ_cons, List.take_zero]
    refine ⟨?_, ?_, ?_, ?_, ?_, ?_, ?_, ?_, trivial⟩
    · intro done us W hJ hdep haft hnot b hb hb' K hK Q'
      have e1 := (hb' 1 (by simp)).trans s1
      clear hb hb'
      go_simp
      exact hK _ _ rfl (fun _ _ _ h => h) hJ
    · intro done us W hJ hdep haft hnot b hb hb' K hK Q'
      simp only [List.getD_cons_succ, List.getD_cons_zero, List.mem_cons, List.not_mem_nil, or_false, forall_eq] at hdep
      have e11 := hb 0 11 rfl
      have d0 := hdep
      rw [d0.1] at e11
      clear hb hb' hdep d0
      have q := Ext.cell hJ a0
      go_simp
      exact hK _ _ rfl (fun _ _ _ h => h) hJ
    · intro done us W hJ hdep haft hnot b hb hb' K hK Q'
      have e1 := (hb' 1 (by simp)).trans s1
      clear hb hb'
      go_simp
      exact hK _ _ rfl (fun _ _ _ h => h) hJ
    · intro done us W hJ hdep haft hnot b hb hb' K hK Q'
      simp only [List.getD_cons_succ, List.getD_cons_zero, List.mem_cons, List.not_mem_nil, or_false, forall_eq] at hdep
      have e13 := hb 2 13 rfl
      have d2 := hdep
      rw [d2.1] at e13
      clear hb hb' hdep d2
      have q := Ext.cell hJ a1
      go_simp
      exact hK _ _ rfl (fun _ _ _ h => h) hJ
    · intro done us W hJ hdep haft hnot b hb hb' K hK Q'
      simp only [List.getD_cons_succ, List.getD_cons_zero, List.mem_cons, List.not_mem_nil, or_false, forall_eq] at hdep
      have e14 := hb 3 14 rfl
      have d3 := hdep
      rw [d3.1] at e14
      clear hb hb' hdep d3
      go_simp
      refine (norm_any A l c xs _ (Ints.ext hI hJ) hlc hcm).mono ?_
      rintro e w' ⟨q, hq, hN, hv, rfl, rfl⟩
      exact hK _ _ (RetNorm.natv (N := wN xs) (Ints.ext hI hJ) hq hN hv (wN_val hI) hlc hcm) (fun _ _ _ h => h) hJ
    · intro done us W hJ hdep haft hnot b hb hb' K hK Q'
      have e3 := (hb' 3 (by simp)).trans s3
      clear hb hb'
      go_simp
      exact hK _ _ rfl (fun _ _ _ h => h) hJ
    · intro done us W hJ hdep haft hnot b hb hb' K hK Q'
      simp only [List.getD_cons_succ, List.getD_cons_zero, List.mem_cons, List.not_mem_nil, or_false, forall_eq_or_imp, forall_eq] at hdep
      have e12 := hb 1 12 rfl
      have e15 := hb 4 15 rfl
      have e16 := hb 5 16 rfl
      have d1 := hdep.1
      have d4 := hdep.2.1
      have d5 := hdep.2.2
      rw [d1.1] at e12
      rw [d5.1] at e16
      clear hb hb' hdep d1 d5
      obtain ⟨P1, q1, r1, hv1, g1, _⟩ := W32.open d4.1
      rw [hv1] at e15
      go_simp
      exact hK _ _ ⟨_, _, rfl, g1, W32.ext hd hJ⟩ (fun _ _ _ h => h) hJ
    · intro done us W hJ hdep haft hnot b hb hb' K hK Q'
      simp only [List.getD_cons_succ, List.getD_cons_zero, List.mem_cons, List.not_mem_nil, or_false, forall_eq] at hdep
      have e17 := hb 6 17 rfl
      have d6 := hdep
      clear hb hb' hdep 
      go_simp
      refine (reducedX ⟨_, _, _, d6.1, hD, rfl, fN, fD⟩ hL).mono ?_
      rintro e w' ⟨v, rfl, hv, hX⟩
      exact hK _ _ hv (fun j u _ h => hmono _ _ j u hX h) (Ext.trans hJ hX)
  · intro us W hV hJ
    exact hend (us 0) (us 1) (us 2) (us 3) (us 4) (us 5) (us 6) (us 7) W (hV 0 (by omega)) (hV 1 (by omega)) (hV 2 (by omega)) (hV 3 (by omega)) (hV 4 (by omega)) (hV 5 (by omega)) (hV 6 (by omega)) (hV 7 (by omega)) hJ

set_option maxRecDepth 100000 in
set_option maxHeartbeats 2000000 in
theorem of_any (v : Value) (neg : Bool) (xs ys : List Int) (L : Nat) (w : World) (h : RatV w v neg xs ys) (fN : Fit 4294967296 (wN xs) L) (fD : Fit 4294967296 (wD ys) L) (hL : L ≤ 1099511627775) :
    Calls Try.prog 133 #[v] w (RetQ2 w (ratOf neg xs ys)) := by
  obtain ⟨A, l, c, B, m, k, rfl, hA, hlc, hcm, hB, hmk, hkm⟩ := h
  have hXw : Ext w ((w.alloc (.cells #[.bool neg, .slice A l c, .slice B m k] 97)).alloc (.cells #[.bool false, .slice none 0 0, .slice none 0 0] 217)) := ((Ext.refl w).alloc _).alloc _
  have hBA : Blk ((w.alloc (.cells #[.bool neg, .slice A l c, .slice B m k] 97)).alloc (.cells #[.bool false, .slice none 0 0, .slice none 0 0] 217)) w.heap.size 97 #[.bool neg, .slice A l c, .slice B m k] := (Blk.new w _ _).alloc _
  have hBR : Blk ((w.alloc (.cells #[.bool neg, .slice A l c, .slice B m k] 97)).alloc (.cells #[.bool false, .slice none 0 0, .slice none 0 0] 217)) (w.heap.size + 1) 217 #[.bool false, .slice none 0 0, .slice none 0 0] := by
    have := Blk.new (w.alloc (.cells #[.bool neg, .slice A l c, .slice B m k] 97)) 217 #[.bool false, .slice none 0 0, .slice none 0 0]
    simpa using this
  have HQE : Hid (ratOf neg xs ys = ratV neg (wN xs) (wD ys)) := rfl
  have HIA := Lib.hid (hA.ext hXw)
  have HIB := Lib.hid (hB.ext hXw)
  clear hA hB
  go_enter Try.func133, Try.ntmps133
  go_wp2_with fail
  generalize (w.alloc (.cells #[.bool neg, .slice A l c, .slice B m k] 97)).alloc (.cells #[.bool false, .slice none 0 0, .slice none 0 0] 217) = w1 at hXw hBA hBR HIA HIB ⊢
  have HXw := Lib.hid hXw
  have HBA := Lib.hid hBA
  have HBR := Lib.hid hBR
  obtain ⟨a0, a1, a2, _, _, _⟩ := hBA.three
  clear hXw hBA hBR
  refine (norm_any B m k ys _ HIB.out hmk hkm).mono ?_
  rintro e w' ⟨q, hq, hN, hv, rfl, rfl⟩
  have hnil := norm_nil HIB.out hq hN hv
  have hWB := RetNorm.natv (N := wN ys) (c := k) HIB.out hq hN hv (wN_val HIB.out) hmk hkm
  by_cases hz : wN ys = 0
  · obtain rfl : q = 0 := hnil.2 hz
    have HD1 : Hid (wD ys = 1) := by show _ = _; unfold wD; rw [if_pos hz]
    have HDP : Hid (0 < 1) := Nat.one_pos
    rw [HD1.out] at fD HQE
    clear hnil hWB hz hN hv hq
    go_wp2_with fail
    have hXo : Ext w1 (w1.alloc (.cells #[.int .u32 1] 129)) := (Ext.refl w1).alloc _
    have hD : W32 (w1.alloc (.cells #[.int .u32 1] 129)) (.slice (some ⟨w1.heap.size, 0, none⟩) 1 1) 1 := W32.one w1 _
    replace HIA := Lib.hid (HIA.out.ext hXo)
    replace HBA := Lib.hid (HBA.out.ext hXo)
    replace HBR := Lib.hid (HBR.out.ext hXo)
    replace HXw := Lib.hid (HXw.out.trans hXo)
    obtain ⟨N1, hN1⟩ : ∃ N1, N1 = w1.heap.size := ⟨_, rfl⟩
    rw [← hN1] at hD ⊢
    generalize w1.alloc (.cells #[.int .u32 1] 129) = w2 at *
    obtain ⟨a0, a1, a2, _, _, _⟩ := HBA.out.three
    have HD := Lib.hid hD
    clear hD hXo hN1
    refine of_r4 w.heap.size neg A (some ⟨N1, 0, none⟩) l c 1 1 xs _ L w2 a0 a1 HIA.out hlc hcm HD.out HDP.out fN fD hL _ _ (by simp) rfl rfl ?_
    rintro xv0 xv1 xv2 xv3 xv4 xv5 xv6 xv7 W rfl rfl rfl rfl h4 rfl h6 h7 hXW
    simp only [rops, Try.f133, regOf, Option.bind_some, Nat.reduceBEq, if_true, if_false, Bool.false_eq_true, Option.getD_some, List.drop_succ_cons, List.drop_zero]
    simp only [Act.put, List.setIfInBounds_toArray, List.set_cons_succ, List.set_cons_zero]
    obtain ⟨P1, q1, r1, P2, q2, r2, rfl, g1, g2, _, _⟩ := NumV.open h7
    obtain ⟨y0, y1, y2, f0, f1', f2'⟩ := (HBR.out.ext hXW).three
    have HNB := Lib.hid (NoInts.three (HBR.out.ext hXW))
    have G7 := Lib.hid h7
    have HXW := Lib.hid hXW
    clear h4 h6 h7 hXW a0 a1 a2 g1 g2
    go_wp2
    refine bodyPost_ret (v := .agg #[.bool _, .slice P1 q1 r1, .slice P2 q2 r2]) (by simp [results, Try.results133, go_sem, *]; rfl) rfl ?_
    rw [HQE.out]
    exact ⟨_, rfl, NumQ.boxed G7.out HNB.out _ _ _ _ _ _ _, Ext.boxed (HXw.out.trans HXW.out) (by omega) _ _ _⟩
  · have hq0 : ((q : Int) == 0) = false := by
      have : q ≠ 0 := fun h => hz (hnil.1 h)
      simp; omega
    have HD1 : Hid (wD ys = wN ys) := by show _ = _; unfold wD; rw [if_neg hz]
    have HDP : Hid (0 < wN ys) := by show 0 < wN ys; omega
    rw [HD1.out] at fD HQE
    have HD := Lib.hid hWB
    clear hnil hWB hz hN hv
    go_wp2_with fail
    refine of_r4 w.heap.size neg A B l c q k xs _ L w1 a0 a1 HIA.out hlc hcm HD.out HDP.out fN fD hL _ _ (by simp) rfl rfl ?_
    rintro xv0 xv1 xv2 xv3 xv4 xv5 xv6 xv7 W rfl rfl rfl rfl h4 rfl h6 h7 hXW
    simp only [rops, Try.f133, regOf, Option.bind_some, Nat.reduceBEq, if_true, if_false, Bool.false_eq_true, Option.getD_some, List.drop_succ_cons, List.drop_zero]
    simp only [Act.put, List.setIfInBounds_toArray, List.set_cons_succ, List.set_cons_zero]
    obtain ⟨P1, q1, r1, P2, q2, r2, rfl, g1, g2, _, _⟩ := NumV.open h7
    obtain ⟨y0, y1, y2, f0, f1', f2'⟩ := (HBR.out.ext hXW).three
    have HNB := Lib.hid (NoInts.three (HBR.out.ext hXW))
    have G7 := Lib.hid h7
    have HXW := Lib.hid hXW
    clear h4 h6 h7 hXW a0 a1 a2 g1 g2
    go_wp2
    refine bodyPost_ret (v := .agg #[.bool _, .slice P1 q1 r1, .slice P2 q2 r2]) (by simp [results, Try.results133, go_sem, *]; rfl) rfl ?_
    rw [HQE.out]
    exact ⟨_, rfl, NumQ.boxed G7.out HNB.out _ _ _ _ _ _ _, Ext.boxed (HXw.out.trans HXW.out) (by omega) _ _ _⟩
/-- At most as many words as the interface lets. -/
structure FitW (n : Nat) : Prop where
  fit : Fit 4294967296 n 256
theorem fitW {n m : Nat} (h : m ≤ 256 ↔ Fit 4294967296 n 256) : m ≤ 256 ↔ FitW n := h.trans ⟨fun h => ⟨h⟩, fun h => h.fit⟩


set_option maxRecDepth 100000 in
set_option maxHeartbeats 1000000 in
theorem large_no (v : Value) (neg : Bool) (xs ys : List Int) (w : World) (h : RatV w v neg xs ys) (f1 : FitW (wN xs)) (f2 : FitW (wN ys)) :
    Calls Try.prog 141 #[v] w fun e w' => e = .returned (.bool false) ∧ Ext w w' := by
  obtain ⟨A, l, c, B, m, k, rfl, hA, hlc, hcm, hB, hmk, hkm⟩ := h
  have hXw : Ext w (w.alloc (.cells #[.bool neg, .slice A l c, .slice B m k] 97)) := (Ext.refl w).alloc _
  have HIA := Lib.hid (hA.ext hXw)
  have HIB := Lib.hid (hB.ext hXw)
  have HXw := Lib.hid hXw
  have HF1 := Lib.hid f1
  clear hA hB hXw f1
  have HF2 := Lib.hid f2
  clear f2
  go_enter Try.func141, Try.ntmps141
  go_wp2_with fail
  refine (norm_any A l c xs _ HIA.out hlc hcm).mono ?_
  rintro e w' ⟨q, hq, hN, hv, rfl, rfl⟩
  have hlen : q ≤ 256 ↔ FitW (wN xs) := fitW (norm_len HIA.out hq hN hv 256)
  have hq1 : q ≤ 256 := hlen.2 HF1.out
  clear hlen hN hv
  go_wp2_with fail
  refine (norm_any B m k ys _ HIB.out hmk hkm).mono ?_
  rintro e w' ⟨q2, hq2, hN, hv, rfl, rfl⟩
  have hlen : q2 ≤ 256 ↔ FitW (wN ys) := fitW (norm_len HIB.out hq2 hN hv 256)
  have hq3 : q2 ≤ 256 := hlen.2 HF2.out
  clear hlen hN hv
  go_wp2
  go_ret
  exact ⟨by first | rfl | (simp; done) | (simp; omega), HXw.out⟩


set_option maxRecDepth 100000 in
set_option maxHeartbeats 1000000 in
theorem large_num (v : Value) (neg : Bool) (xs ys : List Int) (w : World) (h : RatV w v neg xs ys) (f1 : ¬ FitW (wN xs)) :
    Calls Try.prog 141 #[v] w fun e w' => e = .returned (.bool true) ∧ Ext w w' := by
  obtain ⟨A, l, c, B, m, k, rfl, hA, hlc, hcm, hB, hmk, hkm⟩ := h
  have hXw : Ext w (w.alloc (.cells #[.bool neg, .slice A l c, .slice B m k] 97)) := (Ext.refl w).alloc _
  have HIA := Lib.hid (hA.ext hXw)
  have HIB := Lib.hid (hB.ext hXw)
  have HXw := Lib.hid hXw
  have HF1 := Lib.hid f1
  clear hA hB hXw f1

  go_enter Try.func141, Try.ntmps141
  go_wp2_with fail
  refine (norm_any A l c xs _ HIA.out hlc hcm).mono ?_
  rintro e w' ⟨q, hq, hN, hv, rfl, rfl⟩
  have hlen : q ≤ 256 ↔ FitW (wN xs) := fitW (norm_len HIA.out hq hN hv 256)
  have hq1 : 256 < q := by
    rcases Nat.lt_or_ge 256 q with h | h
    · exact h
    · exact absurd (hlen.1 h) HF1.out
  clear hlen hN hv
  go_wp2
  go_ret
  exact ⟨by first | rfl | (simp; done) | (simp; omega), HXw.out⟩


set_option maxRecDepth 100000 in
set_option maxHeartbeats 1000000 in
theorem large_den (v : Value) (neg : Bool) (xs ys : List Int) (w : World) (h : RatV w v neg xs ys) (f1 : FitW (wN xs)) (f2 : ¬ FitW (wN ys)) :
    Calls Try.prog 141 #[v] w fun e w' => e = .returned (.bool true) ∧ Ext w w' := by
  obtain ⟨A, l, c, B, m, k, rfl, hA, hlc, hcm, hB, hmk, hkm⟩ := h
  have hXw : Ext w (w.alloc (.cells #[.bool neg, .slice A l c, .slice B m k] 97)) := (Ext.refl w).alloc _
  have HIA := Lib.hid (hA.ext hXw)
  have HIB := Lib.hid (hB.ext hXw)
  have HXw := Lib.hid hXw
  have HF1 := Lib.hid f1
  clear hA hB hXw f1
  have HF2 := Lib.hid f2
  clear f2
  go_enter Try.func141, Try.ntmps141
  go_wp2_with fail
  refine (norm_any A l c xs _ HIA.out hlc hcm).mono ?_
  rintro e w' ⟨q, hq, hN, hv, rfl, rfl⟩
  have hlen : q ≤ 256 ↔ FitW (wN xs) := fitW (norm_len HIA.out hq hN hv 256)
  have hq1 : q ≤ 256 := hlen.2 HF1.out
  clear hlen hN hv
  go_wp2_with fail
  refine (norm_any B m k ys _ HIB.out hmk hkm).mono ?_
  rintro e w' ⟨q2, hq2, hN, hv, rfl, rfl⟩
  have hlen : q2 ≤ 256 ↔ FitW (wN ys) := fitW (norm_len HIB.out hq2 hN hv 256)
  have hq3 : 256 < q2 := by
    rcases Nat.lt_or_ge 256 q2 with h | h
    · exact h
    · exact absurd (hlen.1 h) HF2.out
  clear hlen hN hv
  go_wp2
  go_ret
  exact ⟨by first | rfl | (simp; done) | (simp; omega), HXw.out⟩


/-- Both lists are not too long. -/
def SmallR (xs ys : List Int) : Prop := FitW (wN xs) ∧ FitW (wN ys)
theorem large_yes (v : Value) (neg : Bool) (xs ys : List Int) (w : World) (h : RatV w v neg xs ys) (hs : ¬ SmallR xs ys) :
    Calls Try.prog 141 #[v] w fun e w' => e = .returned (.bool true) ∧ Ext w w' := by
  by_cases h1 : FitW (wN xs)
  · exact large_den v neg xs ys w h h1 fun h2 => hs ⟨h1, h2⟩
  · exact large_num v neg xs ys w h h1
theorem SmallR.den {xs ys : List Int} (h : SmallR xs ys) : FitW (wD ys) := by
  unfold wD
  split
  · exact ⟨Fit.one (by omega) (by omega)⟩
  · exact h.2
end Go.Proofs.Ytikhlcgnlbinfaa
