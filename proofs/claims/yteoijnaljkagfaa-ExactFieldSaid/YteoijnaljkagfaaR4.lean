/- Walks: Add, Sub, Cmp of rational numbers (program); the operations in words of rational numbers. -/
import Derived.Test.YteoijnaljkagfaaR3
namespace Go.Proofs.Yteoijnaljkagfaa
open Go.RowKit

set_option maxRecDepth 100000 in
set_option maxHeartbeats 2000000 in
theorem radd_r1 (ga gb : Nat) (s t : Bool) (A1 A2 B1 B2 : Option Addr) (l1 c1 l2 c2 m1 k1 m2 k2 n d m e L M : Nat) (w : World) (_a0 : w.cell? ⟨ga, 0, none⟩ = some (.bool s)) (a1 : w.cell? ⟨ga, 1, none⟩ = some (.slice A1 l1 c1)) (a2 : w.cell? ⟨ga, 2, none⟩ = some (.slice A2 l2 c2)) (_b0 : w.cell? ⟨gb, 0, none⟩ = some (.bool t)) (b1 : w.cell? ⟨gb, 1, none⟩ = some (.slice B1 m1 k1)) (b2 : w.cell? ⟨gb, 2, none⟩ = some (.slice B2 m2 k2)) (h1 : W32 w (.slice A1 l1 c1) n) (h2 : W32 w (.slice A2 l2 c2) d) (h3 : W32 w (.slice B1 m1 k1) m) (h4 : W32 w (.slice B2 m2 k2) e) (f1 : Fit 4294967296 n L) (f2 : Fit 4294967296 d L) (f3 : Fit 4294967296 m M) (f4 : Fit 4294967296 e M) (hL : L ≤ 1099511627776) (hM : M ≤ 1099511627776) (a : Act) (Q : Exit → Act → World → Prop) (hsize : 18 ≤ a.tmps.size)
    (s2 : a.tmps[2]? = some (.pointer (some ⟨ga, 0, none⟩)))
    (s3 : a.tmps[3]? = some (.pointer (some ⟨gb, 0, none⟩)))
    (hend : ∀ (xv0 xv1 xv2 xv3 xv4 xv5 xv6 xv7 xv8 xv9 : Value) (W : World), (xv0 = .pointer (some ⟨ga, 1, none⟩)) → (xv1 = .slice A1 l1 c1) → (xv2 = .pointer (some ⟨gb, 2, none⟩)) → (xv3 = .slice B2 m2 k2) → (W32 W xv4 (n * e)) → (xv5 = .pointer (some ⟨gb, 1, none⟩)) → (xv6 = .slice B1 m1 k1) → (xv7 = .pointer (some ⟨ga, 2, none⟩)) → (xv8 = .slice A2 l2 c2) → (W32 W xv9 (m * d)) → Ext w W → wpList Try.prog (rops Try.f99 1).toArray Q ((rops Try.f99 1).drop 10) ((((((((((a.put (some 8) xv0).put (some 9) xv1).put (some 10) xv2).put (some 11) xv3).put (some 12) xv4).put (some 13) xv5).put (some 14) xv6).put (some 15) xv7).put (some 16) xv8).put (some 17) xv9) W) :
    (Code.region 1 (rops Try.f99 1).toArray true).wp Try.prog Q a w := by
  have hmono : ∀ (W W' : World) (j : Nat) (u : Value), Ext W W' → (fun (i : Nat) (v : Value) (W : World) => match i with
    | 0 => v = .pointer (some ⟨ga, 1, none⟩)
    | 1 => v = .slice A1 l1 c1
    | 2 => v = .pointer (some ⟨gb, 2, none⟩)
    | 3 => v = .slice B2 m2 k2
    | 4 => W32 W v (n * e)
    | 5 => v = .pointer (some ⟨gb, 1, none⟩)
    | 6 => v = .slice B1 m1 k1
    | 7 => v = .pointer (some ⟨ga, 2, none⟩)
    | 8 => v = .slice A2 l2 c2
    | 9 => W32 W v (m * d)
    | _ => True) j u W → (fun (i : Nat) (v : Value) (W : World) => match i with
    | 0 => v = .pointer (some ⟨ga, 1, none⟩)
    | 1 => v = .slice A1 l1 c1
    | 2 => v = .pointer (some ⟨gb, 2, none⟩)
    | 3 => v = .slice B2 m2 k2
    | 4 => W32 W v (n * e)
    | 5 => v = .pointer (some ⟨gb, 1, none⟩)
    | 6 => v = .slice B1 m1 k1
    | 7 => v = .pointer (some ⟨ga, 2, none⟩)
    | 8 => v = .slice A2 l2 c2
    | 9 => W32 W v (m * d)
    | _ => True) j u W' := by
    intro W W' j u hX h
    match j, h with
    | 0, h => exact h
    | 1, h => exact h
    | 2, h => exact h
    | 3, h => exact h
    | 4, h => exact W32.ext h hX
    | 5, h => exact h
    | 6, h => exact h
    | 7, h => exact h
    | 8, h => exact h
    | 9, h => exact W32.ext h hX
    | _ + 10, h => exact h
  have hsz : ∀ d, some d ∈ ([some 8, some 9, some 10, some 11, some 12, some 13, some 14, some 15, some 16, some 17] : List (Option Tmp)) → d < a.tmps.size := slots_lt (by decide) hsize
  refine wp_region_j 10 [some 8, some 9, some 10, some 11, some 12, some 13, some 14, some 15, some 16, some 17] [[], [0], [], [2], [1, 3], [], [5], [], [7], [6, 8]] [[], [], [], [], [], [], [], [], [], []] (fun (i : Nat) (v : Value) (W : World) => match i with
    | 0 => v = .pointer (some ⟨ga, 1, none⟩)
    | 1 => v = .slice A1 l1 c1
    | 2 => v = .pointer (some ⟨gb, 2, none⟩)
    | 3 => v = .slice B2 m2 k2
    | 4 => W32 W v (n * e)
    | 5 => v = .pointer (some ⟨gb, 1, none⟩)
    | 6 => v = .slice B1 m1 k1
    | 7 => v = .pointer (some ⟨ga, 2, none⟩)
    | 8 => v = .slice A2 l2 c2
    | 9 => W32 W v (m * d)
    | _ => True) (fun _ W => Ext w W) (by kernel_rfl) (by kernel_rfl) hsz (fun _ _ _ _ h => h) ((Ext.refl w).drew) ?_ ?_
  · clear hend
    simp only [rops, Try.f99, regOf, Option.bind_some, Nat.reduceBEq, if_true, if_false, Bool.false_eq_true, Option.getD_some]
    simp only [List.take_succ_cons, List.take_zero]
    refine ⟨?_, ?_, ?_, ?_, ?_, ?_, ?_, ?_, ?_, ?_, trivial⟩
    · intro done us W hJ hdep haft hnot b hb hb' K hK Q'
      have e2 := (hb' 2 (by simp)).trans s2
      clear hb hb'
      go_simp
      exact hK _ _ rfl (fun _ _ _ h => h) hJ
    · intro done us W hJ hdep haft hnot b hb hb' K hK Q'
      simp only [List.getD_cons_succ, List.getD_cons_zero, List.mem_cons, List.not_mem_nil, or_false, forall_eq] at hdep
      have e8 := hb 0 8 rfl
      have d0 := hdep
      rw [d0.1] at e8
      clear hb hb' hdep d0
      have q := Ext.cell hJ a1
      go_simp
      exact hK _ _ rfl (fun _ _ _ h => h) hJ
    · intro done us W hJ hdep haft hnot b hb hb' K hK Q'
      have e3 := (hb' 3 (by simp)).trans s3
      clear hb hb'
      go_simp
      exact hK _ _ rfl (fun _ _ _ h => h) hJ
    · intro done us W hJ hdep haft hnot b hb hb' K hK Q'
      simp only [List.getD_cons_succ, List.getD_cons_zero, List.mem_cons, List.not_mem_nil, or_false, forall_eq] at hdep
      have e10 := hb 2 10 rfl
      have d2 := hdep
      rw [d2.1] at e10
      clear hb hb' hdep d2
      have q := Ext.cell hJ b2
      go_simp
      exact hK _ _ rfl (fun _ _ _ h => h) hJ
    · intro done us W hJ hdep haft hnot b hb hb' K hK Q'
      simp only [List.getD_cons_succ, List.getD_cons_zero, List.mem_cons, List.not_mem_nil, or_false, forall_eq_or_imp, forall_eq] at hdep
      have e9 := hb 1 9 rfl
      have e11 := hb 3 11 rfl
      have d1 := hdep.1
      have d3 := hdep.2
      rw [d1.1] at e9
      rw [d3.1] at e11
      clear hb hb' hdep d1 d3
      go_simp
      refine (mul_any _ _ n e L M _ (W32.ext h1 hJ) (W32.ext h4 hJ) f1 f4 hL hM).mono ?_
      rintro e w' ⟨v, rfl, hv, hX⟩
      exact hK _ _ hv (fun j u _ h => hmono _ _ j u hX h) (Ext.trans hJ hX)
    · intro done us W hJ hdep haft hnot b hb hb' K hK Q'
      have e3 := (hb' 3 (by simp)).trans s3
      clear hb hb'
      go_simp
      exact hK _ _ rfl (fun _ _ _ h => h) hJ
    · intro done us W hJ hdep haft hnot b hb hb' K hK Q'
      simp only [List.getD_cons_succ, List.getD_cons_zero, List.mem_cons, List.not_mem_nil, or_false, forall_eq] at hdep
      have e13 := hb 5 13 rfl
      have d5 := hdep
      rw [d5.1] at e13
      clear hb hb' hdep d5
      have q := Ext.cell hJ b1
      go_simp
      exact hK _ _ rfl (fun _ _ _ h => h) hJ
    · intro done us W hJ hdep haft hnot b hb hb' K hK Q'
      have e2 := (hb' 2 (by simp)).trans s2
      clear hb hb'
      go_simp
      exact hK _ _ rfl (fun _ _ _ h => h) hJ
    · intro done us W hJ hdep haft hnot b hb hb' K hK Q'
      simp only [List.getD_cons_succ, List.getD_cons_zero, List.mem_cons, List.not_mem_nil, or_false, forall_eq] at hdep
      have e15 := hb 7 15 rfl
      have d7 := hdep
      rw [d7.1] at e15
      clear hb hb' hdep d7
      have q := Ext.cell hJ a2
      go_simp
      exact hK _ _ rfl (fun _ _ _ h => h) hJ
    · intro done us W hJ hdep haft hnot b hb hb' K hK Q'
      simp only [List.getD_cons_succ, List.getD_cons_zero, List.mem_cons, List.not_mem_nil, or_false, forall_eq_or_imp, forall_eq] at hdep
      have e14 := hb 6 14 rfl
      have e16 := hb 8 16 rfl
      have d6 := hdep.1
      have d8 := hdep.2
      rw [d6.1] at e14
      rw [d8.1] at e16
      clear hb hb' hdep d6 d8
      go_simp
      refine (mul_any _ _ m d M L _ (W32.ext h3 hJ) (W32.ext h2 hJ) f3 f2 hM hL).mono ?_
      rintro e w' ⟨v, rfl, hv, hX⟩
      exact hK _ _ hv (fun j u _ h => hmono _ _ j u hX h) (Ext.trans hJ hX)
  · intro us W hV hJ
    exact hend (us 0) (us 1) (us 2) (us 3) (us 4) (us 5) (us 6) (us 7) (us 8) (us 9) W (hV 0 (by omega)) (hV 1 (by omega)) (hV 2 (by omega)) (hV 3 (by omega)) (hV 4 (by omega)) (hV 5 (by omega)) (hV 6 (by omega)) (hV 7 (by omega)) (hV 8 (by omega)) (hV 9 (by omega)) hJ
set_option maxRecDepth 100000 in
set_option maxHeartbeats 2000000 in
theorem radd_r4 (ga : Nat) (s : Bool) (X1 Y1 Z1 : Option Addr) (x2 x3 y2 y3 z2 z3 X Y D La : Nat) (w : World) (s0 : w.cell? ⟨ga, 0, none⟩ = some (.bool s)) (hx : W32 w (.slice X1 x2 x3) X) (hy : W32 w (.slice Y1 y2 y3) Y) (hz : W32 w (.slice Z1 z2 z3) D) (fx : Fit 4294967296 X La) (fy : Fit 4294967296 Y La) (hLa : La ≤ 1099511627776)  (a : Act) (Q : Exit → Act → World → Prop) (hsize : 35 ≤ a.tmps.size)
    (s2 : a.tmps[2]? = some (.pointer (some ⟨ga, 0, none⟩)))
    (s5 : a.tmps[5]? = some (.slice X1 x2 x3))
    (s6 : a.tmps[6]? = some (.slice Y1 y2 y3))
    (s7 : a.tmps[7]? = some (.slice Z1 z2 z3))
    (hend : ∀ (xv0 xv1 xv2 xv3 xv4 xv5 xv6 : Value) (W : World), (xv0 = .pointer (some ⟨ga, 0, none⟩)) → (xv1 = .bool s) → (xv2 = .slice X1 x2 x3) → (xv3 = .slice Y1 y2 y3) → (W32 W xv4 (X + Y)) → (xv5 = .slice Z1 z2 z3) → (NumV W xv6 s (X + Y) D) → Ext w W → wpList Try.prog (rops Try.f99 4).toArray Q ((rops Try.f99 4).drop 7) (((((((a.put (some 28) xv0).put (some 29) xv1).put (some 30) xv2).put (some 31) xv3).put (some 32) xv4).put (some 33) xv5).put (some 34) xv6) W) :
    (Code.region 4 (rops Try.f99 4).toArray true).wp Try.prog Q a w := by
  have hmono : ∀ (W W' : World) (j : Nat) (u : Value), Ext W W' → (fun (i : Nat) (v : Value) (W : World) => match i with
    | 0 => v = .pointer (some ⟨ga, 0, none⟩)
    | 1 => v = .bool s
    | 2 => v = .slice X1 x2 x3
    | 3 => v = .slice Y1 y2 y3
    | 4 => W32 W v (X + Y)
    | 5 => v = .slice Z1 z2 z3
    | 6 => NumV W v s (X + Y) D
    | _ => True) j u W → (fun (i : Nat) (v : Value) (W : World) => match i with
    | 0 => v = .pointer (some ⟨ga, 0, none⟩)
    | 1 => v = .bool s
    | 2 => v = .slice X1 x2 x3
    | 3 => v = .slice Y1 y2 y3
    | 4 => W32 W v (X + Y)
    | 5 => v = .slice Z1 z2 z3
    | 6 => NumV W v s (X + Y) D
    | _ => True) j u W' := by
    intro W W' j u hX h
    match j, h with
    | 0, h => exact h
    | 1, h => exact h
    | 2, h => exact h
    | 3, h => exact h
    | 4, h => exact W32.ext h hX
    | 5, h => exact h
    | 6, h => exact NumV.ext h hX
    | _ + 7, h => exact h
  have hsz : ∀ d, some d ∈ ([some 28, some 29, some 30, some 31, some 32, some 33, some 34] : List (Option Tmp)) → d < a.tmps.size := slots_lt (by decide) hsize
  refine wp_region_j 7 [some 28, some 29, some 30, some 31, some 32, some 33, some 34] [[], [0], [], [], [2, 3], [], [1, 4, 5]] [[], [], [], [], [], [], []] (fun (i : Nat) (v : Value) (W : World) => match i with
    | 0 => v = .pointer (some ⟨ga, 0, none⟩)
    | 1 => v = .bool s
    | 2 => v = .slice X1 x2 x3
    | 3 => v = .slice Y1 y2 y3
    | 4 => W32 W v (X + Y)
    | 5 => v = .slice Z1 z2 z3
    | 6 => NumV W v s (X + Y) D
    | _ => True) (fun _ W => Ext w W) (by kernel_rfl) (by kernel_rfl) hsz (fun _ _ _ _ h => h) ((Ext.refl w).drew) ?_ ?_
  · clear hend
    simp only [rops, Try.f99, regOf, Option.bind_some, Nat.reduceBEq, if_true, if_false, Bool.false_eq_true, Option.getD_some]
    simp only [List.take_succ_cons, List.take_zero]
    refine ⟨?_, ?_, ?_, ?_, ?_, ?_, ?_, trivial⟩
    · intro done us W hJ hdep haft hnot b hb hb' K hK Q'
      have e2 := (hb' 2 (by simp)).trans s2
      clear hb hb'
      go_simp
      exact hK _ _ rfl (fun _ _ _ h => h) hJ
    · intro done us W hJ hdep haft hnot b hb hb' K hK Q'
      simp only [List.getD_cons_succ, List.getD_cons_zero, List.mem_cons, List.not_mem_nil, or_false, forall_eq] at hdep
      have e28 := hb 0 28 rfl
      have d0 := hdep
      rw [d0.1] at e28
      clear hb hb' hdep d0
      have q := Ext.cell hJ s0
      go_simp
      exact hK _ _ rfl (fun _ _ _ h => h) hJ
    · intro done us W hJ hdep haft hnot b hb hb' K hK Q'
      have e5 := (hb' 5 (by simp)).trans s5
      clear hb hb'
      go_simp
      exact hK _ _ rfl (fun _ _ _ h => h) hJ
    · intro done us W hJ hdep haft hnot b hb hb' K hK Q'
      have e6 := (hb' 6 (by simp)).trans s6
      clear hb hb'
      go_simp
      exact hK _ _ rfl (fun _ _ _ h => h) hJ
    · intro done us W hJ hdep haft hnot b hb hb' K hK Q'
      simp only [List.getD_cons_succ, List.getD_cons_zero, List.mem_cons, List.not_mem_nil, or_false, forall_eq_or_imp, forall_eq] at hdep
      have e30 := hb 2 30 rfl
      have e31 := hb 3 31 rfl
      have d2 := hdep.1
      have d3 := hdep.2
      rw [d2.1] at e30
      rw [d3.1] at e31
      clear hb hb' hdep d2 d3
      go_simp
      refine (add_any _ _ X Y La _ (W32.ext hx hJ) (W32.ext hy hJ) fx fy hLa).mono ?_
      rintro e w' ⟨v, rfl, hv, hX⟩
      exact hK _ _ hv (fun j u _ h => hmono _ _ j u hX h) (Ext.trans hJ hX)
    · intro done us W hJ hdep haft hnot b hb hb' K hK Q'
      have e7 := (hb' 7 (by simp)).trans s7
      clear hb hb'
      go_simp
      exact hK _ _ rfl (fun _ _ _ h => h) hJ
    · intro done us W hJ hdep haft hnot b hb hb' K hK Q'
      simp only [List.getD_cons_succ, List.getD_cons_zero, List.mem_cons, List.not_mem_nil, or_false, forall_eq_or_imp, forall_eq] at hdep
      have e29 := hb 1 29 rfl
      have e32 := hb 4 32 rfl
      have e33 := hb 5 33 rfl
      have d1 := hdep.1
      have d4 := hdep.2.1
      have d5 := hdep.2.2
      rw [d1.1] at e29
      rw [d5.1] at e33
      clear hb hb' hdep d1 d5
      obtain ⟨P1, q1, r1, hv1, g1, _⟩ := W32.open d4.1
      rw [hv1] at e32
      go_simp
      exact hK _ _ ⟨_, _, rfl, g1, W32.ext hz hJ⟩ (fun _ _ _ h => h) hJ
  · intro us W hV hJ
    exact hend (us 0) (us 1) (us 2) (us 3) (us 4) (us 5) (us 6) W (hV 0 (by omega)) (hV 1 (by omega)) (hV 2 (by omega)) (hV 3 (by omega)) (hV 4 (by omega)) (hV 5 (by omega)) (hV 6 (by omega)) hJ
set_option maxRecDepth 100000 in
set_option maxHeartbeats 2000000 in
theorem radd_r6 (ga : Nat) (s : Bool) (X1 Y1 Z1 : Option Addr) (x2 x3 y2 y3 z2 z3 X Y D La : Nat) (w : World) (s0 : w.cell? ⟨ga, 0, none⟩ = some (.bool s)) (hx : W32 w (.slice X1 x2 x3) X) (hy : W32 w (.slice Y1 y2 y3) Y) (hz : W32 w (.slice Z1 z2 z3) D) (fx : Fit 4294967296 X La) (_fy : Fit 4294967296 Y La) (hLa : La ≤ 1099511627776) (hle : Y ≤ X) (a : Act) (Q : Exit → Act → World → Prop) (hsize : 46 ≤ a.tmps.size)
    (s2 : a.tmps[2]? = some (.pointer (some ⟨ga, 0, none⟩)))
    (s5 : a.tmps[5]? = some (.slice X1 x2 x3))
    (s6 : a.tmps[6]? = some (.slice Y1 y2 y3))
    (s7 : a.tmps[7]? = some (.slice Z1 z2 z3))
    (hend : ∀ (xv0 xv1 xv2 xv3 xv4 xv5 xv6 : Value) (W : World), (xv0 = .pointer (some ⟨ga, 0, none⟩)) → (xv1 = .bool s) → (xv2 = .slice X1 x2 x3) → (xv3 = .slice Y1 y2 y3) → (W32 W xv4 (X - Y)) → (xv5 = .slice Z1 z2 z3) → (NumV W xv6 s (X - Y) D) → Ext w W → wpList Try.prog (rops Try.f99 6).toArray Q ((rops Try.f99 6).drop 7) (((((((a.put (some 39) xv0).put (some 40) xv1).put (some 41) xv2).put (some 42) xv3).put (some 43) xv4).put (some 44) xv5).put (some 45) xv6) W) :
    (Code.region 6 (rops Try.f99 6).toArray true).wp Try.prog Q a w := by
  have hmono : ∀ (W W' : World) (j : Nat) (u : Value), Ext W W' → (fun (i : Nat) (v : Value) (W : World) => match i with
    | 0 => v = .pointer (some ⟨ga, 0, none⟩)
    | 1 => v = .bool s
    | 2 => v = .slice X1 x2 x3
    | 3 => v = .slice Y1 y2 y3
    | 4 => W32 W v (X - Y)
    | 5 => v = .slice Z1 z2 z3
    | 6 => NumV W v s (X - Y) D
    | _ => True) j u W → (fun (i : Nat) (v : Value) (W : World) => match i with
    | 0 => v = .pointer (some ⟨ga, 0, none⟩)
    | 1 => v = .bool s
    | 2 => v = .slice X1 x2 x3
    | 3 => v = .slice Y1 y2 y3
    | 4 => W32 W v (X - Y)
    | 5 => v = .slice Z1 z2 z3
    | 6 => NumV W v s (X - Y) D
    | _ => True) j u W' := by
    intro W W' j u hX h
    match j, h with
    | 0, h => exact h
    | 1, h => exact h
    | 2, h => exact h
    | 3, h => exact h
    | 4, h => exact W32.ext h hX
    | 5, h => exact h
    | 6, h => exact NumV.ext h hX
    | _ + 7, h => exact h
  have hsz : ∀ d, some d ∈ ([some 39, some 40, some 41, some 42, some 43, some 44, some 45] : List (Option Tmp)) → d < a.tmps.size := slots_lt (by decide) hsize
  refine wp_region_j 7 [some 39, some 40, some 41, some 42, some 43, some 44, some 45] [[], [0], [], [], [2, 3], [], [1, 4, 5]] [[], [], [], [], [], [], []] (fun (i : Nat) (v : Value) (W : World) => match i with
    | 0 => v = .pointer (some ⟨ga, 0, none⟩)
    | 1 => v = .bool s
    | 2 => v = .slice X1 x2 x3
    | 3 => v = .slice Y1 y2 y3
    | 4 => W32 W v (X - Y)
    | 5 => v = .slice Z1 z2 z3
    | 6 => NumV W v s (X - Y) D
    | _ => True) (fun _ W => Ext w W) (by kernel_rfl) (by kernel_rfl) hsz (fun _ _ _ _ h => h) ((Ext.refl w).drew) ?_ ?_
  · clear hend
    simp only [rops, Try.f99, regOf, Option.bind_some, Nat.reduceBEq, if_true, if_false, Bool.false_eq_true, Option.getD_some]
    simp only [List.take_succ_cons, List.take_zero]
    refine ⟨?_, ?_, ?_, ?_, ?_, ?_, ?_, trivial⟩
    · intro done us W hJ hdep haft hnot b hb hb' K hK Q'
      have e2 := (hb' 2 (by simp)).trans s2
      clear hb hb'
      go_simp
      exact hK _ _ rfl (fun _ _ _ h => h) hJ
    · intro done us W hJ hdep haft hnot b hb hb' K hK Q'
      simp only [List.getD_cons_succ, List.getD_cons_zero, List.mem_cons, List.not_mem_nil, or_false, forall_eq] at hdep
      have e39 := hb 0 39 rfl
      have d0 := hdep
      rw [d0.1] at e39
      clear hb hb' hdep d0
      have q := Ext.cell hJ s0
      go_simp
      exact hK _ _ rfl (fun _ _ _ h => h) hJ
    · intro done us W hJ hdep haft hnot b hb hb' K hK Q'
      have e5 := (hb' 5 (by simp)).trans s5
      clear hb hb'
      go_simp
      exact hK _ _ rfl (fun _ _ _ h => h) hJ
    · intro done us W hJ hdep haft hnot b hb hb' K hK Q'
      have e6 := (hb' 6 (by simp)).trans s6
      clear hb hb'
      go_simp
      exact hK _ _ rfl (fun _ _ _ h => h) hJ
    · intro done us W hJ hdep haft hnot b hb hb' K hK Q'
      simp only [List.getD_cons_succ, List.getD_cons_zero, List.mem_cons, List.not_mem_nil, or_false, forall_eq_or_imp, forall_eq] at hdep
      have e41 := hb 2 41 rfl
      have e42 := hb 3 42 rfl
      have d2 := hdep.1
      have d3 := hdep.2
      rw [d2.1] at e41
      rw [d3.1] at e42
      clear hb hb' hdep d2 d3
      go_simp
      refine (sub_any _ _ X Y La _ (W32.ext hx hJ) (W32.ext hy hJ) fx hle hLa).mono ?_
      rintro e w' ⟨v, rfl, hv, hX⟩
      exact hK _ _ hv (fun j u _ h => hmono _ _ j u hX h) (Ext.trans hJ hX)
    · intro done us W hJ hdep haft hnot b hb hb' K hK Q'
      have e7 := (hb' 7 (by simp)).trans s7
      clear hb hb'
      go_simp
      exact hK _ _ rfl (fun _ _ _ h => h) hJ
    · intro done us W hJ hdep haft hnot b hb hb' K hK Q'
      simp only [List.getD_cons_succ, List.getD_cons_zero, List.mem_cons, List.not_mem_nil, or_false, forall_eq_or_imp, forall_eq] at hdep
      have e40 := hb 1 40 rfl
      have e43 := hb 4 43 rfl
      have e44 := hb 5 44 rfl
      have d1 := hdep.1
      have d4 := hdep.2.1
      have d5 := hdep.2.2
      rw [d1.1] at e40
      rw [d5.1] at e44
      clear hb hb' hdep d1 d5
      obtain ⟨P1, q1, r1, hv1, g1, _⟩ := W32.open d4.1
      rw [hv1] at e43
      go_simp
      exact hK _ _ ⟨_, _, rfl, g1, W32.ext hz hJ⟩ (fun _ _ _ h => h) hJ
  · intro us W hV hJ
    exact hend (us 0) (us 1) (us 2) (us 3) (us 4) (us 5) (us 6) W (hV 0 (by omega)) (hV 1 (by omega)) (hV 2 (by omega)) (hV 3 (by omega)) (hV 4 (by omega)) (hV 5 (by omega)) (hV 6 (by omega)) hJ
set_option maxRecDepth 100000 in
set_option maxHeartbeats 2000000 in
theorem radd_r7 (gb : Nat) (t : Bool) (X1 Y1 Z1 : Option Addr) (x2 x3 y2 y3 z2 z3 X Y D La : Nat) (w : World) (s0 : w.cell? ⟨gb, 0, none⟩ = some (.bool t)) (hx : W32 w (.slice X1 x2 x3) X) (hy : W32 w (.slice Y1 y2 y3) Y) (hz : W32 w (.slice Z1 z2 z3) D) (_fx : Fit 4294967296 X La) (fy : Fit 4294967296 Y La) (hLa : La ≤ 1099511627776) (hle : X ≤ Y) (a : Act) (Q : Exit → Act → World → Prop) (hsize : 53 ≤ a.tmps.size)
    (s3 : a.tmps[3]? = some (.pointer (some ⟨gb, 0, none⟩)))
    (s5 : a.tmps[5]? = some (.slice X1 x2 x3))
    (s6 : a.tmps[6]? = some (.slice Y1 y2 y3))
    (s7 : a.tmps[7]? = some (.slice Z1 z2 z3))
    (hend : ∀ (xv0 xv1 xv2 xv3 xv4 xv5 xv6 : Value) (W : World), (xv0 = .pointer (some ⟨gb, 0, none⟩)) → (xv1 = .bool t) → (xv2 = .slice Y1 y2 y3) → (xv3 = .slice X1 x2 x3) → (W32 W xv4 (Y - X)) → (xv5 = .slice Z1 z2 z3) → (NumV W xv6 t (Y - X) D) → Ext w W → wpList Try.prog (rops Try.f99 7).toArray Q ((rops Try.f99 7).drop 7) (((((((a.put (some 46) xv0).put (some 47) xv1).put (some 48) xv2).put (some 49) xv3).put (some 50) xv4).put (some 51) xv5).put (some 52) xv6) W) :
    (Code.region 7 (rops Try.f99 7).toArray true).wp Try.prog Q a w := by
  have hmono : ∀ (W W' : World) (j : Nat) (u : Value), Ext W W' → (fun (i : Nat) (v : Value) (W : World) => match i with
    | 0 => v = .pointer (some ⟨gb, 0, none⟩)
    | 1 => v = .bool t
    | 2 => v = .slice Y1 y2 y3
    | 3 => v = .slice X1 x2 x3
    | 4 => W32 W v (Y - X)
    | 5 => v = .slice Z1 z2 z3
    | 6 => NumV W v t (Y - X) D
    | _ => True) j u W → (fun (i : Nat) (v : Value) (W : World) => match i with
    | 0 => v = .pointer (some ⟨gb, 0, none⟩)
    | 1 => v = .bool t
    | 2 => v = .slice Y1 y2 y3
    | 3 => v = .slice X1 x2 x3
    | 4 => W32 W v (Y - X)
    | 5 => v = .slice Z1 z2 z3
    | 6 => NumV W v t (Y - X) D
    | _ => True) j u W' := by
    intro W W' j u hX h
    match j, h with
    | 0, h => exact h
    | 1, h => exact h
    | 2, h => exact h
    | 3, h => exact h
    | 4, h => exact W32.ext h hX
    | 5, h => exact h
    | 6, h => exact NumV.ext h hX
    | _ + 7, h => exact h
  have hsz : ∀ d, some d ∈ ([some 46, some 47, some 48, some 49, some 50, some 51, some 52] : List (Option Tmp)) → d < a.tmps.size := slots_lt (by decide) hsize
  refine wp_region_j 7 [some 46, some 47, some 48, some 49, some 50, some 51, some 52] [[], [0], [], [], [2, 3], [], [1, 4, 5]] [[], [], [], [], [], [], []] (fun (i : Nat) (v : Value) (W : World) => match i with
    | 0 => v = .pointer (some ⟨gb, 0, none⟩)
    | 1 => v = .bool t
    | 2 => v = .slice Y1 y2 y3
    | 3 => v = .slice X1 x2 x3
    | 4 => W32 W v (Y - X)
    | 5 => v = .slice Z1 z2 z3
    | 6 => NumV W v t (Y - X) D
    | _ => True) (fun _ W => Ext w W) (by kernel_rfl) (by kernel_rfl) hsz (fun _ _ _ _ h => h) ((Ext.refl w).drew) ?_ ?_
  · clear hend
    simp only [rops, Try.f99, regOf, Option.bind_some, Nat.reduceBEq, if_true, if_false, Bool.false_eq_true, Option.getD_some]
    simp only [List.take_succ_cons, List.take_zero]
    refine ⟨?_, ?_, ?_, ?_, ?_, ?_, ?_, trivial⟩
    · intro done us W hJ hdep haft hnot b hb hb' K hK Q'
      have e3 := (hb' 3 (by simp)).trans s3
      clear hb hb'
      go_simp
      exact hK _ _ rfl (fun _ _ _ h => h) hJ
    · intro done us W hJ hdep haft hnot b hb hb' K hK Q'
      simp only [List.getD_cons_succ, List.getD_cons_zero, List.mem_cons, List.not_mem_nil, or_false, forall_eq] at hdep
      have e46 := hb 0 46 rfl
      have d0 := hdep
      rw [d0.1] at e46
      clear hb hb' hdep d0
      have q := Ext.cell hJ s0
      go_simp
      exact hK _ _ rfl (fun _ _ _ h => h) hJ
    · intro done us W hJ hdep haft hnot b hb hb' K hK Q'
      have e6 := (hb' 6 (by simp)).trans s6
      clear hb hb'
      go_simp
      exact hK _ _ rfl (fun _ _ _ h => h) hJ
    · intro done us W hJ hdep haft hnot b hb hb' K hK Q'
      have e5 := (hb' 5 (by simp)).trans s5
      clear hb hb'
      go_simp
      exact hK _ _ rfl (fun _ _ _ h => h) hJ
    · intro done us W hJ hdep haft hnot b hb hb' K hK Q'
      simp only [List.getD_cons_succ, List.getD_cons_zero, List.mem_cons, List.not_mem_nil, or_false, forall_eq_or_imp, forall_eq] at hdep
      have e48 := hb 2 48 rfl
      have e49 := hb 3 49 rfl
      have d2 := hdep.1
      have d3 := hdep.2
      rw [d2.1] at e48
      rw [d3.1] at e49
      clear hb hb' hdep d2 d3
      go_simp
      refine (sub_any _ _ Y X La _ (W32.ext hy hJ) (W32.ext hx hJ) fy hle hLa).mono ?_
      rintro e w' ⟨v, rfl, hv, hX⟩
      exact hK _ _ hv (fun j u _ h => hmono _ _ j u hX h) (Ext.trans hJ hX)
    · intro done us W hJ hdep haft hnot b hb hb' K hK Q'
      have e7 := (hb' 7 (by simp)).trans s7
      clear hb hb'
      go_simp
      exact hK _ _ rfl (fun _ _ _ h => h) hJ
    · intro done us W hJ hdep haft hnot b hb hb' K hK Q'
      simp only [List.getD_cons_succ, List.getD_cons_zero, List.mem_cons, List.not_mem_nil, or_false, forall_eq_or_imp, forall_eq] at hdep
      have e47 := hb 1 47 rfl
      have e50 := hb 4 50 rfl
      have e51 := hb 5 51 rfl
      have d1 := hdep.1
      have d4 := hdep.2.1
      have d5 := hdep.2.2
      rw [d1.1] at e47
      rw [d5.1] at e51
      clear hb hb' hdep d1 d5
      obtain ⟨P1, q1, r1, hv1, g1, _⟩ := W32.open d4.1
      rw [hv1] at e50
      go_simp
      exact hK _ _ ⟨_, _, rfl, g1, W32.ext hz hJ⟩ (fun _ _ _ h => h) hJ
  · intro us W hV hJ
    exact hend (us 0) (us 1) (us 2) (us 3) (us 4) (us 5) (us 6) W (hV 0 (by omega)) (hV 1 (by omega)) (hV 2 (by omega)) (hV 3 (by omega)) (hV 4 (by omega)) (hV 5 (by omega)) (hV 6 (by omega)) hJ

set_option maxRecDepth 100000 in
set_option maxHeartbeats 4000000 in
theorem radd_same (va vb : Value) (s t : Bool) (n d m e L M : Nat) (w : World) (ha : NumV w va s n d) (hb : NumV w vb t m e) (f1 : Fit 4294967296 n L) (f2 : Fit 4294967296 d L) (f3 : Fit 4294967296 m M) (f4 : Fit 4294967296 e M) (hLM : L + M ≤ 1099511627776) (hst : s = t) :
    Calls Try.prog 99 #[va, vb] w (RetR w s (n * e + m * d) (d * e)) := by
  obtain ⟨A1, l1, c1, A2, l2, c2, rfl, h1, h2, _, _⟩ := ha.open
  obtain ⟨B1, m1, k1, B2, m2, k2, rfl, h3, h4, _, _⟩ := hb.open
  have hL : L ≤ 1099511627776 := by omega
  have hM : M ≤ 1099511627776 := by omega
  clear ha hb
  have H1 := Lib.hid h1
  have H2 := Lib.hid h2
  have H3 := Lib.hid h3
  have H4 := Lib.hid h4
  have FX : Hid (Fit 4294967296 (n * e) (L + M)) := f1.mul (by omega) f4
  have FY : Hid (Fit 4294967296 (m * d) (L + M)) := by have := f3.mul (by omega) f2; rw [Nat.add_comm] at this; exact this
  have hstb : (s == t) = true := by simpa using hst
  clear hst
  clear h1 h2 h3 h4
  go_enter Try.func99, Try.ntmps99
  go_wp2_with fail
  have hXw : Ext w (((w.alloc (.cells #[.bool s, .slice A1 l1 c1, .slice A2 l2 c2] 96)).alloc (.cells #[.bool t, .slice B1 m1 k1, .slice B2 m2 k2] 96)).alloc (.cells #[.bool false, .slice none 0 0, .slice none 0 0] 96)) := (((Ext.refl w).alloc _).alloc _).alloc _
  have hBA : Blk (((w.alloc (.cells #[.bool s, .slice A1 l1 c1, .slice A2 l2 c2] 96)).alloc (.cells #[.bool t, .slice B1 m1 k1, .slice B2 m2 k2] 96)).alloc (.cells #[.bool false, .slice none 0 0, .slice none 0 0] 96)) w.heap.size 96 #[.bool s, .slice A1 l1 c1, .slice A2 l2 c2] := ((Blk.new w _ _).alloc _).alloc _
  have hBB : Blk (((w.alloc (.cells #[.bool s, .slice A1 l1 c1, .slice A2 l2 c2] 96)).alloc (.cells #[.bool t, .slice B1 m1 k1, .slice B2 m2 k2] 96)).alloc (.cells #[.bool false, .slice none 0 0, .slice none 0 0] 96)) (w.heap.size + 1) 96 #[.bool t, .slice B1 m1 k1, .slice B2 m2 k2] := by
    have := (Blk.new (w.alloc (.cells #[.bool s, .slice A1 l1 c1, .slice A2 l2 c2] 96)) 96 #[.bool t, .slice B1 m1 k1, .slice B2 m2 k2]).alloc (.cells #[.bool false, .slice none 0 0, .slice none 0 0] 96)
    simpa using this
  have hBR : Blk (((w.alloc (.cells #[.bool s, .slice A1 l1 c1, .slice A2 l2 c2] 96)).alloc (.cells #[.bool t, .slice B1 m1 k1, .slice B2 m2 k2] 96)).alloc (.cells #[.bool false, .slice none 0 0, .slice none 0 0] 96)) (w.heap.size + 1 + 1) 96 #[.bool false, .slice none 0 0, .slice none 0 0] := by
    have := Blk.new ((w.alloc (.cells #[.bool s, .slice A1 l1 c1, .slice A2 l2 c2] 96)).alloc (.cells #[.bool t, .slice B1 m1 k1, .slice B2 m2 k2] 96)) 96 #[.bool false, .slice none 0 0, .slice none 0 0]
    simpa using this
  generalize ((w.alloc (.cells #[.bool s, .slice A1 l1 c1, .slice A2 l2 c2] 96)).alloc (.cells #[.bool t, .slice B1 m1 k1, .slice B2 m2 k2] 96)).alloc (.cells #[.bool false, .slice none 0 0, .slice none 0 0] 96) = w1 at hXw hBA hBB hBR ⊢
  obtain ⟨a0, a1, a2, _, _, _⟩ := hBA.three
  obtain ⟨b0, b1, b2, _, _, _⟩ := hBB.three
  have HXw := Lib.hid hXw
  have HBA := Lib.hid hBA
  have HBB := Lib.hid hBB
  have HBR := Lib.hid hBR
  replace H1 := Lib.hid (H1.out.ext hXw)
  replace H2 := Lib.hid (H2.out.ext hXw)
  replace H3 := Lib.hid (H3.out.ext hXw)
  replace H4 := Lib.hid (H4.out.ext hXw)
  clear hXw hBA hBB hBR
  refine radd_r1 w.heap.size (w.heap.size + 1) s t A1 A2 B1 B2 l1 c1 l2 c2 m1 k1 m2 k2 n d m e L M w1 a0 a1 a2 b0 b1 b2 H1.out H2.out H3.out H4.out f1 f2 f3 f4 hL hM _ _ (by simp) rfl rfl ?_
  rintro xv0 xv1 xv2 xv3 xv4 xv5 xv6 xv7 xv8 xv9 W rfl rfl rfl rfl h4' rfl rfl rfl rfl h9 hXW
  simp only [rops, Try.f99, regOf, Option.bind_some, Nat.reduceBEq, if_true, if_false, Bool.false_eq_true, Option.getD_some, List.drop_succ_cons, List.drop_zero]
  simp only [Act.put, List.setIfInBounds_toArray, List.set_cons_succ, List.set_cons_zero]
  obtain ⟨X1, x2', x3', rfl, hx, _⟩ := W32.open h4'
  obtain ⟨Y1, y2', y3', rfl, hy, _⟩ := W32.open h9
  obtain ⟨a0, a1, a2, _, _, _⟩ := (HBA.out.ext hXW).three
  obtain ⟨b0, b1, b2, _, _, _⟩ := (HBB.out.ext hXW).three
  have HX5 := Lib.hid hx
  have HY5 := Lib.hid hy
  have HXW := Lib.hid hXW
  clear hx hy hXW h4' h9
  go_wp2_with fail
  refine (mul_any _ _ d e L M _ (H2.out.ext HXW.out) (H4.out.ext HXW.out) f2 f4 hL hM).mono ?_
  rintro e' w2 ⟨vz, rfl, hz, hX2⟩
  obtain ⟨Z1, z2, z3, rfl, hz, _⟩ := W32.open hz
  have hX2' := HXW.out.trans hX2
  obtain ⟨a0, a1, a2, _, _, _⟩ := (HBA.out.ext hX2').three
  obtain ⟨b0, b1, b2, _, _, _⟩ := (HBB.out.ext hX2').three
  have HZ := Lib.hid hz
  have HX6 := Lib.hid (HX5.out.ext hX2)
  have HY6 := Lib.hid (HY5.out.ext hX2)
  have HX2 := Lib.hid hX2'
  clear hz hX2 hX2'
  go_wp2_with fail

  refine radd_r4 w.heap.size s X1 Y1 Z1 x2' x3' y2' y3' z2 z3 (n * e) (m * d) (d * e) (L + M) w2 a0 HX6.out HY6.out HZ.out FX.out FY.out hLM _ _ (by simp) rfl rfl rfl rfl ?_
  rintro xv0 xv1 xv2 xv3 xv4 xv5 xv6 W rfl rfl rfl rfl h4' rfl h6 hXW
  simp only [rops, Try.f99, regOf, Option.bind_some, Nat.reduceBEq, if_true, if_false, Bool.false_eq_true, Option.getD_some, List.drop_succ_cons, List.drop_zero]
  simp only [Act.put, List.setIfInBounds_toArray, List.set_cons_succ, List.set_cons_zero]
  obtain ⟨P1, q1, r1, P2, q2, r2, rfl, g1, g2, _, _⟩ := NumV.open h6
  clear h4' h6
  replace hXW := HX2.out.trans hXW
  obtain ⟨y0, y1, y2, f0, f1', f2'⟩ := (HBR.out.ext hXW).three
  have HNB := Lib.hid (NoInts.three (HBR.out.ext hXW))
  have G1 := Lib.hid g1
  have G2 := Lib.hid g2
  have HXW := Lib.hid hXW
  clear g1 g2 hXW a0 a1 a2 b0 b1 b2
  go_wp2
  refine bodyPost_ret (v := .agg #[.bool s, .slice P1 q1 r1, .slice P2 q2 r2]) (by simp [results, Try.results99, go_sem, *]) rfl ?_
  exact ⟨_, rfl, ⟨_, _, rfl, G1.out.boxed HNB.out _ _ _ _ _ _ _, G2.out.boxed HNB.out _ _ _ _ _ _ _⟩, Ext.boxed (HXw.out.trans HXW.out) (by omega) _ _ _⟩


set_option maxRecDepth 100000 in
set_option maxHeartbeats 4000000 in
theorem radd_ge (va vb : Value) (s t : Bool) (n d m e L M : Nat) (w : World) (ha : NumV w va s n d) (hb : NumV w vb t m e) (f1 : Fit 4294967296 n L) (f2 : Fit 4294967296 d L) (f3 : Fit 4294967296 m M) (f4 : Fit 4294967296 e M) (hLM : L + M ≤ 1099511627776) (hst : s ≠ t) (hle : m * d ≤ n * e) :
    Calls Try.prog 99 #[va, vb] w (RetR w s (n * e - m * d) (d * e)) := by
  obtain ⟨A1, l1, c1, A2, l2, c2, rfl, h1, h2, _, _⟩ := ha.open
  obtain ⟨B1, m1, k1, B2, m2, k2, rfl, h3, h4, _, _⟩ := hb.open
  have hL : L ≤ 1099511627776 := by omega
  have hM : M ≤ 1099511627776 := by omega
  clear ha hb
  have H1 := Lib.hid h1
  have H2 := Lib.hid h2
  have H3 := Lib.hid h3
  have H4 := Lib.hid h4
  have FX : Hid (Fit 4294967296 (n * e) (L + M)) := f1.mul (by omega) f4
  have FY : Hid (Fit 4294967296 (m * d) (L + M)) := by have := f3.mul (by omega) f2; rw [Nat.add_comm] at this; exact this
  have hstb : (s == t) = false := by simpa using hst
  obtain ⟨cr, hcr, hcr0⟩ : ∃ cr, cmpI (n * e) (m * d) = cr ∧ 0 ≤ cr := ⟨_, rfl, by unfold cmpI; rw [if_neg (by omega)]; split <;> omega⟩
  have HCR := Lib.hid hcr
  clear hcr hst
  clear h1 h2 h3 h4
  go_enter Try.func99, Try.ntmps99
  go_wp2_with fail
  have hXw : Ext w (((w.alloc (.cells #[.bool s, .slice A1 l1 c1, .slice A2 l2 c2] 96)).alloc (.cells #[.bool t, .slice B1 m1 k1, .slice B2 m2 k2] 96)).alloc (.cells #[.bool false, .slice none 0 0, .slice none 0 0] 96)) := (((Ext.refl w).alloc _).alloc _).alloc _
  have hBA : Blk (((w.alloc (.cells #[.bool s, .slice A1 l1 c1, .slice A2 l2 c2] 96)).alloc (.cells #[.bool t, .slice B1 m1 k1, .slice B2 m2 k2] 96)).alloc (.cells #[.bool false, .slice none 0 0, .slice none 0 0] 96)) w.heap.size 96 #[.bool s, .slice A1 l1 c1, .slice A2 l2 c2] := ((Blk.new w _ _).alloc _).alloc _
  have hBB : Blk (((w.alloc (.cells #[.bool s, .slice A1 l1 c1, .slice A2 l2 c2] 96)).alloc (.cells #[.bool t, .slice B1 m1 k1, .slice B2 m2 k2] 96)).alloc (.cells #[.bool false, .slice none 0 0, .slice none 0 0] 96)) (w.heap.size + 1) 96 #[.bool t, .slice B1 m1 k1, .slice B2 m2 k2] := by
    have := (Blk.new (w.alloc (.cells #[.bool s, .slice A1 l1 c1, .slice A2 l2 c2] 96)) 96 #[.bool t, .slice B1 m1 k1, .slice B2 m2 k2]).alloc (.cells #[.bool false, .slice none 0 0, .slice none 0 0] 96)
    simpa using this
  have hBR : Blk (((w.alloc (.cells #[.bool s, .slice A1 l1 c1, .slice A2 l2 c2] 96)).alloc (.cells #[.bool t, .slice B1 m1 k1, .slice B2 m2 k2] 96)).alloc (.cells #[.bool false, .slice none 0 0, .slice none 0 0] 96)) (w.heap.size + 1 + 1) 96 #[.bool false, .slice none 0 0, .slice none 0 0] := by
    have := Blk.new ((w.alloc (.cells #[.bool s, .slice A1 l1 c1, .slice A2 l2 c2] 96)).alloc (.cells #[.bool t, .slice B1 m1 k1, .slice B2 m2 k2] 96)) 96 #[.bool false, .slice none 0 0, .slice none 0 0]
    simpa using this
  generalize ((w.alloc (.cells #[.bool s, .slice A1 l1 c1, .slice A2 l2 c2] 96)).alloc (.cells #[.bool t, .slice B1 m1 k1, .slice B2 m2 k2] 96)).alloc (.cells #[.bool false, .slice none 0 0, .slice none 0 0] 96) = w1 at hXw hBA hBB hBR ⊢
  obtain ⟨a0, a1, a2, _, _, _⟩ := hBA.three
  obtain ⟨b0, b1, b2, _, _, _⟩ := hBB.three
  have HXw := Lib.hid hXw
  have HBA := Lib.hid hBA
  have HBB := Lib.hid hBB
  have HBR := Lib.hid hBR
  replace H1 := Lib.hid (H1.out.ext hXw)
  replace H2 := Lib.hid (H2.out.ext hXw)
  replace H3 := Lib.hid (H3.out.ext hXw)
  replace H4 := Lib.hid (H4.out.ext hXw)
  clear hXw hBA hBB hBR
  refine radd_r1 w.heap.size (w.heap.size + 1) s t A1 A2 B1 B2 l1 c1 l2 c2 m1 k1 m2 k2 n d m e L M w1 a0 a1 a2 b0 b1 b2 H1.out H2.out H3.out H4.out f1 f2 f3 f4 hL hM _ _ (by simp) rfl rfl ?_
  rintro xv0 xv1 xv2 xv3 xv4 xv5 xv6 xv7 xv8 xv9 W rfl rfl rfl rfl h4' rfl rfl rfl rfl h9 hXW
  simp only [rops, Try.f99, regOf, Option.bind_some, Nat.reduceBEq, if_true, if_false, Bool.false_eq_true, Option.getD_some, List.drop_succ_cons, List.drop_zero]
  simp only [Act.put, List.setIfInBounds_toArray, List.set_cons_succ, List.set_cons_zero]
  obtain ⟨X1, x2', x3', rfl, hx, _⟩ := W32.open h4'
  obtain ⟨Y1, y2', y3', rfl, hy, _⟩ := W32.open h9
  obtain ⟨a0, a1, a2, _, _, _⟩ := (HBA.out.ext hXW).three
  obtain ⟨b0, b1, b2, _, _, _⟩ := (HBB.out.ext hXW).three
  have HX5 := Lib.hid hx
  have HY5 := Lib.hid hy
  have HXW := Lib.hid hXW
  clear hx hy hXW h4' h9
  go_wp2_with fail
  refine (mul_any _ _ d e L M _ (H2.out.ext HXW.out) (H4.out.ext HXW.out) f2 f4 hL hM).mono ?_
  rintro e' w2 ⟨vz, rfl, hz, hX2⟩
  obtain ⟨Z1, z2, z3, rfl, hz, _⟩ := W32.open hz
  have hX2' := HXW.out.trans hX2
  obtain ⟨a0, a1, a2, _, _, _⟩ := (HBA.out.ext hX2').three
  obtain ⟨b0, b1, b2, _, _, _⟩ := (HBB.out.ext hX2').three
  have HZ := Lib.hid hz
  have HX6 := Lib.hid (HX5.out.ext hX2)
  have HY6 := Lib.hid (HY5.out.ext hX2)
  have HX2 := Lib.hid hX2'
  clear hz hX2 hX2'
  go_wp2_with fail
  refine (cmp_any _ _ (n * e) (m * d) _ HX6.out HY6.out).mono ?_
  rw [HCR.out]
  rintro e' w3 ⟨rfl, hX3⟩
  have hX3' := HX2.out.trans hX3
  obtain ⟨a0, a1, a2, _, _, _⟩ := (HBA.out.ext hX3').three
  obtain ⟨b0, b1, b2, _, _, _⟩ := (HBB.out.ext hX3').three
  replace HZ := Lib.hid (HZ.out.ext hX3)
  replace HX6 := Lib.hid (HX6.out.ext hX3)
  replace HY6 := Lib.hid (HY6.out.ext hX3)
  replace HX2 := Lib.hid hX3'
  clear hX3 hX3'
  go_wp2_with fail
  refine radd_r6 w.heap.size s X1 Y1 Z1 x2' x3' y2' y3' z2 z3 (n * e) (m * d) (d * e) (L + M) w3 a0 HX6.out HY6.out HZ.out FX.out FY.out hLM hle _ _ (by simp) rfl rfl rfl rfl ?_
  rintro xv0 xv1 xv2 xv3 xv4 xv5 xv6 W rfl rfl rfl rfl h4' rfl h6 hXW
  simp only [rops, Try.f99, regOf, Option.bind_some, Nat.reduceBEq, if_true, if_false, Bool.false_eq_true, Option.getD_some, List.drop_succ_cons, List.drop_zero]
  simp only [Act.put, List.setIfInBounds_toArray, List.set_cons_succ, List.set_cons_zero]
  obtain ⟨P1, q1, r1, P2, q2, r2, rfl, g1, g2, _, _⟩ := NumV.open h6
  clear h4' h6
  replace hXW := HX2.out.trans hXW
  obtain ⟨y0, y1, y2, f0, f1', f2'⟩ := (HBR.out.ext hXW).three
  have HNB := Lib.hid (NoInts.three (HBR.out.ext hXW))
  have G1 := Lib.hid g1
  have G2 := Lib.hid g2
  have HXW := Lib.hid hXW
  clear g1 g2 hXW a0 a1 a2 b0 b1 b2
  go_wp2
  refine bodyPost_ret (v := .agg #[.bool s, .slice P1 q1 r1, .slice P2 q2 r2]) (by simp [results, Try.results99, go_sem, *]) rfl ?_
  exact ⟨_, rfl, ⟨_, _, rfl, G1.out.boxed HNB.out _ _ _ _ _ _ _, G2.out.boxed HNB.out _ _ _ _ _ _ _⟩, Ext.boxed (HXw.out.trans HXW.out) (by omega) _ _ _⟩


set_option maxRecDepth 100000 in
set_option maxHeartbeats 4000000 in
theorem radd_lt (va vb : Value) (s t : Bool) (n d m e L M : Nat) (w : World) (ha : NumV w va s n d) (hb : NumV w vb t m e) (f1 : Fit 4294967296 n L) (f2 : Fit 4294967296 d L) (f3 : Fit 4294967296 m M) (f4 : Fit 4294967296 e M) (hLM : L + M ≤ 1099511627776) (hst : s ≠ t) (hlt : n * e < m * d) :
    Calls Try.prog 99 #[va, vb] w (RetR w t (m * d - n * e) (d * e)) := by
  obtain ⟨A1, l1, c1, A2, l2, c2, rfl, h1, h2, _, _⟩ := ha.open
  obtain ⟨B1, m1, k1, B2, m2, k2, rfl, h3, h4, _, _⟩ := hb.open
  have hL : L ≤ 1099511627776 := by omega
  have hM : M ≤ 1099511627776 := by omega
  clear ha hb
  have H1 := Lib.hid h1
  have H2 := Lib.hid h2
  have H3 := Lib.hid h3
  have H4 := Lib.hid h4
  have FX : Hid (Fit 4294967296 (n * e) (L + M)) := f1.mul (by omega) f4
  have FY : Hid (Fit 4294967296 (m * d) (L + M)) := by have := f3.mul (by omega) f2; rw [Nat.add_comm] at this; exact this
  have hstb : (s == t) = false := by simpa using hst
  obtain ⟨cr, hcr, hcr0⟩ : ∃ cr, cmpI (n * e) (m * d) = cr ∧ cr < 0 := ⟨_, rfl, by rw [cmpI_lt hlt]; omega⟩
  have HCR := Lib.hid hcr
  clear hcr hst
  clear h1 h2 h3 h4
  go_enter Try.func99, Try.ntmps99
  go_wp2_with fail
  have hXw : Ext w (((w.alloc (.cells #[.bool s, .slice A1 l1 c1, .slice A2 l2 c2] 96)).alloc (.cells #[.bool t, .slice B1 m1 k1, .slice B2 m2 k2] 96)).alloc (.cells #[.bool false, .slice none 0 0, .slice none 0 0] 96)) := (((Ext.refl w).alloc _).alloc _).alloc _
  have hBA : Blk (((w.alloc (.cells #[.bool s, .slice A1 l1 c1, .slice A2 l2 c2] 96)).alloc (.cells #[.bool t, .slice B1 m1 k1, .slice B2 m2 k2] 96)).alloc (.cells #[.bool false, .slice none 0 0, .slice none 0 0] 96)) w.heap.size 96 #[.bool s, .slice A1 l1 c1, .slice A2 l2 c2] := ((Blk.new w _ _).alloc _).alloc _
  have hBB : Blk (((w.alloc (.cells #[.bool s, .slice A1 l1 c1, .slice A2 l2 c2] 96)).alloc (.cells #[.bool t, .slice B1 m1 k1, .slice B2 m2 k2] 96)).alloc (.cells #[.bool false, .slice none 0 0, .slice none 0 0] 96)) (w.heap.size + 1) 96 #[.bool t, .slice B1 m1 k1, .slice B2 m2 k2] := by
    have := (Blk.new (w.alloc (.cells #[.bool s, .slice A1 l1 c1, .slice A2 l2 c2] 96)) 96 #[.bool t, .slice B1 m1 k1, .slice B2 m2 k2]).alloc (.cells #[.bool false, .slice none 0 0, .slice none 0 0] 96)
    simpa using this
  have hBR : Blk (((w.alloc (.cells #[.bool s, .slice A1 l1 c1, .slice A2 l2 c2] 96)).alloc (.cells #[.bool t, .slice B1 m1 k1, .slice B2 m2 k2] 96)).alloc (.cells #[.bool false, .slice none 0 0, .slice none 0 0] 96)) (w.heap.size + 1 + 1) 96 #[.bool false, .slice none 0 0, .slice none 0 0] := by
    have := Blk.new ((w.alloc (.cells #[.bool s, .slice A1 l1 c1, .slice A2 l2 c2] 96)).alloc (.cells #[.bool t, .slice B1 m1 k1, .slice B2 m2 k2] 96)) 96 #[.bool false, .slice none 0 0, .slice none 0 0]
    simpa using this
  generalize ((w.alloc (.cells #[.bool s, .slice A1 l1 c1, .slice A2 l2 c2] 96)).alloc (.cells #[.bool t, .slice B1 m1 k1, .slice B2 m2 k2] 96)).alloc (.cells #[.bool false, .slice none 0 0, .slice none 0 0] 96) = w1 at hXw hBA hBB hBR ⊢
  obtain ⟨a0, a1, a2, _, _, _⟩ := hBA.three
  obtain ⟨b0, b1, b2, _, _, _⟩ := hBB.three
  have HXw := Lib.hid hXw
  have HBA := Lib.hid hBA
  have HBB := Lib.hid hBB
  have HBR := Lib.hid hBR
  replace H1 := Lib.hid (H1.out.ext hXw)
  replace H2 := Lib.hid (H2.out.ext hXw)
  replace H3 := Lib.hid (H3.out.ext hXw)
  replace H4 := Lib.hid (H4.out.ext hXw)
  clear hXw hBA hBB hBR
  refine radd_r1 w.heap.size (w.heap.size + 1) s t A1 A2 B1 B2 l1 c1 l2 c2 m1 k1 m2 k2 n d m e L M w1 a0 a1 a2 b0 b1 b2 H1.out H2.out H3.out H4.out f1 f2 f3 f4 hL hM _ _ (by simp) rfl rfl ?_
  rintro xv0 xv1 xv2 xv3 xv4 xv5 xv6 xv7 xv8 xv9 W rfl rfl rfl rfl h4' rfl rfl rfl rfl h9 hXW
  simp only [rops, Try.f99, regOf, Option.bind_some, Nat.reduceBEq, if_true, if_false, Bool.false_eq_true, Option.getD_some, List.drop_succ_cons, List.drop_zero]
  simp only [Act.put, List.setIfInBounds_toArray, List.set_cons_succ, List.set_cons_zero]
  obtain ⟨X1, x2', x3', rfl, hx, _⟩ := W32.open h4'
  obtain ⟨Y1, y2', y3', rfl, hy, _⟩ := W32.open h9
  obtain ⟨a0, a1, a2, _, _, _⟩ := (HBA.out.ext hXW).three
  obtain ⟨b0, b1, b2, _, _, _⟩ := (HBB.out.ext hXW).three
  have HX5 := Lib.hid hx
  have HY5 := Lib.hid hy
  have HXW := Lib.hid hXW
  clear hx hy hXW h4' h9
  go_wp2_with fail
  refine (mul_any _ _ d e L M _ (H2.out.ext HXW.out) (H4.out.ext HXW.out) f2 f4 hL hM).mono ?_
  rintro e' w2 ⟨vz, rfl, hz, hX2⟩
  obtain ⟨Z1, z2, z3, rfl, hz, _⟩ := W32.open hz
  have hX2' := HXW.out.trans hX2
  obtain ⟨a0, a1, a2, _, _, _⟩ := (HBA.out.ext hX2').three
  obtain ⟨b0, b1, b2, _, _, _⟩ := (HBB.out.ext hX2').three
  have HZ := Lib.hid hz
  have HX6 := Lib.hid (HX5.out.ext hX2)
  have HY6 := Lib.hid (HY5.out.ext hX2)
  have HX2 := Lib.hid hX2'
  clear hz hX2 hX2'
  go_wp2_with fail
  refine (cmp_any _ _ (n * e) (m * d) _ HX6.out HY6.out).mono ?_
  rw [HCR.out]
  rintro e' w3 ⟨rfl, hX3⟩
  have hX3' := HX2.out.trans hX3
  obtain ⟨a0, a1, a2, _, _, _⟩ := (HBA.out.ext hX3').three
  obtain ⟨b0, b1, b2, _, _, _⟩ := (HBB.out.ext hX3').three
  replace HZ := Lib.hid (HZ.out.ext hX3)
  replace HX6 := Lib.hid (HX6.out.ext hX3)
  replace HY6 := Lib.hid (HY6.out.ext hX3)
  replace HX2 := Lib.hid hX3'
  clear hX3 hX3'
  go_wp2_with fail
  refine radd_r7 (w.heap.size + 1) t X1 Y1 Z1 x2' x3' y2' y3' z2 z3 (n * e) (m * d) (d * e) (L + M) w3 b0 HX6.out HY6.out HZ.out FX.out FY.out hLM (Nat.le_of_lt hlt) _ _ (by simp) rfl rfl rfl rfl ?_
  rintro xv0 xv1 xv2 xv3 xv4 xv5 xv6 W rfl rfl rfl rfl h4' rfl h6 hXW
  simp only [rops, Try.f99, regOf, Option.bind_some, Nat.reduceBEq, if_true, if_false, Bool.false_eq_true, Option.getD_some, List.drop_succ_cons, List.drop_zero]
  simp only [Act.put, List.setIfInBounds_toArray, List.set_cons_succ, List.set_cons_zero]
  obtain ⟨P1, q1, r1, P2, q2, r2, rfl, g1, g2, _, _⟩ := NumV.open h6
  clear h4' h6
  replace hXW := HX2.out.trans hXW
  obtain ⟨y0, y1, y2, f0, f1', f2'⟩ := (HBR.out.ext hXW).three
  have HNB := Lib.hid (NoInts.three (HBR.out.ext hXW))
  have G1 := Lib.hid g1
  have G2 := Lib.hid g2
  have HXW := Lib.hid hXW
  clear g1 g2 hXW a0 a1 a2 b0 b1 b2
  go_wp2
  refine bodyPost_ret (v := .agg #[.bool t, .slice P1 q1 r1, .slice P2 q2 r2]) (by simp [results, Try.results99, go_sem, *]) rfl ?_
  exact ⟨_, rfl, ⟨_, _, rfl, G1.out.boxed HNB.out _ _ _ _ _ _ _, G2.out.boxed HNB.out _ _ _ _ _ _ _⟩, Ext.boxed (HXw.out.trans HXW.out) (by omega) _ _ _⟩

end Go.Proofs.Yteoijnaljkagfaa
