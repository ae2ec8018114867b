/- Lemmas of the proof that follows (Operates, part 7): walks of functions by contract, and plain lemmas. Conditions: none. -/
import Derived.Test.YteoijnaljkagfaaOperatesF
namespace Go.Proofs.Yteoijnaljkagfaa
open Go.RowKit

theorem Z16.two {w : World} {v : Value} {n g : Nat} (h : Z16 w v n) (hN : NoInts w g) (b : Bool) (A : Option Addr) (l c : Nat) : Z16 ((w.setCell ⟨g, 0, none⟩ (.bool b)).setCell ⟨g, 1, none⟩ (.slice A l c)) v n :=
  nats_past (nats_past h hN 0 _) (hN.set 0 (noInt_bool _)) 1 _
theorem Z16.box3 {w : World} {v : Value} {n g : Nat} (h : Z16 w v n) (hN : NoInts w g) (b : Bool) (A B : Option Addr) (l c m k : Nat) : Z16 (((w.setCell ⟨g, 0, none⟩ (.bool b)).setCell ⟨g, 1, none⟩ (.slice A l c)).setCell ⟨g, 2, none⟩ (.slice B m k)) v n :=
  nats_past (h.two hN b A l c) ((hN.set 0 (noInt_bool _)).set 1 (noInt_slice _ _ _)) 2 _
theorem Z16.open {w : World} {v : Value} {n : Nat} (h : Z16 w v n) : ∃ A l c, v = .slice A l c ∧ Z16 w (.slice A l c) n ∧ (l = 0 ↔ n = 0) := by
  obtain ⟨A, l, c, xs, rfl, hI, hr, h3⟩ := h
  have hp := hr.pos (by omega)
  rw [← List.length_eq_zero_iff, hI.1] at hp
  exact ⟨A, l, c, rfl, ⟨A, l, c, xs, rfl, hI, hr, h3⟩, by rw [← hp]⟩
/-- What a call returns that makes a sign and limbs. -/
def RetBn (w : World) (b : Bool) (n : Nat) (e : Ending) (w' : World) : Prop := ∃ A l c, e = .returned (.agg #[.bool b, .slice A l c]) ∧ Z16 w' (.slice A l c) n ∧ Ext w w'

set_option maxRecDepth 100000 in
set_option maxHeartbeats 2000000 in
theorem zadd_r2 (ga gb L : Nat) (s0 s1 : Bool) (A0 A1 : Option Addr) (l0 c0 l1 c1 n0 n1 : Nat) (w : World) (x0 : w.cell? ⟨ga, 0, none⟩ = some (.bool s0)) (x1 : w.cell? ⟨ga, 1, none⟩ = some (.slice A0 l0 c0)) (y0 : w.cell? ⟨gb, 0, none⟩ = some (.bool s1)) (y1 : w.cell? ⟨gb, 1, none⟩ = some (.slice A1 l1 c1)) (hx : Z16 w (.slice A0 l0 c0) n0) (hy : Z16 w (.slice A1 l1 c1) n1) (fn : Fit 65536 n0 L) (fm : Fit 65536 n1 L) (hL : L ≤ 1000000) (a : Act) (Q : Exit → Act → World → Prop) (hsize : 18 ≤ a.tmps.size)
    (s2 : a.tmps[2]? = some (.pointer (some ⟨ga, 0, none⟩)))
    (s3 : a.tmps[3]? = some (.pointer (some ⟨gb, 0, none⟩)))
    (hend : ∀ (xv0 xv1 xv2 xv3 xv4 xv5 xv6 : Value) (W : World), (xv0 = .pointer (some ⟨ga, 0, none⟩)) → (xv1 = .bool s0) → (xv2 = .pointer (some ⟨ga, 1, none⟩)) → (xv3 = .slice A0 l0 c0) → (xv4 = .pointer (some ⟨gb, 1, none⟩)) → (xv5 = .slice A1 l1 c1) → (Z16 W xv6 (n0 + n1)) → Ext w W → wpList Try.prog (rops Try.f100 2).toArray Q ((rops Try.f100 2).drop 7) (((((((a.put (some 11) xv0).put (some 12) xv1).put (some 13) xv2).put (some 14) xv3).put (some 15) xv4).put (some 16) xv5).put (some 17) xv6) W) :
    (Code.region 2 (rops Try.f100 2).toArray true).wp Try.prog Q a w := by
  have hmono : ∀ (W W' : World) (j : Nat) (u : Value), Ext W W' → (fun (i : Nat) (v : Value) (W : World) => match i with
    | 0 => v = .pointer (some ⟨ga, 0, none⟩)
    | 1 => v = .bool s0
    | 2 => v = .pointer (some ⟨ga, 1, none⟩)
    | 3 => v = .slice A0 l0 c0
    | 4 => v = .pointer (some ⟨gb, 1, none⟩)
    | 5 => v = .slice A1 l1 c1
    | 6 => Z16 W v (n0 + n1)
    | _ => True) j u W → (fun (i : Nat) (v : Value) (W : World) => match i with
    | 0 => v = .pointer (some ⟨ga, 0, none⟩)
    | 1 => v = .bool s0
    | 2 => v = .pointer (some ⟨ga, 1, none⟩)
    | 3 => v = .slice A0 l0 c0
    | 4 => v = .pointer (some ⟨gb, 1, none⟩)
    | 5 => v = .slice A1 l1 c1
    | 6 => Z16 W v (n0 + n1)
    | _ => True) j u W' := by
    intro W W' j u hX h
    match j, h with
    | 0, h => exact h
    | 1, h => exact h
    | 2, h => exact h
    | 3, h => exact h
    | 4, h => exact h
    | 5, h => exact h
    | 6, h => exact Z16.ext h hX
    | _ + 7, h => exact h
  have hsz : ∀ d, some d ∈ ([some 11, some 12, some 13, some 14, some 15, some 16, some 17] : List (Option Tmp)) → d < a.tmps.size := slots_lt (by decide) hsize
  refine wp_region_j 7 [some 11, some 12, some 13, some 14, some 15, some 16, some 17] [[], [0], [], [2], [], [4], [3, 5]] [[], [], [], [], [], [], []] (fun (i : Nat) (v : Value) (W : World) => match i with
    | 0 => v = .pointer (some ⟨ga, 0, none⟩)
    | 1 => v = .bool s0
    | 2 => v = .pointer (some ⟨ga, 1, none⟩)
    | 3 => v = .slice A0 l0 c0
    | 4 => v = .pointer (some ⟨gb, 1, none⟩)
    | 5 => v = .slice A1 l1 c1
    | 6 => Z16 W v (n0 + n1)
    | _ => True) (fun _ W => Ext w W) (by kernel_rfl) (by kernel_rfl) hsz (fun _ _ _ _ h => h) ((Ext.refl w).drew) ?_ ?_
  · clear hend
    simp only [rops, Try.f100, regOf, Option.bind_some, Nat.reduceBEq, if_true, if_false, Bool.false_eq_true, Option.getD_some]
    simp only [List.take_succ_cons, List.take_zero]
    refine ⟨?_, ?_, ?_, ?_, ?_, ?_, ?_, trivial⟩
    · intro done us W hJ hdep haft hnot b hb hb' K hK Q'
      have e2 := (hb' 2 (by simp)).trans s2
      clear hb hb'
      go_simp
      exact hK _ _ rfl (fun _ _ _ h => h) hJ
    · intro done us W hJ hdep haft hnot b hb hb' K hK Q'
      simp only [List.getD_cons_succ, List.getD_cons_zero, List.mem_cons, List.not_mem_nil, or_false, forall_eq_or_imp, forall_eq] at hdep
      have e11 := hb 0 11 rfl
      have d0 := hdep
      rw [d0.1] at e11
      clear hb hb' hdep d0
      have q := Ext.cell hJ x0
      go_simp
      exact hK _ _ rfl (fun _ _ _ h => h) hJ
    · intro done us W hJ hdep haft hnot b hb hb' K hK Q'
      have e2 := (hb' 2 (by simp)).trans s2
      clear hb hb'
      go_simp
      exact hK _ _ rfl (fun _ _ _ h => h) hJ
    · intro done us W hJ hdep haft hnot b hb hb' K hK Q'
      simp only [List.getD_cons_succ, List.getD_cons_zero, List.mem_cons, List.not_mem_nil, or_false, forall_eq_or_imp, forall_eq] at hdep
      have e13 := hb 2 13 rfl
      have d2 := hdep
      rw [d2.1] at e13
      clear hb hb' hdep d2
      have q := Ext.cell hJ x1
      go_simp
      exact hK _ _ rfl (fun _ _ _ h => h) hJ
    · intro done us W hJ hdep haft hnot b hb hb' K hK Q'
      have e3 := (hb' 3 (by simp)).trans s3
      clear hb hb'
      go_simp
      exact hK _ _ rfl (fun _ _ _ h => h) hJ
    · intro done us W hJ hdep haft hnot b hb hb' K hK Q'
      simp only [List.getD_cons_succ, List.getD_cons_zero, List.mem_cons, List.not_mem_nil, or_false, forall_eq_or_imp, forall_eq] at hdep
      have e15 := hb 4 15 rfl
      have d4 := hdep
      rw [d4.1] at e15
      clear hb hb' hdep d4
      have q := Ext.cell hJ y1
      go_simp
      exact hK _ _ rfl (fun _ _ _ h => h) hJ
    · intro done us W hJ hdep haft hnot b hb hb' K hK Q'
      simp only [List.getD_cons_succ, List.getD_cons_zero, List.mem_cons, List.not_mem_nil, or_false, forall_eq_or_imp, forall_eq] at hdep
      have e14 := hb 3 14 rfl
      have e16 := hb 5 16 rfl
      have d3 := hdep.1
      have d5 := hdep.2
      rw [d3.1] at e14
      rw [d5.1] at e16
      clear hb hb' hdep d3 d5
      go_simp
      refine (plus_any _ _ n0 n1 L _ (Z16.ext hx hJ) (Z16.ext hy hJ) fn fm hL).mono ?_
      rintro e w' ⟨v, rfl, hv, hX⟩
      exact hK _ _ hv (fun j u _ h => hmono _ _ j u hX h) (Ext.trans hJ hX)
  · intro us W hV hJ
    exact hend (us 0) (us 1) (us 2) (us 3) (us 4) (us 5) (us 6) W (hV 0 (by omega)) (hV 1 (by omega)) (hV 2 (by omega)) (hV 3 (by omega)) (hV 4 (by omega)) (hV 5 (by omega)) (hV 6 (by omega)) hJ
set_option maxRecDepth 100000 in
set_option maxHeartbeats 2000000 in
theorem zadd_r7 (ga gb L : Nat) (s0 s1 : Bool) (A0 A1 : Option Addr) (l0 c0 l1 c1 n0 n1 : Nat) (w : World) (x0 : w.cell? ⟨ga, 0, none⟩ = some (.bool s0)) (x1 : w.cell? ⟨ga, 1, none⟩ = some (.slice A0 l0 c0)) (y0 : w.cell? ⟨gb, 0, none⟩ = some (.bool s1)) (y1 : w.cell? ⟨gb, 1, none⟩ = some (.slice A1 l1 c1)) (hx : Z16 w (.slice A0 l0 c0) n0) (hy : Z16 w (.slice A1 l1 c1) n1) (fn : Fit 65536 n0 L) (fm : Fit 65536 n1 L) (hL : L ≤ 1000000) (hm : n1 ≤ n0) (a : Act) (Q : Exit → Act → World → Prop) (hsize : 36 ≤ a.tmps.size)
    (s2 : a.tmps[2]? = some (.pointer (some ⟨ga, 0, none⟩)))
    (s3 : a.tmps[3]? = some (.pointer (some ⟨gb, 0, none⟩)))
    (hend : ∀ (xv0 xv1 xv2 xv3 xv4 xv5 xv6 : Value) (W : World), (xv0 = .pointer (some ⟨ga, 0, none⟩)) → (xv1 = .bool s0) → (xv2 = .pointer (some ⟨ga, 1, none⟩)) → (xv3 = .slice A0 l0 c0) → (xv4 = .pointer (some ⟨gb, 1, none⟩)) → (xv5 = .slice A1 l1 c1) → (Z16 W xv6 (n0 - n1)) → Ext w W → wpList Try.prog (rops Try.f100 7).toArray Q ((rops Try.f100 7).drop 7) (((((((a.put (some 29) xv0).put (some 30) xv1).put (some 31) xv2).put (some 32) xv3).put (some 33) xv4).put (some 34) xv5).put (some 35) xv6) W) :
    (Code.region 7 (rops Try.f100 7).toArray true).wp Try.prog Q a w := by
  have hmono : ∀ (W W' : World) (j : Nat) (u : Value), Ext W W' → (fun (i : Nat) (v : Value) (W : World) => match i with
    | 0 => v = .pointer (some ⟨ga, 0, none⟩)
    | 1 => v = .bool s0
    | 2 => v = .pointer (some ⟨ga, 1, none⟩)
    | 3 => v = .slice A0 l0 c0
    | 4 => v = .pointer (some ⟨gb, 1, none⟩)
    | 5 => v = .slice A1 l1 c1
    | 6 => Z16 W v (n0 - n1)
    | _ => True) j u W → (fun (i : Nat) (v : Value) (W : World) => match i with
    | 0 => v = .pointer (some ⟨ga, 0, none⟩)
    | 1 => v = .bool s0
    | 2 => v = .pointer (some ⟨ga, 1, none⟩)
    | 3 => v = .slice A0 l0 c0
    | 4 => v = .pointer (some ⟨gb, 1, none⟩)
    | 5 => v = .slice A1 l1 c1
    | 6 => Z16 W v (n0 - n1)
    | _ => True) j u W' := by
    intro W W' j u hX h
    match j, h with
    | 0, h => exact h
    | 1, h => exact h
    | 2, h => exact h
    | 3, h => exact h
    | 4, h => exact h
    | 5, h => exact h
    | 6, h => exact Z16.ext h hX
    | _ + 7, h => exact h
  have hsz : ∀ d, some d ∈ ([some 29, some 30, some 31, some 32, some 33, some 34, some 35] : List (Option Tmp)) → d < a.tmps.size := slots_lt (by decide) hsize
  refine wp_region_j 7 [some 29, some 30, some 31, some 32, some 33, some 34, some 35] [[], [0], [], [2], [], [4], [3, 5]] [[], [], [], [], [], [], []] (fun (i : Nat) (v : Value) (W : World) => match i with
    | 0 => v = .pointer (some ⟨ga, 0, none⟩)
    | 1 => v = .bool s0
    | 2 => v = .pointer (some ⟨ga, 1, none⟩)
    | 3 => v = .slice A0 l0 c0
    | 4 => v = .pointer (some ⟨gb, 1, none⟩)
    | 5 => v = .slice A1 l1 c1
    | 6 => Z16 W v (n0 - n1)
    | _ => True) (fun _ W => Ext w W) (by kernel_rfl) (by kernel_rfl) hsz (fun _ _ _ _ h => h) ((Ext.refl w).drew) ?_ ?_
  · clear hend
    simp only [rops, Try.f100, regOf, Option.bind_some, Nat.reduceBEq, if_true, if_false, Bool.false_eq_true, Option.getD_some]
    simp only [List.take_succ_cons, List.take_zero]
    refine ⟨?_, ?_, ?_, ?_, ?_, ?_, ?_, trivial⟩
    · intro done us W hJ hdep haft hnot b hb hb' K hK Q'
      have e2 := (hb' 2 (by simp)).trans s2
      clear hb hb'
      go_simp
      exact hK _ _ rfl (fun _ _ _ h => h) hJ
    · intro done us W hJ hdep haft hnot b hb hb' K hK Q'
      simp only [List.getD_cons_succ, List.getD_cons_zero, List.mem_cons, List.not_mem_nil, or_false, forall_eq_or_imp, forall_eq] at hdep
      have e29 := hb 0 29 rfl
      have d0 := hdep
      rw [d0.1] at e29
      clear hb hb' hdep d0
      have q := Ext.cell hJ x0
      go_simp
      exact hK _ _ rfl (fun _ _ _ h => h) hJ
    · intro done us W hJ hdep haft hnot b hb hb' K hK Q'
      have e2 := (hb' 2 (by simp)).trans s2
      clear hb hb'
      go_simp
      exact hK _ _ rfl (fun _ _ _ h => h) hJ
    · intro done us W hJ hdep haft hnot b hb hb' K hK Q'
      simp only [List.getD_cons_succ, List.getD_cons_zero, List.mem_cons, List.not_mem_nil, or_false, forall_eq_or_imp, forall_eq] at hdep
      have e31 := hb 2 31 rfl
      have d2 := hdep
      rw [d2.1] at e31
      clear hb hb' hdep d2
      have q := Ext.cell hJ x1
      go_simp
      exact hK _ _ rfl (fun _ _ _ h => h) hJ
    · intro done us W hJ hdep haft hnot b hb hb' K hK Q'
      have e3 := (hb' 3 (by simp)).trans s3
      clear hb hb'
      go_simp
      exact hK _ _ rfl (fun _ _ _ h => h) hJ
    · intro done us W hJ hdep haft hnot b hb hb' K hK Q'
      simp only [List.getD_cons_succ, List.getD_cons_zero, List.mem_cons, List.not_mem_nil, or_false, forall_eq_or_imp, forall_eq] at hdep
      have e33 := hb 4 33 rfl
      have d4 := hdep
      rw [d4.1] at e33
      clear hb hb' hdep d4
      have q := Ext.cell hJ y1
      go_simp
      exact hK _ _ rfl (fun _ _ _ h => h) hJ
    · intro done us W hJ hdep haft hnot b hb hb' K hK Q'
      simp only [List.getD_cons_succ, List.getD_cons_zero, List.mem_cons, List.not_mem_nil, or_false, forall_eq_or_imp, forall_eq] at hdep
      have e32 := hb 3 32 rfl
      have e34 := hb 5 34 rfl
      have d3 := hdep.1
      have d5 := hdep.2
      rw [d3.1] at e32
      rw [d5.1] at e34
      clear hb hb' hdep d3 d5
      go_simp
      refine (less_any _ _ n0 n1 L _ (Z16.ext hx hJ) (Z16.ext hy hJ) fn hL hm).mono ?_
      rintro e w' ⟨v, rfl, hv, hX⟩
      exact hK _ _ hv (fun j u _ h => hmono _ _ j u hX h) (Ext.trans hJ hX)
  · intro us W hV hJ
    exact hend (us 0) (us 1) (us 2) (us 3) (us 4) (us 5) (us 6) W (hV 0 (by omega)) (hV 1 (by omega)) (hV 2 (by omega)) (hV 3 (by omega)) (hV 4 (by omega)) (hV 5 (by omega)) (hV 6 (by omega)) hJ
set_option maxRecDepth 100000 in
set_option maxHeartbeats 2000000 in
theorem zadd_r8 (ga gb L : Nat) (s0 s1 : Bool) (A0 A1 : Option Addr) (l0 c0 l1 c1 n0 n1 : Nat) (w : World) (x0 : w.cell? ⟨ga, 0, none⟩ = some (.bool s0)) (x1 : w.cell? ⟨ga, 1, none⟩ = some (.slice A0 l0 c0)) (y0 : w.cell? ⟨gb, 0, none⟩ = some (.bool s1)) (y1 : w.cell? ⟨gb, 1, none⟩ = some (.slice A1 l1 c1)) (hx : Z16 w (.slice A0 l0 c0) n0) (hy : Z16 w (.slice A1 l1 c1) n1) (fn : Fit 65536 n0 L) (fm : Fit 65536 n1 L) (hL : L ≤ 1000000) (hm : n0 ≤ n1) (a : Act) (Q : Exit → Act → World → Prop) (hsize : 44 ≤ a.tmps.size)
    (s2 : a.tmps[2]? = some (.pointer (some ⟨ga, 0, none⟩)))
    (s3 : a.tmps[3]? = some (.pointer (some ⟨gb, 0, none⟩)))
    (hend : ∀ (xv0 xv1 xv2 xv3 xv4 xv5 xv6 : Value) (W : World), (xv0 = .pointer (some ⟨gb, 0, none⟩)) → (xv1 = .bool s1) → (xv2 = .pointer (some ⟨gb, 1, none⟩)) → (xv3 = .slice A1 l1 c1) → (xv4 = .pointer (some ⟨ga, 1, none⟩)) → (xv5 = .slice A0 l0 c0) → (Z16 W xv6 (n1 - n0)) → Ext w W → wpList Try.prog (rops Try.f100 8).toArray Q ((rops Try.f100 8).drop 7) (((((((a.put (some 37) xv0).put (some 38) xv1).put (some 39) xv2).put (some 40) xv3).put (some 41) xv4).put (some 42) xv5).put (some 43) xv6) W) :
    (Code.region 8 (rops Try.f100 8).toArray true).wp Try.prog Q a w := by
  have hmono : ∀ (W W' : World) (j : Nat) (u : Value), Ext W W' → (fun (i : Nat) (v : Value) (W : World) => match i with
    | 0 => v = .pointer (some ⟨gb, 0, none⟩)
    | 1 => v = .bool s1
    | 2 => v = .pointer (some ⟨gb, 1, none⟩)
    | 3 => v = .slice A1 l1 c1
    | 4 => v = .pointer (some ⟨ga, 1, none⟩)
    | 5 => v = .slice A0 l0 c0
    | 6 => Z16 W v (n1 - n0)
    | _ => True) j u W → (fun (i : Nat) (v : Value) (W : World) => match i with
    | 0 => v = .pointer (some ⟨gb, 0, none⟩)
    | 1 => v = .bool s1
    | 2 => v = .pointer (some ⟨gb, 1, none⟩)
    | 3 => v = .slice A1 l1 c1
    | 4 => v = .pointer (some ⟨ga, 1, none⟩)
    | 5 => v = .slice A0 l0 c0
    | 6 => Z16 W v (n1 - n0)
    | _ => True) j u W' := by
    intro W W' j u hX h
    match j, h with
    | 0, h => exact h
    | 1, h => exact h
    | 2, h => exact h
    | 3, h => exact h
    | 4, h => exact h
    | 5, h => exact h
    | 6, h => exact Z16.ext h hX
    | _ + 7, h => exact h
  have hsz : ∀ d, some d ∈ ([some 37, some 38, some 39, some 40, some 41, some 42, some 43] : List (Option Tmp)) → d < a.tmps.size := slots_lt (by decide) hsize
  refine wp_region_j 7 [some 37, some 38, some 39, some 40, some 41, some 42, some 43] [[], [0], [], [2], [], [4], [3, 5]] [[], [], [], [], [], [], []] (fun (i : Nat) (v : Value) (W : World) => match i with
    | 0 => v = .pointer (some ⟨gb, 0, none⟩)
    | 1 => v = .bool s1
    | 2 => v = .pointer (some ⟨gb, 1, none⟩)
    | 3 => v = .slice A1 l1 c1
    | 4 => v = .pointer (some ⟨ga, 1, none⟩)
    | 5 => v = .slice A0 l0 c0
    | 6 => Z16 W v (n1 - n0)
    | _ => True) (fun _ W => Ext w W) (by kernel_rfl) (by kernel_rfl) hsz (fun _ _ _ _ h => h) ((Ext.refl w).drew) ?_ ?_
  · clear hend
    simp only [rops, Try.f100, regOf, Option.bind_some, Nat.reduceBEq, if_true, if_false, Bool.false_eq_true, Option.getD_some]
    simp only [List.take_succ_cons, List.take_zero]
    refine ⟨?_, ?_, ?_, ?_, ?_, ?_, ?_, trivial⟩
    · intro done us W hJ hdep haft hnot b hb hb' K hK Q'
      have e3 := (hb' 3 (by simp)).trans s3
      clear hb hb'
      go_simp
      exact hK _ _ rfl (fun _ _ _ h => h) hJ
    · intro done us W hJ hdep haft hnot b hb hb' K hK Q'
      simp only [List.getD_cons_succ, List.getD_cons_zero, List.mem_cons, List.not_mem_nil, or_false, forall_eq_or_imp, forall_eq] at hdep
      have e37 := hb 0 37 rfl
      have d0 := hdep
      rw [d0.1] at e37
      clear hb hb' hdep d0
      have q := Ext.cell hJ y0
      go_simp
      exact hK _ _ rfl (fun _ _ _ h => h) hJ
    · intro done us W hJ hdep haft hnot b hb hb' K hK Q'
      have e3 := (hb' 3 (by simp)).trans s3
      clear hb hb'
      go_simp
      exact hK _ _ rfl (fun _ _ _ h => h) hJ
    · intro done us W hJ hdep haft hnot b hb hb' K hK Q'
      simp only [List.getD_cons_succ, List.getD_cons_zero, List.mem_cons, List.not_mem_nil, or_false, forall_eq_or_imp, forall_eq] at hdep
      have e39 := hb 2 39 rfl
      have d2 := hdep
      rw [d2.1] at e39
      clear hb hb' hdep d2
      have q := Ext.cell hJ y1
      go_simp
      exact hK _ _ rfl (fun _ _ _ h => h) hJ
    · intro done us W hJ hdep haft hnot b hb hb' K hK Q'
      have e2 := (hb' 2 (by simp)).trans s2
      clear hb hb'
      go_simp
      exact hK _ _ rfl (fun _ _ _ h => h) hJ
    · intro done us W hJ hdep haft hnot b hb hb' K hK Q'
      simp only [List.getD_cons_succ, List.getD_cons_zero, List.mem_cons, List.not_mem_nil, or_false, forall_eq_or_imp, forall_eq] at hdep
      have e41 := hb 4 41 rfl
      have d4 := hdep
      rw [d4.1] at e41
      clear hb hb' hdep d4
      have q := Ext.cell hJ x1
      go_simp
      exact hK _ _ rfl (fun _ _ _ h => h) hJ
    · intro done us W hJ hdep haft hnot b hb hb' K hK Q'
      simp only [List.getD_cons_succ, List.getD_cons_zero, List.mem_cons, List.not_mem_nil, or_false, forall_eq_or_imp, forall_eq] at hdep
      have e40 := hb 3 40 rfl
      have e42 := hb 5 42 rfl
      have d3 := hdep.1
      have d5 := hdep.2
      rw [d3.1] at e40
      rw [d5.1] at e42
      clear hb hb' hdep d3 d5
      go_simp
      refine (less_any _ _ n1 n0 L _ (Z16.ext hy hJ) (Z16.ext hx hJ) fm hL hm).mono ?_
      rintro e w' ⟨v, rfl, hv, hX⟩
      exact hK _ _ hv (fun j u _ h => hmono _ _ j u hX h) (Ext.trans hJ hX)
  · intro us W hV hJ
    exact hend (us 0) (us 1) (us 2) (us 3) (us 4) (us 5) (us 6) W (hV 0 (by omega)) (hV 1 (by omega)) (hV 2 (by omega)) (hV 3 (by omega)) (hV 4 (by omega)) (hV 5 (by omega)) (hV 6 (by omega)) hJ
set_option maxRecDepth 100000 in
set_option maxHeartbeats 2000000 in
theorem zadd_same (s0 s1 : Bool) (A0 A1 : Option Addr) (l0 c0 l1 c1 n0 n1 : Nat) (L : Nat) (w : World) (hx : Z16 w (.slice A0 l0 c0) n0) (hy : Z16 w (.slice A1 l1 c1) n1) (fn : Fit 65536 n0 L) (fm : Fit 65536 n1 L) (hL : L ≤ 1000000) (hs : s0 = s1) :
    Calls Try.prog 100 #[.agg #[.bool s0, .slice A0 l0 c0], .agg #[.bool s1, .slice A1 l1 c1]] w (RetBn w s0 (n0 + n1)) := by
  have HXX := Lib.hid hx
  have HYY := Lib.hid hy
  have HFN := Lib.hid fn
  have HFM := Lib.hid fm
  clear hx hy fn fm
  have hb : (s0 == s1) = true := by simp [hs]
  have HS := Lib.hid hs
  clear hs
  have hXe : Ext w (((w.alloc (.cells #[.bool s0, .slice A0 l0 c0] 40)).alloc (.cells #[.bool s1, .slice A1 l1 c1] 40)).alloc (.cells #[.bool false, .slice none 0 0] 40)) := ((((Ext.refl w).alloc _).alloc _).alloc _)
  have kA : Blk (((w.alloc (.cells #[.bool s0, .slice A0 l0 c0] 40)).alloc (.cells #[.bool s1, .slice A1 l1 c1] 40)).alloc (.cells #[.bool false, .slice none 0 0] 40)) w.heap.size 40 #[.bool s0, .slice A0 l0 c0] := Blk.alloc (Blk.alloc (Blk.at_ (by simp)) _) _
  have kB : Blk (((w.alloc (.cells #[.bool s0, .slice A0 l0 c0] 40)).alloc (.cells #[.bool s1, .slice A1 l1 c1] 40)).alloc (.cells #[.bool false, .slice none 0 0] 40)) (w.heap.size + 1) 40 #[.bool s1, .slice A1 l1 c1] := Blk.alloc (Blk.at_ (by simp)) _
  have kR : Blk (((w.alloc (.cells #[.bool s0, .slice A0 l0 c0] 40)).alloc (.cells #[.bool s1, .slice A1 l1 c1] 40)).alloc (.cells #[.bool false, .slice none 0 0] 40)) (w.heap.size + 2) 40 #[.bool false, .slice none 0 0] := Blk.at_ (by simp)
  go_enter Try.func100, Try.ntmps100
  go_wp2_with fail
  generalize (((w.alloc (.cells #[.bool s0, .slice A0 l0 c0] 40)).alloc (.cells #[.bool s1, .slice A1 l1 c1] 40)).alloc (.cells #[.bool false, .slice none 0 0] 40)) = w1 at hXe kA kB kR ⊢
  have HX := Lib.hid hXe
  clear hXe
  have KA := Lib.hid kA
  clear kA
  have KB := Lib.hid kB
  clear kB
  have KR := Lib.hid kR
  clear kR
  replace HXX := Lib.hid (HXX.out.ext HX.out)
  replace HYY := Lib.hid (HYY.out.ext HX.out)
  have cA0 : w1.cell? ⟨w.heap.size, 0, none⟩ = some (.bool s0) := KA.out.cell 0
  have cA1 : w1.cell? ⟨w.heap.size, 1, none⟩ = some (.slice A0 l0 c0) := KA.out.cell 1
  have cB0 : w1.cell? ⟨(w.heap.size + 1), 0, none⟩ = some (.bool s1) := KB.out.cell 0
  have cB1 : w1.cell? ⟨(w.heap.size + 1), 1, none⟩ = some (.slice A1 l1 c1) := KB.out.cell 1
  go_upto_region 2 with (fail)
  clear cA0 cA1 cB0 cB1
  refine zadd_r2 w.heap.size (w.heap.size + 1) L s0 s1 A0 A1 l0 c0 l1 c1 n0 n1 w1 (KA.out.cell 0) (KA.out.cell 1) (KB.out.cell 0) (KB.out.cell 1) HXX.out HYY.out HFN.out HFM.out hL _ _ (by simp) rfl rfl ?_
  rintro xv0 xv1 xv2 xv3 xv4 xv5 xv6 w2 rfl rfl rfl rfl rfl rfl hv hXW
  simp only [rops, Try.f100, regOf, Option.bind_some, Nat.reduceBEq, if_true, if_false, Bool.false_eq_true, Option.getD_some, List.drop_succ_cons, List.drop_zero]
  simp only [Act.put, List.setIfInBounds_toArray, List.set_cons_succ, List.set_cons_zero]
  replace HX := Lib.hid (HX.out.trans hXW)
  replace HXX := Lib.hid (HXX.out.ext hXW)
  replace HYY := Lib.hid (HYY.out.ext hXW)
  replace KA := Lib.hid (KA.out.ext hXW)
  replace KB := Lib.hid (KB.out.ext hXW)
  replace KR := Lib.hid (KR.out.ext hXW)
  clear hXW
  obtain ⟨A9, l9, c9, rfl, hv9, _⟩ := Z16.open hv
  have HV := Lib.hid (Z16.two hv9 (NoInts.two KR.out) s0 A9 l9 c9)
  clear hv hv9
  have cR0 : w2.cell? ⟨(w.heap.size + 2), 0, none⟩ = some (.bool false) := KR.out.cell 0
  have fR0 : w2.frozen? ⟨(w.heap.size + 2), 0, none⟩ = false := KR.out.free 0
  have cR1 : w2.cell? ⟨(w.heap.size + 2), 1, none⟩ = some (.slice none 0 0) := KR.out.cell 1
  have fR1 : w2.frozen? ⟨(w.heap.size + 2), 1, none⟩ = false := KR.out.free 1
  go_wp2
  refine bodyPost_ret (v := .agg #[.bool s0, .slice A9 l9 c9]) (by simp [results, Try.results100, go_sem, *]) rfl ?_
  exact ⟨_, _, _, rfl, HV.out, HX.out.two (by omega) _ _⟩

set_option maxRecDepth 100000 in
set_option maxHeartbeats 2000000 in
theorem zadd_eq (s0 s1 : Bool) (A0 A1 : Option Addr) (l0 c0 l1 c1 n0 n1 : Nat) (L : Nat) (w : World) (hx : Z16 w (.slice A0 l0 c0) n0) (hy : Z16 w (.slice A1 l1 c1) n1) (fn : Fit 65536 n0 L) (fm : Fit 65536 n1 L) (hL : L ≤ 1000000) (hs : s0 ≠ s1) (hm : n0 = n1) :
    Calls Try.prog 100 #[.agg #[.bool s0, .slice A0 l0 c0], .agg #[.bool s1, .slice A1 l1 c1]] w (RetBn w false 0) := by
  have HXX := Lib.hid hx
  have HYY := Lib.hid hy
  have HFN := Lib.hid fn
  have HFM := Lib.hid fm
  clear hx hy fn fm
  have hb : (s0 == s1) = false := by simpa using hs
  have HC : Hid (cmpI n0 n1 = 0) := cmpI_eq hm
  have HM := Lib.hid hm
  clear hs hm
  have hXe : Ext w (((w.alloc (.cells #[.bool s0, .slice A0 l0 c0] 40)).alloc (.cells #[.bool s1, .slice A1 l1 c1] 40)).alloc (.cells #[.bool false, .slice none 0 0] 40)) := ((((Ext.refl w).alloc _).alloc _).alloc _)
  have kA : Blk (((w.alloc (.cells #[.bool s0, .slice A0 l0 c0] 40)).alloc (.cells #[.bool s1, .slice A1 l1 c1] 40)).alloc (.cells #[.bool false, .slice none 0 0] 40)) w.heap.size 40 #[.bool s0, .slice A0 l0 c0] := Blk.alloc (Blk.alloc (Blk.at_ (by simp)) _) _
  have kB : Blk (((w.alloc (.cells #[.bool s0, .slice A0 l0 c0] 40)).alloc (.cells #[.bool s1, .slice A1 l1 c1] 40)).alloc (.cells #[.bool false, .slice none 0 0] 40)) (w.heap.size + 1) 40 #[.bool s1, .slice A1 l1 c1] := Blk.alloc (Blk.at_ (by simp)) _
  have kR : Blk (((w.alloc (.cells #[.bool s0, .slice A0 l0 c0] 40)).alloc (.cells #[.bool s1, .slice A1 l1 c1] 40)).alloc (.cells #[.bool false, .slice none 0 0] 40)) (w.heap.size + 2) 40 #[.bool false, .slice none 0 0] := Blk.at_ (by simp)
  go_enter Try.func100, Try.ntmps100
  go_wp2_with fail
  generalize (((w.alloc (.cells #[.bool s0, .slice A0 l0 c0] 40)).alloc (.cells #[.bool s1, .slice A1 l1 c1] 40)).alloc (.cells #[.bool false, .slice none 0 0] 40)) = w1 at hXe kA kB kR ⊢
  have HX := Lib.hid hXe
  clear hXe
  have KA := Lib.hid kA
  clear kA
  have KB := Lib.hid kB
  clear kB
  have KR := Lib.hid kR
  clear kR
  replace HXX := Lib.hid (HXX.out.ext HX.out)
  replace HYY := Lib.hid (HYY.out.ext HX.out)
  have cA0 : w1.cell? ⟨w.heap.size, 0, none⟩ = some (.bool s0) := KA.out.cell 0
  have cA1 : w1.cell? ⟨w.heap.size, 1, none⟩ = some (.slice A0 l0 c0) := KA.out.cell 1
  have cB0 : w1.cell? ⟨(w.heap.size + 1), 0, none⟩ = some (.bool s1) := KB.out.cell 0
  have cB1 : w1.cell? ⟨(w.heap.size + 1), 1, none⟩ = some (.slice A1 l1 c1) := KB.out.cell 1
  go_wp2_with fail
  clear cA0 cA1 cB0 cB1
  refine (compare_any _ _ n0 n1 _ HXX.out HYY.out).mono ?_
  rw [HC.out]
  rintro e w2 ⟨rfl, hX⟩
  replace hX : Ext w1 w2 := by with_reducible exact hX
  replace HX := Lib.hid (HX.out.trans hX)
  replace HXX := Lib.hid (HXX.out.ext hX)
  replace HYY := Lib.hid (HYY.out.ext hX)
  replace KA := Lib.hid (KA.out.ext hX)
  replace KB := Lib.hid (KB.out.ext hX)
  replace KR := Lib.hid (KR.out.ext hX)
  clear hX
  have cR0 : w2.cell? ⟨(w.heap.size + 2), 0, none⟩ = some (.bool false) := KR.out.cell 0
  have fR0 : w2.frozen? ⟨(w.heap.size + 2), 0, none⟩ = false := KR.out.free 0
  have cR1 : w2.cell? ⟨(w.heap.size + 2), 1, none⟩ = some (.slice none 0 0) := KR.out.cell 1
  have fR1 : w2.frozen? ⟨(w.heap.size + 2), 1, none⟩ = false := KR.out.free 1
  go_wp2
  refine bodyPost_ret (v := .agg #[.bool false, .slice none 0 0]) (by simp [results, Try.results100, go_sem, *]) rfl ?_
  exact ⟨_, _, _, rfl, NatV.zero, HX.out.two (by omega) _ _⟩

set_option maxRecDepth 100000 in
set_option maxHeartbeats 2000000 in
theorem zadd_gt (s0 s1 : Bool) (A0 A1 : Option Addr) (l0 c0 l1 c1 n0 n1 : Nat) (L : Nat) (w : World) (hx : Z16 w (.slice A0 l0 c0) n0) (hy : Z16 w (.slice A1 l1 c1) n1) (fn : Fit 65536 n0 L) (fm : Fit 65536 n1 L) (hL : L ≤ 1000000) (hs : s0 ≠ s1) (hm : n1 < n0) :
    Calls Try.prog 100 #[.agg #[.bool s0, .slice A0 l0 c0], .agg #[.bool s1, .slice A1 l1 c1]] w (RetBn w s0 (n0 - n1)) := by
  have HXX := Lib.hid hx
  have HYY := Lib.hid hy
  have HFN := Lib.hid fn
  have HFM := Lib.hid fm
  clear hx hy fn fm
  have hb : (s0 == s1) = false := by simpa using hs
  have HC : Hid (cmpI n0 n1 = 1) := cmpI_gt hm
  have HM := Lib.hid hm
  clear hs hm
  have hXe : Ext w (((w.alloc (.cells #[.bool s0, .slice A0 l0 c0] 40)).alloc (.cells #[.bool s1, .slice A1 l1 c1] 40)).alloc (.cells #[.bool false, .slice none 0 0] 40)) := ((((Ext.refl w).alloc _).alloc _).alloc _)
  have kA : Blk (((w.alloc (.cells #[.bool s0, .slice A0 l0 c0] 40)).alloc (.cells #[.bool s1, .slice A1 l1 c1] 40)).alloc (.cells #[.bool false, .slice none 0 0] 40)) w.heap.size 40 #[.bool s0, .slice A0 l0 c0] := Blk.alloc (Blk.alloc (Blk.at_ (by simp)) _) _
  have kB : Blk (((w.alloc (.cells #[.bool s0, .slice A0 l0 c0] 40)).alloc (.cells #[.bool s1, .slice A1 l1 c1] 40)).alloc (.cells #[.bool false, .slice none 0 0] 40)) (w.heap.size + 1) 40 #[.bool s1, .slice A1 l1 c1] := Blk.alloc (Blk.at_ (by simp)) _
  have kR : Blk (((w.alloc (.cells #[.bool s0, .slice A0 l0 c0] 40)).alloc (.cells #[.bool s1, .slice A1 l1 c1] 40)).alloc (.cells #[.bool false, .slice none 0 0] 40)) (w.heap.size + 2) 40 #[.bool false, .slice none 0 0] := Blk.at_ (by simp)
  go_enter Try.func100, Try.ntmps100
  go_wp2_with fail
  generalize (((w.alloc (.cells #[.bool s0, .slice A0 l0 c0] 40)).alloc (.cells #[.bool s1, .slice A1 l1 c1] 40)).alloc (.cells #[.bool false, .slice none 0 0] 40)) = w1 at hXe kA kB kR ⊢
  have HX := Lib.hid hXe
  clear hXe
  have KA := Lib.hid kA
  clear kA
  have KB := Lib.hid kB
  clear kB
  have KR := Lib.hid kR
  clear kR
  replace HXX := Lib.hid (HXX.out.ext HX.out)
  replace HYY := Lib.hid (HYY.out.ext HX.out)
  have cA0 : w1.cell? ⟨w.heap.size, 0, none⟩ = some (.bool s0) := KA.out.cell 0
  have cA1 : w1.cell? ⟨w.heap.size, 1, none⟩ = some (.slice A0 l0 c0) := KA.out.cell 1
  have cB0 : w1.cell? ⟨(w.heap.size + 1), 0, none⟩ = some (.bool s1) := KB.out.cell 0
  have cB1 : w1.cell? ⟨(w.heap.size + 1), 1, none⟩ = some (.slice A1 l1 c1) := KB.out.cell 1
  go_wp2_with fail
  clear cA0 cA1 cB0 cB1
  refine (compare_any _ _ n0 n1 _ HXX.out HYY.out).mono ?_
  rw [HC.out]
  rintro e w2 ⟨rfl, hX⟩
  replace hX : Ext w1 w2 := by with_reducible exact hX
  replace HX := Lib.hid (HX.out.trans hX)
  replace HXX := Lib.hid (HXX.out.ext hX)
  replace HYY := Lib.hid (HYY.out.ext hX)
  replace KA := Lib.hid (KA.out.ext hX)
  replace KB := Lib.hid (KB.out.ext hX)
  replace KR := Lib.hid (KR.out.ext hX)
  clear hX
  have cA0 : w2.cell? ⟨w.heap.size, 0, none⟩ = some (.bool s0) := KA.out.cell 0
  have cA1 : w2.cell? ⟨w.heap.size, 1, none⟩ = some (.slice A0 l0 c0) := KA.out.cell 1
  have cB0 : w2.cell? ⟨(w.heap.size + 1), 0, none⟩ = some (.bool s1) := KB.out.cell 0
  have cB1 : w2.cell? ⟨(w.heap.size + 1), 1, none⟩ = some (.slice A1 l1 c1) := KB.out.cell 1
  go_upto_region 7 with (fail)
  clear cA0 cA1 cB0 cB1
  refine zadd_r7 w.heap.size (w.heap.size + 1) L s0 s1 A0 A1 l0 c0 l1 c1 n0 n1 w2 (KA.out.cell 0) (KA.out.cell 1) (KB.out.cell 0) (KB.out.cell 1) HXX.out HYY.out HFN.out HFM.out hL (Nat.le_of_lt HM.out) _ _ (by simp) rfl rfl ?_
  rintro xv0 xv1 xv2 xv3 xv4 xv5 xv6 w3 rfl rfl rfl rfl rfl rfl hv hXW
  simp only [rops, Try.f100, regOf, Option.bind_some, Nat.reduceBEq, if_true, if_false, Bool.false_eq_true, Option.getD_some, List.drop_succ_cons, List.drop_zero]
  simp only [Act.put, List.setIfInBounds_toArray, List.set_cons_succ, List.set_cons_zero]
  replace HX := Lib.hid (HX.out.trans hXW)
  replace HXX := Lib.hid (HXX.out.ext hXW)
  replace HYY := Lib.hid (HYY.out.ext hXW)
  replace KA := Lib.hid (KA.out.ext hXW)
  replace KB := Lib.hid (KB.out.ext hXW)
  replace KR := Lib.hid (KR.out.ext hXW)
  clear hXW
  obtain ⟨A9, l9, c9, rfl, hv9, _⟩ := Z16.open hv
  have HV := Lib.hid (Z16.two hv9 (NoInts.two KR.out) s0 A9 l9 c9)
  clear hv hv9
  have cR0 : w3.cell? ⟨(w.heap.size + 2), 0, none⟩ = some (.bool false) := KR.out.cell 0
  have fR0 : w3.frozen? ⟨(w.heap.size + 2), 0, none⟩ = false := KR.out.free 0
  have cR1 : w3.cell? ⟨(w.heap.size + 2), 1, none⟩ = some (.slice none 0 0) := KR.out.cell 1
  have fR1 : w3.frozen? ⟨(w.heap.size + 2), 1, none⟩ = false := KR.out.free 1
  go_wp2
  refine bodyPost_ret (v := .agg #[.bool s0, .slice A9 l9 c9]) (by simp [results, Try.results100, go_sem, *]) rfl ?_
  exact ⟨_, _, _, rfl, HV.out, HX.out.two (by omega) _ _⟩

set_option maxRecDepth 100000 in
set_option maxHeartbeats 2000000 in
theorem zadd_lt (s0 s1 : Bool) (A0 A1 : Option Addr) (l0 c0 l1 c1 n0 n1 : Nat) (L : Nat) (w : World) (hx : Z16 w (.slice A0 l0 c0) n0) (hy : Z16 w (.slice A1 l1 c1) n1) (fn : Fit 65536 n0 L) (fm : Fit 65536 n1 L) (hL : L ≤ 1000000) (hs : s0 ≠ s1) (hm : n0 < n1) :
    Calls Try.prog 100 #[.agg #[.bool s0, .slice A0 l0 c0], .agg #[.bool s1, .slice A1 l1 c1]] w (RetBn w s1 (n1 - n0)) := by
  have HXX := Lib.hid hx
  have HYY := Lib.hid hy
  have HFN := Lib.hid fn
  have HFM := Lib.hid fm
  clear hx hy fn fm
  have hb : (s0 == s1) = false := by simpa using hs
  have HC : Hid (cmpI n0 n1 = -1) := cmpI_lt hm
  have HM := Lib.hid hm
  clear hs hm
  have hXe : Ext w (((w.alloc (.cells #[.bool s0, .slice A0 l0 c0] 40)).alloc (.cells #[.bool s1, .slice A1 l1 c1] 40)).alloc (.cells #[.bool false, .slice none 0 0] 40)) := ((((Ext.refl w).alloc _).alloc _).alloc _)
  have kA : Blk (((w.alloc (.cells #[.bool s0, .slice A0 l0 c0] 40)).alloc (.cells #[.bool s1, .slice A1 l1 c1] 40)).alloc (.cells #[.bool false, .slice none 0 0] 40)) w.heap.size 40 #[.bool s0, .slice A0 l0 c0] := Blk.alloc (Blk.alloc (Blk.at_ (by simp)) _) _
  have kB : Blk (((w.alloc (.cells #[.bool s0, .slice A0 l0 c0] 40)).alloc (.cells #[.bool s1, .slice A1 l1 c1] 40)).alloc (.cells #[.bool false, .slice none 0 0] 40)) (w.heap.size + 1) 40 #[.bool s1, .slice A1 l1 c1] := Blk.alloc (Blk.at_ (by simp)) _
  have kR : Blk (((w.alloc (.cells #[.bool s0, .slice A0 l0 c0] 40)).alloc (.cells #[.bool s1, .slice A1 l1 c1] 40)).alloc (.cells #[.bool false, .slice none 0 0] 40)) (w.heap.size + 2) 40 #[.bool false, .slice none 0 0] := Blk.at_ (by simp)
  go_enter Try.func100, Try.ntmps100
  go_wp2_with fail
  generalize (((w.alloc (.cells #[.bool s0, .slice A0 l0 c0] 40)).alloc (.cells #[.bool s1, .slice A1 l1 c1] 40)).alloc (.cells #[.bool false, .slice none 0 0] 40)) = w1 at hXe kA kB kR ⊢
  have HX := Lib.hid hXe
  clear hXe
  have KA := Lib.hid kA
  clear kA
  have KB := Lib.hid kB
  clear kB
  have KR := Lib.hid kR
  clear kR
  replace HXX := Lib.hid (HXX.out.ext HX.out)
  replace HYY := Lib.hid (HYY.out.ext HX.out)
  have cA0 : w1.cell? ⟨w.heap.size, 0, none⟩ = some (.bool s0) := KA.out.cell 0
  have cA1 : w1.cell? ⟨w.heap.size, 1, none⟩ = some (.slice A0 l0 c0) := KA.out.cell 1
  have cB0 : w1.cell? ⟨(w.heap.size + 1), 0, none⟩ = some (.bool s1) := KB.out.cell 0
  have cB1 : w1.cell? ⟨(w.heap.size + 1), 1, none⟩ = some (.slice A1 l1 c1) := KB.out.cell 1
  go_wp2_with fail
  clear cA0 cA1 cB0 cB1
  refine (compare_any _ _ n0 n1 _ HXX.out HYY.out).mono ?_
  rw [HC.out]
  rintro e w2 ⟨rfl, hX⟩
  replace hX : Ext w1 w2 := by with_reducible exact hX
  replace HX := Lib.hid (HX.out.trans hX)
  replace HXX := Lib.hid (HXX.out.ext hX)
  replace HYY := Lib.hid (HYY.out.ext hX)
  replace KA := Lib.hid (KA.out.ext hX)
  replace KB := Lib.hid (KB.out.ext hX)
  replace KR := Lib.hid (KR.out.ext hX)
  clear hX
  have cA0 : w2.cell? ⟨w.heap.size, 0, none⟩ = some (.bool s0) := KA.out.cell 0
  have cA1 : w2.cell? ⟨w.heap.size, 1, none⟩ = some (.slice A0 l0 c0) := KA.out.cell 1
  have cB0 : w2.cell? ⟨(w.heap.size + 1), 0, none⟩ = some (.bool s1) := KB.out.cell 0
  have cB1 : w2.cell? ⟨(w.heap.size + 1), 1, none⟩ = some (.slice A1 l1 c1) := KB.out.cell 1
  go_upto_region 8 with (fail)
  clear cA0 cA1 cB0 cB1
  refine zadd_r8 w.heap.size (w.heap.size + 1) L s0 s1 A0 A1 l0 c0 l1 c1 n0 n1 w2 (KA.out.cell 0) (KA.out.cell 1) (KB.out.cell 0) (KB.out.cell 1) HXX.out HYY.out HFN.out HFM.out hL (Nat.le_of_lt HM.out) _ _ (by simp) rfl rfl ?_
  rintro xv0 xv1 xv2 xv3 xv4 xv5 xv6 w3 rfl rfl rfl rfl rfl rfl hv hXW
  simp only [rops, Try.f100, regOf, Option.bind_some, Nat.reduceBEq, if_true, if_false, Bool.false_eq_true, Option.getD_some, List.drop_succ_cons, List.drop_zero]
  simp only [Act.put, List.setIfInBounds_toArray, List.set_cons_succ, List.set_cons_zero]
  replace HX := Lib.hid (HX.out.trans hXW)
  replace HXX := Lib.hid (HXX.out.ext hXW)
  replace HYY := Lib.hid (HYY.out.ext hXW)
  replace KA := Lib.hid (KA.out.ext hXW)
  replace KB := Lib.hid (KB.out.ext hXW)
  replace KR := Lib.hid (KR.out.ext hXW)
  clear hXW
  obtain ⟨A9, l9, c9, rfl, hv9, _⟩ := Z16.open hv
  have HV := Lib.hid (Z16.two hv9 (NoInts.two KR.out) s1 A9 l9 c9)
  clear hv hv9
  have cR0 : w3.cell? ⟨(w.heap.size + 2), 0, none⟩ = some (.bool false) := KR.out.cell 0
  have fR0 : w3.frozen? ⟨(w.heap.size + 2), 0, none⟩ = false := KR.out.free 0
  have cR1 : w3.cell? ⟨(w.heap.size + 2), 1, none⟩ = some (.slice none 0 0) := KR.out.cell 1
  have fR1 : w3.frozen? ⟨(w.heap.size + 2), 1, none⟩ = false := KR.out.free 1
  go_wp2
  refine bodyPost_ret (v := .agg #[.bool s1, .slice A9 l9 c9]) (by simp [results, Try.results100, go_sem, *]) rfl ?_
  exact ⟨_, _, _, rfl, HV.out, HX.out.two (by omega) _ _⟩


theorem zadd_any (va vb : Value) (x y : Int) (L : Nat) (w : World) (ha : IntZ w va x) (hb : IntZ w vb y) (fn : Fit 65536 x.natAbs L) (fm : Fit 65536 y.natAbs L) (hL : L ≤ 1000000) :
    Calls Try.prog 100 #[va, vb] w (RetZ w (x + y)) := by
  obtain ⟨A0, l0, c0, rfl, hx⟩ := ha
  obtain ⟨A1, l1, c1, rfl, hy⟩ := hb
  have fin : ∀ (b : Bool) (n : Nat), b = decide (x + y < 0) → n = (x + y).natAbs → ∀ e w', RetBn w b n e w' → RetZ w (x + y) e w' := by
    rintro b n rfl rfl e w' ⟨A, l, c, rfl, hz, hX⟩
    exact ⟨_, rfl, ⟨A, l, c, rfl, hz⟩, hX⟩
  by_cases hs : decide (x < 0) = decide (y < 0)
  · refine (zadd_same _ _ A0 A1 l0 c0 l1 c1 _ _ L w hx hy fn fm hL hs).mono (fin _ _ ?_ ?_)
    · by_cases h : x < 0 <;> by_cases k : y < 0 <;> simp [h, k] at hs ⊢ <;> omega
    · by_cases h : x < 0 <;> by_cases k : y < 0 <;> simp [h, k] at hs <;> omega
  · rcases Nat.lt_trichotomy x.natAbs y.natAbs with h | h | h
    · refine (zadd_lt _ _ A0 A1 l0 c0 l1 c1 _ _ L w hx hy fn fm hL hs h).mono (fin _ _ ?_ ?_)
      · by_cases h : x < 0 <;> by_cases k : y < 0 <;> simp [h, k] at hs ⊢ <;> omega
      · by_cases h : x < 0 <;> by_cases k : y < 0 <;> simp [h, k] at hs <;> omega
    · refine (zadd_eq _ _ A0 A1 l0 c0 l1 c1 _ _ L w hx hy fn fm hL hs h).mono (fin _ _ ?_ ?_)
      · by_cases h : x < 0 <;> by_cases k : y < 0 <;> simp [h, k] at hs ⊢ <;> omega
      · by_cases h : x < 0 <;> by_cases k : y < 0 <;> simp [h, k] at hs <;> omega
    · refine (zadd_gt _ _ A0 A1 l0 c0 l1 c1 _ _ L w hx hy fn fm hL hs h).mono (fin _ _ ?_ ?_)
      · by_cases h : x < 0 <;> by_cases k : y < 0 <;> simp [h, k] at hs ⊢ <;> omega
      · by_cases h : x < 0 <;> by_cases k : y < 0 <;> simp [h, k] at hs <;> omega

set_option maxRecDepth 100000 in
set_option maxHeartbeats 2000000 in
theorem zmul_ss (s0 s1 : Bool) (A0 A1 : Option Addr) (l0 c0 l1 c1 n0 n1 : Nat) (L M : Nat) (w : World) (hx : Z16 w (.slice A0 l0 c0) n0) (hy : Z16 w (.slice A1 l1 c1) n1) (fn : Fit 65536 n0 L) (fm : Fit 65536 n1 M) (hL : L ≤ 1000000) (hM : M ≤ 1000000) (hs : s0 = s1) :
    Calls Try.prog 80 #[.agg #[.bool s0, .slice A0 l0 c0], .agg #[.bool s1, .slice A1 l1 c1]] w (RetBn w false (n0 * n1)) := by
  have HXX := Lib.hid hx
  have HYY := Lib.hid hy
  have HFN := Lib.hid fn
  have HFM := Lib.hid fm
  clear hx hy fn fm
  have hb : (s0 != s1) = false := by simp [hs]
  have hb2 : (s0 == s1) = true := by simp [hs]
  have hb3 : decide (s0 = s1) = true := by simp [hs]
  obtain ⟨N, hN⟩ : ∃ N, n0 * n1 = N := ⟨_, rfl⟩
  have HN := Lib.hid hN
  
  clear hs hN
  have hXe : Ext w (((w.alloc (.cells #[.bool s0, .slice A0 l0 c0] 40)).alloc (.cells #[.bool s1, .slice A1 l1 c1] 40)).alloc (.cells #[.bool false, .slice none 0 0] 40)) := ((((Ext.refl w).alloc _).alloc _).alloc _)
  have kA : Blk (((w.alloc (.cells #[.bool s0, .slice A0 l0 c0] 40)).alloc (.cells #[.bool s1, .slice A1 l1 c1] 40)).alloc (.cells #[.bool false, .slice none 0 0] 40)) w.heap.size 40 #[.bool s0, .slice A0 l0 c0] := Blk.alloc (Blk.alloc (Blk.at_ (by simp)) _) _
  have kB : Blk (((w.alloc (.cells #[.bool s0, .slice A0 l0 c0] 40)).alloc (.cells #[.bool s1, .slice A1 l1 c1] 40)).alloc (.cells #[.bool false, .slice none 0 0] 40)) (w.heap.size + 1) 40 #[.bool s1, .slice A1 l1 c1] := Blk.alloc (Blk.at_ (by simp)) _
  have kR : Blk (((w.alloc (.cells #[.bool s0, .slice A0 l0 c0] 40)).alloc (.cells #[.bool s1, .slice A1 l1 c1] 40)).alloc (.cells #[.bool false, .slice none 0 0] 40)) (w.heap.size + 2) 40 #[.bool false, .slice none 0 0] := Blk.at_ (by simp)
  go_enter Try.func80, Try.ntmps80
  go_wp2_with fail
  generalize (((w.alloc (.cells #[.bool s0, .slice A0 l0 c0] 40)).alloc (.cells #[.bool s1, .slice A1 l1 c1] 40)).alloc (.cells #[.bool false, .slice none 0 0] 40)) = w1 at hXe kA kB kR ⊢
  have HX := Lib.hid hXe
  clear hXe
  have KA := Lib.hid kA
  clear kA
  have KB := Lib.hid kB
  clear kB
  have KR := Lib.hid kR
  clear kR
  replace HXX := Lib.hid (HXX.out.ext HX.out)
  replace HYY := Lib.hid (HYY.out.ext HX.out)
  have cA0 : w1.cell? ⟨w.heap.size, 0, none⟩ = some (.bool s0) := KA.out.cell 0
  have cA1 : w1.cell? ⟨w.heap.size, 1, none⟩ = some (.slice A0 l0 c0) := KA.out.cell 1
  have cB0 : w1.cell? ⟨(w.heap.size + 1), 0, none⟩ = some (.bool s1) := KB.out.cell 0
  have cB1 : w1.cell? ⟨(w.heap.size + 1), 1, none⟩ = some (.slice A1 l1 c1) := KB.out.cell 1
  go_wp2_with fail
  clear cA0 cA1 cB0 cB1
  refine (times16_any _ _ n0 n1 L M _ HXX.out HYY.out HFN.out HFM.out hL hM).mono ?_
  rw [HN.out]
  rintro e w2 ⟨v9, rfl, hv, hX⟩
  replace hX : Ext w1 w2 := by with_reducible exact hX
  replace HX := Lib.hid (HX.out.trans hX)
  replace HXX := Lib.hid (HXX.out.ext hX)
  replace HYY := Lib.hid (HYY.out.ext hX)
  replace KA := Lib.hid (KA.out.ext hX)
  replace KB := Lib.hid (KB.out.ext hX)
  replace KR := Lib.hid (KR.out.ext hX)
  clear hX
  obtain ⟨A9, l9, c9, rfl, hv9, h0⟩ := Z16.open hv
  have HV := Lib.hid (Z16.two hv9 (NoInts.two KR.out) false A9 l9 c9)
  clear hv hv9
  clear h0
  have cA0 : w2.cell? ⟨w.heap.size, 0, none⟩ = some (.bool s0) := KA.out.cell 0
  have cA1 : w2.cell? ⟨w.heap.size, 1, none⟩ = some (.slice A0 l0 c0) := KA.out.cell 1
  have cB0 : w2.cell? ⟨(w.heap.size + 1), 0, none⟩ = some (.bool s1) := KB.out.cell 0
  have cB1 : w2.cell? ⟨(w.heap.size + 1), 1, none⟩ = some (.slice A1 l1 c1) := KB.out.cell 1
  have cR0 : w2.cell? ⟨(w.heap.size + 2), 0, none⟩ = some (.bool false) := KR.out.cell 0
  have fR0 : w2.frozen? ⟨(w.heap.size + 2), 0, none⟩ = false := KR.out.free 0
  have cR1 : w2.cell? ⟨(w.heap.size + 2), 1, none⟩ = some (.slice none 0 0) := KR.out.cell 1
  have fR1 : w2.frozen? ⟨(w.heap.size + 2), 1, none⟩ = false := KR.out.free 1
  go_wp2
  refine bodyPost_ret (v := .agg #[.bool false, .slice A9 l9 c9]) (by simp [results, Try.results80, go_sem, *]) rfl ?_
  exact ⟨_, _, _, rfl, by rw [HN.out]; exact HV.out, HX.out.two (by omega) _ _⟩

set_option maxRecDepth 100000 in
set_option maxHeartbeats 2000000 in
theorem zmul_nz (s0 s1 : Bool) (A0 A1 : Option Addr) (l0 c0 l1 c1 n0 n1 : Nat) (L M : Nat) (w : World) (hx : Z16 w (.slice A0 l0 c0) n0) (hy : Z16 w (.slice A1 l1 c1) n1) (fn : Fit 65536 n0 L) (fm : Fit 65536 n1 M) (hL : L ≤ 1000000) (hM : M ≤ 1000000) (hs : s0 ≠ s1) (hz : n0 * n1 ≠ 0) :
    Calls Try.prog 80 #[.agg #[.bool s0, .slice A0 l0 c0], .agg #[.bool s1, .slice A1 l1 c1]] w (RetBn w true (n0 * n1)) := by
  have HXX := Lib.hid hx
  have HYY := Lib.hid hy
  have HFN := Lib.hid fn
  have HFM := Lib.hid fm
  clear hx hy fn fm
  have hb : (s0 != s1) = true := by simp [hs]
  have hb2 : (s0 == s1) = false := by simp [hs]
  have hb3 : decide (s0 = s1) = false := by simp [hs]
  obtain ⟨N, hN⟩ : ∃ N, n0 * n1 = N := ⟨_, rfl⟩
  have HN := Lib.hid hN
  rw [hN] at hz
  clear hs hN
  have hXe : Ext w (((w.alloc (.cells #[.bool s0, .slice A0 l0 c0] 40)).alloc (.cells #[.bool s1, .slice A1 l1 c1] 40)).alloc (.cells #[.bool false, .slice none 0 0] 40)) := ((((Ext.refl w).alloc _).alloc _).alloc _)
  have kA : Blk (((w.alloc (.cells #[.bool s0, .slice A0 l0 c0] 40)).alloc (.cells #[.bool s1, .slice A1 l1 c1] 40)).alloc (.cells #[.bool false, .slice none 0 0] 40)) w.heap.size 40 #[.bool s0, .slice A0 l0 c0] := Blk.alloc (Blk.alloc (Blk.at_ (by simp)) _) _
  have kB : Blk (((w.alloc (.cells #[.bool s0, .slice A0 l0 c0] 40)).alloc (.cells #[.bool s1, .slice A1 l1 c1] 40)).alloc (.cells #[.bool false, .slice none 0 0] 40)) (w.heap.size + 1) 40 #[.bool s1, .slice A1 l1 c1] := Blk.alloc (Blk.at_ (by simp)) _
  have kR : Blk (((w.alloc (.cells #[.bool s0, .slice A0 l0 c0] 40)).alloc (.cells #[.bool s1, .slice A1 l1 c1] 40)).alloc (.cells #[.bool false, .slice none 0 0] 40)) (w.heap.size + 2) 40 #[.bool false, .slice none 0 0] := Blk.at_ (by simp)
  go_enter Try.func80, Try.ntmps80
  go_wp2_with fail
  generalize (((w.alloc (.cells #[.bool s0, .slice A0 l0 c0] 40)).alloc (.cells #[.bool s1, .slice A1 l1 c1] 40)).alloc (.cells #[.bool false, .slice none 0 0] 40)) = w1 at hXe kA kB kR ⊢
  have HX := Lib.hid hXe
  clear hXe
  have KA := Lib.hid kA
  clear kA
  have KB := Lib.hid kB
  clear kB
  have KR := Lib.hid kR
  clear kR
  replace HXX := Lib.hid (HXX.out.ext HX.out)
  replace HYY := Lib.hid (HYY.out.ext HX.out)
  have cA0 : w1.cell? ⟨w.heap.size, 0, none⟩ = some (.bool s0) := KA.out.cell 0
  have cA1 : w1.cell? ⟨w.heap.size, 1, none⟩ = some (.slice A0 l0 c0) := KA.out.cell 1
  have cB0 : w1.cell? ⟨(w.heap.size + 1), 0, none⟩ = some (.bool s1) := KB.out.cell 0
  have cB1 : w1.cell? ⟨(w.heap.size + 1), 1, none⟩ = some (.slice A1 l1 c1) := KB.out.cell 1
  go_wp2_with fail
  clear cA0 cA1 cB0 cB1
  refine (times16_any _ _ n0 n1 L M _ HXX.out HYY.out HFN.out HFM.out hL hM).mono ?_
  rw [HN.out]
  rintro e w2 ⟨v9, rfl, hv, hX⟩
  replace hX : Ext w1 w2 := by with_reducible exact hX
  replace HX := Lib.hid (HX.out.trans hX)
  replace HXX := Lib.hid (HXX.out.ext hX)
  replace HYY := Lib.hid (HYY.out.ext hX)
  replace KA := Lib.hid (KA.out.ext hX)
  replace KB := Lib.hid (KB.out.ext hX)
  replace KR := Lib.hid (KR.out.ext hX)
  clear hX
  obtain ⟨A9, l9, c9, rfl, hv9, h0⟩ := Z16.open hv
  have HV := Lib.hid (Z16.two hv9 (NoInts.two KR.out) true A9 l9 c9)
  clear hv hv9
  have hl : (0 : Int) < (l9 : Int) := by
    rcases Nat.eq_zero_or_pos l9 with h | h
    · exact absurd (h0.1 h) hz
    · omega
  have hl' : 0 < l9 := by omega
  clear h0
  have cA0 : w2.cell? ⟨w.heap.size, 0, none⟩ = some (.bool s0) := KA.out.cell 0
  have cA1 : w2.cell? ⟨w.heap.size, 1, none⟩ = some (.slice A0 l0 c0) := KA.out.cell 1
  have cB0 : w2.cell? ⟨(w.heap.size + 1), 0, none⟩ = some (.bool s1) := KB.out.cell 0
  have cB1 : w2.cell? ⟨(w.heap.size + 1), 1, none⟩ = some (.slice A1 l1 c1) := KB.out.cell 1
  have cR0 : w2.cell? ⟨(w.heap.size + 2), 0, none⟩ = some (.bool false) := KR.out.cell 0
  have fR0 : w2.frozen? ⟨(w.heap.size + 2), 0, none⟩ = false := KR.out.free 0
  have cR1 : w2.cell? ⟨(w.heap.size + 2), 1, none⟩ = some (.slice none 0 0) := KR.out.cell 1
  have fR1 : w2.frozen? ⟨(w.heap.size + 2), 1, none⟩ = false := KR.out.free 1
  go_wp2
  refine bodyPost_ret (v := .agg #[.bool true, .slice A9 l9 c9]) (by simp [results, Try.results80, go_sem, *]) rfl ?_
  exact ⟨_, _, _, rfl, by rw [HN.out]; exact HV.out, HX.out.two (by omega) _ _⟩

set_option maxRecDepth 100000 in
set_option maxHeartbeats 2000000 in
theorem zmul_zz (s0 s1 : Bool) (A0 A1 : Option Addr) (l0 c0 l1 c1 n0 n1 : Nat) (L M : Nat) (w : World) (hx : Z16 w (.slice A0 l0 c0) n0) (hy : Z16 w (.slice A1 l1 c1) n1) (fn : Fit 65536 n0 L) (fm : Fit 65536 n1 M) (hL : L ≤ 1000000) (hM : M ≤ 1000000) (hs : s0 ≠ s1) (hz : n0 * n1 = 0) :
    Calls Try.prog 80 #[.agg #[.bool s0, .slice A0 l0 c0], .agg #[.bool s1, .slice A1 l1 c1]] w (RetBn w false (n0 * n1)) := by
  have HXX := Lib.hid hx
  have HYY := Lib.hid hy
  have HFN := Lib.hid fn
  have HFM := Lib.hid fm
  clear hx hy fn fm
  have hb : (s0 != s1) = true := by simp [hs]
  have hb2 : (s0 == s1) = false := by simp [hs]
  have hb3 : decide (s0 = s1) = false := by simp [hs]
  obtain ⟨N, hN⟩ : ∃ N, n0 * n1 = N := ⟨_, rfl⟩
  have HN := Lib.hid hN
  rw [hN] at hz
  clear hs hN
  have hXe : Ext w (((w.alloc (.cells #[.bool s0, .slice A0 l0 c0] 40)).alloc (.cells #[.bool s1, .slice A1 l1 c1] 40)).alloc (.cells #[.bool false, .slice none 0 0] 40)) := ((((Ext.refl w).alloc _).alloc _).alloc _)
  have kA : Blk (((w.alloc (.cells #[.bool s0, .slice A0 l0 c0] 40)).alloc (.cells #[.bool s1, .slice A1 l1 c1] 40)).alloc (.cells #[.bool false, .slice none 0 0] 40)) w.heap.size 40 #[.bool s0, .slice A0 l0 c0] := Blk.alloc (Blk.alloc (Blk.at_ (by simp)) _) _
  have kB : Blk (((w.alloc (.cells #[.bool s0, .slice A0 l0 c0] 40)).alloc (.cells #[.bool s1, .slice A1 l1 c1] 40)).alloc (.cells #[.bool false, .slice none 0 0] 40)) (w.heap.size + 1) 40 #[.bool s1, .slice A1 l1 c1] := Blk.alloc (Blk.at_ (by simp)) _
  have kR : Blk (((w.alloc (.cells #[.bool s0, .slice A0 l0 c0] 40)).alloc (.cells #[.bool s1, .slice A1 l1 c1] 40)).alloc (.cells #[.bool false, .slice none 0 0] 40)) (w.heap.size + 2) 40 #[.bool false, .slice none 0 0] := Blk.at_ (by simp)
  go_enter Try.func80, Try.ntmps80
  go_wp2_with fail
  generalize (((w.alloc (.cells #[.bool s0, .slice A0 l0 c0] 40)).alloc (.cells #[.bool s1, .slice A1 l1 c1] 40)).alloc (.cells #[.bool false, .slice none 0 0] 40)) = w1 at hXe kA kB kR ⊢
  have HX := Lib.hid hXe
  clear hXe
  have KA := Lib.hid kA
  clear kA
  have KB := Lib.hid kB
  clear kB
  have KR := Lib.hid kR
  clear kR
  replace HXX := Lib.hid (HXX.out.ext HX.out)
  replace HYY := Lib.hid (HYY.out.ext HX.out)
  have cA0 : w1.cell? ⟨w.heap.size, 0, none⟩ = some (.bool s0) := KA.out.cell 0
  have cA1 : w1.cell? ⟨w.heap.size, 1, none⟩ = some (.slice A0 l0 c0) := KA.out.cell 1
  have cB0 : w1.cell? ⟨(w.heap.size + 1), 0, none⟩ = some (.bool s1) := KB.out.cell 0
  have cB1 : w1.cell? ⟨(w.heap.size + 1), 1, none⟩ = some (.slice A1 l1 c1) := KB.out.cell 1
  go_wp2_with fail
  clear cA0 cA1 cB0 cB1
  refine (times16_any _ _ n0 n1 L M _ HXX.out HYY.out HFN.out HFM.out hL hM).mono ?_
  rw [HN.out]
  rintro e w2 ⟨v9, rfl, hv, hX⟩
  replace hX : Ext w1 w2 := by with_reducible exact hX
  replace HX := Lib.hid (HX.out.trans hX)
  replace HXX := Lib.hid (HXX.out.ext hX)
  replace HYY := Lib.hid (HYY.out.ext hX)
  replace KA := Lib.hid (KA.out.ext hX)
  replace KB := Lib.hid (KB.out.ext hX)
  replace KR := Lib.hid (KR.out.ext hX)
  clear hX
  obtain ⟨A9, l9, c9, rfl, hv9, h0⟩ := Z16.open hv
  have HV := Lib.hid (Z16.two hv9 (NoInts.two KR.out) false A9 l9 c9)
  clear hv hv9
  obtain rfl : l9 = 0 := h0.2 hz
  clear h0
  have cA0 : w2.cell? ⟨w.heap.size, 0, none⟩ = some (.bool s0) := KA.out.cell 0
  have cA1 : w2.cell? ⟨w.heap.size, 1, none⟩ = some (.slice A0 l0 c0) := KA.out.cell 1
  have cB0 : w2.cell? ⟨(w.heap.size + 1), 0, none⟩ = some (.bool s1) := KB.out.cell 0
  have cB1 : w2.cell? ⟨(w.heap.size + 1), 1, none⟩ = some (.slice A1 l1 c1) := KB.out.cell 1
  have cR0 : w2.cell? ⟨(w.heap.size + 2), 0, none⟩ = some (.bool false) := KR.out.cell 0
  have fR0 : w2.frozen? ⟨(w.heap.size + 2), 0, none⟩ = false := KR.out.free 0
  have cR1 : w2.cell? ⟨(w.heap.size + 2), 1, none⟩ = some (.slice none 0 0) := KR.out.cell 1
  have fR1 : w2.frozen? ⟨(w.heap.size + 2), 1, none⟩ = false := KR.out.free 1
  go_wp2
  refine bodyPost_ret (v := .agg #[.bool false, .slice A9 0 c9]) (by simp [results, Try.results80, go_sem, *]) rfl ?_
  exact ⟨_, _, _, rfl, by rw [HN.out]; exact HV.out, HX.out.two (by omega) _ _⟩


theorem zmul_any (va vb : Value) (x y : Int) (L M : Nat) (w : World) (ha : IntZ w va x) (hb : IntZ w vb y) (fn : Fit 65536 x.natAbs L) (fm : Fit 65536 y.natAbs M) (hL : L ≤ 1000000) (hM : M ≤ 1000000) :
    Calls Try.prog 80 #[va, vb] w (RetZ w (x * y)) := by
  obtain ⟨A0, l0, c0, rfl, hx⟩ := ha
  obtain ⟨A1, l1, c1, rfl, hy⟩ := hb
  have fin : ∀ (b : Bool), b = decide (x * y < 0) → ∀ e w', RetBn w b (x.natAbs * y.natAbs) e w' → RetZ w (x * y) e w' := by
    rintro b rfl e w' ⟨A, l, c, rfl, hz, hX⟩
    exact ⟨_, rfl, ⟨A, l, c, rfl, by rw [Int.natAbs_mul]; exact hz⟩, hX⟩
  by_cases hs : decide (x < 0) = decide (y < 0)
  · refine (zmul_ss _ _ A0 A1 l0 c0 l1 c1 _ _ L M w hx hy fn fm hL hM hs).mono (fin _ ?_)
    symm
    rw [decide_eq_false_iff_not, Int.not_lt]
    by_cases h : x < 0
    · have k : y < 0 := by simpa [h] using hs
      exact Int.le_of_lt (Int.mul_pos_of_neg_of_neg h k)
    · have k : ¬ y < 0 := by simpa [h] using hs
      exact Int.mul_nonneg (by omega) (by omega)
  · by_cases hz : x.natAbs * y.natAbs = 0
    · refine (zmul_zz _ _ A0 A1 l0 c0 l1 c1 _ _ L M w hx hy fn fm hL hM hs hz).mono (fin _ ?_)
      have : x * y = 0 := by rw [← Int.natAbs_eq_zero, Int.natAbs_mul]; exact hz
      rw [this]; rfl
    · refine (zmul_nz _ _ A0 A1 l0 c0 l1 c1 _ _ L M w hx hy fn fm hL hM hs hz).mono (fin _ ?_)
      symm
      rw [decide_eq_true_iff]
      have h1 : x ≠ 0 := fun e => hz (by rw [e]; simp)
      have h2 : y ≠ 0 := fun e => hz (by rw [e]; simp)
      by_cases h : x < 0
      · have k : ¬ y < 0 := by simpa [h] using hs
        exact Int.mul_neg_of_neg_of_pos h (by omega)
      · have k : y < 0 := by simpa [h] using hs
        exact Int.mul_neg_of_pos_of_neg (by omega) k

end Go.Proofs.Yteoijnaljkagfaa
namespace Go.Proofs.Yteoijnaljkagfaa
open Go.RowKit

theorem Blk.one16 {w : World} {g : Nat} {t : TypeId} (h : Blk w g t #[.int .i64 1]) : Z16 w (.slice (some ⟨g, 0, none⟩) 1 1) 1 :=
  ⟨_, 1, 1, [1], rfl, ⟨rfl, fun x hx => by simp at hx; subst hx; exact wf16 (by omega), fun _ => ⟨g, 0, rfl, fun j v hv => by
    match j with
    | 0 => rw [h.cell]; simpa using hv
    | j + 1 => simp at hv⟩⟩, Rep.one (by omega), by omega, by omega⟩
end Go.Proofs.Yteoijnaljkagfaa
namespace Go.Proofs.Yteoijnaljkagfaa
open Go.RowKit

/-- A rational number of the reference. -/
def QZ (w : World) (v : Value) (q : Rat) : Prop := ∃ b A l c B m k, v = .agg #[.bool b, .slice A l c, .slice B m k] ∧ b = decide (q.num < 0) ∧ Z16 w (.slice A l c) q.num.natAbs ∧ Z16 w (.slice B m k) q.den
theorem QZ.ext {w w' : World} {v : Value} {q : Rat} (h : QZ w v q) (he : Ext w w') : QZ w' v q := by
  obtain ⟨b, A, l, c, B, m, k, h0, h1, h2, h3⟩ := h
  exact ⟨b, A, l, c, B, m, k, h0, h1, h2.ext he, h3.ext he⟩
theorem QZ.open {w : World} {v : Value} {q : Rat} (h : QZ w v q) : ∃ b A l c B m k, v = .agg #[.bool b, .slice A l c, .slice B m k] := by
  obtain ⟨b, A, l, c, B, m, k, h0, _⟩ := h
  exact ⟨b, A, l, c, B, m, k, h0⟩
section
variable {w : World} {b : Bool} {A B : Option Addr} {l c m k : Nat} {q : Rat}
theorem QZ.num (h : QZ w (.agg #[.bool b, .slice A l c, .slice B m k]) q) : IntZ w (.agg #[.bool b, .slice A l c]) q.num := by
  obtain ⟨b', A', l', c', B', m', k', e, h1, h2, h3⟩ := h
  simp only [Value.agg.injEq, Array.mk.injEq, List.cons.injEq, Value.bool.injEq, Value.slice.injEq, and_true] at e
  obtain ⟨rfl, ⟨rfl, rfl, rfl⟩, rfl, rfl, rfl⟩ := e
  exact ⟨_, _, _, by rw [h1], h2⟩
theorem QZ.sgn (h : QZ w (.agg #[.bool b, .slice A l c, .slice B m k]) q) : b = decide (q.num < 0) := by
  obtain ⟨b', A', l', c', B', m', k', e, h1, h2, h3⟩ := h
  simp only [Value.agg.injEq, Array.mk.injEq, List.cons.injEq, Value.bool.injEq, Value.slice.injEq, and_true] at e
  rw [e.1, h1]
theorem QZ.nat (h : QZ w (.agg #[.bool b, .slice A l c, .slice B m k]) q) : Z16 w (.slice A l c) q.num.natAbs := by
  obtain ⟨b', A', l', c', B', m', k', e, h1, h2, h3⟩ := h
  simp only [Value.agg.injEq, Array.mk.injEq, List.cons.injEq, Value.bool.injEq, Value.slice.injEq, and_true] at e
  obtain ⟨rfl, ⟨rfl, rfl, rfl⟩, rfl, rfl, rfl⟩ := e
  exact h2
theorem QZ.den (h : QZ w (.agg #[.bool b, .slice A l c, .slice B m k]) q) : Z16 w (.slice B m k) q.den := by
  obtain ⟨b', A', l', c', B', m', k', e, h1, h2, h3⟩ := h
  simp only [Value.agg.injEq, Array.mk.injEq, List.cons.injEq, Value.bool.injEq, Value.slice.injEq, and_true] at e
  obtain ⟨rfl, ⟨rfl, rfl, rfl⟩, rfl, rfl, rfl⟩ := e
  exact h3
theorem QZ.past (h : QZ w (.agg #[.bool b, .slice A l c, .slice B m k]) q) {g : Nat} (hN : NoInts w g) : QZ (((w.setCell ⟨g, 0, none⟩ (.bool b)).setCell ⟨g, 1, none⟩ (.slice A l c)).setCell ⟨g, 2, none⟩ (.slice B m k)) (.agg #[.bool b, .slice A l c, .slice B m k]) q :=
  ⟨_, _, _, _, _, _, _, rfl, h.sgn, h.nat.box3 hN _ _ _ _ _ _ _, h.den.box3 hN _ _ _ _ _ _ _⟩
end
/-- What a call returns that makes a rational number. -/
def RetQz (w : World) (q : Rat) (e : Ending) (w' : World) : Prop := ∃ v, e = .returned v ∧ QZ w' v q ∧ Ext w w'
/-- How many limbs a rational number has. -/
def FitR (q : Rat) (L : Nat) : Prop := Fit 65536 q.num.natAbs L ∧ Fit 65536 q.den L
theorem FitR.mono {q : Rat} {L M : Nat} (h : FitR q L) (k : L ≤ M) : FitR q M := ⟨h.1.mono (by omega) k, h.2.mono (by omega) k⟩
theorem RetQz.of {w : World} {q r : Rat} (h : q = r) : ∀ e w', RetQz w q e w' → RetQz w r e w' := by rintro e w' ⟨v, h1, h2, h3⟩; exact ⟨v, h1, h ▸ h2, h3⟩
theorem q_add (q r : Rat) : ratV (decide (q.num * (r.den : Int) + r.num * (q.den : Int) < 0)) (q.num * (r.den : Int) + r.num * (q.den : Int)).natAbs (q.den * r.den) = q + r := by
  unfold ratV; rw [sgn_int]; exact (Rat.add_def' q r).symm
theorem q_mul (q r : Rat) : ratV (decide (q.num * r.num < 0)) (q.num * r.num).natAbs (q.den * r.den) = q * r := by
  unfold ratV; rw [sgn_int]; exact (Rat.mul_def' q r).symm
theorem fit_mul {n m a b L : Nat} (h : Fit 65536 n a) (k : Fit 65536 m b) (hL : a + b ≤ L) : Fit 65536 (n * m) L := (h.mul (by omega) k).mono (by omega) hL
theorem fit_mulI {x y : Int} {a b L : Nat} (h : Fit 65536 x.natAbs a) (k : Fit 65536 y.natAbs b) (hL : a + b ≤ L) : Fit 65536 (x * y).natAbs L := by
  rw [Int.natAbs_mul]; exact fit_mul h k hL
theorem fit_addI {x y : Int} {a L : Nat} (h : Fit 65536 x.natAbs a) (k : Fit 65536 y.natAbs a) (hL : a + 1 ≤ L) : Fit 65536 (x + y).natAbs L :=
  ((h.add (by omega) k).le (Int.natAbs_add_le x y)).mono (by omega) hL
theorem fitR_neg {q : Rat} {L : Nat} (h : FitR q L) : FitR (-q) L := ⟨by rw [Rat.neg_num, Int.natAbs_neg]; exact h.1, by rw [Rat.neg_den]; exact h.2⟩
set_option maxRecDepth 100000 in
set_option maxHeartbeats 2000000 in
theorem frac_pos (s1 : Bool) (A0 A1 : Option Addr) (l0 c0 l1 c1 n0 n1 L : Nat) (w : World) (hx : Z16 w (.slice A0 l0 c0) n0) (hy : Z16 w (.slice A1 l1 c1) n1) (fn : Fit 65536 n0 L) (fm : Fit 65536 n1 L) (hL : L ≤ 400000) (hd : 0 < n1)  :
    Calls Try.prog 81 #[.agg #[.bool false, .slice A0 l0 c0], .agg #[.bool s1, .slice A1 l1 c1]] w (RetQz w (ratV false n0 n1)) := by
  have HXX := Lib.hid hx
  have HYY := Lib.hid hy
  have HFN := Lib.hid fn
  have HFM := Lib.hid fm
  have HD := Lib.hid hd
  have hg : 0 < Nat.gcd n0 n1 := Nat.gcd_pos_of_pos_right n0 hd
  have hneg : Hid (decide ((ratV false n0 n1).num < 0) = false) := by
    show _ = _
    rw [(ratV_neg false n0 n1 hd).1]
    rfl
  have HAB := Lib.hid (ratV_neg false n0 n1 hd).2
  have HDN := Lib.hid (ratV_red false n0 n1 hd).2
  obtain ⟨g, hge⟩ : ∃ g, Nat.gcd n0 n1 = g := ⟨_, rfl⟩
  obtain ⟨q, hq⟩ : ∃ q, n0 / Nat.gcd n0 n1 = q := ⟨_, rfl⟩
  obtain ⟨r, hr⟩ : ∃ r, n1 / Nat.gcd n0 n1 = r := ⟨_, rfl⟩
  rw [hq] at HAB
  rw [hr] at HDN
  rw [hge] at hq hr hg
  have HGE := Lib.hid hge
  have HQ := Lib.hid hq
  have HR := Lib.hid hr
  have HGP := Lib.hid hg
  clear hx hy fn fm hd hge hq hr hg
  have hXe : Ext w (((w.alloc (.cells #[.bool false, .slice A0 l0 c0] 40)).alloc (.cells #[.bool s1, .slice A1 l1 c1] 40)).alloc (.cells #[.bool false, .slice none 0 0, .slice none 0 0] 42)) := ((((Ext.refl w).alloc _).alloc _).alloc _)
  have kA : Blk (((w.alloc (.cells #[.bool false, .slice A0 l0 c0] 40)).alloc (.cells #[.bool s1, .slice A1 l1 c1] 40)).alloc (.cells #[.bool false, .slice none 0 0, .slice none 0 0] 42)) w.heap.size 40 #[.bool false, .slice A0 l0 c0] := Blk.alloc (Blk.alloc (Blk.at_ (by simp)) _) _
  have kB : Blk (((w.alloc (.cells #[.bool false, .slice A0 l0 c0] 40)).alloc (.cells #[.bool s1, .slice A1 l1 c1] 40)).alloc (.cells #[.bool false, .slice none 0 0, .slice none 0 0] 42)) (w.heap.size + 1) 40 #[.bool s1, .slice A1 l1 c1] := Blk.alloc (Blk.at_ (by simp)) _
  have kR : Blk (((w.alloc (.cells #[.bool false, .slice A0 l0 c0] 40)).alloc (.cells #[.bool s1, .slice A1 l1 c1] 40)).alloc (.cells #[.bool false, .slice none 0 0, .slice none 0 0] 42)) (w.heap.size + 2) 42 #[.bool false, .slice none 0 0, .slice none 0 0] := Blk.at_ (by simp)
  go_enter Try.func81, Try.ntmps81
  go_wp2_with fail
  generalize (((w.alloc (.cells #[.bool false, .slice A0 l0 c0] 40)).alloc (.cells #[.bool s1, .slice A1 l1 c1] 40)).alloc (.cells #[.bool false, .slice none 0 0, .slice none 0 0] 42)) = w1 at hXe kA kB kR ⊢
  have HX := Lib.hid hXe
  clear hXe
  have KA := Lib.hid kA
  clear kA
  have KB := Lib.hid kB
  clear kB
  have KR := Lib.hid kR
  clear kR
  replace HXX := Lib.hid (HXX.out.ext HX.out)
  replace HYY := Lib.hid (HYY.out.ext HX.out)
  have cA0 : w1.cell? ⟨w.heap.size, 0, none⟩ = some (.bool false) := KA.out.cell 0
  have cA1 : w1.cell? ⟨w.heap.size, 1, none⟩ = some (.slice A0 l0 c0) := KA.out.cell 1
  have cB0 : w1.cell? ⟨(w.heap.size + 1), 0, none⟩ = some (.bool s1) := KB.out.cell 0
  have cB1 : w1.cell? ⟨(w.heap.size + 1), 1, none⟩ = some (.slice A1 l1 c1) := KB.out.cell 1
  go_wp2_with fail
  clear cA0 cA1 cB0 cB1
  refine (gcd16_any _ _ n0 n1 L _ HXX.out HYY.out HFN.out HFM.out hL).mono ?_
  rw [HGE.out]
  rintro e w2 ⟨v6, rfl, h6, hX⟩
  replace hX : Ext w1 w2 := by with_reducible exact hX
  replace HX := Lib.hid (HX.out.trans hX)
  replace HXX := Lib.hid (HXX.out.ext hX)
  replace HYY := Lib.hid (HYY.out.ext hX)
  replace KA := Lib.hid (KA.out.ext hX)
  replace KB := Lib.hid (KB.out.ext hX)
  replace KR := Lib.hid (KR.out.ext hX)
  clear hX
  have HG := Lib.hid h6
  clear h6
  have cA0 : w2.cell? ⟨w.heap.size, 0, none⟩ = some (.bool false) := KA.out.cell 0
  have cA1 : w2.cell? ⟨w.heap.size, 1, none⟩ = some (.slice A0 l0 c0) := KA.out.cell 1
  have cB0 : w2.cell? ⟨(w.heap.size + 1), 0, none⟩ = some (.bool s1) := KB.out.cell 0
  have cB1 : w2.cell? ⟨(w.heap.size + 1), 1, none⟩ = some (.slice A1 l1 c1) := KB.out.cell 1
  go_wp2_with fail
  clear cA0 cA1 cB0 cB1
  refine (divide_any _ _ n0 g L _ HXX.out HG.out HFN.out hL HGP.out).mono ?_
  rw [HQ.out]
  rintro e w3 ⟨v7, v7', rfl, h7, h7', hX⟩
  replace hX : Ext w2 w3 := by with_reducible exact hX
  replace HX := Lib.hid (HX.out.trans hX)
  replace HXX := Lib.hid (HXX.out.ext hX)
  replace HYY := Lib.hid (HYY.out.ext hX)
  replace HG := Lib.hid (HG.out.ext hX)
  replace KA := Lib.hid (KA.out.ext hX)
  replace KB := Lib.hid (KB.out.ext hX)
  replace KR := Lib.hid (KR.out.ext hX)
  clear hX
  obtain ⟨A7, l7, c7, rfl, hv7, hz7⟩ := Z16.open h7
  have HV := Lib.hid hv7
  clear h7 h7' hv7
  clear hz7
  have cA0 : w3.cell? ⟨w.heap.size, 0, none⟩ = some (.bool false) := KA.out.cell 0
  have cA1 : w3.cell? ⟨w.heap.size, 1, none⟩ = some (.slice A0 l0 c0) := KA.out.cell 1
  have cB0 : w3.cell? ⟨(w.heap.size + 1), 0, none⟩ = some (.bool s1) := KB.out.cell 0
  have cB1 : w3.cell? ⟨(w.heap.size + 1), 1, none⟩ = some (.slice A1 l1 c1) := KB.out.cell 1
  go_wp2_with fail
  clear cA0 cA1 cB0 cB1
  refine (divide_any _ _ n1 g L _ HYY.out HG.out HFM.out hL HGP.out).mono ?_
  rw [HR.out]
  rintro e w4 ⟨v8, v8', rfl, h8, h8', hX⟩
  replace hX : Ext w3 w4 := by with_reducible exact hX
  replace HX := Lib.hid (HX.out.trans hX)
  replace HXX := Lib.hid (HXX.out.ext hX)
  replace HYY := Lib.hid (HYY.out.ext hX)
  replace HG := Lib.hid (HG.out.ext hX)
  replace HV := Lib.hid (HV.out.ext hX)
  replace KA := Lib.hid (KA.out.ext hX)
  replace KB := Lib.hid (KB.out.ext hX)
  replace KR := Lib.hid (KR.out.ext hX)
  clear hX
  obtain ⟨A8, l8, c8, rfl, hv8, _⟩ := Z16.open h8
  have HW := Lib.hid hv8
  clear h8 h8' hv8
  have HNI := Lib.hid (NoInts.three KR.out)
  have cA0 : w4.cell? ⟨w.heap.size, 0, none⟩ = some (.bool false) := KA.out.cell 0
  have cA1 : w4.cell? ⟨w.heap.size, 1, none⟩ = some (.slice A0 l0 c0) := KA.out.cell 1
  have cR0 : w4.cell? ⟨(w.heap.size + 2), 0, none⟩ = some (.bool false) := KR.out.cell 0
  have fR0 : w4.frozen? ⟨(w.heap.size + 2), 0, none⟩ = false := KR.out.free 0
  have cR1 : w4.cell? ⟨(w.heap.size + 2), 1, none⟩ = some (.slice none 0 0) := KR.out.cell 1
  have fR1 : w4.frozen? ⟨(w.heap.size + 2), 1, none⟩ = false := KR.out.free 1
  have cR2 : w4.cell? ⟨(w.heap.size + 2), 2, none⟩ = some (.slice none 0 0) := KR.out.cell 2
  have fR2 : w4.frozen? ⟨(w.heap.size + 2), 2, none⟩ = false := KR.out.free 2
  go_wp2
  refine bodyPost_ret (v := .agg #[.bool false, .slice A7 l7 c7, .slice A8 l8 c8]) (by simp [results, Try.results81, go_sem, *]) rfl ?_
  exact ⟨_, rfl, ⟨_, _, _, _, _, _, _, rfl, hneg.out.symm, by rw [HAB.out]; exact HV.out.box3 HNI.out _ _ _ _ _ _ _, by rw [HDN.out]; exact HW.out.box3 HNI.out _ _ _ _ _ _ _⟩, Ext.boxed HX.out (by omega) _ _ _⟩

set_option maxRecDepth 100000 in
set_option maxHeartbeats 2000000 in
theorem frac_neg (s1 : Bool) (A0 A1 : Option Addr) (l0 c0 l1 c1 n0 n1 L : Nat) (w : World) (hx : Z16 w (.slice A0 l0 c0) n0) (hy : Z16 w (.slice A1 l1 c1) n1) (fn : Fit 65536 n0 L) (fm : Fit 65536 n1 L) (hL : L ≤ 400000) (hd : 0 < n1) (hn : 0 < n0) :
    Calls Try.prog 81 #[.agg #[.bool true, .slice A0 l0 c0], .agg #[.bool s1, .slice A1 l1 c1]] w (RetQz w (ratV true n0 n1)) := by
  have HXX := Lib.hid hx
  have HYY := Lib.hid hy
  have HFN := Lib.hid fn
  have HFM := Lib.hid fm
  have HD := Lib.hid hd
  have hg : 0 < Nat.gcd n0 n1 := Nat.gcd_pos_of_pos_right n0 hd
  have hneg : Hid (decide ((ratV true n0 n1).num < 0) = true) := by
    show _ = _
    rw [(ratV_neg true n0 n1 hd).1]
    exact nz_pos _ (by omega)
  have HAB := Lib.hid (ratV_neg true n0 n1 hd).2
  have HDN := Lib.hid (ratV_red true n0 n1 hd).2
  have hq0 : 0 < n0 / Nat.gcd n0 n1 := Nat.div_pos (Nat.le_of_dvd hn (Nat.gcd_dvd_left _ _)) hg
  obtain ⟨g, hge⟩ : ∃ g, Nat.gcd n0 n1 = g := ⟨_, rfl⟩
  obtain ⟨q, hq⟩ : ∃ q, n0 / Nat.gcd n0 n1 = q := ⟨_, rfl⟩
  obtain ⟨r, hr⟩ : ∃ r, n1 / Nat.gcd n0 n1 = r := ⟨_, rfl⟩
  rw [hq] at HAB
  rw [hq] at hq0
  rw [hr] at HDN
  rw [hge] at hq hr hg
  have HGE := Lib.hid hge
  have HQ := Lib.hid hq
  have HR := Lib.hid hr
  have HGP := Lib.hid hg
  clear hx hy fn fm hd hge hq hr hg
  clear hn
  have hXe : Ext w (((w.alloc (.cells #[.bool true, .slice A0 l0 c0] 40)).alloc (.cells #[.bool s1, .slice A1 l1 c1] 40)).alloc (.cells #[.bool false, .slice none 0 0, .slice none 0 0] 42)) := ((((Ext.refl w).alloc _).alloc _).alloc _)
  have kA : Blk (((w.alloc (.cells #[.bool true, .slice A0 l0 c0] 40)).alloc (.cells #[.bool s1, .slice A1 l1 c1] 40)).alloc (.cells #[.bool false, .slice none 0 0, .slice none 0 0] 42)) w.heap.size 40 #[.bool true, .slice A0 l0 c0] := Blk.alloc (Blk.alloc (Blk.at_ (by simp)) _) _
  have kB : Blk (((w.alloc (.cells #[.bool true, .slice A0 l0 c0] 40)).alloc (.cells #[.bool s1, .slice A1 l1 c1] 40)).alloc (.cells #[.bool false, .slice none 0 0, .slice none 0 0] 42)) (w.heap.size + 1) 40 #[.bool s1, .slice A1 l1 c1] := Blk.alloc (Blk.at_ (by simp)) _
  have kR : Blk (((w.alloc (.cells #[.bool true, .slice A0 l0 c0] 40)).alloc (.cells #[.bool s1, .slice A1 l1 c1] 40)).alloc (.cells #[.bool false, .slice none 0 0, .slice none 0 0] 42)) (w.heap.size + 2) 42 #[.bool false, .slice none 0 0, .slice none 0 0] := Blk.at_ (by simp)
  go_enter Try.func81, Try.ntmps81
  go_wp2_with fail
  generalize (((w.alloc (.cells #[.bool true, .slice A0 l0 c0] 40)).alloc (.cells #[.bool s1, .slice A1 l1 c1] 40)).alloc (.cells #[.bool false, .slice none 0 0, .slice none 0 0] 42)) = w1 at hXe kA kB kR ⊢
  have HX := Lib.hid hXe
  clear hXe
  have KA := Lib.hid kA
  clear kA
  have KB := Lib.hid kB
  clear kB
  have KR := Lib.hid kR
  clear kR
  replace HXX := Lib.hid (HXX.out.ext HX.out)
  replace HYY := Lib.hid (HYY.out.ext HX.out)
  have cA0 : w1.cell? ⟨w.heap.size, 0, none⟩ = some (.bool true) := KA.out.cell 0
  have cA1 : w1.cell? ⟨w.heap.size, 1, none⟩ = some (.slice A0 l0 c0) := KA.out.cell 1
  have cB0 : w1.cell? ⟨(w.heap.size + 1), 0, none⟩ = some (.bool s1) := KB.out.cell 0
  have cB1 : w1.cell? ⟨(w.heap.size + 1), 1, none⟩ = some (.slice A1 l1 c1) := KB.out.cell 1
  go_wp2_with fail
  clear cA0 cA1 cB0 cB1
  refine (gcd16_any _ _ n0 n1 L _ HXX.out HYY.out HFN.out HFM.out hL).mono ?_
  rw [HGE.out]
  rintro e w2 ⟨v6, rfl, h6, hX⟩
  replace hX : Ext w1 w2 := by with_reducible exact hX
  replace HX := Lib.hid (HX.out.trans hX)
  replace HXX := Lib.hid (HXX.out.ext hX)
  replace HYY := Lib.hid (HYY.out.ext hX)
  replace KA := Lib.hid (KA.out.ext hX)
  replace KB := Lib.hid (KB.out.ext hX)
  replace KR := Lib.hid (KR.out.ext hX)
  clear hX
  have HG := Lib.hid h6
  clear h6
  have cA0 : w2.cell? ⟨w.heap.size, 0, none⟩ = some (.bool true) := KA.out.cell 0
  have cA1 : w2.cell? ⟨w.heap.size, 1, none⟩ = some (.slice A0 l0 c0) := KA.out.cell 1
  have cB0 : w2.cell? ⟨(w.heap.size + 1), 0, none⟩ = some (.bool s1) := KB.out.cell 0
  have cB1 : w2.cell? ⟨(w.heap.size + 1), 1, none⟩ = some (.slice A1 l1 c1) := KB.out.cell 1
  go_wp2_with fail
  clear cA0 cA1 cB0 cB1
  refine (divide_any _ _ n0 g L _ HXX.out HG.out HFN.out hL HGP.out).mono ?_
  rw [HQ.out]
  rintro e w3 ⟨v7, v7', rfl, h7, h7', hX⟩
  replace hX : Ext w2 w3 := by with_reducible exact hX
  replace HX := Lib.hid (HX.out.trans hX)
  replace HXX := Lib.hid (HXX.out.ext hX)
  replace HYY := Lib.hid (HYY.out.ext hX)
  replace HG := Lib.hid (HG.out.ext hX)
  replace KA := Lib.hid (KA.out.ext hX)
  replace KB := Lib.hid (KB.out.ext hX)
  replace KR := Lib.hid (KR.out.ext hX)
  clear hX
  obtain ⟨A7, l7, c7, rfl, hv7, hz7⟩ := Z16.open h7
  have HV := Lib.hid hv7
  clear h7 h7' hv7
  have hl7 : (0 : Int) < (l7 : Int) := by
    rcases Nat.eq_zero_or_pos l7 with h | h
    · have := hz7.1 h; omega
    · omega
  have hl7' : 0 < l7 := by omega
  clear hz7
  have cA0 : w3.cell? ⟨w.heap.size, 0, none⟩ = some (.bool true) := KA.out.cell 0
  have cA1 : w3.cell? ⟨w.heap.size, 1, none⟩ = some (.slice A0 l0 c0) := KA.out.cell 1
  have cB0 : w3.cell? ⟨(w.heap.size + 1), 0, none⟩ = some (.bool s1) := KB.out.cell 0
  have cB1 : w3.cell? ⟨(w.heap.size + 1), 1, none⟩ = some (.slice A1 l1 c1) := KB.out.cell 1
  go_wp2_with fail
  clear cA0 cA1 cB0 cB1
  refine (divide_any _ _ n1 g L _ HYY.out HG.out HFM.out hL HGP.out).mono ?_
  rw [HR.out]
  rintro e w4 ⟨v8, v8', rfl, h8, h8', hX⟩
  replace hX : Ext w3 w4 := by with_reducible exact hX
  replace HX := Lib.hid (HX.out.trans hX)
  replace HXX := Lib.hid (HXX.out.ext hX)
  replace HYY := Lib.hid (HYY.out.ext hX)
  replace HG := Lib.hid (HG.out.ext hX)
  replace HV := Lib.hid (HV.out.ext hX)
  replace KA := Lib.hid (KA.out.ext hX)
  replace KB := Lib.hid (KB.out.ext hX)
  replace KR := Lib.hid (KR.out.ext hX)
  clear hX
  obtain ⟨A8, l8, c8, rfl, hv8, _⟩ := Z16.open h8
  have HW := Lib.hid hv8
  clear h8 h8' hv8
  have HNI := Lib.hid (NoInts.three KR.out)
  have cA0 : w4.cell? ⟨w.heap.size, 0, none⟩ = some (.bool true) := KA.out.cell 0
  have cA1 : w4.cell? ⟨w.heap.size, 1, none⟩ = some (.slice A0 l0 c0) := KA.out.cell 1
  have cR0 : w4.cell? ⟨(w.heap.size + 2), 0, none⟩ = some (.bool false) := KR.out.cell 0
  have fR0 : w4.frozen? ⟨(w.heap.size + 2), 0, none⟩ = false := KR.out.free 0
  have cR1 : w4.cell? ⟨(w.heap.size + 2), 1, none⟩ = some (.slice none 0 0) := KR.out.cell 1
  have fR1 : w4.frozen? ⟨(w.heap.size + 2), 1, none⟩ = false := KR.out.free 1
  have cR2 : w4.cell? ⟨(w.heap.size + 2), 2, none⟩ = some (.slice none 0 0) := KR.out.cell 2
  have fR2 : w4.frozen? ⟨(w.heap.size + 2), 2, none⟩ = false := KR.out.free 2
  go_wp2
  refine bodyPost_ret (v := .agg #[.bool true, .slice A7 l7 c7, .slice A8 l8 c8]) (by simp [results, Try.results81, go_sem, *]) rfl ?_
  exact ⟨_, rfl, ⟨_, _, _, _, _, _, _, rfl, hneg.out.symm, by rw [HAB.out]; exact HV.out.box3 HNI.out _ _ _ _ _ _ _, by rw [HDN.out]; exact HW.out.box3 HNI.out _ _ _ _ _ _ _⟩, Ext.boxed HX.out (by omega) _ _ _⟩

set_option maxRecDepth 100000 in
set_option maxHeartbeats 2000000 in
theorem frac_zero (s1 : Bool) (A0 A1 : Option Addr) (l0 c0 l1 c1 n0 n1 L : Nat) (w : World) (hx : Z16 w (.slice A0 l0 c0) n0) (hy : Z16 w (.slice A1 l1 c1) n1) (fn : Fit 65536 n0 L) (fm : Fit 65536 n1 L) (hL : L ≤ 400000) (hd : 0 < n1) (hn : n0 = 0) :
    Calls Try.prog 81 #[.agg #[.bool true, .slice A0 l0 c0], .agg #[.bool s1, .slice A1 l1 c1]] w (RetQz w (ratV true n0 n1)) := by
  have HXX := Lib.hid hx
  have HYY := Lib.hid hy
  have HFN := Lib.hid fn
  have HFM := Lib.hid fm
  have HD := Lib.hid hd
  have hg : 0 < Nat.gcd n0 n1 := Nat.gcd_pos_of_pos_right n0 hd
  have hneg : Hid (decide ((ratV true n0 n1).num < 0) = false) := by
    show _ = _
    rw [(ratV_neg true n0 n1 hd).1]
    rw [hn]; rfl
  have HAB := Lib.hid (ratV_neg true n0 n1 hd).2
  have HDN := Lib.hid (ratV_red true n0 n1 hd).2
  have hq0 : n0 / Nat.gcd n0 n1 = 0 := by rw [hn]; simp
  obtain ⟨g, hge⟩ : ∃ g, Nat.gcd n0 n1 = g := ⟨_, rfl⟩
  obtain ⟨q, hq⟩ : ∃ q, n0 / Nat.gcd n0 n1 = q := ⟨_, rfl⟩
  obtain ⟨r, hr⟩ : ∃ r, n1 / Nat.gcd n0 n1 = r := ⟨_, rfl⟩
  rw [hq] at HAB
  rw [hq] at hq0
  rw [hr] at HDN
  rw [hge] at hq hr hg
  have HGE := Lib.hid hge
  have HQ := Lib.hid hq
  have HR := Lib.hid hr
  have HGP := Lib.hid hg
  clear hx hy fn fm hd hge hq hr hg
  clear hn
  have hXe : Ext w (((w.alloc (.cells #[.bool true, .slice A0 l0 c0] 40)).alloc (.cells #[.bool s1, .slice A1 l1 c1] 40)).alloc (.cells #[.bool false, .slice none 0 0, .slice none 0 0] 42)) := ((((Ext.refl w).alloc _).alloc _).alloc _)
  have kA : Blk (((w.alloc (.cells #[.bool true, .slice A0 l0 c0] 40)).alloc (.cells #[.bool s1, .slice A1 l1 c1] 40)).alloc (.cells #[.bool false, .slice none 0 0, .slice none 0 0] 42)) w.heap.size 40 #[.bool true, .slice A0 l0 c0] := Blk.alloc (Blk.alloc (Blk.at_ (by simp)) _) _
  have kB : Blk (((w.alloc (.cells #[.bool true, .slice A0 l0 c0] 40)).alloc (.cells #[.bool s1, .slice A1 l1 c1] 40)).alloc (.cells #[.bool false, .slice none 0 0, .slice none 0 0] 42)) (w.heap.size + 1) 40 #[.bool s1, .slice A1 l1 c1] := Blk.alloc (Blk.at_ (by simp)) _
  have kR : Blk (((w.alloc (.cells #[.bool true, .slice A0 l0 c0] 40)).alloc (.cells #[.bool s1, .slice A1 l1 c1] 40)).alloc (.cells #[.bool false, .slice none 0 0, .slice none 0 0] 42)) (w.heap.size + 2) 42 #[.bool false, .slice none 0 0, .slice none 0 0] := Blk.at_ (by simp)
  go_enter Try.func81, Try.ntmps81
  go_wp2_with fail
  generalize (((w.alloc (.cells #[.bool true, .slice A0 l0 c0] 40)).alloc (.cells #[.bool s1, .slice A1 l1 c1] 40)).alloc (.cells #[.bool false, .slice none 0 0, .slice none 0 0] 42)) = w1 at hXe kA kB kR ⊢
  have HX := Lib.hid hXe
  clear hXe
  have KA := Lib.hid kA
  clear kA
  have KB := Lib.hid kB
  clear kB
  have KR := Lib.hid kR
  clear kR
  replace HXX := Lib.hid (HXX.out.ext HX.out)
  replace HYY := Lib.hid (HYY.out.ext HX.out)
  have cA0 : w1.cell? ⟨w.heap.size, 0, none⟩ = some (.bool true) := KA.out.cell 0
  have cA1 : w1.cell? ⟨w.heap.size, 1, none⟩ = some (.slice A0 l0 c0) := KA.out.cell 1
  have cB0 : w1.cell? ⟨(w.heap.size + 1), 0, none⟩ = some (.bool s1) := KB.out.cell 0
  have cB1 : w1.cell? ⟨(w.heap.size + 1), 1, none⟩ = some (.slice A1 l1 c1) := KB.out.cell 1
  go_wp2_with fail
  clear cA0 cA1 cB0 cB1
  refine (gcd16_any _ _ n0 n1 L _ HXX.out HYY.out HFN.out HFM.out hL).mono ?_
  rw [HGE.out]
  rintro e w2 ⟨v6, rfl, h6, hX⟩
  replace hX : Ext w1 w2 := by with_reducible exact hX
  replace HX := Lib.hid (HX.out.trans hX)
  replace HXX := Lib.hid (HXX.out.ext hX)
  replace HYY := Lib.hid (HYY.out.ext hX)
  replace KA := Lib.hid (KA.out.ext hX)
  replace KB := Lib.hid (KB.out.ext hX)
  replace KR := Lib.hid (KR.out.ext hX)
  clear hX
  have HG := Lib.hid h6
  clear h6
  have cA0 : w2.cell? ⟨w.heap.size, 0, none⟩ = some (.bool true) := KA.out.cell 0
  have cA1 : w2.cell? ⟨w.heap.size, 1, none⟩ = some (.slice A0 l0 c0) := KA.out.cell 1
  have cB0 : w2.cell? ⟨(w.heap.size + 1), 0, none⟩ = some (.bool s1) := KB.out.cell 0
  have cB1 : w2.cell? ⟨(w.heap.size + 1), 1, none⟩ = some (.slice A1 l1 c1) := KB.out.cell 1
  go_wp2_with fail
  clear cA0 cA1 cB0 cB1
  refine (divide_any _ _ n0 g L _ HXX.out HG.out HFN.out hL HGP.out).mono ?_
  rw [HQ.out]
  rintro e w3 ⟨v7, v7', rfl, h7, h7', hX⟩
  replace hX : Ext w2 w3 := by with_reducible exact hX
  replace HX := Lib.hid (HX.out.trans hX)
  replace HXX := Lib.hid (HXX.out.ext hX)
  replace HYY := Lib.hid (HYY.out.ext hX)
  replace HG := Lib.hid (HG.out.ext hX)
  replace KA := Lib.hid (KA.out.ext hX)
  replace KB := Lib.hid (KB.out.ext hX)
  replace KR := Lib.hid (KR.out.ext hX)
  clear hX
  obtain ⟨A7, l7, c7, rfl, hv7, hz7⟩ := Z16.open h7
  have HV := Lib.hid hv7
  clear h7 h7' hv7
  obtain rfl : l7 = 0 := hz7.2 hq0
  clear hz7
  have cA0 : w3.cell? ⟨w.heap.size, 0, none⟩ = some (.bool true) := KA.out.cell 0
  have cA1 : w3.cell? ⟨w.heap.size, 1, none⟩ = some (.slice A0 l0 c0) := KA.out.cell 1
  have cB0 : w3.cell? ⟨(w.heap.size + 1), 0, none⟩ = some (.bool s1) := KB.out.cell 0
  have cB1 : w3.cell? ⟨(w.heap.size + 1), 1, none⟩ = some (.slice A1 l1 c1) := KB.out.cell 1
  go_wp2_with fail
  clear cA0 cA1 cB0 cB1
  refine (divide_any _ _ n1 g L _ HYY.out HG.out HFM.out hL HGP.out).mono ?_
  rw [HR.out]
  rintro e w4 ⟨v8, v8', rfl, h8, h8', hX⟩
  replace hX : Ext w3 w4 := by with_reducible exact hX
  replace HX := Lib.hid (HX.out.trans hX)
  replace HXX := Lib.hid (HXX.out.ext hX)
  replace HYY := Lib.hid (HYY.out.ext hX)
  replace HG := Lib.hid (HG.out.ext hX)
  replace HV := Lib.hid (HV.out.ext hX)
  replace KA := Lib.hid (KA.out.ext hX)
  replace KB := Lib.hid (KB.out.ext hX)
  replace KR := Lib.hid (KR.out.ext hX)
  clear hX
  obtain ⟨A8, l8, c8, rfl, hv8, _⟩ := Z16.open h8
  have HW := Lib.hid hv8
  clear h8 h8' hv8
  have HNI := Lib.hid (NoInts.three KR.out)
  have cA0 : w4.cell? ⟨w.heap.size, 0, none⟩ = some (.bool true) := KA.out.cell 0
  have cA1 : w4.cell? ⟨w.heap.size, 1, none⟩ = some (.slice A0 l0 c0) := KA.out.cell 1
  have cR0 : w4.cell? ⟨(w.heap.size + 2), 0, none⟩ = some (.bool false) := KR.out.cell 0
  have fR0 : w4.frozen? ⟨(w.heap.size + 2), 0, none⟩ = false := KR.out.free 0
  have cR1 : w4.cell? ⟨(w.heap.size + 2), 1, none⟩ = some (.slice none 0 0) := KR.out.cell 1
  have fR1 : w4.frozen? ⟨(w.heap.size + 2), 1, none⟩ = false := KR.out.free 1
  have cR2 : w4.cell? ⟨(w.heap.size + 2), 2, none⟩ = some (.slice none 0 0) := KR.out.cell 2
  have fR2 : w4.frozen? ⟨(w.heap.size + 2), 2, none⟩ = false := KR.out.free 2
  go_wp2
  refine bodyPost_ret (v := .agg #[.bool false, .slice A7 0 c7, .slice A8 l8 c8]) (by simp [results, Try.results81, go_sem, *]) rfl ?_
  exact ⟨_, rfl, ⟨_, _, _, _, _, _, _, rfl, hneg.out.symm, by rw [HAB.out]; exact HV.out.box3 HNI.out _ _ _ _ _ _ _, by rw [HDN.out]; exact HW.out.box3 HNI.out _ _ _ _ _ _ _⟩, Ext.boxed HX.out (by omega) _ _ _⟩


theorem frac_any (s s1 : Bool) (A0 A1 : Option Addr) (l0 c0 l1 c1 n d L : Nat) (w : World) (hx : Z16 w (.slice A0 l0 c0) n) (hy : Z16 w (.slice A1 l1 c1) d) (fn : Fit 65536 n L) (fm : Fit 65536 d L) (hL : L ≤ 400000) (hd : 0 < d) :
    Calls Try.prog 81 #[.agg #[.bool s, .slice A0 l0 c0], .agg #[.bool s1, .slice A1 l1 c1]] w (RetQz w (ratV s n d)) := by
  cases s
  · exact frac_pos s1 A0 A1 l0 c0 l1 c1 n d L w hx hy fn fm hL hd
  · rcases Nat.eq_zero_or_pos n with h | h
    · exact frac_zero s1 A0 A1 l0 c0 l1 c1 n d L w hx hy fn fm hL hd h
    · exact frac_neg s1 A0 A1 l0 c0 l1 c1 n d L w hx hy fn fm hL hd h
theorem fracI (va : Value) (x : Int) (s1 : Bool) (A1 : Option Addr) (l1 c1 d L : Nat) (w : World) (ha : IntZ w va x) (hy : Z16 w (.slice A1 l1 c1) d) (fn : Fit 65536 x.natAbs L) (fm : Fit 65536 d L) (hL : L ≤ 400000) (hd : 0 < d) :
    Calls Try.prog 81 #[va, .agg #[.bool s1, .slice A1 l1 c1]] w (RetQz w (ratV (decide (x < 0)) x.natAbs d)) := by
  obtain ⟨A0, l0, c0, rfl, hx⟩ := ha
  exact frac_any _ s1 A0 A1 l0 c0 l1 c1 _ d L w hx hy fn fm hL hd

end Go.Proofs.Yteoijnaljkagfaa
