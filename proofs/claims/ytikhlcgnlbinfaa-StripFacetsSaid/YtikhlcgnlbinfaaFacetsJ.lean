/- Lemmas of the proof that follows (Facets, part 10): walks of functions by contract, and plain lemmas. Conditions: none. -/
import Derived.Test.YtikhlcgnlbinfaaFacetsI
namespace Go.Proofs.Ytikhlcgnlbinfaa
open Go.RowKit

theorem elS9 : Elem Try.prog 210 263 9 168 (.agg #[.bool false, .slice none 0 0, .slice none 0 0, .bool false, .slice none 0 0, .slice none 0 0, .bool false, .slice none 0 0, .slice none 0 0]) := Elem.mk' (by kernel_rfl) (by kernel_rfl) rfl (by decide)
theorem RowN.make9 {P : World → Value → Rat → Prop} {te : TypeId} {base g n : Nat} {w : World} {us : List Value} (ho : w.ownsRow base te 9 (.slice (some ⟨g, 0, none⟩) n n) n us) (h1 : ∀ i, i < n * 9 → us[i]? = (Value.agg #[.bool false, .slice none 0 0, .slice none 0 0, .bool false, .slice none 0 0, .slice none 0 0, .bool false, .slice none 0 0, .slice none 0 0]).cells[i % 9]?) (h2 : ∀ u ∈ us, u ∈ (Value.agg #[.bool false, .slice none 0 0, .slice none 0 0, .bool false, .slice none 0 0, .slice none 0 0, .bool false, .slice none 0 0, .slice none 0 0]).cells) : RowN P te 9 base w g n n (3 * n) (fun _ => none) :=
  RowN.zero rfl ho h1 h2 (fun u hu => by
    simp [Value.cells] at hu
    rcases hu with rfl | rfl | rfl | rfl | rfl | rfl
    all_goals first | exact noInt_bool _ | exact noInt_slice _ _ _) ⟨3, rfl⟩ (fun i hi => by
    match i, hi with
    | 0, _ => rfl
    | 1, _ => rfl
    | 2, _ => rfl
    | 3, _ => rfl
    | 4, _ => rfl
    | 5, _ => rfl
    | 6, _ => rfl
    | 7, _ => rfl
    | 8, _ => rfl
    | _ + 9, hi => omega) (by omega)
theorem solG_at {n : Nat} {s : GSt} {j : Nat} : solG n s j = if 0 ≤ pivI (s.piv[j]?) then s.tab (pivI (s.piv[j]?)).toNat n else 0 := by
  unfold solG
  split
  · rename_i i hp
    rw [hp]
    simp [pivI]
  · rename_i h
    cases hp : s.piv[j]? with
    | none => rfl
    | some o =>
      cases o with
      | none => rfl
      | some t => exact absurd hp (h t)
theorem pivI_low (o : Option (Option Nat)) : pivI o = -1 ∨ ∃ t : Nat, o = some (some t) ∧ pivI o = (t : Int) := by
  match o with
  | none => exact .inl rfl
  | some none => exact .inl rfl
  | some (some t) => exact .inr ⟨t, rfl, rfl⟩

set_option maxRecDepth 100000 in
set_option maxHeartbeats 2000000 in
theorem solve_r6 (go S jj ss kk : Nat) (w : World) (hss : Hid (jj / 3 = ss)) (hkk : Hid (jj % 3 = kk)) (hs1 : ss < S) (hk3 : (kk : Int) < 3) (_hk4 : kk < 3) (hj : jj ≤ 1000) (a : Act) (Q : Exit → Act → World → Prop) (hsize : 31 ≤ a.tmps.size)
    (s4 : a.tmps[4]? = some (.slice (some ⟨go, 0, none⟩) S S))
    (s5 : a.tmps[5]? = some (.int .i64 (jj : Int)))
    (hend : ∀ (xv0 xv1 xv2 xv3 xv4 xv5 xv6 xv7 : Value) (W : World), (xv0 = .slice (some ⟨go, 0, none⟩) S S) → (xv1 = .int .i64 (jj : Int)) → (xv2 = .int .i64 (ss : Int)) → (xv3 = .int .i64 (jj : Int)) → (xv4 = .int .i64 (kk : Int)) → (NumX W xv5 (((0 : Int) : Rat)) (2)) → (xv6 = .pointer (some ⟨go, ss * 9, none⟩)) → (xv7 = .pointer (some ⟨go, ss * 9 + kk * 3, none⟩)) → Ext w W → wpList Try.prog (rops Try.f124 6).toArray Q ((rops Try.f124 6).drop 8) ((((((((a.put (some 23) xv0).put (some 24) xv1).put (some 25) xv2).put (some 26) xv3).put (some 27) xv4).put (some 28) xv5).put (some 29) xv6).put (some 30) xv7) W) :
    (Code.region 6 (rops Try.f124 6).toArray true).wp Try.prog Q a w := by
  have hmono : ∀ (W W' : World) (j : Nat) (u : Value), Ext W W' → (fun (i : Nat) (v : Value) (W : World) => match i with
    | 0 => v = .slice (some ⟨go, 0, none⟩) S S
    | 1 => v = .int .i64 (jj : Int)
    | 2 => v = .int .i64 (ss : Int)
    | 3 => v = .int .i64 (jj : Int)
    | 4 => v = .int .i64 (kk : Int)
    | 5 => NumX W v (((0 : Int) : Rat)) (2)
    | 6 => v = .pointer (some ⟨go, ss * 9, none⟩)
    | 7 => v = .pointer (some ⟨go, ss * 9 + kk * 3, none⟩)
    | _ => True) j u W → (fun (i : Nat) (v : Value) (W : World) => match i with
    | 0 => v = .slice (some ⟨go, 0, none⟩) S S
    | 1 => v = .int .i64 (jj : Int)
    | 2 => v = .int .i64 (ss : Int)
    | 3 => v = .int .i64 (jj : Int)
    | 4 => v = .int .i64 (kk : Int)
    | 5 => NumX W v (((0 : Int) : Rat)) (2)
    | 6 => v = .pointer (some ⟨go, ss * 9, none⟩)
    | 7 => v = .pointer (some ⟨go, ss * 9 + kk * 3, none⟩)
    | _ => True) j u W' := by
    intro W W' j u hX h
    match j, h with
    | 0, h => exact h
    | 1, h => exact h
    | 2, h => exact h
    | 3, h => exact h
    | 4, h => exact h
    | 5, h => exact NumX.ext h hX
    | 6, h => exact h
    | 7, h => exact h
    | _ + 8, h => exact h
  have hsz : ∀ d, some d ∈ ([some 23, some 24, some 25, some 26, some 27, some 28, some 29, some 30] : List (Option Tmp)) → d < a.tmps.size := slots_lt (by decide) hsize
  refine wp_region_j 8 [some 23, some 24, some 25, some 26, some 27, some 28, some 29, some 30] [[], [], [1], [], [3], [], [0, 2], [4, 6]] [[], [], [], [], [], [], [], []] (fun (i : Nat) (v : Value) (W : World) => match i with
    | 0 => v = .slice (some ⟨go, 0, none⟩) S S
    | 1 => v = .int .i64 (jj : Int)
    | 2 => v = .int .i64 (ss : Int)
    | 3 => v = .int .i64 (jj : Int)
    | 4 => v = .int .i64 (kk : Int)
    | 5 => NumX W v (((0 : Int) : Rat)) (2)
    | 6 => v = .pointer (some ⟨go, ss * 9, none⟩)
    | 7 => v = .pointer (some ⟨go, ss * 9 + kk * 3, none⟩)
    | _ => True) (fun _ W => Ext w W) (by kernel_rfl) (by kernel_rfl) hsz (fun _ _ _ _ h => h) ((Ext.refl w).drew) ?_ ?_
  · clear hend
    simp only [rops, Try.f124, regOf, Option.bind_some, Nat.reduceBEq, if_true, if_false, Bool.false_eq_true, Option.getD_some]
    simp only [List.take_succ_cons, List.take_zero]
    refine ⟨?_, ?_, ?_, ?_, ?_, ?_, ?_, ?_, trivial⟩
    · intro done us W hJ hdep haft hnot b hb hb' K hK Q'
      have e4 := (hb' 4 (by simp)).trans s4
      clear hb hb'
      go_simp
      exact hK _ _ rfl (fun _ _ _ h => h) hJ
    · intro done us W hJ hdep haft hnot b hb hb' K hK Q'
      have e5 := (hb' 5 (by simp)).trans s5
      clear hb hb'
      go_simp
      exact hK _ _ rfl (fun _ _ _ h => h) hJ
    · intro done us W hJ hdep haft hnot b hb hb' K hK Q'
      simp only [List.getD_cons_succ, List.getD_cons_zero, List.mem_cons, List.not_mem_nil, or_false, forall_eq] at hdep
      have e24 := hb 1 24 rfl
      have d1 := hdep
      rw [d1.1] at e24
      clear hb hb' hdep d1
      have qw : IntKind.i64.wrap ((jj : Int) / 3) = (jj : Int) / 3 := IntWalk.i64_in _ (by omega)
      go_simp
      exact hK _ _ (by have := hss.out; congr 1; omega) (fun _ _ _ h => h) hJ
    · intro done us W hJ hdep haft hnot b hb hb' K hK Q'
      have e5 := (hb' 5 (by simp)).trans s5
      clear hb hb'
      go_simp
      exact hK _ _ rfl (fun _ _ _ h => h) hJ
    · intro done us W hJ hdep haft hnot b hb hb' K hK Q'
      simp only [List.getD_cons_succ, List.getD_cons_zero, List.mem_cons, List.not_mem_nil, or_false, forall_eq] at hdep
      have e26 := hb 3 26 rfl
      have d3 := hdep
      rw [d3.1] at e26
      clear hb hb' hdep d3
      have ht : (jj : Int).tmod 3 = (jj : Int) % 3 := Int.tmod_eq_emod_of_nonneg (by omega)
      have qw : IntKind.i64.wrap ((jj : Int) % 3) = (jj : Int) % 3 := IntWalk.i64_in _ (by omega)
      go_simp
      exact hK _ _ (by have := hkk.out; congr 1; omega) (fun _ _ _ h => h) hJ
    · intro done us W hJ hdep haft hnot b hb hb' K hK Q'
      clear hb hb'
      go_simp
      refine (intX 0 _ (by omega) (by omega)).mono ?_
      rintro e w' ⟨v, rfl, hv, hX⟩
      exact hK _ _ hv (fun j u _ h => hmono _ _ j u hX h) (Ext.trans hJ hX)
    · intro done us W hJ hdep haft hnot b hb hb' K hK Q'
      simp only [List.getD_cons_succ, List.getD_cons_zero, List.mem_cons, List.not_mem_nil, or_false, forall_eq_or_imp, forall_eq] at hdep
      have e23 := hb 0 23 rfl
      have e25 := hb 2 25 rfl
      have d0 := hdep.1
      have d2 := hdep.2
      rw [d0.1] at e23
      rw [d2.1] at e25
      clear hb hb' hdep d0 d2
      go_simp
      exact hK _ _ rfl (fun _ _ _ h => h) hJ
    · intro done us W hJ hdep haft hnot b hb hb' K hK Q'
      simp only [List.getD_cons_succ, List.getD_cons_zero, List.mem_cons, List.not_mem_nil, or_false, forall_eq_or_imp, forall_eq] at hdep
      have e27 := hb 4 27 rfl
      have e29 := hb 6 29 rfl
      have d4 := hdep.1
      have d6 := hdep.2
      rw [d4.1] at e27
      rw [d6.1] at e29
      clear hb hb' hdep d4 d6
      go_simp
      exact hK _ _ rfl (fun _ _ _ h => h) hJ
  · intro us W hV hJ
    exact hend (us 0) (us 1) (us 2) (us 3) (us 4) (us 5) (us 6) (us 7) W (hV 0 (by omega)) (hV 1 (by omega)) (hV 2 (by omega)) (hV 3 (by omega)) (hV 4 (by omega)) (hV 5 (by omega)) (hV 6 (by omega)) (hV 7 (by omega)) hJ
set_option maxRecDepth 100000 in
set_option maxHeartbeats 2000000 in
theorem solve_r8 (go S jj ss kk gs gt ct nn tt ga ca gp : Nat) (s9 : Bool) (A9 B9 : Option Addr) (l9 c9 m9 k9 : Nat) (w : World) (hss : Hid (jj / 3 = ss)) (hkk : Hid (jj % 3 = kk)) (hs1 : ss < S) (hk3 : (kk : Int) < 3) (_hk4 : kk < 3) (hj : jj ≤ 1000) (hs : w.cell? ⟨gs, 0, none⟩ = some (.slice (some ⟨gt, 0, none⟩) nn ct)) (ha : w.cell? ⟨gt, tt, none⟩ = some (.slice (some ⟨ga, 0, none⟩) (nn + 1) ca)) (hp : w.cell? ⟨gp, 0, none⟩ = some (.int .i64 (S : Int))) (hqN : IntKind.i64.wrap (3 * (S : Int)) = (nn : Int)) (htt : tt < nn) (_hnn : nn < nn + 1) (hnn2 : (nn : Int) < (nn : Int) + 1) (x0 : w.cell? ⟨ga, nn * 3, none⟩ = some (.bool s9)) (x1 : w.cell? ⟨ga, nn * 3 + 1, none⟩ = some (.slice A9 l9 c9)) (x2 : w.cell? ⟨ga, nn * 3 + 2, none⟩ = some (.slice B9 m9 k9)) (a : Act) (Q : Exit → Act → World → Prop) (hsize : 50 ≤ a.tmps.size)
    (s1 : a.tmps[1]? = some (.pointer (some ⟨gp, 0, none⟩)))
    (s3 : a.tmps[3]? = some (.pointer (some ⟨gs, 0, none⟩)))
    (s4 : a.tmps[4]? = some (.slice (some ⟨go, 0, none⟩) S S))
    (s5 : a.tmps[5]? = some (.int .i64 (jj : Int)))
    (s6 : a.tmps[6]? = some (.int .i64 (tt : Int)))
    (hend : ∀ (xv0 xv1 xv2 xv3 xv4 xv5 xv6 xv7 xv8 xv9 xv10 xv11 xv12 xv13 xv14 xv15 xv16 : Value) (W : World), (xv0 = .slice (some ⟨go, 0, none⟩) S S) → (xv1 = .int .i64 (jj : Int)) → (xv2 = .int .i64 (ss : Int)) → (xv3 = .int .i64 (jj : Int)) → (xv4 = .int .i64 (kk : Int)) → (xv5 = .pointer (some ⟨gs, 0, none⟩)) → (xv6 = .slice (some ⟨gt, 0, none⟩) nn ct) → (xv7 = .int .i64 (tt : Int)) → (xv8 = .pointer (some ⟨gt, tt, none⟩)) → (xv9 = .slice (some ⟨ga, 0, none⟩) (nn + 1) ca) → (xv10 = .pointer (some ⟨gp, 0, none⟩)) → (xv11 = .int .i64 (S : Int)) → (xv12 = .int .i64 (nn : Int)) → (xv13 = .pointer (some ⟨ga, nn * 3, none⟩)) → (xv14 = .agg #[.bool s9, .slice A9 l9 c9, .slice B9 m9 k9]) → (xv15 = .pointer (some ⟨go, ss * 9, none⟩)) → (xv16 = .pointer (some ⟨go, ss * 9 + kk * 3, none⟩)) → Ext w W → wpList Try.prog (rops Try.f124 8).toArray Q ((rops Try.f124 8).drop 17) (((((((((((((((((a.put (some 33) xv0).put (some 34) xv1).put (some 35) xv2).put (some 36) xv3).put (some 37) xv4).put (some 38) xv5).put (some 39) xv6).put (some 40) xv7).put (some 41) xv8).put (some 42) xv9).put (some 43) xv10).put (some 44) xv11).put (some 45) xv12).put (some 46) xv13).put (some 47) xv14).put (some 48) xv15).put (some 49) xv16) W) :
    (Code.region 8 (rops Try.f124 8).toArray true).wp Try.prog Q a w := by
  have hmono : ∀ (W W' : World) (j : Nat) (u : Value), Ext W W' → (fun (i : Nat) (v : Value) (W : World) => match i with
    | 0 => v = .slice (some ⟨go, 0, none⟩) S S
    | 1 => v = .int .i64 (jj : Int)
    | 2 => v = .int .i64 (ss : Int)
    | 3 => v = .int .i64 (jj : Int)
    | 4 => v = .int .i64 (kk : Int)
    | 5 => v = .pointer (some ⟨gs, 0, none⟩)
    | 6 => v = .slice (some ⟨gt, 0, none⟩) nn ct
    | 7 => v = .int .i64 (tt : Int)
    | 8 => v = .pointer (some ⟨gt, tt, none⟩)
    | 9 => v = .slice (some ⟨ga, 0, none⟩) (nn + 1) ca
    | 10 => v = .pointer (some ⟨gp, 0, none⟩)
    | 11 => v = .int .i64 (S : Int)
    | 12 => v = .int .i64 (nn : Int)
    | 13 => v = .pointer (some ⟨ga, nn * 3, none⟩)
    | 14 => v = .agg #[.bool s9, .slice A9 l9 c9, .slice B9 m9 k9]
    | 15 => v = .pointer (some ⟨go, ss * 9, none⟩)
    | 16 => v = .pointer (some ⟨go, ss * 9 + kk * 3, none⟩)
    | _ => True) j u W → (fun (i : Nat) (v : Value) (W : World) => match i with
    | 0 => v = .slice (some ⟨go, 0, none⟩) S S
    | 1 => v = .int .i64 (jj : Int)
    | 2 => v = .int .i64 (ss : Int)
    | 3 => v = .int .i64 (jj : Int)
    | 4 => v = .int .i64 (kk : Int)
    | 5 => v = .pointer (some ⟨gs, 0, none⟩)
    | 6 => v = .slice (some ⟨gt, 0, none⟩) nn ct
    | 7 => v = .int .i64 (tt : Int)
    | 8 => v = .pointer (some ⟨gt, tt, none⟩)
    | 9 => v = .slice (some ⟨ga, 0, none⟩) (nn + 1) ca
    | 10 => v = .pointer (some ⟨gp, 0, none⟩)
    | 11 => v = .int .i64 (S : Int)
    | 12 => v = .int .i64 (nn : Int)
    | 13 => v = .pointer (some ⟨ga, nn * 3, none⟩)
    | 14 => v = .agg #[.bool s9, .slice A9 l9 c9, .slice B9 m9 k9]
    | 15 => v = .pointer (some ⟨go, ss * 9, none⟩)
    | 16 => v = .pointer (some ⟨go, ss * 9 + kk * 3, none⟩)
    | _ => True) j u W' := by
    intro W W' j u hX h
    match j, h with
    | 0, h => exact h
    | 1, h => exact h
    | 2, h => exact h
    | 3, h => exact h
    | 4, h => exact h
    | 5, h => exact h
    | 6, h => exact h
    | 7, h => exact h
    | 8, h => exact h
    | 9, h => exact h
    | 10, h => exact h
    | 11, h => exact h
    | 12, h => exact h
    | 13, h => exact h
    | 14, h => exact h
    | 15, h => exact h
    | 16, h => exact h
    | _ + 17, h => exact h
  have hsz : ∀ d, some d ∈ ([some 33, some 34, some 35, some 36, some 37, some 38, some 39, some 40, some 41, some 42, some 43, some 44, some 45, some 46, some 47, some 48, some 49] : List (Option Tmp)) → d < a.tmps.size := slots_lt (by decide) hsize
  refine wp_region_j 17 [some 33, some 34, some 35, some 36, some 37, some 38, some 39, some 40, some 41, some 42, some 43, some 44, some 45, some 46, some 47, some 48, some 49] [[], [], [1], [], [3], [], [5], [], [6, 7], [8], [], [10], [11], [9, 12], [13], [0, 2], [4, 15]] [[], [], [], [], [], [], [], [], [], [], [], [], [], [], [], [], []] (fun (i : Nat) (v : Value) (W : World) => match i with
    | 0 => v = .slice (some ⟨go, 0, none⟩) S S
    | 1 => v = .int .i64 (jj : Int)
    | 2 => v = .int .i64 (ss : Int)
    | 3 => v = .int .i64 (jj : Int)
    | 4 => v = .int .i64 (kk : Int)
    | 5 => v = .pointer (some ⟨gs, 0, none⟩)
    | 6 => v = .slice (some ⟨gt, 0, none⟩) nn ct
    | 7 => v = .int .i64 (tt : Int)
    | 8 => v = .pointer (some ⟨gt, tt, none⟩)
    | 9 => v = .slice (some ⟨ga, 0, none⟩) (nn + 1) ca
    | 10 => v = .pointer (some ⟨gp, 0, none⟩)
    | 11 => v = .int .i64 (S : Int)
    | 12 => v = .int .i64 (nn : Int)
    | 13 => v = .pointer (some ⟨ga, nn * 3, none⟩)
    | 14 => v = .agg #[.bool s9, .slice A9 l9 c9, .slice B9 m9 k9]
    | 15 => v = .pointer (some ⟨go, ss * 9, none⟩)
    | 16 => v = .pointer (some ⟨go, ss * 9 + kk * 3, none⟩)
    | _ => True) (fun _ W => Ext w W) (by kernel_rfl) (by kernel_rfl) hsz (fun _ _ _ _ h => h) ((Ext.refl w).drew) ?_ ?_
  · clear hend
    simp only [rops, Try.f124, regOf, Option.bind_some, Nat.reduceBEq, if_true, if_false, Bool.false_eq_true, Option.getD_some]
    simp only [List.take_succ_cons, List.take_zero]
    refine ⟨?_, ?_, ?_, ?_, ?_, ?_, ?_, ?_, ?_, ?_, ?_, ?_, ?_, ?_, ?_, ?_, ?_, trivial⟩
    · intro done us W hJ hdep haft hnot b hb hb' K hK Q'
      have e4 := (hb' 4 (by simp)).trans s4
      clear hb hb'
      go_simp
      exact hK _ _ rfl (fun _ _ _ h => h) hJ
    · intro done us W hJ hdep haft hnot b hb hb' K hK Q'
      have e5 := (hb' 5 (by simp)).trans s5
      clear hb hb'
      go_simp
      exact hK _ _ rfl (fun _ _ _ h => h) hJ
    · intro done us W hJ hdep haft hnot b hb hb' K hK Q'
      simp only [List.getD_cons_succ, List.getD_cons_zero, List.mem_cons, List.not_mem_nil, or_false, forall_eq] at hdep
      have e34 := hb 1 34 rfl
      have d1 := hdep
      rw [d1.1] at e34
      clear hb hb' hdep d1
      have qw : IntKind.i64.wrap ((jj : Int) / 3) = (jj : Int) / 3 := IntWalk.i64_in _ (by omega)
      go_simp
      exact hK _ _ (by have := hss.out; congr 1; omega) (fun _ _ _ h => h) hJ
    · intro done us W hJ hdep haft hnot b hb hb' K hK Q'
      have e5 := (hb' 5 (by simp)).trans s5
      clear hb hb'
      go_simp
      exact hK _ _ rfl (fun _ _ _ h => h) hJ
    · intro done us W hJ hdep haft hnot b hb hb' K hK Q'
      simp only [List.getD_cons_succ, List.getD_cons_zero, List.mem_cons, List.not_mem_nil, or_false, forall_eq] at hdep
      have e36 := hb 3 36 rfl
      have d3 := hdep
      rw [d3.1] at e36
      clear hb hb' hdep d3
      have ht : (jj : Int).tmod 3 = (jj : Int) % 3 := Int.tmod_eq_emod_of_nonneg (by omega)
      have qw : IntKind.i64.wrap ((jj : Int) % 3) = (jj : Int) % 3 := IntWalk.i64_in _ (by omega)
      go_simp
      exact hK _ _ (by have := hkk.out; congr 1; omega) (fun _ _ _ h => h) hJ
    · intro done us W hJ hdep haft hnot b hb hb' K hK Q'
      have e3 := (hb' 3 (by simp)).trans s3
      clear hb hb'
      go_simp
      exact hK _ _ rfl (fun _ _ _ h => h) hJ
    · intro done us W hJ hdep haft hnot b hb hb' K hK Q'
      simp only [List.getD_cons_succ, List.getD_cons_zero, List.mem_cons, List.not_mem_nil, or_false, forall_eq] at hdep
      have e38 := hb 5 38 rfl
      have d5 := hdep
      rw [d5.1] at e38
      clear hb hb' hdep d5
      have q := Ext.cell hJ hs
      go_simp
      exact hK _ _ rfl (fun _ _ _ h => h) hJ
    · intro done us W hJ hdep haft hnot b hb hb' K hK Q'
      have e6 := (hb' 6 (by simp)).trans s6
      clear hb hb'
      go_simp
      exact hK _ _ rfl (fun _ _ _ h => h) hJ
    · intro done us W hJ hdep haft hnot b hb hb' K hK Q'
      simp only [List.getD_cons_succ, List.getD_cons_zero, List.mem_cons, List.not_mem_nil, or_false, forall_eq_or_imp, forall_eq] at hdep
      have e39 := hb 6 39 rfl
      have e40 := hb 7 40 rfl
      have d6 := hdep.1
      have d7 := hdep.2
      rw [d6.1] at e39
      rw [d7.1] at e40
      clear hb hb' hdep d6 d7
      go_simp
      exact hK _ _ rfl (fun _ _ _ h => h) hJ
    · intro done us W hJ hdep haft hnot b hb hb' K hK Q'
      simp only [List.getD_cons_succ, List.getD_cons_zero, List.mem_cons, List.not_mem_nil, or_false, forall_eq] at hdep
      have e41 := hb 8 41 rfl
      have d8 := hdep
      rw [d8.1] at e41
      clear hb hb' hdep d8
      have q := Ext.cell hJ ha
      go_simp
      exact hK _ _ rfl (fun _ _ _ h => h) hJ
    · intro done us W hJ hdep haft hnot b hb hb' K hK Q'
      have e1 := (hb' 1 (by simp)).trans s1
      clear hb hb'
      go_simp
      exact hK _ _ rfl (fun _ _ _ h => h) hJ
    · intro done us W hJ hdep haft hnot b hb hb' K hK Q'
      simp only [List.getD_cons_succ, List.getD_cons_zero, List.mem_cons, List.not_mem_nil, or_false, forall_eq] at hdep
      have e43 := hb 10 43 rfl
      have d10 := hdep
      rw [d10.1] at e43
      clear hb hb' hdep d10
      have q := Ext.cell hJ hp
      go_simp
      exact hK _ _ rfl (fun _ _ _ h => h) hJ
    · intro done us W hJ hdep haft hnot b hb hb' K hK Q'
      simp only [List.getD_cons_succ, List.getD_cons_zero, List.mem_cons, List.not_mem_nil, or_false, forall_eq] at hdep
      have e44 := hb 11 44 rfl
      have d11 := hdep
      rw [d11.1] at e44
      clear hb hb' hdep d11
      go_simp
      exact hK _ _ rfl (fun _ _ _ h => h) hJ
    · intro done us W hJ hdep haft hnot b hb hb' K hK Q'
      simp only [List.getD_cons_succ, List.getD_cons_zero, List.mem_cons, List.not_mem_nil, or_false, forall_eq_or_imp, forall_eq] at hdep
      have e42 := hb 9 42 rfl
      have e45 := hb 12 45 rfl
      have d9 := hdep.1
      have d12 := hdep.2
      rw [d9.1] at e42
      rw [d12.1] at e45
      clear hb hb' hdep d9 d12
      go_simp
      exact hK _ _ rfl (fun _ _ _ h => h) hJ
    · intro done us W hJ hdep haft hnot b hb hb' K hK Q'
      simp only [List.getD_cons_succ, List.getD_cons_zero, List.mem_cons, List.not_mem_nil, or_false, forall_eq] at hdep
      have e46 := hb 13 46 rfl
      have d13 := hdep
      rw [d13.1] at e46
      clear hb hb' hdep d13
      have z0 := Ext.cell hJ x0
      have z1 := Ext.cell hJ x1
      have z2 := Ext.cell hJ x2
      go_simp
      exact hK _ _ rfl (fun _ _ _ h => h) hJ
    · intro done us W hJ hdep haft hnot b hb hb' K hK Q'
      simp only [List.getD_cons_succ, List.getD_cons_zero, List.mem_cons, List.not_mem_nil, or_false, forall_eq_or_imp, forall_eq] at hdep
      have e33 := hb 0 33 rfl
      have e35 := hb 2 35 rfl
      have d0 := hdep.1
      have d2 := hdep.2
      rw [d0.1] at e33
      rw [d2.1] at e35
      clear hb hb' hdep d0 d2
      go_simp
      exact hK _ _ rfl (fun _ _ _ h => h) hJ
    · intro done us W hJ hdep haft hnot b hb hb' K hK Q'
      simp only [List.getD_cons_succ, List.getD_cons_zero, List.mem_cons, List.not_mem_nil, or_false, forall_eq_or_imp, forall_eq] at hdep
      have e37 := hb 4 37 rfl
      have e48 := hb 15 48 rfl
      have d4 := hdep.1
      have d15 := hdep.2
      rw [d4.1] at e37
      rw [d15.1] at e48
      clear hb hb' hdep d4 d15
      go_simp
      exact hK _ _ rfl (fun _ _ _ h => h) hJ
  · intro us W hV hJ
    exact hend (us 0) (us 1) (us 2) (us 3) (us 4) (us 5) (us 6) (us 7) (us 8) (us 9) (us 10) (us 11) (us 12) (us 13) (us 14) (us 15) (us 16) W (hV 0 (by omega)) (hV 1 (by omega)) (hV 2 (by omega)) (hV 3 (by omega)) (hV 4 (by omega)) (hV 5 (by omega)) (hV 6 (by omega)) (hV 7 (by omega)) (hV 8 (by omega)) (hV 9 (by omega)) (hV 10 (by omega)) (hV 11 (by omega)) (hV 12 (by omega)) (hV 13 (by omega)) (hV 14 (by omega)) (hV 15 (by omega)) (hV 16 (by omega)) hJ
set_option maxRecDepth 100000 in
set_option maxHeartbeats 16000000 in
theorem solve_ok (S : Nat) (A : Option Addr) (n c : Nat) (ms : List Mt) (w : World) (h : MsAt w A n ms) (hv : VP S ms) :
    Calls Try.prog 124 #[.agg #[.int .i64 (S : Int), .slice A n c]] w (fun e w' => ∃ go, e = .returned (.slice (some ⟨go, 0, none⟩) S S) ∧ w.heap.size ≤ go ∧ ShP (fun w v q => NumX w v q 53) w' go 0 S (solP (3 * S) ms) ∧ Ext w w') := by
  have hS1 : 1 ≤ S := by have := hv.1; omega
  have hS8 : S ≤ 8 := by have := hv.2.1; omega
  obtain ⟨nn, hN⟩ : ∃ nn, nn = 3 * S := ⟨_, rfl⟩
  have hNb : nn ≤ 24 := by omega
  have hqN : IntKind.i64.wrap (3 * (S : Int)) = (nn : Int) := by rw [IntWalk.i64_in _ (by omega)]; omega
  have hfit := fun j hj i hi c hc => redG_fit hv.2.2.2 hv.2.2.1 hNb j hj i hi c hc
  have HFIT := Lib.hid hfit
  have H := Lib.hid h
  have HV := Lib.hid hv
  have HNN := Lib.hid hN
  rw [← hN]
  clear h hv hN hfit
  have hXe : Ext w (w.alloc (.cells #[.int .i64 (S : Int), .slice A n c] 76)) := (Ext.refl w).alloc _
  have kP : Blk (w.alloc (.cells #[.int .i64 (S : Int), .slice A n c] 76)) w.heap.size 76 #[.int .i64 (S : Int), .slice A n c] := Blk.new w _ _
  go_enter Try.func124, Try.ntmps124
  go_upto_region 1 with (fail)
  generalize w.alloc (.cells #[.int .i64 (S : Int), .slice A n c] 76) = w1 at hXe kP ⊢
  have HX := Lib.hid hXe
  have HP := Lib.hid kP
  have p0 := kP.cell 0
  have p1 := kP.cell 1
  have hpl := kP.lt
  simp only [List.getElem?_toArray, List.getElem?_cons_zero, List.getElem?_cons_succ] at p0 p1
  clear hXe kP
  go_wp2_with fail
  refine (build_ok S nn A n c ms _ (H.out.ext HX.out) HV.out HNN.out).mono ?_
  rintro e w2 ⟨gt, ct, vs0, rfl, hT, hct, hX⟩
  replace HX := Lib.hid (HX.out.trans hX)
  replace HP := Lib.hid (HP.out.ext hX)
  have hT53 : TabG 3 (Tri fun w v q => NumX w v q 53) 217 226 w1.heap.size w2 gt ct nn (nn + 1) vs0 (tabM ms nn) := hT.impl (fun i j cs _ _ hc => by
    obtain ⟨s, A, l, c, B, m, k, e, hx⟩ := hc
    exact ⟨s, A, l, c, B, m, k, e, hx.mono (by omega)⟩)
  have HT := Lib.hid hT53
  have hX2 := hX.size
  clear hT hX p0 p1 hT53
  go_upto_region 2 with (fail)
  have hXa : Ext w2 (w2.alloc (.cells #[.slice (some ⟨gt, 0, none⟩) nn ct] 201)) := (Ext.refl _).alloc _
  have kB := Blk.new w2 201 #[.slice (some ⟨gt, 0, none⟩) nn ct]
  replace HX := Lib.hid (HX.out.trans hXa)
  replace HP := Lib.hid (HP.out.ext hXa)
  have HL := Lib.hid HT.out.tabL_low
  replace HT := Lib.hid (HT.out.ext (kindNum 53) hXa)
  clear hXa
  generalize w2.alloc (.cells #[.slice (some ⟨gt, 0, none⟩) nn ct] 201) = w3 at kB HX HP HT ⊢
  have hgs : w.heap.size < w2.heap.size := by omega
  have hLS : ∀ g ∈ tabL gt vs0, w.heap.size < g ∧ g < w2.heap.size := fun g hg => by have := HL.out g hg; omega
  generalize w2.heap.size = gs at kB hgs hLS hX2 ⊢
  have HB := Lib.hid kB
  have HLS := Lib.hid hLS
  have hbl := kB.lt
  clear kB hLS HL
  have p0 := HP.out.cell 0
  simp only [List.getElem?_toArray, List.getElem?_cons_zero] at p0
  have hxs := HX.out.size
  go_upto_region 3 with (at_make; refine wpList_mkS w3 elS9 rfl _ _ rfl w.heap.size _ _ _ _ S S rfl rfl (by first | rfl | omega) (by first | rfl | omega) (Nat.le_refl _) (by omega) (by unfold maxLen; omega) hxs ?_; intro w4 us hown hz1 hz2 hext hsz)
  have hrow : RowN (fun w v q => NumX w v q 53) 263 9 w.heap.size w4 w3.heap.size S S (3 * S) (fun _ => none) := RowN.make9 hown hz1 hz2
  replace HX := Lib.hid (HX.out.trans hext)
  replace HP := Lib.hid (HP.out.ext hext)
  replace HB := Lib.hid (HB.out.ext hext)
  replace HT := Lib.hid (HT.out.ext (kindNum 53) hext)
  generalize w3.heap.size = go at hrow hbl hsz hxs ⊢
  have HR := Lib.hid hrow
  clear hrow hown hz1 hz2 hext p0
  have p0 := HP.out.cell 0
  have b0 := HB.out.cell 0
  simp only [List.getElem?_toArray, List.getElem?_cons_zero] at p0 b0
  have hsx := HX.out.size
  go_wp2_with fail
  refine (reduce_v 53 w1.heap.size gt ct nn vs0 (tabM ms nn) w4 HT.out (by omega) HFIT.out (by omega) (by omega)).mono ?_
  rintro e w5 ⟨gp, rfl, hgp, ⟨up, hup, hpn⟩, ⟨vs, hsub, hT⟩, hk⟩
  clear p0 b0
  have hni : ∀ g ∈ tabL gt vs0, NoInts w4 g := fun g hg => by
    rcases HT.out.ni with h | h
    · omega
    · rcases List.mem_cons.1 hg with rfl | hg
      · exact h.2
      · obtain ⟨v, hv, hvg⟩ := List.mem_filterMap.1 hg
        exact h.1 v hv g hvg
  replace HX := Lib.hid (hk.ext HX.out (fun g hg => by have := HLS.out g hg; omega))
  replace HP := Lib.hid (HP.out.keeps hk (fun hg => by have := HLS.out _ hg; omega))
  replace HB := Lib.hid (HB.out.keeps hk (fun hg => by have := HLS.out _ hg; omega))
  replace HR := Lib.hid (HR.out.keeps (staysNum 53) hk hni (fun hg => by have := HLS.out _ hg; omega))
  replace HT := Lib.hid hT
  have HPR : Hid (RowI w4.heap.size w5 gp nn nn (fun j => pivI ((redG nn (tabM ms nn) nn).piv[j]?))) := Lib.hid ⟨up, hup, hpn⟩
  have hps : go < w4.heap.size := by have := hsz; omega
  have HPL : Hid (∀ j, j < nn → ∀ t, (redG nn (tabM ms nn) nn).piv[j]? = some (some t) → t < nn) := Lib.hid (fun j hj t ht => by
    have h1 := Stage.pivtop (n := nn) (T := tabM ms nn) nn j t ht
    have h2 := redG_top nn (tabM ms nn) nn
    omega)
  have HSUB := Lib.hid hsub
  have HNG := Lib.hid HR.out.ni
  clear hT hup hpn hk hni hsub HFIT
  go_wp2_with fail
  go_loopg [18] nn (fun f iv wr => ∃ j : Nat, f = nn - j ∧ j ≤ nn ∧ iv = .int .i64 (j : Int) ∧ Hid (RowN (fun w v q => NumX w v q 53) 263 9 w.heap.size wr go S S (3 * S) (fun u => if u < j then some (solP nn ms u) else none)) ∧ Hid (Ext w wr) ∧ Hid (Keeps [go] w5 wr))
  case atStart => exact ⟨0, by omega, by omega, rfl, Lib.hid (HR.out.congr (fun u _ => by rw [if_neg (by omega)])), HX, Lib.hid (Keeps.refl _ _)⟩
  case round =>
    clear HR HX
    obtain ⟨j, rfl, hj, rfl, HR, HX, HK⟩ := hrel
    by_cases hlt : j < nn
    · have q1 : decide (j < nn) = true := decide_eq_true hlt
      obtain ⟨ss, hss⟩ : ∃ ss, j / 3 = ss := ⟨_, rfl⟩
      obtain ⟨kk, hkk⟩ : ∃ kk, j % 3 = kk := ⟨_, rfl⟩
      have hkk3 : kk < 3 := by omega
      have hssS : ss < S := by have := HNN.out; omega
      have hpj : ss * 9 + kk * 3 = j * 3 := by omega
      have hj3 : j < 3 * S := by have := HNN.out; omega
      have HSS := Lib.hid hss
      have HKK := Lib.hid hkk
      have HPJ := Lib.hid hpj
      clear hss hkk hpj
      have hpr := HPR.out.keeps HK.out (by simp; omega)
      have xg := hpr.cell hlt
      obtain ⟨pj, hpj⟩ : ∃ pj, pivI ((redG nn (tabM ms nn) nn).piv[j]?) = pj := ⟨_, rfl⟩
      rw [hpj] at xg
      have HPV := Lib.hid hpj
      clear hpr hpj
      go_upto_region 6 with (fail)
      refine solve_r6 go S j ss kk wr HSS.out HKK.out hssS (by omega) hkk3 (by omega) _ _ (by simp) rfl rfl ?_
      rintro xv0 xv1 xv2 xv3 xv4 xv5 xv6 xv7 W rfl rfl rfl rfl rfl hv rfl rfl hX
      simp only [rops, Try.f124, regOf, Option.bind_some, Nat.reduceBEq, if_true, if_false, Bool.false_eq_true, Option.getD_some, List.drop_succ_cons, List.drop_zero]
      simp only [Act.put, List.setIfInBounds_toArray, List.set_cons_succ, List.set_cons_zero]
      replace HR := Lib.hid (HR.out.ext (staysNum 53) hX)
      replace HX := Lib.hid (HX.out.trans hX)
      replace HK := Lib.hid (HK.out.trans (Keeps.of_ext hX _))
      clear xg hX
      obtain ⟨s4, A4, l4, c4, B4, m4, k4, rfl⟩ := NumX.open hv
      have HN := Lib.hid (hv.mono (show 2 ≤ 53 by omega))
      clear hv
      obtain ⟨s2, A2, l2, c2, B2, m2, k2, x0, x1, x2, _⟩ := HR.out.cells hj3 HPJ.out
      have f0 := HR.out.free (ss * 9 + kk * 3)
      have f1 := HR.out.free (ss * 9 + kk * 3 + 1)
      have f2 := HR.out.free (ss * 9 + kk * 3 + 2)
      go_upto_region 7 with (fail)
      clear x0 x1 x2 f0 f1 f2
      have hput := HR.out.put (staysNum 53) hj3 HPJ.out HN.out
      replace HK := Lib.hid (((HK.out.setCell (p := ⟨go, ss * 9 + kk * 3, none⟩) (.inl (by simp)) (.bool s4)).setCell (p := ⟨go, ss * 9 + kk * 3 + 1, none⟩) (.inl (by simp)) (.slice A4 l4 c4)).setCell (p := ⟨go, ss * 9 + kk * 3 + 2, none⟩) (.inl (by simp)) (.slice B4 m4 k4))
      replace HX := Lib.hid (((HX.out.setCell (p := ⟨go, ss * 9 + kk * 3, none⟩) (by simp only; omega) (.bool s4)).setCell (p := ⟨go, ss * 9 + kk * 3 + 1, none⟩) (by simp only; omega) (.slice A4 l4 c4)).setCell (p := ⟨go, ss * 9 + kk * 3 + 2, none⟩) (by simp only; omega) (.slice B4 m4 k4))
      clear HN HR
      generalize ((W.setCell ⟨go, ss * 9 + kk * 3, none⟩ (.bool s4)).setCell ⟨go, ss * 9 + kk * 3 + 1, none⟩ (.slice A4 l4 c4)).setCell ⟨go, ss * 9 + kk * 3 + 2, none⟩ (.slice B4 m4 k4) = wa at hput HK HX ⊢
      have HR := Lib.hid hput
      clear hput
      have HSOL : Hid (solP nn ms j = if 0 ≤ pj then (redG nn (tabM ms nn) nn).tab pj.toNat nn else 0) := Lib.hid (by unfold solP; rw [solG_at, HPV.out])
      rcases pivI_low ((redG nn (tabM ms nn) nn).piv[j]?) with hp | ⟨t, hp1, hp2⟩
      · obtain rfl : pj = -1 := by rw [← HPV.out]; exact hp
        have HS0 : Hid (solP nn ms j = 0) := Lib.hid (by rw [HSOL.out, if_neg (by omega)])
        clear hp
        go_wp2
        go_roundg (nn - (j + 1))
        case rel =>
          refine ⟨j + 1, rfl, by omega, by go_num, Lib.hid (HR.out.congr (fun u _ => ?_)), HX, HK⟩
          by_cases e : u = j
          · rw [if_pos e, e, if_pos (by omega), HS0.out]; rfl
          · rw [if_neg e]
            by_cases h2 : u < j
            · rw [if_pos h2, if_pos (by omega)]
            · rw [if_neg h2, if_neg (by omega)]
        case measure => omega
      · obtain rfl : pj = (t : Int) := by rw [← HPV.out]; exact hp2
        have htn := HPL.out j hlt t hp1
        have HS0 : Hid (solP nn ms j = (redG nn (tabM ms nn) nn).tab t nn) := Lib.hid (by rw [HSOL.out, if_pos (by omega), Int.toNat_natCast])
        clear hp1 hp2
        have hTW := HT.out.keeps (kindNum 53) HK.out (fun g hg => by simp at hg; subst hg; exact HNG.out) (fun g hg => by
          simp at hg
          subst hg
          refine ⟨?_, fun v hv e => ?_⟩
          · have := HLS.out gt (inL_tab gt vs0).1; omega
          · have := HLS.out g ((inL_tab gt vs0).2 v (HSUB.out v hv) g e); omega)
        obtain ⟨ga, ca, ra, tca, hva, hoa, hra, ha1, ha2, hat, ha3, ha4⟩ := hTW.row (by decide) (Nat.succ_pos _) htn
        obtain ⟨s9, A9, l9, c9, B9, m9, k9, x0, x1, x2, hx⟩ := hra.three (Nat.lt_succ_self nn)
        replace x0 := own_cell hoa x0
        replace x1 := own_cell hoa x1
        replace x2 := own_cell hoa x2
        rw [← HS0.out] at hx
        have HN := Lib.hid hx
        have hbw := HB.out.keeps HK.out (by simp; omega)
        have hpw := HP.out.keeps HK.out (by simp; omega)
        clear hTW hva hoa hra ha1 ha2 hat ha3 ha4 hx
        have q7 : decide ((0 : Int) ≤ (t : Int)) = true := decide_eq_true (by omega)
        go_upto_region 8 with (fail)
        refine solve_r8 go S j ss kk gs gt ct nn t ga ca w.heap.size s9 A9 B9 l9 c9 m9 k9 wa HSS.out HKK.out hssS (by omega) hkk3 (by omega) (hbw.cell 0) tca (hpw.cell 0) hqN htn (Nat.lt_succ_self nn) (by omega) x0 x1 x2 _ _ (by simp) rfl rfl rfl rfl rfl ?_
        rintro xv0 xv1 xv2 xv3 xv4 xv5 xv6 xv7 xv8 xv9 xv10 xv11 xv12 xv13 xv14 xv15 xv16 W rfl rfl rfl rfl rfl rfl rfl rfl rfl rfl rfl rfl rfl rfl rfl rfl rfl hX
        simp only [rops, Try.f124, regOf, Option.bind_some, Nat.reduceBEq, if_true, if_false, Bool.false_eq_true, Option.getD_some, List.drop_succ_cons, List.drop_zero]
        simp only [Act.put, List.setIfInBounds_toArray, List.set_cons_succ, List.set_cons_zero]
        replace HR := Lib.hid (HR.out.ext (staysNum 53) hX)
        replace HX := Lib.hid (HX.out.trans hX)
        replace HK := Lib.hid (HK.out.trans (Keeps.of_ext hX _))
        replace HN := Lib.hid (HN.out.ext hX)
        clear x0 x1 x2 tca hbw hpw hX
        obtain ⟨s2, A2, l2, c2, B2, m2, k2, x0, x1, x2, _⟩ := HR.out.cells hj3 HPJ.out
        have f0 := HR.out.free (ss * 9 + kk * 3)
        have f1 := HR.out.free (ss * 9 + kk * 3 + 1)
        have f2 := HR.out.free (ss * 9 + kk * 3 + 2)
        have hput := HR.out.put (staysNum 53) hj3 HPJ.out HN.out
        have HPUT := Lib.hid hput
        clear hput
        go_wp2
        go_roundg (nn - (j + 1))
        case rel =>
          refine ⟨j + 1, rfl, by omega, by go_num, Lib.hid (HPUT.out.congr (fun u _ => ?_)), Lib.hid (((HX.out.setCell (by simp only; omega) _).setCell (by simp only; omega) _).setCell (by simp only; omega) _), Lib.hid (((HK.out.setCell (.inl (by simp)) _).setCell (.inl (by simp)) _).setCell (.inl (by simp)) _)⟩
          by_cases e : u = j
          · rw [if_pos e, e, if_pos (by omega)]
          · rw [if_neg e, if_neg e]
            by_cases h2 : u < j
            · rw [if_pos h2, if_pos (by omega)]
            · rw [if_neg h2, if_neg (by omega)]
        case measure => omega
    · obtain rfl : nn = j := by omega
      go_wp2
      go_ret
      exact ⟨go, rfl, by omega, HR.out.shp (fun u hu => by rw [if_pos (by have := HNN.out; omega)]), HX.out⟩

end Go.Proofs.Ytikhlcgnlbinfaa
namespace Go.Proofs.Ytikhlcgnlbinfaa
open Go.RowKit

theorem elR9 : Elem Try.prog 91 98 9 168 (.agg #[.bool false, .slice none 0 0, .slice none 0 0, .bool false, .slice none 0 0, .slice none 0 0, .bool false, .slice none 0 0, .slice none 0 0]) := Elem.mk' (by kernel_rfl) (by kernel_rfl) rfl (by decide)
theorem pick_agg {P : World → Value → Rat → Prop} {w : World} {k : Nat} (hk : k < 3) {s0 s1 s2 : Bool} {A0 A1 A2 B0 B1 B2 : Option Addr} {l0 c0 m0 k0 l1 c1 m1 k1 l2 c2 m2 k2 : Nat} {q : Nat → Rat} (h0 : P w (.agg #[.bool s0, .slice A0 l0 c0, .slice B0 m0 k0]) (q 0)) (h1 : P w (.agg #[.bool s1, .slice A1 l1 c1, .slice B1 m1 k1]) (q 1)) (h2 : P w (.agg #[.bool s2, .slice A2 l2 c2, .slice B2 m2 k2]) (q 2)) :
    ∃ s A l c B m n, pick3 (Value.bool s0) (Value.bool s1) (Value.bool s2) k = .bool s ∧ pick3 (Value.slice A0 l0 c0) (Value.slice A1 l1 c1) (Value.slice A2 l2 c2) k = .slice A l c ∧ pick3 (Value.slice B0 m0 k0) (Value.slice B1 m1 k1) (Value.slice B2 m2 k2) k = .slice B m n ∧ P w (.agg #[.bool s, .slice A l c, .slice B m n]) (q k) := by
  match k, hk with
  | 0, _ => exact ⟨_, _, _, _, _, _, _, rfl, rfl, rfl, h0⟩
  | 1, _ => exact ⟨_, _, _, _, _, _, _, rfl, rfl, rfl, h1⟩
  | 2, _ => exact ⟨_, _, _, _, _, _, _, rfl, rfl, rfl, h2⟩
  | _ + 3, hk => omega

theorem idx9N (x0 x1 x2 x3 x4 x5 x6 x7 x8 : Value) {k : Nat} (hk : k < 3) (w : World) : (Instr.index 263 (.agg #[x0, x1, x2, x3, x4, x5, x6, x7, x8]) (.int .i64 (k : Int))).run Try.prog w = .ok (.agg #[pick3 x0 x3 x6 k, pick3 x1 x4 x7 k, pick3 x2 x5 x8 k]) w := by
  have i0 : ∀ w : World, (Instr.index 263 (.agg #[x0, x1, x2, x3, x4, x5, x6, x7, x8]) (.int .i64 0)).run Try.prog w = .ok (.agg #[x0, x1, x2]) w := fun _ => by kernel_rfl
  have i1 : ∀ w : World, (Instr.index 263 (.agg #[x0, x1, x2, x3, x4, x5, x6, x7, x8]) (.int .i64 1)).run Try.prog w = .ok (.agg #[x3, x4, x5]) w := fun _ => by kernel_rfl
  have i2 : ∀ w : World, (Instr.index 263 (.agg #[x0, x1, x2, x3, x4, x5, x6, x7, x8]) (.int .i64 2)).run Try.prog w = .ok (.agg #[x6, x7, x8]) w := fun _ => by kernel_rfl
  match k, hk with
  | 0, _ => exact i0 w
  | 1, _ => exact i1 w
  | 2, _ => exact i2 w
  | _ + 3, hk => omega

theorem idx9R (x0 x1 x2 x3 x4 x5 x6 x7 x8 : Value) {k : Nat} (hk : k < 3) (w : World) : (Instr.index 98 (.agg #[x0, x1, x2, x3, x4, x5, x6, x7, x8]) (.int .i64 (k : Int))).run Try.prog w = .ok (.agg #[pick3 x0 x3 x6 k, pick3 x1 x4 x7 k, pick3 x2 x5 x8 k]) w := by
  have i0 : ∀ w : World, (Instr.index 98 (.agg #[x0, x1, x2, x3, x4, x5, x6, x7, x8]) (.int .i64 0)).run Try.prog w = .ok (.agg #[x0, x1, x2]) w := fun _ => by kernel_rfl
  have i1 : ∀ w : World, (Instr.index 98 (.agg #[x0, x1, x2, x3, x4, x5, x6, x7, x8]) (.int .i64 1)).run Try.prog w = .ok (.agg #[x3, x4, x5]) w := fun _ => by kernel_rfl
  have i2 : ∀ w : World, (Instr.index 98 (.agg #[x0, x1, x2, x3, x4, x5, x6, x7, x8]) (.int .i64 2)).run Try.prog w = .ok (.agg #[x6, x7, x8]) w := fun _ => by kernel_rfl
  match k, hk with
  | 0, _ => exact i0 w
  | 1, _ => exact i1 w
  | 2, _ => exact i2 w
  | _ + 3, hk => omega

set_option maxRecDepth 100000 in
set_option maxHeartbeats 2000000 in
theorem done9_r11 (go S ss kk gr : Nat) (sy : Bool) (Ay By : Option Addr) (ly cy my ky : Nat) (w : World) (x0 : w.cell? ⟨gr, 0, none⟩ = some (.bool sy)) (x1 : w.cell? ⟨gr, 1, none⟩ = some (.slice Ay ly cy)) (x2 : w.cell? ⟨gr, 2, none⟩ = some (.slice By my ky)) (hs1 : ss < S) (hk3 : (kk : Int) < 3) (_hk4 : kk < 3) (a : Act) (Q : Exit → Act → World → Prop) (hsize : 40 ≤ a.tmps.size)
    (s4 : a.tmps[4]? = some (.slice (some ⟨go, 0, none⟩) S S))
    (s5 : a.tmps[5]? = some (.int .i64 (ss : Int)))
    (s7 : a.tmps[7]? = some (.int .i64 (kk : Int)))
    (s9 : a.tmps[9]? = some (.pointer (some ⟨gr, 0, none⟩)))
    (hend : ∀ (xv0 xv1 xv2 xv3 xv4 xv5 : Value) (W : World), (xv0 = .slice (some ⟨go, 0, none⟩) S S) → (xv1 = .int .i64 (ss : Int)) → (xv2 = .int .i64 (kk : Int)) → (xv3 = .agg #[.bool sy, .slice Ay ly cy, .slice By my ky]) → (xv4 = .pointer (some ⟨go, ss * 9, none⟩)) → (xv5 = .pointer (some ⟨go, ss * 9 + kk * 3, none⟩)) → Ext w W → wpList Try.prog (rops Try.f125 11).toArray Q ((rops Try.f125 11).drop 6) ((((((a.put (some 34) xv0).put (some 35) xv1).put (some 36) xv2).put (some 37) xv3).put (some 38) xv4).put (some 39) xv5) W) :
    (Code.region 11 (rops Try.f125 11).toArray true).wp Try.prog Q a w := by
  have hmono : ∀ (W W' : World) (j : Nat) (u : Value), Ext W W' → (fun (i : Nat) (v : Value) (W : World) => match i with
    | 0 => v = .slice (some ⟨go, 0, none⟩) S S
    | 1 => v = .int .i64 (ss : Int)
    | 2 => v = .int .i64 (kk : Int)
    | 3 => v = .agg #[.bool sy, .slice Ay ly cy, .slice By my ky]
    | 4 => v = .pointer (some ⟨go, ss * 9, none⟩)
    | 5 => v = .pointer (some ⟨go, ss * 9 + kk * 3, none⟩)
    | _ => True) j u W → (fun (i : Nat) (v : Value) (W : World) => match i with
    | 0 => v = .slice (some ⟨go, 0, none⟩) S S
    | 1 => v = .int .i64 (ss : Int)
    | 2 => v = .int .i64 (kk : Int)
    | 3 => v = .agg #[.bool sy, .slice Ay ly cy, .slice By my ky]
    | 4 => v = .pointer (some ⟨go, ss * 9, none⟩)
    | 5 => v = .pointer (some ⟨go, ss * 9 + kk * 3, none⟩)
    | _ => True) j u W' := by
    intro W W' j u hX h
    match j, h with
    | 0, h => exact h
    | 1, h => exact h
    | 2, h => exact h
    | 3, h => exact h
    | 4, h => exact h
    | 5, h => exact h
    | _ + 6, h => exact h
  have hsz : ∀ d, some d ∈ ([some 34, some 35, some 36, some 37, some 38, some 39] : List (Option Tmp)) → d < a.tmps.size := slots_lt (by decide) hsize
  refine wp_region_j 6 [some 34, some 35, some 36, some 37, some 38, some 39] [[], [], [], [], [0, 1], [2, 4]] [[], [], [], [], [], []] (fun (i : Nat) (v : Value) (W : World) => match i with
    | 0 => v = .slice (some ⟨go, 0, none⟩) S S
    | 1 => v = .int .i64 (ss : Int)
    | 2 => v = .int .i64 (kk : Int)
    | 3 => v = .agg #[.bool sy, .slice Ay ly cy, .slice By my ky]
    | 4 => v = .pointer (some ⟨go, ss * 9, none⟩)
    | 5 => v = .pointer (some ⟨go, ss * 9 + kk * 3, none⟩)
    | _ => True) (fun _ W => Ext w W) (by kernel_rfl) (by kernel_rfl) hsz (fun _ _ _ _ h => h) ((Ext.refl w).drew) ?_ ?_
  · clear hend
    simp only [rops, Try.f125, regOf, Option.bind_some, Nat.reduceBEq, if_true, if_false, Bool.false_eq_true, Option.getD_some]
    simp only [List.take_succ_cons, List.take_zero]
    refine ⟨?_, ?_, ?_, ?_, ?_, ?_, trivial⟩
    · intro done us W hJ hdep haft hnot b hb hb' K hK Q'
      have e4 := (hb' 4 (by simp)).trans s4
      clear hb hb'
      go_simp
      exact hK _ _ rfl (fun _ _ _ h => h) hJ
    · intro done us W hJ hdep haft hnot b hb hb' K hK Q'
      have e5 := (hb' 5 (by simp)).trans s5
      clear hb hb'
      go_simp
      exact hK _ _ rfl (fun _ _ _ h => h) hJ
    · intro done us W hJ hdep haft hnot b hb hb' K hK Q'
      have e7 := (hb' 7 (by simp)).trans s7
      clear hb hb'
      go_simp
      exact hK _ _ rfl (fun _ _ _ h => h) hJ
    · intro done us W hJ hdep haft hnot b hb hb' K hK Q'
      have e9 := (hb' 9 (by simp)).trans s9
      clear hb hb'
      have z0 := Ext.cell hJ x0
      have z1 := Ext.cell hJ x1
      have z2 := Ext.cell hJ x2
      go_simp
      exact hK _ _ rfl (fun _ _ _ h => h) hJ
    · intro done us W hJ hdep haft hnot b hb hb' K hK Q'
      simp only [List.getD_cons_succ, List.getD_cons_zero, List.mem_cons, List.not_mem_nil, or_false, forall_eq_or_imp, forall_eq] at hdep
      have e34 := hb 0 34 rfl
      have e35 := hb 1 35 rfl
      have d0 := hdep.1
      have d1 := hdep.2
      rw [d0.1] at e34
      rw [d1.1] at e35
      clear hb hb' hdep d0 d1
      go_simp
      exact hK _ _ rfl (fun _ _ _ h => h) hJ
    · intro done us W hJ hdep haft hnot b hb hb' K hK Q'
      simp only [List.getD_cons_succ, List.getD_cons_zero, List.mem_cons, List.not_mem_nil, or_false, forall_eq_or_imp, forall_eq] at hdep
      have e36 := hb 2 36 rfl
      have e38 := hb 4 38 rfl
      have d2 := hdep.1
      have d4 := hdep.2
      rw [d2.1] at e36
      rw [d4.1] at e38
      clear hb hb' hdep d2 d4
      go_simp
      exact hK _ _ rfl (fun _ _ _ h => h) hJ
  · intro us W hV hJ
    exact hend (us 0) (us 1) (us 2) (us 3) (us 4) (us 5) W (hV 0 (by omega)) (hV 1 (by omega)) (hV 2 (by omega)) (hV 3 (by omega)) (hV 4 (by omega)) (hV 5 (by omega)) hJ
set_option maxRecDepth 100000 in
set_option maxHeartbeats 16000000 in
theorem done_S (L gt ot S ct : Nat) (u : Nat → Rat) (w : World) (hS : ShP (fun w v q => NumX w v q L) w gt ot S u) (hL : L ≤ 100000) (hf : ∀ j, j < 3 * S → FitQW (u j)) (hS8 : S ≤ 1000) :
    Calls Try.prog 125 #[.slice (some ⟨gt, ot, none⟩) S ct] w (fun e w' => ∃ go, e = .returned (.tuple #[.slice (some ⟨go, 0, none⟩) S S, .int .i64 0]) ∧ w.heap.size ≤ go ∧ ShP RatC w' go 0 S u ∧ Ext w w') := by
  have HS := Lib.hid hS
  have HF := Lib.hid hf
  clear hS hf
  go_enter Try.func125, Try.ntmps125
  go_upto_region 1 with (fail)
  go_upto_region 2 with (at_make; refine wpList_mkS w elR9 rfl _ _ rfl w.heap.size _ _ _ _ S S rfl rfl (by first | rfl | omega) (by first | rfl | omega) (Nat.le_refl _) (by omega) (by unfold maxLen; omega) (Nat.le_refl _) ?_; intro w4 us hown hz1 hz2 hext hsz)
  have hrow : RowN RatC 98 9 w.heap.size w4 w.heap.size S S (3 * S) (fun _ => none) := RowN.make9 hown hz1 hz2
  have HR : Hid (RowN RatC 98 9 w.heap.size w4 w.heap.size S S (3 * S) (fun _ => none)) := Lib.hid hrow
  have HX := Lib.hid hext
  clear hrow hown hz1 hz2 hext
  go_wp2_with fail
  go_loopg [16] S (fun f iv wr => ∃ i : Nat, f = S - i ∧ i ≤ S ∧ iv = .int .i64 (i : Int) ∧ Hid (RowN RatC 98 9 w.heap.size wr w.heap.size S S (3 * S) (fun j => if j < 3 * i then some (u j) else none)) ∧ Hid (Ext w wr))
  case atStart => exact ⟨0, by omega, by omega, rfl, Lib.hid (HR.out.congr (fun j _ => by rw [if_neg (by omega)])), HX⟩
  case round =>
    clear HR HX hsz
    obtain ⟨i, rfl, hi, rfl, HR, HX⟩ := hrel
    by_cases hlt : i < S
    · have q1 : decide (i < S) = true := decide_eq_true hlt
      obtain ⟨s0, A0, l0, c0, B0, m0, k0, a0, b0, d0, e0⟩ := HS.out i 0 hlt (by omega)
      replace a0 := HX.out.cell a0
      replace b0 := HX.out.cell b0
      replace d0 := HX.out.cell d0
      obtain ⟨s1, A1, l1, c1, B1, m1, k1, a1, b1, d1, e1⟩ := HS.out i 1 hlt (by omega)
      replace a1 := HX.out.cell a1
      replace b1 := HX.out.cell b1
      replace d1 := HX.out.cell d1
      obtain ⟨s2, A2, l2, c2, B2, m2, k2, a2, b2, d2, e2⟩ := HS.out i 2 hlt (by omega)
      replace a2 := HX.out.cell a2
      replace b2 := HX.out.cell b2
      replace d2 := HX.out.cell d2
      have HE0 := Lib.hid e0
      have HE1 := Lib.hid e1
      have HE2 := Lib.hid e2
      clear e0 e1 e2
      simp only [Nat.zero_mul, Nat.add_zero, Nat.one_mul] at a0 b0 d0 a1 b1 d1
      have e3 : ot + i * 9 + 3 + 1 = ot + i * 9 + 4 := by omega
      have e4 : ot + i * 9 + 3 + 2 = ot + i * 9 + 5 := by omega
      have e6 : ot + i * 9 + 2 * 3 = ot + i * 9 + 6 := by omega
      have e7 : ot + i * 9 + 2 * 3 + 1 = ot + i * 9 + 7 := by omega
      have e8 : ot + i * 9 + 2 * 3 + 2 = ot + i * 9 + 8 := by omega
      rw [e3] at b1
      rw [e4] at d1
      rw [e7] at b2
      rw [e8] at d2
      rw [e6] at a2
      clear e3 e4 e6 e7 e8
      go_upto_region 5 with (fail)
      have hXa : Ext wr (wr.alloc (.cells #[.bool s0, .slice A0 l0 c0, .slice B0 m0 k0, .bool s1, .slice A1 l1 c1, .slice B1 m1 k1, .bool s2, .slice A2 l2 c2, .slice B2 m2 k2] 263)) := (Ext.refl _).alloc _
      have kB := Blk.new wr 263 #[.bool s0, .slice A0 l0 c0, .slice B0 m0 k0, .bool s1, .slice A1 l1 c1, .slice B1 m1 k1, .bool s2, .slice A2 l2 c2, .slice B2 m2 k2]
      replace HR := Lib.hid (HR.out.ext staysC hXa)
      replace HX := Lib.hid (HX.out.trans hXa)
      clear hXa a0 b0 d0 a1 b1 d1 a2 b2 d2
      generalize wr.heap.size = gv at kB ⊢
      generalize wr.alloc (.cells #[.bool s0, .slice A0 l0 c0, .slice B0 m0 k0, .bool s1, .slice A1 l1 c1, .slice B1 m1 k1, .bool s2, .slice A2 l2 c2, .slice B2 m2 k2] 263) = w5 at kB HR HX ⊢
      have y0 := kB.cell 0
      have y1 := kB.cell 1
      have y2 := kB.cell 2
      have y3 := kB.cell 3
      have y4 := kB.cell 4
      have y5 := kB.cell 5
      have y6 := kB.cell 6
      have y7 := kB.cell 7
      have y8 := kB.cell 8
      simp only [List.getElem?_toArray, List.getElem?_cons_zero, List.getElem?_cons_succ] at y0 y1 y2 y3 y4 y5 y6 y7 y8
      clear kB
      go_wp2_with fail
      clear y0 y1 y2 y3 y4 y5 y6 y7 y8
      go_loopg [22] 3 (fun f kv wr => ∃ k : Nat, f = 3 - k ∧ k ≤ 3 ∧ kv = .int .i64 (k : Int) ∧ Hid (RowN RatC 98 9 w.heap.size wr w.heap.size S S (3 * S) (fun j => if j < 3 * i + k then some (u j) else none)) ∧ Hid (Ext w wr))
      case atStart => exact ⟨0, by omega, by omega, rfl, HR, HX⟩
      case round =>
        clear HR HX
        obtain ⟨k, rfl, hk, rfl, HR, HX⟩ := hrel
        by_cases hkl : k < 3
        · have q2 : decide (k < 3) = true := decide_eq_true hkl
          obtain ⟨s9, A9, l9, c9, B9, m9, k9, g1, g2, g3, hq⟩ := pick_agg (P := fun w v q => NumX w v q L) (w := wr) (q := fun k => u (3 * i + k)) hkl (HE0.out.ext HX.out) (HE1.out.ext HX.out) (HE2.out.ext HX.out)
          have ik := idx9N (.bool s0) (.slice A0 l0 c0) (.slice B0 m0 k0) (.bool s1) (.slice A1 l1 c1) (.slice B1 m1 k1) (.bool s2) (.slice A2 l2 c2) (.slice B2 m2 k2) hkl
          rw [g1, g2, g3] at ik
          have HQ := Lib.hid hq
          clear hq g1 g2 g3
          have hj3 : 3 * i + k < 3 * S := by omega
          have HFQ := Lib.hid (HF.out _ hj3)
          go_upto_region 8 with (fail)
          have hXa : Ext wr (wr.alloc (.cells #[.bool s9, .slice A9 l9 c9, .slice B9 m9 k9] 217)) := (Ext.refl _).alloc _
          have kB := Blk.new wr 217 #[.bool s9, .slice A9 l9 c9, .slice B9 m9 k9]
          replace HR := Lib.hid (HR.out.ext staysC hXa)
          replace HX := Lib.hid (HX.out.trans hXa)
          replace HQ := Lib.hid (HQ.out.ext hXa)
          clear hXa
          generalize wr.heap.size = gn at kB ⊢
          generalize wr.alloc (.cells #[.bool s9, .slice A9 l9 c9, .slice B9 m9 k9] 217) = w6 at kB HR HX HQ ⊢
          have y0 := kB.cell 0
          have y1 := kB.cell 1
          have y2 := kB.cell 2
          simp only [List.getElem?_toArray, List.getElem?_cons_zero, List.getElem?_cons_succ] at y0 y1 y2
          clear kB
          go_wp2_with fail
          refine (doneG HQ.out (by omega) HFQ.out).mono ?_
          rintro e w7 ⟨v7, rfl, hv, hX⟩
          obtain ⟨s4, A4, l4, c4, B4, m4, k4, rfl⟩ := RatC.open hv
          clear y0 y1 y2 HQ
          replace HR := Lib.hid (HR.out.ext staysC hX)
          replace HX := Lib.hid (HX.out.trans hX)
          clear hX
          have HV := Lib.hid hv
          clear hv
          go_upto_region 9 with (fail)
          have hXa : Ext w7 (w7.alloc (.cells #[.bool s4, .slice A4 l4 c4, .slice B4 m4 k4] 97)) := (Ext.refl _).alloc _
          have kB := Blk.new w7 97 #[.bool s4, .slice A4 l4 c4, .slice B4 m4 k4]
          replace HR := Lib.hid (HR.out.ext staysC hXa)
          replace HX := Lib.hid (HX.out.trans hXa)
          replace HV := Lib.hid (HV.out.ext hXa)
          clear hXa
          generalize w7.heap.size = gn2 at kB ⊢
          generalize w7.alloc (.cells #[.bool s4, .slice A4 l4 c4, .slice B4 m4 k4] 97) = w8 at kB HR HX HV ⊢
          have KB := Lib.hid kB
          clear kB
          go_upto_region 11 with (fail)
          refine done9_r11 w.heap.size S i k gn2 s4 A4 B4 l4 c4 m4 k4 w8 (KB.out.cell 0) (KB.out.cell 1) (KB.out.cell 2) hlt (by omega) hkl _ _ (by simp) rfl rfl rfl rfl ?_
          rintro xv0 xv1 xv2 xv3 xv4 xv5 W rfl rfl rfl rfl rfl rfl hX
          simp only [rops, Try.f125, regOf, Option.bind_some, Nat.reduceBEq, if_true, if_false, Bool.false_eq_true, Option.getD_some, List.drop_succ_cons, List.drop_zero]
          simp only [Act.put, List.setIfInBounds_toArray, List.set_cons_succ, List.set_cons_zero]
          replace HR := Lib.hid (HR.out.ext staysC hX)
          replace HX := Lib.hid (HX.out.trans hX)
          replace HV := Lib.hid (HV.out.ext hX)
          clear hX KB
          have hpj : i * 9 + k * 3 = (3 * i + k) * 3 := by omega
          obtain ⟨s2, A2, l2, c2, B2, m2, k2, z0, z1, z2, _⟩ := HR.out.cells hj3 hpj
          have f0 := HR.out.free (i * 9 + k * 3)
          have f1 := HR.out.free (i * 9 + k * 3 + 1)
          have f2 := HR.out.free (i * 9 + k * 3 + 2)
          have HPUT := Lib.hid (HR.out.put staysC hj3 hpj HV.out)
          clear hpj
          go_wp2
          go_roundg (3 - (k + 1))
          case rel =>
            refine ⟨k + 1, rfl, by omega, by go_num, Lib.hid (HPUT.out.congr (fun j _ => ?_)), Lib.hid (((HX.out.setCell (by simp only; omega) _).setCell (by simp only; omega) _).setCell (by simp only; omega) _)⟩
            by_cases e : j = 3 * i + k
            · rw [if_pos e, e, if_pos (by omega)]
            · rw [if_neg e]
              by_cases h2 : j < 3 * i + k
              · rw [if_pos h2, if_pos (by omega)]
              · rw [if_neg h2, if_neg (by omega)]
          case measure => omega
        · obtain rfl : k = 3 := by omega
          go_wp2
          go_roundg (S - (i + 1))
          case rel => exact ⟨i + 1, rfl, by omega, by go_num, Lib.hid (HR.out.congr (fun j _ => by rw [show 3 * (i + 1) = 3 * i + 3 by omega])), HX⟩
          case measure => omega
    · obtain rfl : i = S := by omega
      go_wp2
      go_ret2
      exact ⟨w.heap.size, rfl, by omega, HR.out.shp (fun j hj => by rw [if_pos hj]), HX.out⟩

end Go.Proofs.Ytikhlcgnlbinfaa
namespace Go.Proofs.Ytikhlcgnlbinfaa
open Go.ChangeShapes Go.WideShapes Go.ChangeAt Go.RowKit Go.Joins

/-- The cells of a struct that came in. -/
theorem agg_cellsZ {P : Program} {W : World} {H : Type} {enc : TypeId × Value → H} {t : TypeId} {fs : Array Field} {v : Value} {d : DataW H} {p : List MemPlace} {b base : Nat} {sp : Nat → Bool} {hd : Bool} (hs : P.underlying t = some (.struct fs))
    (hv : Value.okWide P W .any base t v) (h : DataW.Trod enc P W b sp hd t v d p) : ∃ cs fuel z, v = .agg cs ∧ cs.toList.length = P.cellsOf t ∧ DataW.trod enc P W b sp hd fuel t cs.toList = some z := by
  obtain ⟨cs, rfl, hsz⟩ := okWide_struct hs hv
  obtain ⟨fuel, hf⟩ := h
  exact ⟨cs, fuel, _, rfl, by simpa using hsz, by simpa [Value.cells] using hf⟩
theorem listZ15 {α : Type} {cs : List α} (h : cs.length = 15) : ∃ c0 c1 c2 c3 c4 c5 c6 c7 c8 c9 c10 c11 c12 c13 c14, cs = [c0, c1, c2, c3, c4, c5, c6, c7, c8, c9, c10, c11, c12, c13, c14] := by
  match cs, h with
  | [c0, c1, c2, c3, c4, c5, c6, c7, c8, c9, c10, c11, c12, c13, c14], _ => exact ⟨c0, c1, c2, c3, c4, c5, c6, c7, c8, c9, c10, c11, c12, c13, c14, rfl⟩
set_option maxRecDepth 100000 in
set_option maxHeartbeats 1000000 in
theorem tying_open {W : World} {H : Type} {enc : TypeId × Value → H} {v : Value} {d : DataW H} {p : List MemPlace} {b base : Nat} {sp : Nat → Bool} {hd : Bool} (hv : Value.okWide Try.prog W .any base 141 v) (h : DataW.Trod enc Try.prog W b sp hd 141 v d p) : ∃ f0 f1 f2 f3 f4 f5 f6 f7 f8 f9 f10 f11 f12 f13 f14 : Int, v = .agg #[.int .i64 f0, .int .i64 f1, .int .i64 f2, .int .i64 f3, .int .i64 f4, .int .i64 f5, .int .i64 f6, .int .i64 f7, .int .i64 f8, .int .i64 f9, .int .i64 f10, .int .i64 f11, .int .i64 f12, .int .i64 f13, .int .i64 f14] ∧ (-9223372036854775808 ≤ f0 ∧ f0 ≤ 9223372036854775807) ∧ (-9223372036854775808 ≤ f1 ∧ f1 ≤ 9223372036854775807) ∧ (-9223372036854775808 ≤ f2 ∧ f2 ≤ 9223372036854775807) ∧ (-9223372036854775808 ≤ f3 ∧ f3 ≤ 9223372036854775807) ∧ (-9223372036854775808 ≤ f4 ∧ f4 ≤ 9223372036854775807) ∧ (-9223372036854775808 ≤ f5 ∧ f5 ≤ 9223372036854775807) ∧ (-9223372036854775808 ≤ f6 ∧ f6 ≤ 9223372036854775807) ∧ (-9223372036854775808 ≤ f7 ∧ f7 ≤ 9223372036854775807) ∧ (-9223372036854775808 ≤ f8 ∧ f8 ≤ 9223372036854775807) ∧ (-9223372036854775808 ≤ f9 ∧ f9 ≤ 9223372036854775807) ∧ (-9223372036854775808 ≤ f10 ∧ f10 ≤ 9223372036854775807) ∧ (-9223372036854775808 ≤ f11 ∧ f11 ≤ 9223372036854775807) ∧ (-9223372036854775808 ≤ f12 ∧ f12 ≤ 9223372036854775807) ∧ (-9223372036854775808 ≤ f13 ∧ f13 ≤ 9223372036854775807) ∧ (-9223372036854775808 ≤ f14 ∧ f14 ≤ 9223372036854775807) := by
  obtain ⟨cs, fuel, z, rfl, hl, hf⟩ := agg_cellsZ Try.underlying141 hv h
  obtain ⟨c0, c1, c2, c3, c4, c5, c6, c7, c8, c9, c10, c11, c12, c13, c14, he⟩ := listZ15 (hl.trans (by kernel_rfl))
  rw [he] at hf
  obtain ⟨xs23, n23, _, _, _, hl23, hg23⟩ := DataW.trod_struct Try.underlying141 hf
  have g23_0 : DataW.trod enc Try.prog W b sp hd n23 3 [c0] = xs23[0]? := by
    have h := hg23 0 _ rfl
    rw [show Try.prog.cellsOf _ = 1 by kernel_rfl] at h
    exact h
  rw [List.getElem?_eq_getElem (by rw [hl23]; decide)] at g23_0
  obtain ⟨vc0, ec0, _, wc0⟩ := DataW.trod_int Try.underlying3 g23_0
  simp only [List.cons.injEq, and_true] at ec0
  subst ec0
  have g23_1 : DataW.trod enc Try.prog W b sp hd n23 3 [c1] = xs23[1]? := by
    have h := hg23 1 _ rfl
    rw [show Try.prog.cellsOf _ = 1 by kernel_rfl] at h
    exact h
  rw [List.getElem?_eq_getElem (by rw [hl23]; decide)] at g23_1
  obtain ⟨vc1, ec1, _, wc1⟩ := DataW.trod_int Try.underlying3 g23_1
  simp only [List.cons.injEq, and_true] at ec1
  subst ec1
  have g23_2 : DataW.trod enc Try.prog W b sp hd n23 3 [c2] = xs23[2]? := by
    have h := hg23 2 _ rfl
    rw [show Try.prog.cellsOf _ = 1 by kernel_rfl] at h
    exact h
  rw [List.getElem?_eq_getElem (by rw [hl23]; decide)] at g23_2
  obtain ⟨vc2, ec2, _, wc2⟩ := DataW.trod_int Try.underlying3 g23_2
  simp only [List.cons.injEq, and_true] at ec2
  subst ec2
  have g23_3 : DataW.trod enc Try.prog W b sp hd n23 22 [c3, c4, c5] = xs23[3]? := by
    have h := hg23 3 _ rfl
    rw [show Try.prog.cellsOf _ = 3 by kernel_rfl] at h
    exact h
  rw [List.getElem?_eq_getElem (by rw [hl23]; decide)] at g23_3
  obtain ⟨xs27, n27, _, _, _, hl27, hg27⟩ := DataW.trod_array Try.underlying22 g23_3
  have g27_0 : DataW.trod enc Try.prog W b sp hd n27 3 [c3] = xs27[0]? := by
    have h := hg27 0 (by decide)
    rw [show Try.prog.cellsOf _ = 1 by kernel_rfl] at h
    exact h
  rw [List.getElem?_eq_getElem (by rw [hl27]; decide)] at g27_0
  obtain ⟨vc3, ec3, _, wc3⟩ := DataW.trod_int Try.underlying3 g27_0
  simp only [List.cons.injEq, and_true] at ec3
  subst ec3
  have g27_1 : DataW.trod enc Try.prog W b sp hd n27 3 [c4] = xs27[1]? := by
    have h := hg27 1 (by decide)
    rw [show Try.prog.cellsOf _ = 1 by kernel_rfl] at h
    exact h
  rw [List.getElem?_eq_getElem (by rw [hl27]; decide)] at g27_1
  obtain ⟨vc4, ec4, _, wc4⟩ := DataW.trod_int Try.underlying3 g27_1
  simp only [List.cons.injEq, and_true] at ec4
  subst ec4
  have g27_2 : DataW.trod enc Try.prog W b sp hd n27 3 [c5] = xs27[2]? := by
    have h := hg27 2 (by decide)
    rw [show Try.prog.cellsOf _ = 1 by kernel_rfl] at h
    exact h
  rw [List.getElem?_eq_getElem (by rw [hl27]; decide)] at g27_2
  obtain ⟨vc5, ec5, _, wc5⟩ := DataW.trod_int Try.underlying3 g27_2
  simp only [List.cons.injEq, and_true] at ec5
  subst ec5
  have g23_4 : DataW.trod enc Try.prog W b sp hd n23 22 [c6, c7, c8] = xs23[4]? := by
    have h := hg23 4 _ rfl
    rw [show Try.prog.cellsOf _ = 3 by kernel_rfl] at h
    exact h
  rw [List.getElem?_eq_getElem (by rw [hl23]; decide)] at g23_4
  obtain ⟨xs31, n31, _, _, _, hl31, hg31⟩ := DataW.trod_array Try.underlying22 g23_4
  have g31_0 : DataW.trod enc Try.prog W b sp hd n31 3 [c6] = xs31[0]? := by
    have h := hg31 0 (by decide)
    rw [show Try.prog.cellsOf _ = 1 by kernel_rfl] at h
    exact h
  rw [List.getElem?_eq_getElem (by rw [hl31]; decide)] at g31_0
  obtain ⟨vc6, ec6, _, wc6⟩ := DataW.trod_int Try.underlying3 g31_0
  simp only [List.cons.injEq, and_true] at ec6
  subst ec6
  have g31_1 : DataW.trod enc Try.prog W b sp hd n31 3 [c7] = xs31[1]? := by
    have h := hg31 1 (by decide)
    rw [show Try.prog.cellsOf _ = 1 by kernel_rfl] at h
    exact h
  rw [List.getElem?_eq_getElem (by rw [hl31]; decide)] at g31_1
  obtain ⟨vc7, ec7, _, wc7⟩ := DataW.trod_int Try.underlying3 g31_1
  simp only [List.cons.injEq, and_true] at ec7
  subst ec7
  have g31_2 : DataW.trod enc Try.prog W b sp hd n31 3 [c8] = xs31[2]? := by
    have h := hg31 2 (by decide)
    rw [show Try.prog.cellsOf _ = 1 by kernel_rfl] at h
    exact h
  rw [List.getElem?_eq_getElem (by rw [hl31]; decide)] at g31_2
  obtain ⟨vc8, ec8, _, wc8⟩ := DataW.trod_int Try.underlying3 g31_2
  simp only [List.cons.injEq, and_true] at ec8
  subst ec8
  have g23_5 : DataW.trod enc Try.prog W b sp hd n23 22 [c9, c10, c11] = xs23[5]? := by
    have h := hg23 5 _ rfl
    rw [show Try.prog.cellsOf _ = 3 by kernel_rfl] at h
    exact h
  rw [List.getElem?_eq_getElem (by rw [hl23]; decide)] at g23_5
  obtain ⟨xs35, n35, _, _, _, hl35, hg35⟩ := DataW.trod_array Try.underlying22 g23_5
  have g35_0 : DataW.trod enc Try.prog W b sp hd n35 3 [c9] = xs35[0]? := by
    have h := hg35 0 (by decide)
    rw [show Try.prog.cellsOf _ = 1 by kernel_rfl] at h
    exact h
  rw [List.getElem?_eq_getElem (by rw [hl35]; decide)] at g35_0
  obtain ⟨vc9, ec9, _, wc9⟩ := DataW.trod_int Try.underlying3 g35_0
  simp only [List.cons.injEq, and_true] at ec9
  subst ec9
  have g35_1 : DataW.trod enc Try.prog W b sp hd n35 3 [c10] = xs35[1]? := by
    have h := hg35 1 (by decide)
    rw [show Try.prog.cellsOf _ = 1 by kernel_rfl] at h
    exact h
  rw [List.getElem?_eq_getElem (by rw [hl35]; decide)] at g35_1
  obtain ⟨vc10, ec10, _, wc10⟩ := DataW.trod_int Try.underlying3 g35_1
  simp only [List.cons.injEq, and_true] at ec10
  subst ec10
  have g35_2 : DataW.trod enc Try.prog W b sp hd n35 3 [c11] = xs35[2]? := by
    have h := hg35 2 (by decide)
    rw [show Try.prog.cellsOf _ = 1 by kernel_rfl] at h
    exact h
  rw [List.getElem?_eq_getElem (by rw [hl35]; decide)] at g35_2
  obtain ⟨vc11, ec11, _, wc11⟩ := DataW.trod_int Try.underlying3 g35_2
  simp only [List.cons.injEq, and_true] at ec11
  subst ec11
  have g23_6 : DataW.trod enc Try.prog W b sp hd n23 22 [c12, c13, c14] = xs23[6]? := by
    have h := hg23 6 _ rfl
    rw [show Try.prog.cellsOf _ = 3 by kernel_rfl] at h
    exact h
  rw [List.getElem?_eq_getElem (by rw [hl23]; decide)] at g23_6
  obtain ⟨xs39, n39, _, _, _, hl39, hg39⟩ := DataW.trod_array Try.underlying22 g23_6
  have g39_0 : DataW.trod enc Try.prog W b sp hd n39 3 [c12] = xs39[0]? := by
    have h := hg39 0 (by decide)
    rw [show Try.prog.cellsOf _ = 1 by kernel_rfl] at h
    exact h
  rw [List.getElem?_eq_getElem (by rw [hl39]; decide)] at g39_0
  obtain ⟨vc12, ec12, _, wc12⟩ := DataW.trod_int Try.underlying3 g39_0
  simp only [List.cons.injEq, and_true] at ec12
  subst ec12
  have g39_1 : DataW.trod enc Try.prog W b sp hd n39 3 [c13] = xs39[1]? := by
    have h := hg39 1 (by decide)
    rw [show Try.prog.cellsOf _ = 1 by kernel_rfl] at h
    exact h
  rw [List.getElem?_eq_getElem (by rw [hl39]; decide)] at g39_1
  obtain ⟨vc13, ec13, _, wc13⟩ := DataW.trod_int Try.underlying3 g39_1
  simp only [List.cons.injEq, and_true] at ec13
  subst ec13
  have g39_2 : DataW.trod enc Try.prog W b sp hd n39 3 [c14] = xs39[2]? := by
    have h := hg39 2 (by decide)
    rw [show Try.prog.cellsOf _ = 1 by kernel_rfl] at h
    exact h
  rw [List.getElem?_eq_getElem (by rw [hl39]; decide)] at g39_2
  obtain ⟨vc14, ec14, _, wc14⟩ := DataW.trod_int Try.underlying3 g39_2
  simp only [List.cons.injEq, and_true] at ec14
  subst ec14
  exact ⟨vc0, vc1, vc2, vc3, vc4, vc5, vc6, vc7, vc8, vc9, vc10, vc11, vc12, vc13, vc14, congrArg Value.agg (Array.toList_inj.1 he), by have h := wc0; simp [Lit.wf, IntKind.min, IntKind.max, IntKind.bits, IntKind.signed] at h; omega, by have h := wc1; simp [Lit.wf, IntKind.min, IntKind.max, IntKind.bits, IntKind.signed] at h; omega, by have h := wc2; simp [Lit.wf, IntKind.min, IntKind.max, IntKind.bits, IntKind.signed] at h; omega, by have h := wc3; simp [Lit.wf, IntKind.min, IntKind.max, IntKind.bits, IntKind.signed] at h; omega, by have h := wc4; simp [Lit.wf, IntKind.min, IntKind.max, IntKind.bits, IntKind.signed] at h; omega, by have h := wc5; simp [Lit.wf, IntKind.min, IntKind.max, IntKind.bits, IntKind.signed] at h; omega, by have h := wc6; simp [Lit.wf, IntKind.min, IntKind.max, IntKind.bits, IntKind.signed] at h; omega, by have h := wc7; simp [Lit.wf, IntKind.min, IntKind.max, IntKind.bits, IntKind.signed] at h; omega, by have h := wc8; simp [Lit.wf, IntKind.min, IntKind.max, IntKind.bits, IntKind.signed] at h; omega, by have h := wc9; simp [Lit.wf, IntKind.min, IntKind.max, IntKind.bits, IntKind.signed] at h; omega, by have h := wc10; simp [Lit.wf, IntKind.min, IntKind.max, IntKind.bits, IntKind.signed] at h; omega, by have h := wc11; simp [Lit.wf, IntKind.min, IntKind.max, IntKind.bits, IntKind.signed] at h; omega, by have h := wc12; simp [Lit.wf, IntKind.min, IntKind.max, IntKind.bits, IntKind.signed] at h; omega, by have h := wc13; simp [Lit.wf, IntKind.min, IntKind.max, IntKind.bits, IntKind.signed] at h; omega, by have h := wc14; simp [Lit.wf, IntKind.min, IntKind.max, IntKind.bits, IntKind.signed] at h; omega⟩
end Go.Proofs.Ytikhlcgnlbinfaa
namespace Go.Proofs.Ytikhlcgnlbinfaa

theorem igcd_step (a b : Int) (_hb : b ≠ 0) : Int.gcd b (a.tmod b) = Int.gcd a b := by
  have h1 : (a.tmod b).natAbs = a.natAbs % b.natAbs := Int.natAbs_tmod a b
  unfold Int.gcd
  rw [h1, Nat.gcd_comm a.natAbs b.natAbs, Nat.gcd_rec b.natAbs a.natAbs, Nat.gcd_comm]
theorem igcd_less (a b : Int) (hb : b ≠ 0) : (a.tmod b).natAbs < b.natAbs := by
  rw [Int.natAbs_tmod]
  exact Nat.mod_lt _ (by omega)
/-- Half of a number, rounded down, as the reference reckons it. -/
theorem halve (n : Int) : (if n < 0 then -((1 - n).tdiv 2) else n.tdiv 2) = n / 2 := by
  split
  · rename_i h
    rw [Int.tdiv_eq_ediv_of_nonneg (by omega)]
    omega
  · rename_i h
    rw [Int.tdiv_eq_ediv_of_nonneg (by omega)]
/-- Rounded down k times. -/
def downK (n : Int) (k : Nat) : Int := n / 2 ^ k
theorem downK_zero (n : Int) : downK n 0 = n := by unfold downK; rw [Int.pow_zero, Int.ediv_one]
theorem downK_succ (n : Int) (k : Nat) : downK n k / 2 = downK n (k + 1) := by
  unfold downK
  rw [Int.ediv_ediv_of_nonneg (Int.le_of_lt (Int.pow_pos (by decide))), Int.pow_succ]
theorem downK_small {n : Int} (h1 : -576460752303423488 ≤ n) (h2 : n ≤ 576460752303423488) {k : Nat} (hk : 59 ≤ k) : -1 ≤ downK n k ∧ downK n k ≤ 1 := by
  have hp : (576460752303423488 : Int) ≤ 2 ^ k := by
    have : (2 : Nat) ^ 59 ≤ 2 ^ k := Nat.pow_le_pow_right (by decide) hk
    have h3 : ((2 ^ k : Nat) : Int) = 2 ^ k := by simp
    have h4 : (2 : Nat) ^ 59 = 576460752303423488 := by decide
    omega
  unfold downK
  refine ⟨Int.le_ediv_of_mul_le (by omega) (by omega), ?_⟩
  have := Int.ediv_le_ediv (a := n) (b := 2 ^ k) (c := 2 ^ k) (by omega) (by omega)
  rw [Int.ediv_self (by omega)] at this
  exact this
/-- All three within the limits. -/
def fitsN (x y z : Int) (k : Nat) : Prop := (-100 ≤ downK x k ∧ downK x k ≤ 100) ∧ (-100 ≤ downK y k ∧ downK y k ≤ 100) ∧ (-100 ≤ downK z k ∧ downK z k ≤ 100)
theorem fits_once {x y z : Int} {r s : Nat} (h1 : fitsN x y z r) (h2 : ∀ k, k < r → ¬ fitsN x y z k) (h3 : fitsN x y z s) (h4 : ∀ k, k < s → ¬ fitsN x y z k) : r = s := by
  rcases Nat.lt_trichotomy r s with h | h | h
  · exact absurd h1 (h4 r h)
  · exact h
  · exact absurd h3 (h2 s h)
end Go.Proofs.Ytikhlcgnlbinfaa
namespace Go.Proofs.Ytikhlcgnlbinfaa
open Go.RowKit

section
variable {P : Program} {l : List Oper} {a : Act} {Q : Exit → Act → World → Prop}
theorem wp_region_g0 {id : Nat} {w : World} (n : Nat) (ds : List (Option Tmp)) (D A : List (List Nat)) (J : (Nat → Prop) → (Nat → Value) → World → Prop) (hm : P.follows .mixedOrders = true) (hB : jB l.toArray n ds D A = true)
    (hd : ∀ d, some d ∈ ds → d < a.tmps.size) (hJ : ∀ p q us W, (∀ k, p k ↔ q k) → J p us W → J q us W) (h0 : ∀ us : Nat → Value, (∀ j d, ds[j]? = some (some d) → a.tmps[d]? = some (us j)) → J (fun _ => False) us w.drew) (hop : GAllq P l.toArray J D A ds a 0 (l.take n))
    (hend : ∀ us W, J (fun k => k < n) us W → wpList P l.toArray Q (l.drop n) (fillO a ds us 0) W) : (Code.region id l.toArray true).wp P Q a w := by
  refine wp_region_any hm ?_
  have hB' := hB
  simp only [jB, Bool.and_eq_true, decide_eq_true_eq] at hB'
  obtain ⟨⟨⟨⟨⟨⟨hn, hl⟩, hnt⟩, _⟩, _⟩, _⟩, _⟩ := hB'
  have h := g_any hB hd hJ hop hend n (List.range n) (Array.replicate l.toArray.size false) (fun j => a.tmps.getD ((ds.getD j none).getD 0) undef) w.drew (by simp) List.nodup_range
    ⟨by simp, fun j oj _ hl => (by rw [getD_replicate_false] at hl; cases hl), fun t _ ht => getD_in (by simpa using ht) (getD_replicate_false _ _)⟩
    (fun j hj => ⟨fun _ => List.mem_range.2 hj, fun _ => getD_in (by simp at hn ⊢; omega) (getD_replicate_false _ _)⟩) (fun j hj => List.mem_range.1 hj)
    (hJ _ _ _ _ (fun k => by simp) (h0 _ (fun j d hj => by
      have hlt := hd d (List.mem_of_getElem? hj)
      simp only [List.getD, hj, Option.getD_some]
      simp [Array.getD, hlt])))
  rw [fillO_start ds a 0 _ hd (fun i d hi => by simp [List.getD, hi])] at h
  have e : n + (l.toArray.size - n) = l.toArray.size := by omega
  rw [e] at h
  exact h
end
end Go.Proofs.Ytikhlcgnlbinfaa
