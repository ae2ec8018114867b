/- Lemmas of the proof that follows (Drops, part 10): walks of functions by contract, and plain lemmas. Conditions: none. -/
import Derived.Test.YtikhlcgnlbinfaaDropsI
namespace Go.Proofs.Ytikhlcgnlbinfaa
open Go.RowKit

theorem elS9 : Elem Try.prog 210 263 9 168 (.agg #[.bool false, .slice none 0 0, .slice none 0 0, .bool false, .slice none 0 0, .slice none 0 0, .bool false, .slice none 0 0, .slice none 0 0]) := Elem.mk' (by kernel_rfl) (by kernel_rfl) rfl (by decide)
theorem RowN.make9 {P : World → Value → Rat → Prop} {te : TypeId} {base g n : Nat} {w : World} {us : List Value} (ho : w.ownsRow base te 9 (.slice (some ⟨g, 0, none⟩) n n) n us) (h1 : ∀ i, i < n * 9 → us[i]? = (Value.agg #[.bool false, .slice none 0 0, .slice none 0 0, .bool false, .slice none 0 0, .slice none 0 0, .bool false, .slice none 0 0, .slice none 0 0]).cells[i % 9]?) (h2 : ∀ u ∈ us, u ∈ (Value.agg #[.bool false, .slice none 0 0, .slice none 0 0, .bool false, .slice none 0 0, .slice none 0 0, .bool false, .slice none 0 0, .slice none 0 0]).cells) : RowN P te 9 base w g n n (3 * n) (fun _ => none) :=
  RowN.zero rfl ho h1 h2 (fun u hu => by
    simp [Value.cells] at hu
    rcases hu with rfl | rfl | rfl | rfl | rfl | rfl
    all_goals first | exact noInt_bool _ | exact noInt_slice _ _ _) ⟨3, rfl⟩ (fun i hi => by
    match i, hi with
    | 0, _ => rfl
    | 1, _ => rfl
    | 2, _ => rfl
    | 3, _ => rfl
    | 4, _ => rfl
    | 5, _ => rfl
    | 6, _ => rfl
    | 7, _ => rfl
    | 8, _ => rfl
    | _ + 9, hi => omega) (by omega)
theorem solG_at {n : Nat} {s : GSt} {j : Nat} : solG n s j = if 0 ≤ pivI (s.piv[j]?) then s.tab (pivI (s.piv[j]?)).toNat n else 0 := by
  unfold solG
  split
  · rename_i i hp
    rw [hp]
    simp [pivI]
  · rename_i h
    cases hp : s.piv[j]? with
    | none => rfl
    | some o =>
      cases o with
      | none => rfl
      | some t => exact absurd hp (h t)
theorem pivI_low (o : Option (Option Nat)) : pivI o = -1 ∨ ∃ t : Nat, o = some (some t) ∧ pivI o = (t : Int) := by
  match o with
  | none => exact .inl rfl
  | some none => exact .inl rfl
  | some (some t) => exact .inr ⟨t, rfl, rfl⟩

set_option maxRecDepth 100000 in
set_option maxHeartbeats 2000000 in
theorem solve_r6 (go S jj ss kk : Nat) (w : World) (hss : Hid (jj / 3 = ss)) (hkk : Hid (jj % 3 = kk)) (hs1 : ss < S) (hk3 : (kk : Int) < 3) (_hk4 : kk < 3) (hj : jj ≤ 1000) (a : Act) (Q : Exit → Act → World → Prop) (hsize : 31 ≤ a.tmps.size)
    (s4 : a.tmps[4]? = some (.slice (some ⟨go, 0, none⟩) S S))
    (s5 : a.tmps[5]? = some (.int .i64 (jj : Int)))
    (hend : ∀ (xv0 xv1 xv2 xv3 xv4 xv5 xv6 xv7 : Value) (W : World), (xv0 = .slice (some ⟨go, 0, none⟩) S S) → (xv1 = .int .i64 (jj : Int)) → (xv2 = .int .i64 (ss : Int)) → (xv3 = .int .i64 (jj : Int)) → (xv4 = .int .i64 (kk : Int)) → (NumX W xv5 (((0 : Int) : Rat)) (2)) → (xv6 = .pointer (some ⟨go, ss * 9, none⟩)) → (xv7 = .pointer (some ⟨go, ss * 9 + kk * 3, none⟩)) → Ext w W → wpList Try.prog (rops Try.f124 6).toArray Q ((rops Try.f124 6).drop 8) ((((((((a.put (some 23) xv0).put (some 24) xv1).put (some 25) xv2).put (some 26) xv3).put (some 27) xv4).put (some 28) xv5).put (some 29) xv6).put (some 30) xv7) W) :
    (Code.region 6 (rops Try.f124 6).toArray true).wp Try.prog Q a w := by
  have hmono : ∀ (W W' : World) (j : Nat) (u : Value), Ext W W' → (fun (i : Nat) (v : Value) (W : World) => match i with
    | 0 => v = .slice (some ⟨go, 0, none⟩) S S
    | 1 => v = .int .i64 (jj : Int)
    | 2 => v = .int .i64 (ss : Int)
    | 3 => v = .int .i64 (jj : Int)
    | 4 => v = .int .i64 (kk : Int)
    | 5 => NumX W v (((0 : Int) : Rat)) (2)
    | 6 => v = .pointer (some ⟨go, ss * 9, none⟩)
    | 7 => v = .pointer (some ⟨go, ss * 9 + kk * 3, none⟩)
    | _ => True) j u W → (fun (i : Nat) (v : Value) (W : World) => match i with
    | 0 => v = .slice (some ⟨go, 0, none⟩) S S
    | 1 => v = .int .i64 (jj : Int)
    | 2 => v = .int .i64 (ss : Int)
    | 3 => v = .int .i64 (jj : Int)
    | 4 => v = .int .i64 (kk : Int)
    | 5 => NumX W v (((0 : Int) : Rat)) (2)
    | 6 => v = .pointer (some ⟨go, ss * 9, none⟩)
    | 7 => v = .pointer (some ⟨go, ss * 9 + kk * 3, none⟩)
    | _ => True) j u W' := by
    intro W W' j u hX h
    match j, h with
    | 0, h => exact h
    | 1, h => exact h
    | 2, h => exact h
    | 3, h => exact h
    | 4, h => exact h
    | 5, h => exact NumX.ext h hX
    | 6, h => exact h
    | 7, h => exact h
    | _ + 8, h => exact h
  have hsz : ∀ d, some d ∈ ([some 23, some 24, some 25, some 26, some 27, some 28, some 29, some 30] : List (Option Tmp)) → d < a.tmps.size := slots_lt (by decide) hsize
  refine wp_region_j 8 [some 23, some 24, some 25, some 26, some 27, some 28, some 29, some 30] [[], [], [1], [], [3], [], [0, 2], [4, 6]] [[], [], [], [], [], [], [], []] (fun (i : Nat) (v : Value) (W : World) => match i with
    | 0 => v = .slice (some ⟨go, 0, none⟩) S S
    | 1 => v = .int .i64 (jj : Int)
    | 2 => v = .int .i64 (ss : Int)
    | 3 => v = .int .i64 (jj : Int)
    | 4 => v = .int .i64 (kk : Int)
    | 5 => NumX W v (((0 : Int) : Rat)) (2)
    | 6 => v = .pointer (some ⟨go, ss * 9, none⟩)
    | 7 => v = .pointer (some ⟨go, ss * 9 + kk * 3, none⟩)
    | _ => True) (fun _ W => Ext w W) (by kernel_rfl) (by kernel_rfl) hsz (fun _ _ _ _ h => h) ((Ext.refl w).drew) ?_ ?_
  · clear hend
    simp only [rops, Try.f124, regOf, Option.bind_some, Nat.reduceBEq, if_true, if_false, Bool.false_eq_true, Option.getD_some]
    simp only [List.take_succ_cons, List.take_zero]
    refine ⟨?_, ?_, ?_, ?_, ?_, ?_, ?_, ?_, trivial⟩
    · intro done us W hJ hdep haft hnot b hb hb' K hK Q'
      have e4 := (hb' 4 (by simp)).trans s4
      clear hb hb'
      go_simp
      exact hK _ _ rfl (fun _ _ _ h => h) hJ
    · intro done us W hJ hdep haft hnot b hb hb' K hK Q'
      have e5 := (hb' 5 (by simp)).trans s5
      clear hb hb'
      go_simp
      exact hK _ _ rfl (fun _ _ _ h => h) hJ
    · intro done us W hJ hdep haft hnot b hb hb' K hK Q'
      simp only [List.getD_cons_succ, List.getD_cons_zero, List.mem_cons, List.not_mem_nil, or_false, forall_eq] at hdep
      have e24 := hb 1 24 rfl
      have d1 := hdep
      rw [d1.1] at e24
      clear hb hb' hdep d1
      have qw : IntKind.i64.wrap ((jj : Int) / 3) = (jj : Int) / 3 := IntWalk.i64_in _ (by omega)
      go_simp
      exact hK _ _ (by have := hss.out; congr 1; omega) (fun _ _ _ h => h) hJ
    · intro done us W hJ hdep haft hnot b hb hb' K hK Q'
      have e5 := (hb' 5 (by simp)).trans s5
      clear hb hb'
      go_simp
      exact hK _ _ rfl (fun _ _ _ h => h) hJ
    · intro done us W hJ hdep haft hnot b hb hb' K hK Q'
      simp only [List.getD_cons_succ, List.getD_cons_zero, List.mem_cons, List.not_mem_nil, or_false, forall_eq] at hdep
      have e26 := hb 3 26 rfl
      have d3 := hdep
      rw [d3.1] at e26
      clear hb hb' hdep d3
      have ht : (jj : Int).tmod 3 = (jj : Int) % 3 := Int.tmod_eq_emod_of_nonneg (by omega)
      have qw : IntKind.i64.wrap ((jj : Int) % 3) = (jj : Int) % 3 := IntWalk.i64_in _ (by omega)
      go_simp
      exact hK _ _ (by have := hkk.out; congr 1; omega) (fun _ _ _ h => h) hJ
    · intro done us W hJ hdep haft hnot b hb hb' K hK Q'
      clear hb hb'
      go_simp
      refine (intX 0 _ (by omega) (by omega)).mono ?_
      rintro e w' ⟨v, rfl, hv, hX⟩
      exact hK _ _ hv (fun j u _ h => hmono _ _ j u hX h) (Ext.trans hJ hX)
    · intro done us W hJ hdep haft hnot b hb hb' K hK Q'
      simp only [List.getD_cons_succ, List.getD_cons_zero, List.mem_cons, List.not_mem_nil, or_false, forall_eq_or_imp, forall_eq] at hdep
      have e23 := hb 0 23 rfl
      have e25 := hb 2 25 rfl
      have d0 := hdep.1
      have d2 := hdep.2
      rw [d0.1] at e23
      rw [d2.1] at e25
      clear hb hb' hdep d0 d2
      go_simp
      exact hK _ _ rfl (fun _ _ _ h => h) hJ
    · intro done us W hJ hdep haft hnot b hb hb' K hK Q'
      simp only [List.getD_cons_succ, List.getD_cons_zero, List.mem_cons, List.not_mem_nil, or_false, forall_eq_or_imp, forall_eq] at hdep
      have e27 := hb 4 27 rfl
      have e29 := hb 6 29 rfl
      have d4 := hdep.1
      have d6 := hdep.2
      rw [d4.1] at e27
      rw [d6.1] at e29
      clear hb hb' hdep d4 d6
      go_simp
      exact hK _ _ rfl (fun _ _ _ h => h) hJ
  · intro us W hV hJ
    exact hend (us 0) (us 1) (us 2) (us 3) (us 4) (us 5) (us 6) (us 7) W (hV 0 (by omega)) (hV 1 (by omega)) (hV 2 (by omega)) (hV 3 (by omega)) (hV 4 (by omega)) (hV 5 (by omega)) (hV 6 (by omega)) (hV 7 (by omega)) hJ
set_option maxRecDepth 100000 in
set_option maxHeartbeats 2000000 in
theorem solve_r8 (go S jj ss kk gs gt ct nn tt ga ca gp : Nat) (s9 : Bool) (A9 B9 : Option Addr) (l9 c9 m9 k9 : Nat) (w : World) (hss : Hid (jj / 3 = ss)) (hkk : Hid (jj % 3 = kk)) (hs1 : ss < S) (hk3 : (kk : Int) < 3) (_hk4 : kk < 3) (hj : jj ≤ 1000) (hs : w.cell? ⟨gs, 0, none⟩ = some (.slice (some ⟨gt, 0, none⟩) nn ct)) (ha : w.cell? ⟨gt, tt, none⟩ = some (.slice (some ⟨ga, 0, none⟩) (nn + 1) ca)) (hp : w.cell? ⟨gp, 0, none⟩ = some (.int .i64 (S : Int))) (hqN : IntKind.i64.wrap (3 * (S : Int)) = (nn : Int)) (htt : tt < nn) (_hnn : nn < nn + 1) (hnn2 : (nn : Int) < (nn : Int) + 1) (x0 : w.cell? ⟨ga, nn * 3, none⟩ = some (.bool s9)) (x1 : w.cell? ⟨ga, nn * 3 + 1, none⟩ = some (.slice A9 l9 c9)) (x2 : w.cell? ⟨ga, nn * 3 + 2, none⟩ = some (.slice B9 m9 k9)) (a : Act) (Q : Exit → Act → World → Prop) (hsize : 50 ≤ a.tmps.size)
    (s1 : a.tmps[1]? = some (.pointer (some ⟨gp, 0, none⟩)))
    (s3 : a.tmps[3]? = some (.pointer (some ⟨gs, 0, none⟩)))
    (s4 : a.tmps[4]? = some (.slice (some ⟨go, 0, none⟩) S S))
    (s5 : a.tmps[5]? = some (.int .i64 (jj : Int)))
    (s6 : a.tmps[6]? = some (.int .i64 (tt : Int)))
    (hend : ∀ (xv0 xv1 xv2 xv3 xv4 xv5 xv6 xv7 xv8 xv9 xv10 xv11 xv12 xv13 xv14 xv15 xv16 : Value) (W : World), (xv0 = .slice (some ⟨go, 0, none⟩) S S) → (xv1 = .int .i64 (jj : Int)) → (xv2 = .int .i64 (ss : Int)) → (xv3 = .int .i64 (jj : Int)) → (xv4 = .int .i64 (kk : Int)) → (xv5 = .pointer (some ⟨gs, 0, none⟩)) → (xv6 = .slice (some ⟨gt, 0, none⟩) nn ct) → (xv7 = .int .i64 (tt : Int)) → (xv8 = .pointer (some ⟨gt, tt, none⟩)) → (xv9 = .slice (some ⟨ga, 0, none⟩) (nn + 1) ca) → (xv10 = .pointer (some ⟨gp, 0, none⟩)) → (xv11 = .int .i64 (S : Int)) → (xv12 = .int .i64 (nn : Int)) → (xv13 = .pointer (some ⟨ga, nn * 3, none⟩)) → (xv14 = .agg #[.bool s9, .slice A9 l9 c9, .slice B9 m9 k9]) → (xv15 = .pointer (some ⟨go, ss * 9, none⟩)) → (xv16 = .pointer (some ⟨go, ss * 9 + kk * 3, none⟩)) → Ext w W → wpList Try.prog (rops Try.f124 8).toArray Q ((rops Try.f124 8).drop 17) (((((((((((((((((a.put (some 33) xv0).put (some 34) xv1).put (some 35) xv2).put (some 36) xv3).put (some 37) xv4).put (some 38) xv5).put (some 39) xv6).put (some 40) xv7).put (some 41) xv8).put (some 42) xv9).put (some 43) xv10).put (some 44) xv11).put (some 45) xv12).put (some 46) xv13).put (some 47) xv14).put (some 48) xv15).put (some 49) xv16) W) :
    (Code.region 8 (rops Try.f124 8).toArray true).wp Try.prog Q a w := by
  have hmono : ∀ (W W' : World) (j : Nat) (u : Value), Ext W W' → (fun (i : Nat) (v : Value) (W : World) => match i with
    | 0 => v = .slice (some ⟨go, 0, none⟩) S S
    | 1 => v = .int .i64 (jj : Int)
    | 2 => v = .int .i64 (ss : Int)
    | 3 => v = .int .i64 (jj : Int)
    | 4 => v = .int .i64 (kk : Int)
    | 5 => v = .pointer (some ⟨gs, 0, none⟩)
    | 6 => v = .slice (some ⟨gt, 0, none⟩) nn ct
    | 7 => v = .int .i64 (tt : Int)
    | 8 => v = .pointer (some ⟨gt, tt, none⟩)
    | 9 => v = .slice (some ⟨ga, 0, none⟩) (nn + 1) ca
    | 10 => v = .pointer (some ⟨gp, 0, none⟩)
    | 11 => v = .int .i64 (S : Int)
    | 12 => v = .int .i64 (nn : Int)
    | 13 => v = .pointer (some ⟨ga, nn * 3, none⟩)
    | 14 => v = .agg #[.bool s9, .slice A9 l9 c9, .slice B9 m9 k9]
    | 15 => v = .pointer (some ⟨go, ss * 9, none⟩)
    | 16 => v = .pointer (some ⟨go, ss * 9 + kk * 3, none⟩)
    | _ => True) j u W → (fun (i : Nat) (v : Value) (W : World) => match i with
    | 0 => v = .slice (some ⟨go, 0, none⟩) S S
    | 1 => v = .int .i64 (jj : Int)
    | 2 => v = .int .i64 (ss : Int)
    | 3 => v = .int .i64 (jj : Int)
    | 4 => v = .int .i64 (kk : Int)
    | 5 => v = .pointer (some ⟨gs, 0, none⟩)
    | 6 => v = .slice (some ⟨gt, 0, none⟩) nn ct
    | 7 => v = .int .i64 (tt : Int)
    | 8 => v = .pointer (some ⟨gt, tt, none⟩)
    | 9 => v = .slice (some ⟨ga, 0, none⟩) (nn + 1) ca
    | 10 => v = .pointer (some ⟨gp, 0, none⟩)
    | 11 => v = .int .i64 (S : Int)
    | 12 => v = .int .i64 (nn : Int)
    | 13 => v = .pointer (some ⟨ga, nn * 3, none⟩)
    | 14 => v = .agg #[.bool s9, .slice A9 l9 c9, .slice B9 m9 k9]
    | 15 => v = .pointer (some ⟨go, ss * 9, none⟩)
    | 16 => v = .pointer (some ⟨go, ss * 9 + kk * 3, none⟩)
    | _ => True) j u W' := by
    intro W W' j u hX h
    match j, h with
    | 0, h => exact h
    | 1, h => exact h
    | 2, h => exact h
    | 3, h => exact h
    | 4, h => exact h
    | 5, h => exact h
    | 6, h => exact h
    | 7, h => exact h
    | 8, h => exact h
    | 9, h => exact h
    | 10, h => exact h
    | 11, h => exact h
    | 12, h => exact h
    | 13, h => exact h
    | 14, h => exact h
    | 15, h => exact h
    | 16, h => exact h
    | _ + 17, h => exact h
  have hsz : ∀ d, some d ∈ ([some 33, some 34, some 35, some 36, some 37, some 38, some 39, some 40, some 41, some 42, some 43, some 44, some 45, some 46, some 47, some 48, some 49] : List (Option Tmp)) → d < a.tmps.size := slots_lt (by decide) hsize
  refine wp_region_j 17 [some 33, some 34, some 35, some 36, some 37, some 38, some 39, some 40, some 41, some 42, some 43, some 44, some 45, some 46, some 47, some 48, some 49] [[], [], [1], [], [3], [], [5], [], [6, 7], [8], [], [10], [11], [9, 12], [13], [0, 2], [4, 15]] [[], [], [], [], [], [], [], [], [], [], [], [], [], [], [], [], []] (fun (i : Nat) (v : Value) (W : World) => match i with
    | 0 => v = .slice (some ⟨go, 0, none⟩) S S
    | 1 => v = .int .i64 (jj : Int)
    | 2 => v = .int .i64 (ss : Int)
    | 3 => v = .int .i64 (jj : Int)
    | 4 => v = .int .i64 (kk : Int)
    | 5 => v = .pointer (some ⟨gs, 0, none⟩)
    | 6 => v = .slice (some ⟨gt, 0, none⟩) nn ct
    | 7 => v = .int .i64 (tt : Int)
    | 8 => v = .pointer (some ⟨gt, tt, none⟩)
    | 9 => v = .slice (some ⟨ga, 0, none⟩) (nn + 1) ca
    | 10 => v = .pointer (some ⟨gp, 0, none⟩)
    | 11 => v = .int .i64 (S : Int)
    | 12 => v = .int .i64 (nn : Int)
    | 13 => v = .pointer (some ⟨ga, nn * 3, none⟩)
    | 14 => v = .agg #[.bool s9, .slice A9 l9 c9, .slice B9 m9 k9]
    | 15 => v = .pointer (some ⟨go, ss * 9, none⟩)
    | 16 => v = .pointer (some ⟨go, ss * 9 + kk * 3, none⟩)
    | _ => True) (fun _ W => Ext w W) (by kernel_rfl) (by kernel_rfl) hsz (fun _ _ _ _ h => h) ((Ext.refl w).drew) ?_ ?_
  · clear hend
    simp only [rops, Try.f124, regOf, Option.bind_some, Nat.reduceBEq, if_true, if_false, Bool.false_eq_true, Option.getD_some]
    simp only [List.take_succ_cons, List.take_zero]
    refine ⟨?_, ?_, ?_, ?_, ?_, ?_, ?_, ?_, ?_, ?_, ?_, ?_, ?_, ?_, ?_, ?_, ?_, trivial⟩
    · intro done us W hJ hdep haft hnot b hb hb' K hK Q'
      have e4 := (hb' 4 (by simp)).trans s4
      clear hb hb'
      go_simp
      exact hK _ _ rfl (fun _ _ _ h => h) hJ
    · intro done us W hJ hdep haft hnot b hb hb' K hK Q'
      have e5 := (hb' 5 (by simp)).trans s5
      clear hb hb'
      go_simp
      exact hK _ _ rfl (fun _ _ _ h => h) hJ
    · intro done us W hJ hdep haft hnot b hb hb' K hK Q'
      simp only [List.getD_cons_succ, List.getD_cons_zero, List.mem_cons, List.not_mem_nil, or_false, forall_eq] at hdep
      have e34 := hb 1 34 rfl
      have d1 := hdep
      rw [d1.1] at e34
      clear hb hb' hdep d1
      have qw : IntKind.i64.wrap ((jj : Int) / 3) = (jj : Int) / 3 := IntWalk.i64_in _ (by omega)
      go_simp
      exact hK _ _ (by have := hss.out; congr 1; omega) (fun _ _ _ h => h) hJ
    · intro done us W hJ hdep haft hnot b hb hb' K hK Q'
      have e5 := (hb' 5 (by simp)).trans s5
      clear hb hb'
      go_simp
      exact hK _ _ rfl (fun _ _ _ h => h) hJ
    · intro done us W hJ hdep haft hnot b hb hb' K hK Q'
      simp only [List.getD_cons_succ, List.getD_cons_zero, List.mem_cons, List.not_mem_nil, or_false, forall_eq] at hdep
      have e36 := hb 3 36 rfl
      have d3 := hdep
      rw [d3.1] at e36
      clear hb hb' hdep d3
      have ht : (jj : Int).tmod 3 = (jj : Int) % 3 := Int.tmod_eq_emod_of_nonneg (by omega)
      have qw : IntKind.i64.wrap ((jj : Int) % 3) = (jj : Int) % 3 := IntWalk.i64_in _ (by omega)
      go_simp
      exact hK _ _ (by have := hkk.out; congr 1; omega) (fun _ _ _ h => h) hJ
    · intro done us W hJ hdep haft hnot b hb hb' K hK Q'
      have e3 := (hb' 3 (by simp)).trans s3
      clear hb hb'
      go_simp
      exact hK _ _ rfl (fun _ _ _ h => h) hJ
    · intro done us W hJ hdep haft hnot b hb hb' K hK Q'
      simp only [List.getD_cons_succ, List.getD_cons_zero, List.mem_cons, List.not_mem_nil, or_false, forall_eq] at hdep
      have e38 := hb 5 38 rfl
      have d5 := hdep
      rw [d5.1] at e38
      clear hb hb' hdep d5
      have q := Ext.cell hJ hs
      go_simp
      exact hK _ _ rfl (fun _ _ _ h => h) hJ
    · intro done us W hJ hdep haft hnot b hb hb' K hK Q'
      have e6 := (hb' 6 (by simp)).trans s6
      clear hb hb'
      go_simp
      exact hK _ _ rfl (fun _ _ _ h => h) hJ
    · intro done us W hJ hdep haft hnot b hb hb' K hK Q'
      simp only [List.getD_cons_succ, List.getD_cons_zero, List.mem_cons, List.not_mem_nil, or_false, forall_eq_or_imp, forall_eq] at hdep
      have e39 := hb 6 39 rfl
      have e40 := hb 7 40 rfl
      have d6 := hdep.1
      have d7 := hdep.2
      rw [d6.1] at e39
      rw [d7.1] at e40
      clear hb hb' hdep d6 d7
      go_simp
      exact hK _ _ rfl (fun _ _ _ h => h) hJ
    · intro done us W hJ hdep haft hnot b hb hb' K hK Q'
      simp only [List.getD_cons_succ, List.getD_cons_zero, List.mem_cons, List.not_mem_nil, or_false, forall_eq] at hdep
      have e41 := hb 8 41 rfl
      have d8 := hdep
      rw [d8.1] at e41
      clear hb hb' hdep d8
      have q := Ext.cell hJ ha
      go_simp
      exact hK _ _ rfl (fun _ _ _ h => h) hJ
    · intro done us W hJ hdep haft hnot b hb hb' K hK Q'
      have e1 := (hb' 1 (by simp)).trans s1
      clear hb hb'
      go_simp
      exact hK _ _ rfl (fun _ _ _ h => h) hJ
    · intro done us W hJ hdep haft hnot b hb hb' K hK Q'
      simp only [List.getD_cons_succ, List.getD_cons_zero, List.mem_cons, List.not_mem_nil, or_false, forall_eq] at hdep
      have e43 := hb 10 43 rfl
      have d10 := hdep
      rw [d10.1] at e43
      clear hb hb' hdep d10
      have q := Ext.cell hJ hp
      go_simp
      exact hK _ _ rfl (fun _ _ _ h => h) hJ
    · intro done us W hJ hdep haft hnot b hb hb' K hK Q'
      simp only [List.getD_cons_succ, List.getD_cons_zero, List.mem_cons, List.not_mem_nil, or_false, forall_eq] at hdep
      have e44 := hb 11 44 rfl
      have d11 := hdep
      rw [d11.1] at e44
      clear hb hb' hdep d11
      go_simp
      exact hK _ _ rfl (fun _ _ _ h => h) hJ
    · intro done us W hJ hdep haft hnot b hb hb' K hK Q'
      simp only [List.getD_cons_succ, List.getD_cons_zero, List.mem_cons, List.not_mem_nil, or_false, forall_eq_or_imp, forall_eq] at hdep
      have e42 := hb 9 42 rfl
      have e45 := hb 12 45 rfl
      have d9 := hdep.1
      have d12 := hdep.2
      rw [d9.1] at e42
      rw [d12.1] at e45
      clear hb hb' hdep d9 d12
      go_simp
      exact hK _ _ rfl (fun _ _ _ h => h) hJ
    · intro done us W hJ hdep haft hnot b hb hb' K hK Q'
      simp only [List.getD_cons_succ, List.getD_cons_zero, List.mem_cons, List.not_mem_nil, or_false, forall_eq] at hdep
      have e46 := hb 13 46 rfl
      have d13 := hdep
      rw [d13.1] at e46
      clear hb hb' hdep d13
      have z0 := Ext.cell hJ x0
      have z1 := Ext.cell hJ x1
      have z2 := Ext.cell hJ x2
      go_simp
      exact hK _ _ rfl (fun _ _ _ h => h) hJ
    · intro done us W hJ hdep haft hnot b hb hb' K hK Q'
      simp only [List.getD_cons_succ, List.getD_cons_zero, List.mem_cons, List.not_mem_nil, or_false, forall_eq_or_imp, forall_eq] at hdep
      have e33 := hb 0 33 rfl
      have e35 := hb 2 35 rfl
      have d0 := hdep.1
      have d2 := hdep.2
      rw [d0.1] at e33
      rw [d2.1] at e35
      clear hb hb' hdep d0 d2
      go_simp
      exact hK _ _ rfl (fun _ _ _ h => h) hJ
    · intro done us W hJ hdep haft hnot b hb hb' K hK Q'
      simp only [List.getD_cons_succ, List.getD_cons_zero, List.mem_cons, List.not_mem_nil, or_false, forall_eq_or_imp, forall_eq] at hdep
      have e37 := hb 4 37 rfl
      have e48 := hb 15 48 rfl
      have d4 := hdep.1
      have d15 := hdep.2
      rw [d4.1] at e37
      rw [d15.1] at e48
      clear hb hb' hdep d4 d15
      go_simp
      exact hK _ _ rfl (fun _ _ _ h => h) hJ
  · intro us W hV hJ
    exact hend (us 0) (us 1) (us 2) (us 3) (us 4) (us 5) (us 6) (us 7) (us 8) (us 9) (us 10) (us 11) (us 12) (us 13) (us 14) (us 15) (us 16) W (hV 0 (by omega)) (hV 1 (by omega)) (hV 2 (by omega)) (hV 3 (by omega)) (hV 4 (by omega)) (hV 5 (by omega)) (hV 6 (by omega)) (hV 7 (by omega)) (hV 8 (by omega)) (hV 9 (by omega)) (hV 10 (by omega)) (hV 11 (by omega)) (hV 12 (by omega)) (hV 13 (by omega)) (hV 14 (by omega)) (hV 15 (by omega)) (hV 16 (by omega)) hJ
set_option maxRecDepth 100000 in
set_option maxHeartbeats 16000000 in
theorem solve_ok (S : Nat) (A : Option Addr) (n c : Nat) (ms : List Mt) (w : World) (h : MsAt w A n ms) (hv : VP S ms) :
    Calls Try.prog 124 #[.agg #[.int .i64 (S : Int), .slice A n c]] w (fun e w' => ∃ go, e = .returned (.slice (some ⟨go, 0, none⟩) S S) ∧ w.heap.size ≤ go ∧ ShP (fun w v q => NumX w v q 53) w' go 0 S (solP (3 * S) ms) ∧ Ext w w') := by
  have hS1 : 1 ≤ S := by have := hv.1; omega
  have hS8 : S ≤ 8 := by have := hv.2.1; omega
  obtain ⟨nn, hN⟩ : ∃ nn, nn = 3 * S := ⟨_, rfl⟩
  have hNb : nn ≤ 24 := by omega
  have hqN : IntKind.i64.wrap (3 * (S : Int)) = (nn : Int) := by rw [IntWalk.i64_in _ (by omega)]; omega
  have hfit := fun j hj i hi c hc => redG_fit hv.2.2.2 hv.2.2.1 hNb j hj i hi c hc
  have HFIT := Lib.hid hfit
  have H := Lib.hid h
  have HV := Lib.hid hv
  have HNN := Lib.hid hN
  rw [← hN]
  clear h hv hN hfit
  have hXe : Ext w (w.alloc (.cells #[.int .i64 (S : Int), .slice A n c] 76)) := (Ext.refl w).alloc _
  have kP : Blk (w.alloc (.cells #[.int .i64 (S : Int), .slice A n c] 76)) w.heap.size 76 #[.int .i64 (S : Int), .slice A n c] := Blk.new w _ _
  go_enter Try.func124, Try.ntmps124
  go_upto_region 1 with (fail)
  generalize w.alloc (.cells #[.int .i64 (S : Int), .slice A n c] 76) = w1 at hXe kP ⊢
  have HX := Lib.hid hXe
  have HP := Lib.hid kP
  have p0 := kP.cell 0
  have p1 := kP.cell 1
  have hpl := kP.lt
  simp only [List.getElem?_toArray, List.getElem?_cons_zero, List.getElem?_cons_succ] at p0 p1
  clear hXe kP
  go_wp2_with fail
  refine (build_ok S nn A n c ms _ (H.out.ext HX.out) HV.out HNN.out).mono ?_
  rintro e w2 ⟨gt, ct, vs0, rfl, hT, hct, hX⟩
  replace HX := Lib.hid (HX.out.trans hX)
  replace HP := Lib.hid (HP.out.ext hX)
  have hT53 : TabG 3 (Tri fun w v q => NumX w v q 53) 217 226 w1.heap.size w2 gt ct nn (nn + 1) vs0 (tabM ms nn) := hT.impl (fun i j cs _ _ hc => by
    obtain ⟨s, A, l, c, B, m, k, e, hx⟩ := hc
    exact ⟨s, A, l, c, B, m, k, e, hx.mono (by omega)⟩)
  have HT := Lib.hid hT53
  have hX2 := hX.size
  clear hT hX p0 p1 hT53
  go_upto_region 2 with (fail)
  have hXa : Ext w2 (w2.alloc (.cells #[.slice (some ⟨gt, 0, none⟩) nn ct] 201)) := (Ext.refl _).alloc _
  have kB := Blk.new w2 201 #[.slice (some ⟨gt, 0, none⟩) nn ct]
  replace HX := Lib.hid (HX.out.trans hXa)
  replace HP := Lib.hid (HP.out.ext hXa)
  have HL := Lib.hid HT.out.tabL_low
  replace HT := Lib.hid (HT.out.ext (kindNum 53) hXa)
  clear hXa
  generalize w2.alloc (.cells #[.slice (some ⟨gt, 0, none⟩) nn ct] 201) = w3 at kB HX HP HT ⊢
  have hgs : w.heap.size < w2.heap.size := by omega
  have hLS : ∀ g ∈ tabL gt vs0, w.heap.size < g ∧ g < w2.heap.size := fun g hg => by have := HL.out g hg; omega
  generalize w2.heap.size = gs at kB hgs hLS hX2 ⊢
  have HB := Lib.hid kB
  have HLS := Lib.hid hLS
  have hbl := kB.lt
  clear kB hLS HL
  have p0 := HP.out.cell 0
  simp only [List.getElem?_toArray, List.getElem?_cons_zero] at p0
  have hxs := HX.out.size
  go_upto_region 3 with (at_make; refine wpList_mkS w3 elS9 rfl _ _ rfl w.heap.size _ _ _ _ S S rfl rfl (by first | rfl | omega) (by first | rfl | omega) (Nat.le_refl _) (by omega) (by unfold maxLen; omega) hxs ?_; intro w4 us hown hz1 hz2 hext hsz)
  have hrow : RowN (fun w v q => NumX w v q 53) 263 9 w.heap.size w4 w3.heap.size S S (3 * S) (fun _ => none) := RowN.make9 hown hz1 hz2
  replace HX := Lib.hid (HX.out.trans hext)
  replace HP := Lib.hid (HP.out.ext hext)
  replace HB := Lib.hid (HB.out.ext hext)
  replace HT := Lib.hid (HT.out.ext (kindNum 53) hext)
  generalize w3.heap.size = go at hrow hbl hsz hxs ⊢
  have HR := Lib.hid hrow
  clear hrow hown hz1 hz2 hext p0
  have p0 := HP.out.cell 0
  have b0 := HB.out.cell 0
  simp only [List.getElem?_toArray, List.getElem?_cons_zero] at p0 b0
  have hsx := HX.out.size
  go_wp2_with fail
  refine (reduce_v 53 w1.heap.size gt ct nn vs0 (tabM ms nn) w4 HT.out (by omega) HFIT.out (by omega) (by omega)).mono ?_
  rintro e w5 ⟨gp, rfl, hgp, ⟨up, hup, hpn⟩, ⟨vs, hsub, hT⟩, hk⟩
  clear p0 b0
  have hni : ∀ g ∈ tabL gt vs0, NoInts w4 g := fun g hg => by
    rcases HT.out.ni with h | h
    · omega
    · rcases List.mem_cons.1 hg with rfl | hg
      · exact h.2
      · obtain ⟨v, hv, hvg⟩ := List.mem_filterMap.1 hg
        exact h.1 v hv g hvg
  replace HX := Lib.hid (hk.ext HX.out (fun g hg => by have := HLS.out g hg; omega))
  replace HP := Lib.hid (HP.out.keeps hk (fun hg => by have := HLS.out _ hg; omega))
  replace HB := Lib.hid (HB.out.keeps hk (fun hg => by have := HLS.out _ hg; omega))
  replace HR := Lib.hid (HR.out.keeps (staysNum 53) hk hni (fun hg => by have := HLS.out _ hg; omega))
  replace HT := Lib.hid hT
  have HPR : Hid (RowI w4.heap.size w5 gp nn nn (fun j => pivI ((redG nn (tabM ms nn) nn).piv[j]?))) := Lib.hid ⟨up, hup, hpn⟩
  have hps : go < w4.heap.size := by have := hsz; omega
  have HPL : Hid (∀ j, j < nn → ∀ t, (redG nn (tabM ms nn) nn).piv[j]? = some (some t) → t < nn) := Lib.hid (fun j hj t ht => by
    have h1 := Stage.pivtop (n := nn) (T := tabM ms nn) nn j t ht
    have h2 := redG_top nn (tabM ms nn) nn
    omega)
  have HSUB := Lib.hid hsub
  have HNG := Lib.hid HR.out.ni
  clear hT hup hpn hk hni hsub HFIT
  go_wp2_with fail
  go_loopg [18] nn (fun f iv wr => ∃ j : Nat, f = nn - j ∧ j ≤ nn ∧ iv = .int .i64 (j : Int) ∧ Hid (RowN (fun w v q => NumX w v q 53) 263 9 w.heap.size wr go S S (3 * S) (fun u => if u < j then some (solP nn ms u) else none)) ∧ Hid (Ext w wr) ∧ Hid (Keeps [go] w5 wr))
  case atStart => exact ⟨0, by omega, by omega, rfl, Lib.hid (HR.out.congr (fun u _ => by rw [if_neg (by omega)])), HX, Lib.hid (Keeps.refl _ _)⟩
  case round =>
    clear HR HX
    obtain ⟨j, rfl, hj, rfl, HR, HX, HK⟩ := hrel
    by_cases hlt : j < nn
    · have q1 : decide (j < nn) = true := decide_eq_true hlt
      obtain ⟨ss, hss⟩ : ∃ ss, j / 3 = ss := ⟨_, rfl⟩
      obtain ⟨kk, hkk⟩ : ∃ kk, j % 3 = kk := ⟨_, rfl⟩
      have hkk3 : kk < 3 := by omega
      have hssS : ss < S := by have := HNN.out; omega
      have hpj : ss * 9 + kk * 3 = j * 3 := by omega
      have hj3 : j < 3 * S := by have := HNN.out; omega
      have HSS := Lib.hid hss
      have HKK := Lib.hid hkk
      have HPJ := Lib.hid hpj
      clear hss hkk hpj
      have hpr := HPR.out.keeps HK.out (by simp; omega)
      have xg := hpr.cell hlt
      obtain ⟨pj, hpj⟩ : ∃ pj, pivI ((redG nn (tabM ms nn) nn).piv[j]?) = pj := ⟨_, rfl⟩
      rw [hpj] at xg
      have HPV := Lib.hid hpj
      clear hpr hpj
      go_upto_region 6 with (fail)
      refine solve_r6 go S j ss kk wr HSS.out HKK.out hssS (by omega) hkk3 (by omega) _ _ (by simp) rfl rfl ?_
      rintro xv0 xv1 xv2 xv3 xv4 xv5 xv6 xv7 W rfl rfl rfl rfl rfl hv rfl rfl hX
      simp only [rops, Try.f124, regOf, Option.bind_some, Nat.reduceBEq, if_true, if_false, Bool.false_eq_true, Option.getD_some, List.drop_succ_cons, List.drop_zero]
      simp only [Act.put, List.setIfInBounds_toArray, List.set_cons_succ, List.set_cons_zero]
      replace HR := Lib.hid (HR.out.ext (staysNum 53) hX)
      replace HX := Lib.hid (HX.out.trans hX)
      replace HK := Lib.hid (HK.out.trans (Keeps.of_ext hX _))
      clear xg hX
      obtain ⟨s4, A4, l4, c4, B4, m4, k4, rfl⟩ := NumX.open hv
      have HN := Lib.hid (hv.mono (show 2 ≤ 53 by omega))
      clear hv
      obtain ⟨s2, A2, l2, c2, B2, m2, k2, x0, x1, x2, _⟩ := HR.out.cells hj3 HPJ.out
      have f0 := HR.out.free (ss * 9 + kk * 3)
      have f1 := HR.out.free (ss * 9 + kk * 3 + 1)
      have f2 := HR.out.free (ss * 9 + kk * 3 + 2)
      go_upto_region 7 with (fail)
      clear x0 x1 x2 f0 f1 f2
      have hput := HR.out.put (staysNum 53) hj3 HPJ.out HN.out
      replace HK := Lib.hid (((HK.out.setCell (p := ⟨go, ss * 9 + kk * 3, none⟩) (.inl (by simp)) (.bool s4)).setCell (p := ⟨go, ss * 9 + kk * 3 + 1, none⟩) (.inl (by simp)) (.slice A4 l4 c4)).setCell (p := ⟨go, ss * 9 + kk * 3 + 2, none⟩) (.inl (by simp)) (.slice B4 m4 k4))
      replace HX := Lib.hid (((HX.out.setCell (p := ⟨go, ss * 9 + kk * 3, none⟩) (by simp only; omega) (.bool s4)).setCell (p := ⟨go, ss * 9 + kk * 3 + 1, none⟩) (by simp only; omega) (.slice A4 l4 c4)).setCell (p := ⟨go, ss * 9 + kk * 3 + 2, none⟩) (by simp only; omega) (.slice B4 m4 k4))
      clear HN HR
      generalize ((W.setCell ⟨go, ss * 9 + kk * 3, none⟩ (.bool s4)).setCell ⟨go, ss * 9 + kk * 3 + 1, none⟩ (.slice A4 l4 c4)).setCell ⟨go, ss * 9 + kk * 3 + 2, none⟩ (.slice B4 m4 k4) = wa at hput HK HX ⊢
      have HR := Lib.hid hput
      clear hput
      have HSOL : Hid (solP nn ms j = if 0 ≤ pj then (redG nn (tabM ms nn) nn).tab pj.toNat nn else 0) := Lib.hid (by unfold solP; rw [solG_at, HPV.out])
      rcases pivI_low ((redG nn (tabM ms nn) nn).piv[j]?) with hp | ⟨t, hp1, hp2⟩
      · obtain rfl : pj = -1 := by rw [← HPV.out]; exact hp
        have HS0 : Hid (solP nn ms j = 0) := Lib.hid (by rw [HSOL.out, if_neg (by omega)])
        clear hp
        go_wp2
        go_roundg (nn - (j + 1))
        case rel =>
          refine ⟨j + 1, rfl, by omega, by go_num, Lib.hid (HR.out.congr (fun u _ => ?_)), HX, HK⟩
          by_cases e : u = j
          · rw [if_pos e, e, if_pos (by omega), HS0.out]; rfl
          · rw [if_neg e]
            by_cases h2 : u < j
            · rw [if_pos h2, if_pos (by omega)]
            · rw [if_neg h2, if_neg (by omega)]
        case measure => omega
      · obtain rfl : pj = (t : Int) := by rw [← HPV.out]; exact hp2
        have htn := HPL.out j hlt t hp1
        have HS0 : Hid (solP nn ms j = (redG nn (tabM ms nn) nn).tab t nn) := Lib.hid (by rw [HSOL.out, if_pos (by omega), Int.toNat_natCast])
        clear hp1 hp2
        have hTW := HT.out.keeps (kindNum 53) HK.out (fun g hg => by simp at hg; subst hg; exact HNG.out) (fun g hg => by
          simp at hg
          subst hg
          refine ⟨?_, fun v hv e => ?_⟩
          · have := HLS.out gt (inL_tab gt vs0).1; omega
          · have := HLS.out g ((inL_tab gt vs0).2 v (HSUB.out v hv) g e); omega)
        obtain ⟨ga, ca, ra, tca, hva, hoa, hra, ha1, ha2, hat, ha3, ha4⟩ := hTW.row (by decide) (Nat.succ_pos _) htn
        obtain ⟨s9, A9, l9, c9, B9, m9, k9, x0, x1, x2, hx⟩ := hra.three (Nat.lt_succ_self nn)
        replace x0 := own_cell hoa x0
        replace x1 := own_cell hoa x1
        replace x2 := own_cell hoa x2
        rw [← HS0.out] at hx
        have HN := Lib.hid hx
        have hbw := HB.out.keeps HK.out (by simp; omega)
        have hpw := HP.out.keeps HK.out (by simp; omega)
        clear hTW hva hoa hra ha1 ha2 hat ha3 ha4 hx
        have q7 : decide ((0 : Int) ≤ (t : Int)) = true := decide_eq_true (by omega)
        go_upto_region 8 with (fail)
        refine solve_r8 go S j ss kk gs gt ct nn t ga ca w.heap.size s9 A9 B9 l9 c9 m9 k9 wa HSS.out HKK.out hssS (by omega) hkk3 (by omega) (hbw.cell 0) tca (hpw.cell 0) hqN htn (Nat.lt_succ_self nn) (by omega) x0 x1 x2 _ _ (by simp) rfl rfl rfl rfl rfl ?_
        rintro xv0 xv1 xv2 xv3 xv4 xv5 xv6 xv7 xv8 xv9 xv10 xv11 xv12 xv13 xv14 xv15 xv16 W rfl rfl rfl rfl rfl rfl rfl rfl rfl rfl rfl rfl rfl rfl rfl rfl rfl hX
        simp only [rops, Try.f124, regOf, Option.bind_some, Nat.reduceBEq, if_true, if_false, Bool.false_eq_true, Option.getD_some, List.drop_succ_cons, List.drop_zero]
        simp only [Act.put, List.setIfInBounds_toArray, List.set_cons_succ, List.set_cons_zero]
        replace HR := Lib.hid (HR.out.ext (staysNum 53) hX)
        replace HX := Lib.hid (HX.out.trans hX)
        replace HK := Lib.hid (HK.out.trans (Keeps.of_ext hX _))
        replace HN := Lib.hid (HN.out.ext hX)
        clear x0 x1 x2 tca hbw hpw hX
        obtain ⟨s2, A2, l2, c2, B2, m2, k2, x0, x1, x2, _⟩ := HR.out.cells hj3 HPJ.out
        have f0 := HR.out.free (ss * 9 + kk * 3)
        have f1 := HR.out.free (ss * 9 + kk * 3 + 1)
        have f2 := HR.out.free (ss * 9 + kk * 3 + 2)
        have hput := HR.out.put (staysNum 53) hj3 HPJ.out HN.out
        have HPUT := Lib.hid hput
        clear hput
        go_wp2
        go_roundg (nn - (j + 1))
        case rel =>
          refine ⟨j + 1, rfl, by omega, by go_num, Lib.hid (HPUT.out.congr (fun u _ => ?_)), Lib.hid (((HX.out.setCell (by simp only; omega) _).setCell (by simp only; omega) _).setCell (by simp only; omega) _), Lib.hid (((HK.out.setCell (.inl (by simp)) _).setCell (.inl (by simp)) _).setCell (.inl (by simp)) _)⟩
          by_cases e : u = j
          · rw [if_pos e, e, if_pos (by omega)]
          · rw [if_neg e, if_neg e]
            by_cases h2 : u < j
            · rw [if_pos h2, if_pos (by omega)]
            · rw [if_neg h2, if_neg (by omega)]
        case measure => omega
    · obtain rfl : nn = j := by omega
      go_wp2
      go_ret
      exact ⟨go, rfl, by omega, HR.out.shp (fun u hu => by rw [if_pos (by have := HNN.out; omega)]), HX.out⟩

end Go.Proofs.Ytikhlcgnlbinfaa
namespace Go.Proofs.Ytikhlcgnlbinfaa
open Go.RowKit

theorem elR9 : Elem Try.prog 91 98 9 168 (.agg #[.bool false, .slice none 0 0, .slice none 0 0, .bool false, .slice none 0 0, .slice none 0 0, .bool false, .slice none 0 0, .slice none 0 0]) := Elem.mk' (by kernel_rfl) (by kernel_rfl) rfl (by decide)
theorem pick_agg {P : World → Value → Rat → Prop} {w : World} {k : Nat} (hk : k < 3) {s0 s1 s2 : Bool} {A0 A1 A2 B0 B1 B2 : Option Addr} {l0 c0 m0 k0 l1 c1 m1 k1 l2 c2 m2 k2 : Nat} {q : Nat → Rat} (h0 : P w (.agg #[.bool s0, .slice A0 l0 c0, .slice B0 m0 k0]) (q 0)) (h1 : P w (.agg #[.bool s1, .slice A1 l1 c1, .slice B1 m1 k1]) (q 1)) (h2 : P w (.agg #[.bool s2, .slice A2 l2 c2, .slice B2 m2 k2]) (q 2)) :
    ∃ s A l c B m n, pick3 (Value.bool s0) (Value.bool s1) (Value.bool s2) k = .bool s ∧ pick3 (Value.slice A0 l0 c0) (Value.slice A1 l1 c1) (Value.slice A2 l2 c2) k = .slice A l c ∧ pick3 (Value.slice B0 m0 k0) (Value.slice B1 m1 k1) (Value.slice B2 m2 k2) k = .slice B m n ∧ P w (.agg #[.bool s, .slice A l c, .slice B m n]) (q k) := by
  match k, hk with
  | 0, _ => exact ⟨_, _, _, _, _, _, _, rfl, rfl, rfl, h0⟩
  | 1, _ => exact ⟨_, _, _, _, _, _, _, rfl, rfl, rfl, h1⟩
  | 2, _ => exact ⟨_, _, _, _, _, _, _, rfl, rfl, rfl, h2⟩
  | _ + 3, hk => omega

theorem idx9N (x0 x1 x2 x3 x4 x5 x6 x7 x8 : Value) {k : Nat} (hk : k < 3) (w : World) : (Instr.index 263 (.agg #[x0, x1, x2, x3, x4, x5, x6, x7, x8]) (.int .i64 (k : Int))).run Try.prog w = .ok (.agg #[pick3 x0 x3 x6 k, pick3 x1 x4 x7 k, pick3 x2 x5 x8 k]) w := by
  have i0 : ∀ w : World, (Instr.index 263 (.agg #[x0, x1, x2, x3, x4, x5, x6, x7, x8]) (.int .i64 0)).run Try.prog w = .ok (.agg #[x0, x1, x2]) w := fun _ => by kernel_rfl
  have i1 : ∀ w : World, (Instr.index 263 (.agg #[x0, x1, x2, x3, x4, x5, x6, x7, x8]) (.int .i64 1)).run Try.prog w = .ok (.agg #[x3, x4, x5]) w := fun _ => by kernel_rfl
  have i2 : ∀ w : World, (Instr.index 263 (.agg #[x0, x1, x2, x3, x4, x5, x6, x7, x8]) (.int .i64 2)).run Try.prog w = .ok (.agg #[x6, x7, x8]) w := fun _ => by kernel_rfl
  match k, hk with
  | 0, _ => exact i0 w
  | 1, _ => exact i1 w
  | 2, _ => exact i2 w
  | _ + 3, hk => omega

theorem idx9R (x0 x1 x2 x3 x4 x5 x6 x7 x8 : Value) {k : Nat} (hk : k < 3) (w : World) : (Instr.index 98 (.agg #[x0, x1, x2, x3, x4, x5, x6, x7, x8]) (.int .i64 (k : Int))).run Try.prog w = .ok (.agg #[pick3 x0 x3 x6 k, pick3 x1 x4 x7 k, pick3 x2 x5 x8 k]) w := by
  have i0 : ∀ w : World, (Instr.index 98 (.agg #[x0, x1, x2, x3, x4, x5, x6, x7, x8]) (.int .i64 0)).run Try.prog w = .ok (.agg #[x0, x1, x2]) w := fun _ => by kernel_rfl
  have i1 : ∀ w : World, (Instr.index 98 (.agg #[x0, x1, x2, x3, x4, x5, x6, x7, x8]) (.int .i64 1)).run Try.prog w = .ok (.agg #[x3, x4, x5]) w := fun _ => by kernel_rfl
  have i2 : ∀ w : World, (Instr.index 98 (.agg #[x0, x1, x2, x3, x4, x5, x6, x7, x8]) (.int .i64 2)).run Try.prog w = .ok (.agg #[x6, x7, x8]) w := fun _ => by kernel_rfl
  match k, hk with
  | 0, _ => exact i0 w
  | 1, _ => exact i1 w
  | 2, _ => exact i2 w
  | _ + 3, hk => omega

set_option maxRecDepth 100000 in
set_option maxHeartbeats 2000000 in
theorem done9_r11 (go S ss kk gr : Nat) (sy : Bool) (Ay By : Option Addr) (ly cy my ky : Nat) (w : World) (x0 : w.cell? ⟨gr, 0, none⟩ = some (.bool sy)) (x1 : w.cell? ⟨gr, 1, none⟩ = some (.slice Ay ly cy)) (x2 : w.cell? ⟨gr, 2, none⟩ = some (.slice By my ky)) (hs1 : ss < S) (hk3 : (kk : Int) < 3) (_hk4 : kk < 3) (a : Act) (Q : Exit → Act → World → Prop) (hsize : 40 ≤ a.tmps.size)
    (s4 : a.tmps[4]? = some (.slice (some ⟨go, 0, none⟩) S S))
    (s5 : a.tmps[5]? = some (.int .i64 (ss : Int)))
    (s7 : a.tmps[7]? = some (.int .i64 (kk : Int)))
    (s9 : a.tmps[9]? = some (.pointer (some ⟨gr, 0, none⟩)))
    (hend : ∀ (xv0 xv1 xv2 xv3 xv4 xv5 : Value) (W : World), (xv0 = .slice (some ⟨go, 0, none⟩) S S) → (xv1 = .int .i64 (ss : Int)) → (xv2 = .int .i64 (kk : Int)) → (xv3 = .agg #[.bool sy, .slice Ay ly cy, .slice By my ky]) → (xv4 = .pointer (some ⟨go, ss * 9, none⟩)) → (xv5 = .pointer (some ⟨go, ss * 9 + kk * 3, none⟩)) → Ext w W → wpList Try.prog (rops Try.f125 11).toArray Q ((rops Try.f125 11).drop 6) ((((((a.put (some 34) xv0).put (some 35) xv1).put (some 36) xv2).put (some 37) xv3).put (some 38) xv4).put (some 39) xv5) W) :
    (Code.region 11 (rops Try.f125 11).toArray true).wp Try.prog Q a w := by
  have hmono : ∀ (W W' : World) (j : Nat) (u : Value), Ext W W' → (fun (i : Nat) (v : Value) (W : World) => match i with
    | 0 => v = .slice (some ⟨go, 0, none⟩) S S
    | 1 => v = .int .i64 (ss : Int)
    | 2 => v = .int .i64 (kk : Int)
    | 3 => v = .agg #[.bool sy, .slice Ay ly cy, .slice By my ky]
    | 4 => v = .pointer (some ⟨go, ss * 9, none⟩)
    | 5 => v = .pointer (some ⟨go, ss * 9 + kk * 3, none⟩)
    | _ => True) j u W → (fun (i : Nat) (v : Value) (W : World) => match i with
    | 0 => v = .slice (some ⟨go, 0, none⟩) S S
    | 1 => v = .int .i64 (ss : Int)
    | 2 => v = .int .i64 (kk : Int)
    | 3 => v = .agg #[.bool sy, .slice Ay ly cy, .slice By my ky]
    | 4 => v = .pointer (some ⟨go, ss * 9, none⟩)
    | 5 => v = .pointer (some ⟨go, ss * 9 + kk * 3, none⟩)
    | _ => True) j u W' := by
    intro W W' j u hX h
    match j, h with
    | 0, h => exact h
    | 1, h => exact h
    | 2, h => exact h
    | 3, h => exact h
    | 4, h => exact h
    | 5, h => exact h
    | _ + 6, h => exact h
  have hsz : ∀ d, some d ∈ ([some 34, some 35, some 36, some 37, some 38, some 39] : List (Option Tmp)) → d < a.tmps.size := slots_lt (by decide) hsize
  refine wp_region_j 6 [some 34, some 35, some 36, some 37, some 38, some 39] [[], [], [], [], [0, 1], [2, 4]] [[], [], [], [], [], []] (fun (i : Nat) (v : Value) (W : World) => match i with
    | 0 => v = .slice (some ⟨go, 0, none⟩) S S
    | 1 => v = .int .i64 (ss : Int)
    | 2 => v = .int .i64 (kk : Int)
    | 3 => v = .agg #[.bool sy, .slice Ay ly cy, .slice By my ky]
    | 4 => v = .pointer (some ⟨go, ss * 9, none⟩)
    | 5 => v = .pointer (some ⟨go, ss * 9 + kk * 3, none⟩)
    | _ => True) (fun _ W => Ext w W) (by kernel_rfl) (by kernel_rfl) hsz (fun _ _ _ _ h => h) ((Ext.refl w).drew) ?_ ?_
  · clear hend
    simp only [rops, Try.f125, regOf, Option.bind_some, Nat.reduceBEq, if_true, if_false, Bool.false_eq_true, Option.getD_some]
    simp only [List.take_succ_cons, List.take_zero]
    refine ⟨?_, ?_, ?_, ?_, ?_, ?_, trivial⟩
    · intro done us W hJ hdep haft hnot b hb hb' K hK Q'
      have e4 := (hb' 4 (by simp)).trans s4
      clear hb hb'
      go_simp
      exact hK _ _ rfl (fun _ _ _ h => h) hJ
    · intro done us W hJ hdep haft hnot b hb hb' K hK Q'
      have e5 := (hb' 5 (by simp)).trans s5
      clear hb hb'
      go_simp
      exact hK _ _ rfl (fun _ _ _ h => h) hJ
    · intro done us W hJ hdep haft hnot b hb hb' K hK Q'
      have e7 := (hb' 7 (by simp)).trans s7
      clear hb hb'
      go_simp
      exact hK _ _ rfl (fun _ _ _ h => h) hJ
    · intro done us W hJ hdep haft hnot b hb hb' K hK Q'
      have e9 := (hb' 9 (by simp)).trans s9
      clear hb hb'
      have z0 := Ext.cell hJ x0
      have z1 := Ext.cell hJ x1
      have z2 := Ext.cell hJ x2
      go_simp
      exact hK _ _ rfl (fun _ _ _ h => h) hJ
    · intro done us W hJ hdep haft hnot b hb hb' K hK Q'
      simp only [List.getD_cons_succ, List.getD_cons_zero, List.mem_cons, List.not_mem_nil, or_false, forall_eq_or_imp, forall_eq] at hdep
      have e34 := hb 0 34 rfl
      have e35 := hb 1 35 rfl
      have d0 := hdep.1
      have d1 := hdep.2
      rw [d0.1] at e34
      rw [d1.1] at e35
      clear hb hb' hdep d0 d1
      go_simp
      exact hK _ _ rfl (fun _ _ _ h => h) hJ
    · intro done us W hJ hdep haft hnot b hb hb' K hK Q'
      simp only [List.getD_cons_succ, List.getD_cons_zero, List.mem_cons, List.not_mem_nil, or_false, forall_eq_or_imp, forall_eq] at hdep
      have e36 := hb 2 36 rfl
      have e38 := hb 4 38 rfl
      have d2 := hdep.1
      have d4 := hdep.2
      rw [d2.1] at e36
      rw [d4.1] at e38
      clear hb hb' hdep d2 d4
      go_simp
      exact hK _ _ rfl (fun _ _ _ h => h) hJ
  · intro us W hV hJ
    exact hend (us 0) (us 1) (us 2) (us 3) (us 4) (us 5) W (hV 0 (by omega)) (hV 1 (by omega)) (hV 2 (by omega)) (hV 3 (by omega)) (hV 4 (by omega)) (hV 5 (by omega)) hJ
set_option maxRecDepth 100000 in
set_option maxHeartbeats 16000000 in
theorem done_S (L gt ot S ct : Nat) (u : Nat → Rat) (w : World) (hS : ShP (fun w v q => NumX w v q L) w gt ot S u) (hL : L ≤ 100000) (hf : ∀ j, j < 3 * S → FitQW (u j)) (hS8 : S ≤ 1000) :
    Calls Try.prog 125 #[.slice (some ⟨gt, ot, none⟩) S ct] w (fun e w' => ∃ go, e = .returned (.tuple #[.slice (some ⟨go, 0, none⟩) S S, .int .i64 0]) ∧ w.heap.size ≤ go ∧ ShP RatC w' go 0 S u ∧ Ext w w') := by
  have HS := Lib.hid hS
  have HF := Lib.hid hf
  clear hS hf
  go_enter Try.func125, Try.ntmps125
  go_upto_region 1 with (fail)
  go_upto_region 2 with (at_make; refine wpList_mkS w elR9 rfl _ _ rfl w.heap.size _ _ _ _ S S rfl rfl (by first | rfl | omega) (by first | rfl | omega) (Nat.le_refl _) (by omega) (by unfold maxLen; omega) (Nat.le_refl _) ?_; intro w4 us hown hz1 hz2 hext hsz)
  have hrow : RowN RatC 98 9 w.heap.size w4 w.heap.size S S (3 * S) (fun _ => none) := RowN.make9 hown hz1 hz2
  have HR : Hid (RowN RatC 98 9 w.heap.size w4 w.heap.size S S (3 * S) (fun _ => none)) := Lib.hid hrow
  have HX := Lib.hid hext
  clear hrow hown hz1 hz2 hext
  go_wp2_with fail
  go_loopg [16] S (fun f iv wr => ∃ i : Nat, f = S - i ∧ i ≤ S ∧ iv = .int .i64 (i : Int) ∧ Hid (RowN RatC 98 9 w.heap.size wr w.heap.size S S (3 * S) (fun j => if j < 3 * i then some (u j) else none)) ∧ Hid (Ext w wr))
  case atStart => exact ⟨0, by omega, by omega, rfl, Lib.hid (HR.out.congr (fun j _ => by rw [if_neg (by omega)])), HX⟩
  case round =>
    clear HR HX hsz
    obtain ⟨i, rfl, hi, rfl, HR, HX⟩ := hrel
    by_cases hlt : i < S
    · have q1 : decide (i < S) = true := decide_eq_true hlt
      obtain ⟨s0, A0, l0, c0, B0, m0, k0, a0, b0, d0, e0⟩ := HS.out i 0 hlt (by omega)
      replace a0 := HX.out.cell a0
      replace b0 := HX.out.cell b0
      replace d0 := HX.out.cell d0
      obtain ⟨s1, A1, l1, c1, B1, m1, k1, a1, b1, d1, e1⟩ := HS.out i 1 hlt (by omega)
      replace a1 := HX.out.cell a1
      replace b1 := HX.out.cell b1
      replace d1 := HX.out.cell d1
      obtain ⟨s2, A2, l2, c2, B2, m2, k2, a2, b2, d2, e2⟩ := HS.out i 2 hlt (by omega)
      replace a2 := HX.out.cell a2
      replace b2 := HX.out.cell b2
      replace d2 := HX.out.cell d2
      have HE0 := Lib.hid e0
      have HE1 := Lib.hid e1
      have HE2 := Lib.hid e2
      clear e0 e1 e2
      simp only [Nat.zero_mul, Nat.add_zero, Nat.one_mul] at a0 b0 d0 a1 b1 d1
      have e3 : ot + i * 9 + 3 + 1 = ot + i * 9 + 4 := by omega
      have e4 : ot + i * 9 + 3 + 2 = ot + i * 9 + 5 := by omega
      have e6 : ot + i * 9 + 2 * 3 = ot + i * 9 + 6 := by omega
      have e7 : ot + i * 9 + 2 * 3 + 1 = ot + i * 9 + 7 := by omega
      have e8 : ot + i * 9 + 2 * 3 + 2 = ot + i * 9 + 8 := by omega
      rw [e3] at b1
      rw [e4] at d1
      rw [e7] at b2
      rw [e8] at d2
      rw [e6] at a2
      clear e3 e4 e6 e7 e8
      go_upto_region 5 with (fail)
      have hXa : Ext wr (wr.alloc (.cells #[.bool s0, .slice A0 l0 c0, .slice B0 m0 k0, .bool s1, .slice A1 l1 c1, .slice B1 m1 k1, .bool s2, .slice A2 l2 c2, .slice B2 m2 k2] 263)) := (Ext.refl _).alloc _
      have kB := Blk.new wr 263 #[.bool s0, .slice A0 l0 c0, .slice B0 m0 k0, .bool s1, .slice A1 l1 c1, .slice B1 m1 k1, .bool s2, .slice A2 l2 c2, .slice B2 m2 k2]
      replace HR := Lib.hid (HR.out.ext staysC hXa)
      replace HX := Lib.hid (HX.out.trans hXa)
      clear hXa a0 b0 d0 a1 b1 d1 a2 b2 d2
      generalize wr.heap.size = gv at kB ⊢
      generalize wr.alloc (.cells #[.bool s0, .slice A0 l0 c0, .slice B0 m0 k0, .bool s1, .slice A1 l1 c1, .slice B1 m1 k1, .bool s2, .slice A2 l2 c2, .slice B2 m2 k2] 263) = w5 at kB HR HX ⊢
      have y0 := kB.cell 0
      have y1 := kB.cell 1
      have y2 := kB.cell 2
      have y3 := kB.cell 3
      have y4 := kB.cell 4
      have y5 := kB.cell 5
      have y6 := kB.cell 6
      have y7 := kB.cell 7
      have y8 := kB.cell 8
      simp only [List.getElem?_toArray, List.getElem?_cons_zero, List.getElem?_cons_succ] at y0 y1 y2 y3 y4 y5 y6 y7 y8
      clear kB
      go_wp2_with fail
      clear y0 y1 y2 y3 y4 y5 y6 y7 y8
      go_loopg [22] 3 (fun f kv wr => ∃ k : Nat, f = 3 - k ∧ k ≤ 3 ∧ kv = .int .i64 (k : Int) ∧ Hid (RowN RatC 98 9 w.heap.size wr w.heap.size S S (3 * S) (fun j => if j < 3 * i + k then some (u j) else none)) ∧ Hid (Ext w wr))
      case atStart => exact ⟨0, by omega, by omega, rfl, HR, HX⟩
      case round =>
        clear HR HX
        obtain ⟨k, rfl, hk, rfl, HR, HX⟩ := hrel
        by_cases hkl : k < 3
        · have q2 : decide (k < 3) = true := decide_eq_true hkl
          obtain ⟨s9, A9, l9, c9, B9, m9, k9, g1, g2, g3, hq⟩ := pick_agg (P := fun w v q => NumX w v q L) (w := wr) (q := fun k => u (3 * i + k)) hkl (HE0.out.ext HX.out) (HE1.out.ext HX.out) (HE2.out.ext HX.out)
          have ik := idx9N (.bool s0) (.slice A0 l0 c0) (.slice B0 m0 k0) (.bool s1) (.slice A1 l1 c1) (.slice B1 m1 k1) (.bool s2) (.slice A2 l2 c2) (.slice B2 m2 k2) hkl
          rw [g1, g2, g3] at ik
          have HQ := Lib.hid hq
          clear hq g1 g2 g3
          have hj3 : 3 * i + k < 3 * S := by omega
          have HFQ := Lib.hid (HF.out _ hj3)
          go_upto_region 8 with (fail)
          have hXa : Ext wr (wr.alloc (.cells #[.bool s9, .slice A9 l9 c9, .slice B9 m9 k9] 217)) := (Ext.refl _).alloc _
          have kB := Blk.new wr 217 #[.bool s9, .slice A9 l9 c9, .slice B9 m9 k9]
          replace HR := Lib.hid (HR.out.ext staysC hXa)
          replace HX := Lib.hid (HX.out.trans hXa)
          replace HQ := Lib.hid (HQ.out.ext hXa)
          clear hXa
          generalize wr.heap.size = gn at kB ⊢
          generalize wr.alloc (.cells #[.bool s9, .slice A9 l9 c9, .slice B9 m9 k9] 217) = w6 at kB HR HX HQ ⊢
          have y0 := kB.cell 0
          have y1 := kB.cell 1
          have y2 := kB.cell 2
          simp only [List.getElem?_toArray, List.getElem?_cons_zero, List.getElem?_cons_succ] at y0 y1 y2
          clear kB
          go_wp2_with fail
          refine (doneG HQ.out (by omega) HFQ.out).mono ?_
          rintro e w7 ⟨v7, rfl, hv, hX⟩
          obtain ⟨s4, A4, l4, c4, B4, m4, k4, rfl⟩ := RatC.open hv
          clear y0 y1 y2 HQ
          replace HR := Lib.hid (HR.out.ext staysC hX)
          replace HX := Lib.hid (HX.out.trans hX)
          clear hX
          have HV := Lib.hid hv
          clear hv
          go_upto_region 9 with (fail)
          have hXa : Ext w7 (w7.alloc (.cells #[.bool s4, .slice A4 l4 c4, .slice B4 m4 k4] 97)) := (Ext.refl _).alloc _
          have kB := Blk.new w7 97 #[.bool s4, .slice A4 l4 c4, .slice B4 m4 k4]
          replace HR := Lib.hid (HR.out.ext staysC hXa)
          replace HX := Lib.hid (HX.out.trans hXa)
          replace HV := Lib.hid (HV.out.ext hXa)
          clear hXa
          generalize w7.heap.size = gn2 at kB ⊢
          generalize w7.alloc (.cells #[.bool s4, .slice A4 l4 c4, .slice B4 m4 k4] 97) = w8 at kB HR HX HV ⊢
          have KB := Lib.hid kB
          clear kB
          go_upto_region 11 with (fail)
          refine done9_r11 w.heap.size S i k gn2 s4 A4 B4 l4 c4 m4 k4 w8 (KB.out.cell 0) (KB.out.cell 1) (KB.out.cell 2) hlt (by omega) hkl _ _ (by simp) rfl rfl rfl rfl ?_
          rintro xv0 xv1 xv2 xv3 xv4 xv5 W rfl rfl rfl rfl rfl rfl hX
          simp only [rops, Try.f125, regOf, Option.bind_some, Nat.reduceBEq, if_true, if_false, Bool.false_eq_true, Option.getD_some, List.drop_succ_cons, List.drop_zero]
          simp only [Act.put, List.setIfInBounds_toArray, List.set_cons_succ, List.set_cons_zero]
          replace HR := Lib.hid (HR.out.ext staysC hX)
          replace HX := Lib.hid (HX.out.trans hX)
          replace HV := Lib.hid (HV.out.ext hX)
          clear hX KB
          have hpj : i * 9 + k * 3 = (3 * i + k) * 3 := by omega
          obtain ⟨s2, A2, l2, c2, B2, m2, k2, z0, z1, z2, _⟩ := HR.out.cells hj3 hpj
          have f0 := HR.out.free (i * 9 + k * 3)
          have f1 := HR.out.free (i * 9 + k * 3 + 1)
          have f2 := HR.out.free (i * 9 + k * 3 + 2)
          have HPUT := Lib.hid (HR.out.put staysC hj3 hpj HV.out)
          clear hpj
          go_wp2
          go_roundg (3 - (k + 1))
          case rel =>
            refine ⟨k + 1, rfl, by omega, by go_num, Lib.hid (HPUT.out.congr (fun j _ => ?_)), Lib.hid (((HX.out.setCell (by simp only; omega) _).setCell (by simp only; omega) _).setCell (by simp only; omega) _)⟩
            by_cases e : j = 3 * i + k
            · rw [if_pos e, e, if_pos (by omega)]
            · rw [if_neg e]
              by_cases h2 : j < 3 * i + k
              · rw [if_pos h2, if_pos (by omega)]
              · rw [if_neg h2, if_neg (by omega)]
          case measure => omega
        · obtain rfl : k = 3 := by omega
          go_wp2
          go_roundg (S - (i + 1))
          case rel => exact ⟨i + 1, rfl, by omega, by go_num, Lib.hid (HR.out.congr (fun j _ => by rw [show 3 * (i + 1) = 3 * i + 3 by omega])), HX⟩
          case measure => omega
    · obtain rfl : i = S := by omega
      go_wp2
      go_ret2
      exact ⟨w.heap.size, rfl, by omega, HR.out.shp (fun j hj => by rw [if_pos hj]), HX.out⟩

end Go.Proofs.Ytikhlcgnlbinfaa
namespace Go.Proofs.Ytikhlcgnlbinfaa
open Go.ChangeShapes Go.WideShapes Go.ChangeAt Go.RowKit Go.Joins

/-- The cells of a struct that came in. -/
theorem agg_cellsZ {P : Program} {W : World} {H : Type} {enc : TypeId × Value → H} {t : TypeId} {fs : Array Field} {v : Value} {d : DataW H} {p : List MemPlace} {b base : Nat} {sp : Nat → Bool} {hd : Bool} (hs : P.underlying t = some (.struct fs))
    (hv : Value.okWide P W .any base t v) (h : DataW.Trod enc P W b sp hd t v d p) : ∃ cs fuel z, v = .agg cs ∧ cs.toList.length = P.cellsOf t ∧ DataW.trod enc P W b sp hd fuel t cs.toList = some z := by
  obtain ⟨cs, rfl, hsz⟩ := okWide_struct hs hv
  obtain ⟨fuel, hf⟩ := h
  exact ⟨cs, fuel, _, rfl, by simpa using hsz, by simpa [Value.cells] using hf⟩
theorem csR_mtV {vs : List Value} {ms : List Mt} (h : CsR (fun cs m => cs = m.cells) vs ms) : vs = mtV ms := by
  induction ms generalizing vs with
  | nil => exact h
  | cons m ms ih =>
    obtain ⟨cs, rest, rfl, rfl, h3⟩ := h
    rw [ih h3]; rfl
theorem listZ7 {α : Type} {cs : List α} (h : cs.length = 7) : ∃ c0 c1 c2 c3 c4 c5 c6, cs = [c0, c1, c2, c3, c4, c5, c6] := by
  match cs, h with
  | [c0, c1, c2, c3, c4, c5, c6], _ => exact ⟨c0, c1, c2, c3, c4, c5, c6, rfl⟩
set_option maxRecDepth 100000 in
set_option maxHeartbeats 1000000 in
theorem mt_el {W : World} {H : Type} {enc : TypeId × Value → H} {fuel : Nat} {cs : List Value} {z : DataW H × List MemPlace} {b : Nat} {sp : Nat → Bool} {hd : Bool} (hl : cs.length = 7) (hf' : DataW.trod enc Try.prog W b sp hd fuel 90 cs = some z) : ∃ m : Mt, cs = m.cells := by
  obtain ⟨c0, c1, c2, c3, c4, c5, c6, rfl⟩ := listZ7 hl
  obtain ⟨xs1, n1, _, _, _, hl1, hg1⟩ := DataW.trod_struct Try.underlying90 hf'
  have g1_0 : DataW.trod enc Try.prog W b sp hd n1 3 [c0] = xs1[0]? := by
    have h := hg1 0 _ rfl
    rw [show Try.prog.cellsOf _ = 1 by kernel_rfl] at h
    exact h
  rw [List.getElem?_eq_getElem (by rw [hl1]; decide)] at g1_0
  obtain ⟨vc0, ec0, _, wc0⟩ := DataW.trod_int Try.underlying3 g1_0
  simp only [List.cons.injEq, and_true] at ec0
  subst ec0
  have g1_1 : DataW.trod enc Try.prog W b sp hd n1 3 [c1] = xs1[1]? := by
    have h := hg1 1 _ rfl
    rw [show Try.prog.cellsOf _ = 1 by kernel_rfl] at h
    exact h
  rw [List.getElem?_eq_getElem (by rw [hl1]; decide)] at g1_1
  obtain ⟨vc1, ec1, _, wc1⟩ := DataW.trod_int Try.underlying3 g1_1
  simp only [List.cons.injEq, and_true] at ec1
  subst ec1
  have g1_2 : DataW.trod enc Try.prog W b sp hd n1 22 [c2, c3, c4] = xs1[2]? := by
    have h := hg1 2 _ rfl
    rw [show Try.prog.cellsOf _ = 3 by kernel_rfl] at h
    exact h
  rw [List.getElem?_eq_getElem (by rw [hl1]; decide)] at g1_2
  obtain ⟨xs4, n4, _, _, _, hl4, hg4⟩ := DataW.trod_array Try.underlying22 g1_2
  have g4_0 : DataW.trod enc Try.prog W b sp hd n4 3 [c2] = xs4[0]? := by
    have h := hg4 0 (by decide)
    rw [show Try.prog.cellsOf _ = 1 by kernel_rfl] at h
    exact h
  rw [List.getElem?_eq_getElem (by rw [hl4]; decide)] at g4_0
  obtain ⟨vc2, ec2, _, wc2⟩ := DataW.trod_int Try.underlying3 g4_0
  simp only [List.cons.injEq, and_true] at ec2
  subst ec2
  have g4_1 : DataW.trod enc Try.prog W b sp hd n4 3 [c3] = xs4[1]? := by
    have h := hg4 1 (by decide)
    rw [show Try.prog.cellsOf _ = 1 by kernel_rfl] at h
    exact h
  rw [List.getElem?_eq_getElem (by rw [hl4]; decide)] at g4_1
  obtain ⟨vc3, ec3, _, wc3⟩ := DataW.trod_int Try.underlying3 g4_1
  simp only [List.cons.injEq, and_true] at ec3
  subst ec3
  have g4_2 : DataW.trod enc Try.prog W b sp hd n4 3 [c4] = xs4[2]? := by
    have h := hg4 2 (by decide)
    rw [show Try.prog.cellsOf _ = 1 by kernel_rfl] at h
    exact h
  rw [List.getElem?_eq_getElem (by rw [hl4]; decide)] at g4_2
  obtain ⟨vc4, ec4, _, wc4⟩ := DataW.trod_int Try.underlying3 g4_2
  simp only [List.cons.injEq, and_true] at ec4
  subst ec4
  have g1_3 : DataW.trod enc Try.prog W b sp hd n1 3 [c5] = xs1[3]? := by
    have h := hg1 3 _ rfl
    rw [show Try.prog.cellsOf _ = 1 by kernel_rfl] at h
    exact h
  rw [List.getElem?_eq_getElem (by rw [hl1]; decide)] at g1_3
  obtain ⟨vc5, ec5, _, wc5⟩ := DataW.trod_int Try.underlying3 g1_3
  simp only [List.cons.injEq, and_true] at ec5
  subst ec5
  have g1_4 : DataW.trod enc Try.prog W b sp hd n1 3 [c6] = xs1[4]? := by
    have h := hg1 4 _ rfl
    rw [show Try.prog.cellsOf _ = 1 by kernel_rfl] at h
    exact h
  rw [List.getElem?_eq_getElem (by rw [hl1]; decide)] at g1_4
  obtain ⟨vc6, ec6, _, wc6⟩ := DataW.trod_int Try.underlying3 g1_4
  simp only [List.cons.injEq, and_true] at ec6
  subst ec6
  exact ⟨⟨vc0, vc1, vc2, vc3, vc4, vc5, vc6⟩, rfl⟩
theorem listZ2 {α : Type} {cs : List α} (h : cs.length = 2) : ∃ c0 c1, cs = [c0, c1] := by
  match cs, h with
  | [c0, c1], _ => exact ⟨c0, c1, rfl⟩
set_option maxRecDepth 100000 in
theorem prob_open {W : World} {H : Type} {enc : TypeId × Value → H} {v : Value} {d : DataW H} {p : List MemPlace} {b base : Nat} {sp : Nat → Bool} {hd : Bool} (hv : Value.okWide Try.prog W .any base 76 v) (h : DataW.Trod enc Try.prog W b sp hd 76 v d p) : ∃ (S : Int) (A : Option Addr) (n c : Nat) (ms : List Mt), v = .agg #[.int .i64 S, .slice A n c] ∧ MsAt W A n ms ∧ n ≤ c ∧ c ≤ 9223372036854775807 := by
  obtain ⟨cs, fuel, z, rfl, hl, hf⟩ := agg_cellsZ Try.underlying76 hv h
  obtain ⟨c0, c1, he⟩ := listZ2 (hl.trans (by kernel_rfl))
  rw [he] at hf
  obtain ⟨xs1, n1, _, _, _, hl1, hg1⟩ := DataW.trod_struct Try.underlying76 hf
  have g0 : DataW.trod enc Try.prog W b sp hd n1 3 [c0] = xs1[0]? := by
    have h := hg1 0 _ rfl
    rw [show Try.prog.cellsOf _ = 1 by kernel_rfl] at h
    exact h
  rw [List.getElem?_eq_getElem (by rw [hl1]; decide)] at g0
  have g1 : DataW.trod enc Try.prog W b sp hd n1 74 [c1] = xs1[1]? := by
    have h := hg1 1 _ rfl
    rw [show Try.prog.cellsOf _ = 1 by kernel_rfl] at h
    exact h
  rw [List.getElem?_eq_getElem (by rw [hl1]; decide)] at g1
  obtain ⟨v0, e0, _, w0⟩ := DataW.trod_int Try.underlying3 g0
  simp only [List.cons.injEq, and_true] at e0
  subst e0
  obtain ⟨A, l, m, e1⟩ := slice_form Try.underlying74 g1
  simp only [List.cons.injEq, and_true] at e1
  subst e1
  obtain ⟨ms, vs, h1, h2, h3, h4, h5⟩ := slice_trod (k := 7) (R := fun cs (m : Mt) => cs = m.cells) Try.underlying74 (by kernel_rfl) (fun cs m e => by rw [e]; rfl) (fun fuel cs z hl hz => mt_el hl hz) g1
  rw [csR_mtV h2] at h3
  exact ⟨v0, A, l, m, ms, congrArg Value.agg (Array.toList_inj.1 he), ⟨h1, h3⟩, h4, h5⟩
end Go.Proofs.Ytikhlcgnlbinfaa
namespace Go.Proofs.Ytikhlcgnlbinfaa
open Go.RowKit

/-- How an element reads: as itself. -/
def mR (v : Value) : Option (DataW Value × List MemPlace) := some (.held v, [])
/-- What stands at a key. -/
def look (l : List (Int × Value)) (x : Int) : Option Value := (l.find? fun p => p.1 == x).map Prod.snd
theorem look_snoc {l : List (Int × Value)} {x : Int} {v : Value} (h : look l x = none) (y : Int) : look (l ++ [(x, v)]) y = if y = x then some v else look l y := by
  unfold look at h ⊢
  rw [List.find?_append]
  by_cases e : y = x
  · subst e
    rw [Option.map_eq_none_iff] at h
    rw [h]
    simp
  · rw [if_neg e]
    have : ([(x, v)] : List (Int × Value)).find? (fun p => p.1 == y) = none := by simp; exact fun h => e h.symm
    rw [this]; simp
theorem look_mem {l : List (Int × Value)} {x : Int} {v : Value} (h : look l x = some v) : (x, v) ∈ l := by
  unfold look at h
  obtain ⟨p, hp, rfl⟩ := Option.map_eq_some_iff.1 h
  have h1 := List.find?_some hp
  have h2 := List.mem_of_find?_eq_some hp
  have : p.1 = x := by simpa using h1
  rw [← this]; exact h2
theorem look_none {l : List (Int × Value)} {x : Int} : look l x = none ↔ x ∉ l.map Prod.fst := by
  unfold look
  rw [Option.map_eq_none_iff, List.find?_eq_none]
  constructor
  · intro h hm
    obtain ⟨p, hp, rfl⟩ := List.mem_map.1 hm
    exact h p hp (by simp)
  · intro h p hp e
    exact h (List.mem_map.2 ⟨p, hp, by simpa using e⟩)
theorem nodup_snoc {l : List (Int × Value)} (hn : (l.map Prod.fst).Nodup) {x : Int} {v : Value} (h : look l x = none) : ((l ++ [(x, v)]).map Prod.fst).Nodup := by
  rw [List.map_append, List.nodup_append]
  refine ⟨hn, by simp, fun a ha b hb => ?_⟩
  simp at hb
  subst hb
  rintro rfl
  exact look_none.1 h ha
/-- Block 'b' is a map of just these keys with these values. -/
structure MapL (P : Program) (k : TypeId) (w : World) (b : Nat) (l : List (Int × Value)) : Prop where
  own : ∃ D, w.ownsMap P k mR b l.length D ∧ (∀ x z, D.atKey (.int .i64 x) z = ((look l x).map DataW.held).getD z) ∧ Maps.size D = l.length
  apart : (l.map Prod.fst).Nodup

section
variable {P : Program} {k : TypeId} {w w' : World} {b : Nat} {l l' : List (Int × Value)}
theorem MapL.lt (h : MapL P k w b l) : b < w.heap.size := by obtain ⟨D, h1, _⟩ := h.own; exact h1.lt
theorem MapL.kept {row : Option Nat} (h : MapL P k w b l) (hg : w.grownBy w' row) (hne : some b ≠ row) : MapL P k w' b l := by obtain ⟨D, h1, h2⟩ := h.own; exact ⟨⟨D, h1.kept hg hne, h2⟩, h.apart⟩
theorem MapL.ext (h : MapL P k w b l) (he : Ext w w') : MapL P k w' b l := h.kept (he.row none) (by simp)
theorem MapL.keeps {L : List Nat} (h : MapL P k w b l) (hk : Keeps L w w') (hn : b ∉ L) : MapL P k w' b l := by
  obtain ⟨⟨D, h1, h2⟩, h3⟩ := h
  have hl := h1.lt
  obtain ⟨es, clock, hb, r⟩ := h1
  exact ⟨⟨D, ⟨es, clock, (hk.block b hl hn).trans hb, r⟩, h2⟩, h3⟩
theorem MapL.setCell (h : MapL P k w b l) {a : Addr} (ha : b ≠ a.block) (u : Value) : MapL P k (w.setCell a u) b l := by obtain ⟨D, h1, h2⟩ := h.own; exact ⟨⟨D, h1.setCell ha u, h2⟩, h.apart⟩
theorem MapL.drew (h : MapL P k w b l) : MapL P k w.drew b l := by obtain ⟨D, h1, h2⟩ := h.own; exact ⟨⟨D, h1.drew, h2⟩, h.apart⟩
theorem MapL.made (w : World) (P : Program) (k : TypeId) : MapL P k (w.alloc (.map #[] 0)) w.heap.size [] := ⟨⟨_, World.ownsMap_made w P k mR, fun _ _ => rfl, rfl⟩, by simp⟩
variable (K : Maps.Keyed P k) {t e : TypeId} (ht : P.underlying t = some (.map k e))
theorem has_of {D : DataW Value} {l : List (Int × Value)} (h : ∀ x z, D.atKey (.int .i64 x) z = ((look l x).map DataW.held).getD z) (x : Int) : Maps.has D (.int .i64 x) = (look l x).isSome := by
  cases hl : look l x with
  | none => exact Maps.has_false_of_atKey fun z => by rw [h, hl]; rfl
  | some v => exact Maps.has_true_of_atKey (y := .held v) fun z => by rw [h, hl]; rfl
include K ht
/-- 'm[x]'. -/
theorem MapL.run_at (h : MapL P k w b l) {z : Value} (hz : (zeroValue e).run P w = .ok z w) {x : Int} (hkey : keyOf P k (.int .i64 x) = some (.int .i64 x)) :
    (Instr.lookup t (.map (some b)) (.int .i64 x) false).run P w = .ok ((look l x).getD z) w := by
  obtain ⟨⟨D, h1, h2, h3⟩, h4⟩ := h
  obtain ⟨v, ps, hrun, hv⟩ := h1.lookup K ht hz (zd := .held z) (zp := []) rfl hkey
  rw [h2] at hv
  have : v = (look l x).getD z := by
    injection hv with hv
    injection hv with hv _
    cases hl : look l x with
    | none => rw [hl] at hv; injection hv
    | some u => rw [hl] at hv; injection hv
  subst this
  exact hrun
/-- 'm[x] = v', x a new key. -/
theorem MapL.run_put (h : MapL P k w b l) (hn : l.length < maxLen) {x : Int} {v : Value} (hkey : keyOf P k (.int .i64 x) = some (.int .i64 x)) (hl : look l x = none) :
    ∃ w', (Instr.mapUpdate t (.map (some b)) (.int .i64 x) v).run P w = .ok () w' ∧ MapL P k w' b (l ++ [(x, v)]) ∧ w.grownBy w' (some b) := by
  obtain ⟨⟨D, h1, h2, h3⟩, h4⟩ := h
  obtain ⟨w', hrun, h5, h6⟩ := h1.store K ht hn (d := .held v) (ps := []) hkey rfl (val := v)
  refine ⟨w', hrun, ⟨⟨_, by rw [List.length_append]; exact h5, fun y z => ?_, ?_⟩, nodup_snoc h4 hl⟩, h6.grown⟩
  · by_cases e : y = x
    · subst e
      rw [Maps.atKey_put_same h1.isMap (K.key hkey), look_snoc hl, if_pos rfl]; rfl
    · rw [Maps.atKey_put_other (by intro e'; injection e' with _ e'; exact e e'), look_snoc hl, if_neg e, h2]
  · rw [Maps.size_put (h1.tidy K), has_of h2, hl]; simp [h3]
end

section
variable {P : Program} (w : World) {ops : Array Oper} {rest : List Oper} {o : Oper} {a : Act} {Q : Exit → Act → World → Prop} {k : TypeId} {b : Nat} {l : List (Int × Value)}
theorem keyOf_i64 {P : Program} {k : TypeId} (hk : P.underlying k = some (.int .i64)) {x : Int} (hx : -9223372036854775808 ≤ x ∧ x ≤ 9223372036854775807) : keyOf P k (.int .i64 x) = some (.int .i64 x) := by
  have : (Lit.int .i64 x).wf = true := by simp [Lit.wf, IntKind.min, IntKind.max, IntKind.bits, IntKind.signed]; omega
  simp [keyOf, mapKey, hk, this]
/-- 'm[x] = v', a new key. -/
theorem wpList_put_new (hg : o.guard = none) (m x v : Operand) (t : TypeId) (hop : o.op = Op.mapUpdate t m x v) (e : TypeId) (K : Maps.Keyed P k) (hk : P.underlying k = some (.int .i64)) (ht : P.underlying t = some (.map k e))
    (hm : a.eval m = .map (some b)) (hown : MapL P k w b l) (hn : l.length < maxLen) (X : Int) (V : Value) (hx : a.eval x = .int .i64 X) (hv : a.eval v = V) (hX : -9223372036854775808 ≤ X ∧ X ≤ 9223372036854775807) (hl : look l X = none)
    (hK : ∀ w', MapL P k w' b (l ++ [(X, V)]) → w.grownBy w' (some b) → wpList P ops Q rest (a.put o.dst undef) w') : wpList P ops Q (o :: rest) a w := by
  refine wpList_plain hg fun K' hK' => ?_
  obtain ⟨w', hrun, r1, r2⟩ := hown.run_put K ht hn (v := V) (keyOf_i64 hk hX) hl
  unfold Oper.wp
  simp [execOp, hop, hm, hx, hv, hrun, Result.andThen]
  exact hK' _ _ (hK w' r1 r2)
end
end Go.Proofs.Ytikhlcgnlbinfaa
namespace Go.Proofs.Ytikhlcgnlbinfaa
open Go.RowKit

theorem keyed_int : Maps.Keyed Try.prog 3 := Maps.int_keyed Try.underlying3
theorem und_int : Try.prog.underlying 3 = some (.int .i64) := by kernel_rfl
theorem und_mapG : Try.prog.underlying 223 = some (.map 3 4) := by kernel_rfl
theorem zero_G (w : World) : (zeroValue 4).run Try.prog w = .ok (.bool false) w := by kernel_rfl
theorem elMt2 : Elem Try.prog 74 90 7 56 (.agg #[.int .i64 0, .int .i64 0, .int .i64 0, .int .i64 0, .int .i64 0, .int .i64 0, .int .i64 0]) := Elem.mk' (by kernel_rfl) (by kernel_rfl) rfl (by decide)
/-- What the map of dropped indexes holds. -/
def gl (l : List Int) : List (Int × Value) := l.map fun d => (d, Value.bool true)
theorem gl_snoc (l : List Int) (d : Int) : gl (l ++ [d]) = gl l ++ [(d, .bool true)] := by unfold gl; rw [List.map_append]; rfl
theorem gl_len (l : List Int) : (gl l).length = l.length := by unfold gl; simp
theorem gl_keys (l : List Int) : (gl l).map Prod.fst = l := by unfold gl; rw [List.map_map]; exact List.map_id' l
theorem look_gl (l : List Int) (x : Int) : (look (gl l) x).getD (.bool false) = .bool (l.contains x) := by
  by_cases h : x ∈ l
  · have hc : l.contains x = true := by simpa using h
    rw [hc]
    cases hl : look (gl l) x with
    | none =>
      rw [look_none, gl_keys] at hl
      exact absurd h hl
    | some v =>
      have := look_mem hl
      unfold gl at this
      obtain ⟨d, _, hd⟩ := List.mem_map.1 this
      injection hd with _ hd
      rw [← hd]
      rfl
  · have hc : l.contains x = false := by simpa using h
    rw [hc, look_none.2 (by rw [gl_keys]; exact h)]
    rfl
theorem look_new {l : List Int} {x : Int} (h : x ∉ l) : look (gl l) x = none := look_none.2 (by rw [gl_keys]; exact h)
theorem dropOk_take {n : Nat} {ds : List Int} (h : DropOk n ds) (k : Nat) : DropOk n (ds.take k) := ⟨fun i hi => h.1 i (List.mem_of_mem_take hi), h.2.sublist (List.take_sublist _ _)⟩
theorem dropOk_snoc {n : Nat} {ds : List Int} {k : Nat} {d : Int} (hd : ds[k]? = some d) : DropOk n (ds.take (k + 1)) ↔ DropOk n (ds.take k) ∧ 0 ≤ d ∧ d < n ∧ d ∉ ds.take k := by
  have e : ds.take (k + 1) = ds.take k ++ [d] := by rw [List.take_add_one, hd]; rfl
  unfold DropOk
  rw [e, List.nodup_append]
  constructor
  · rintro ⟨h1, h2, _, h3⟩
    refine ⟨⟨fun i hi => h1 i (List.mem_append_left _ hi), h2⟩, (h1 d (by simp)).1, (h1 d (by simp)).2, fun hm => h3 d hm d (by simp) rfl⟩
  · rintro ⟨⟨h1, h2⟩, h3, h4, h5⟩
    refine ⟨fun i hi => ?_, h2, by simp, fun a ha b hb => ?_⟩
    · rcases List.mem_append.1 hi with h | h
      · exact h1 i h
      · simp at h; subst h; exact ⟨h3, h4⟩
    · simp at hb; subst hb; intro e; subst e; exact h5 ha
theorem keepI_map (ms : List Mt) (ds : List Int) (k : Nat) : (keepI ds (k + 1)).map (mtAt ms) = (keepI ds k).map (mtAt ms) ++ (if ds.contains (k : Int) then [] else [mtAt ms k]) := by
  rw [keepI_succ, List.map_append]
  split <;> rfl
theorem keepI_le (ds : List Int) (k : Nat) : (keepI ds k).length ≤ k := by
  have := List.length_filter_le (fun i => !ds.contains ((i : Nat) : Int)) (List.range k)
  unfold keepI
  rw [List.length_range] at this
  exact this

set_option maxRecDepth 100000 in
set_option maxHeartbeats 16000000 in
theorem without_no (S : Int) (A : Option Addr) (n c : Nat) (ms : List Mt) (Ad : Option Addr) (nd cd : Nat) (w : World) (h : MsAt w A n ms) (hv : ¬ VP S ms)  :
    Calls Try.prog 51 #[.agg #[.int .i64 S, .slice A n c], .slice Ad nd cd] w (fun e w' => e = .returned (.tuple #[.agg #[.int .i64 0, .slice none 0 0], .int .i64 50]) ∧ Ext w w') := by
  have H := Lib.hid h
  have hXe : Ext w ((w.alloc (.cells #[.int .i64 S, .slice A n c] 76)).alloc (.cells #[.int .i64 0, .slice none 0 0] 76)) := ((Ext.refl w).alloc _).alloc _
  have kP : Blk ((w.alloc (.cells #[.int .i64 S, .slice A n c] 76)).alloc (.cells #[.int .i64 0, .slice none 0 0] 76)) w.heap.size 76 #[.int .i64 S, .slice A n c] := Blk.alloc (Blk.new w _ _) _
  have kR : Blk ((w.alloc (.cells #[.int .i64 S, .slice A n c] 76)).alloc (.cells #[.int .i64 0, .slice none 0 0] 76)) (w.heap.size + 1) 76 #[.int .i64 0, .slice none 0 0] := Blk.at_ (by simp)
  have HV := Lib.hid hv
  clear h hv
  go_enter Try.func51, Try.ntmps51
  go_upto_region 1 with (fail)
  generalize (w.alloc (.cells #[.int .i64 S, .slice A n c] 76)).alloc (.cells #[.int .i64 0, .slice none 0 0] 76) = w1 at hXe kP kR ⊢
  have HX := Lib.hid hXe
  have HP := Lib.hid kP
  have HR := Lib.hid kR
  clear hXe kP kR
  have p0 := HP.out.cell 0
  have p1 := HP.out.cell 1
  simp only [List.getElem?_toArray, List.getElem?_cons_zero, List.getElem?_cons_succ] at p0 p1
  go_wp2_with fail
  refine (valid5_any S A n c ms _ (H.out.ext HX.out)).mono ?_
  rw [vpB_no HV.out]
  rintro e w2 ⟨rfl, hX⟩
  replace HX := Lib.hid (HX.out.trans hX)
  replace HR := Lib.hid (HR.out.ext hX)
  clear hX p0 p1
  have r0 := HR.out.cell 0
  have r1 := HR.out.cell 1
  have f0 := HR.out.free 0
  have f1 := HR.out.free 1
  simp only [List.getElem?_toArray, List.getElem?_cons_zero, List.getElem?_cons_succ] at r0 r1
  go_wp2
  refine bodyPost_ret (v := .tuple #[.agg #[.int .i64 0, .slice none 0 0], .int .i64 50]) (by simp [results, Try.results51, go_sem, *]) rfl ?_
  exact ⟨rfl, (HX.out.setCell (p := ⟨w.heap.size + 1, 0, none⟩) (by simp only; omega) _).setCell (p := ⟨w.heap.size + 1, 1, none⟩) (by simp only; omega) _⟩

set_option maxRecDepth 100000 in
set_option maxHeartbeats 16000000 in
theorem without_bad (S : Nat) (A : Option Addr) (n c : Nat) (ms : List Mt) (Ad : Option Addr) (nd cd : Nat) (ds : List Int) (w : World) (h : MsAt w A n ms) (hv : VP (S : Int) ms) (hn : ds.length = nd) (hI : Ints .i64 w Ad nd ds) (hnd : nd ≤ 1000) (hb : ¬ DropOk n ds) :
    Calls Try.prog 51 #[.agg #[.int .i64 (S : Int), .slice A n c], .slice Ad nd cd] w (fun e w' => e = .returned (.tuple #[.agg #[.int .i64 0, .slice none 0 0], .int .i64 2]) ∧ Ext w w') := by
  have H := Lib.hid h
  have hXe : Ext w ((w.alloc (.cells #[.int .i64 (S : Int), .slice A n c] 76)).alloc (.cells #[.int .i64 0, .slice none 0 0] 76)) := ((Ext.refl w).alloc _).alloc _
  have kP : Blk ((w.alloc (.cells #[.int .i64 (S : Int), .slice A n c] 76)).alloc (.cells #[.int .i64 0, .slice none 0 0] 76)) w.heap.size 76 #[.int .i64 (S : Int), .slice A n c] := Blk.alloc (Blk.new w _ _) _
  have kR : Blk ((w.alloc (.cells #[.int .i64 (S : Int), .slice A n c] 76)).alloc (.cells #[.int .i64 0, .slice none 0 0] 76)) (w.heap.size + 1) 76 #[.int .i64 0, .slice none 0 0] := Blk.at_ (by simp)
  have HV := Lib.hid hv
  clear h hv
  go_enter Try.func51, Try.ntmps51
  go_upto_region 1 with (fail)
  generalize (w.alloc (.cells #[.int .i64 (S : Int), .slice A n c] 76)).alloc (.cells #[.int .i64 0, .slice none 0 0] 76) = w1 at hXe kP kR ⊢
  have HX := Lib.hid hXe
  have HP := Lib.hid kP
  have HR := Lib.hid kR
  clear hXe kP kR
  have p0 := HP.out.cell 0
  have p1 := HP.out.cell 1
  simp only [List.getElem?_toArray, List.getElem?_cons_zero, List.getElem?_cons_succ] at p0 p1
  go_wp2_with fail
  have HI := Lib.hid hI
  have HLD := Lib.hid hn
  have hn64 : n ≤ 64 := by have := HV.out.2.2.1; have := H.out.1; omega
  clear hI hn
  have HB := Lib.hid hb
  clear hb
  refine (valid5_any (S : Int) A n c ms _ (H.out.ext HX.out)).mono ?_
  rw [vpB_iff.2 HV.out]
  rintro e w2 ⟨rfl, hX⟩
  replace HX := Lib.hid (HX.out.trans hX)
  replace HP := Lib.hid (HP.out.ext hX)
  replace HR := Lib.hid (HR.out.ext hX)
  clear hX p0 p1
  have hmm := @run_makeMap Try.prog
  go_upto_region 4 with (fail)
  clear hmm
  have hXa : Ext w2 (w2.alloc (.map #[] 0)) := (Ext.refl _).alloc _
  have kM := MapL.made w2 Try.prog 3
  have hrl := HR.out.lt
  replace HX := Lib.hid (HX.out.trans hXa)
  replace HP := Lib.hid (HP.out.ext hXa)
  replace HR := Lib.hid (HR.out.ext hXa)
  clear hXa
  generalize w2.heap.size = gm at kM hrl ⊢
  generalize w2.alloc (.map #[] 0) = w3 at kM HX HP HR ⊢
  have HM := Lib.hid kM
  clear kM
  go_wp2_with fail
  go_loopg [19] nd (fun fu iv wr => ∃ j : Nat, fu = nd - j ∧ j ≤ nd ∧ iv = .int .i64 (j : Int) ∧ Hid (DropOk n (ds.take j)) ∧ Hid (MapL Try.prog 3 wr gm (gl (ds.take j))) ∧ Hid (Blk wr w.heap.size 76 #[.int .i64 (S : Int), .slice A n c]) ∧ Hid (Blk wr (w.heap.size + 1) 76 #[.int .i64 0, .slice none 0 0]) ∧ Hid (Ext w wr))
  case atStart => exact ⟨0, rfl, by omega, rfl, Lib.hid (DropOk.nil n), HM, HP, HR, HX⟩
  case round =>
    clear HM HP HR HX
    obtain ⟨j, rfl, hj, rfl, HOK, HM, HP, HR, HX⟩ := hrel
    have pl := HP.out
    have p0 := pl.cell 0
    have p1 := pl.cell 1
    simp only [List.getElem?_toArray, List.getElem?_cons_zero, List.getElem?_cons_succ] at p0 p1
    clear pl
    by_cases hlt : j < nd
    · have q1 : decide (j < nd) = true := decide_eq_true hlt
      obtain ⟨gd, od, d, hAd, hd, hwf, x0⟩ := (HI.out.ext HX.out).get hlt
      subst hAd
      have hdr : -9223372036854775808 ≤ d ∧ d ≤ 9223372036854775807 := by simp [Lit.wf, IntKind.min, IntKind.max, IntKind.bits, IntKind.signed] at hwf; omega
      have HSN := Lib.hid (dropOk_snoc (n := n) hd)
      have HD := Lib.hid hd
      clear hd hwf
      have r0 := HR.out.cell 0
      have r1 := HR.out.cell 1
      have f0 := HR.out.free 0
      have f1 := HR.out.free 1
      simp only [List.getElem?_toArray, List.getElem?_cons_zero, List.getElem?_cons_succ] at r0 r1
      by_cases h1 : d < 0
      · have q2 : decide (d < 0) = true := decide_eq_true h1
        have HN : Hid (¬ DropOk n ds) := Lib.hid (fun h => by have := (HSN.out.1 (dropOk_take h (j + 1))).2.1; omega)
        clear h1 hdr
        go_wp2
        refine bodyPost_ret (v := .tuple #[.agg #[.int .i64 0, .slice none 0 0], .int .i64 2]) (by simp [results, Try.results51, go_sem, *]) rfl ?_
        exact ⟨rfl, (HX.out.setCell (p := ⟨w.heap.size + 1, 0, none⟩) (by simp only; omega) _).setCell (p := ⟨w.heap.size + 1, 1, none⟩) (by simp only; omega) _⟩
      · have q2 : decide (d < 0) = false := decide_eq_false h1
        by_cases h2 : (n : Int) ≤ d
        · have q3 : decide ((n : Int) ≤ d) = true := decide_eq_true h2
          have HN : Hid (¬ DropOk n ds) := Lib.hid (fun h => by have := (HSN.out.1 (dropOk_take h (j + 1))).2.2.1; omega)
          clear h1 h2 hdr
          go_wp2
          refine bodyPost_ret (v := .tuple #[.agg #[.int .i64 0, .slice none 0 0], .int .i64 2]) (by simp [results, Try.results51, go_sem, *]) rfl ?_
          exact ⟨rfl, (HX.out.setCell (p := ⟨w.heap.size + 1, 0, none⟩) (by simp only; omega) _).setCell (p := ⟨w.heap.size + 1, 1, none⟩) (by simp only; omega) _⟩
        · have q3 : decide ((n : Int) ≤ d) = false := decide_eq_false h2
          have q := HM.out.run_at (t := 223) keyed_int und_mapG (zero_G _) (keyOf_i64 und_int (x := d) hdr)
          rw [look_gl] at q
          by_cases h3 : d ∈ ds.take j
          · rw [show (ds.take j).contains d = true by simpa using h3] at q
            have HN : Hid (¬ DropOk n ds) := Lib.hid (fun h => (HSN.out.1 (dropOk_take h (j + 1))).2.2.2 h3)
            clear h1 h2 h3 hdr
            go_wp2
            refine bodyPost_ret (v := .tuple #[.agg #[.int .i64 0, .slice none 0 0], .int .i64 2]) (by simp [results, Try.results51, go_sem, *]) rfl ?_
            exact ⟨rfl, (HX.out.setCell (p := ⟨w.heap.size + 1, 0, none⟩) (by simp only; omega) _).setCell (p := ⟨w.heap.size + 1, 1, none⟩) (by simp only; omega) _⟩
          · rw [show (ds.take j).contains d = false by simpa using h3] at q
            have HO2 : Hid (DropOk n (ds.take (j + 1))) := Lib.hid (HSN.out.2 ⟨HOK.out, by omega, by omega, h3⟩)
            have HLN := Lib.hid (look_new h3)
            have hlen : (gl (ds.take j)).length ≤ j := by rw [gl_len, List.length_take]; omega
            clear h1 h2 h3 r0 r1 f0 f1
            go_upto_region 9 with (fail)
            clear q p0 p1 x0
            go_wp2_with (at_mapUpdate; refine wpList_put_new _ rfl _ _ _ 223 rfl 4 keyed_int und_int und_mapG rfl HM.out (by unfold maxLen; omega) d (.bool true) rfl rfl hdr HLN.out ?_; intro w8 hm8 hg8; have HM8 := Lib.hid hm8; have HG8 := Lib.hid hg8; clear hm8 hg8)
            go_roundg (nd - (j + 1))
            case rel =>
              refine ⟨j + 1, rfl, by omega, by go_num, HO2, Lib.hid ?_, Lib.hid (HP.out.grown HG8.out (by simp; omega)), Lib.hid (HR.out.grown HG8.out (by simp; omega)), Lib.hid (HX.out.grown HG8.out (fun b hb => by injection hb with hb; omega))⟩
              rw [show ds.take (j + 1) = ds.take j ++ [d] by rw [List.take_add_one, HD.out]; rfl, gl_snoc]
              exact HM8.out
            case measure => omega
    · obtain rfl : nd = j := by omega
      exfalso
      have := HOK.out
      rw [List.take_of_length_le (by have := HLD.out; omega)] at this
      exact HB.out this

set_option maxRecDepth 100000 in
set_option maxHeartbeats 16000000 in
theorem without_ok (S : Nat) (A : Option Addr) (n c : Nat) (ms : List Mt) (Ad : Option Addr) (nd cd : Nat) (ds : List Int) (w : World) (h : MsAt w A n ms) (hv : VP (S : Int) ms) (hn : ds.length = nd) (hI : Ints .i64 w Ad nd ds) (hnd : nd ≤ 1000) (hb : DropOk n ds) :
    Calls Try.prog 51 #[.agg #[.int .i64 (S : Int), .slice A n c], .slice Ad nd cd] w (fun e w' => ∃ v, e = .returned (.tuple #[.agg #[.int .i64 (S : Int), v], .int .i64 0]) ∧ w'.ownsRow w.heap.size 90 7 v (wout ms ds).length (mtV (wout ms ds)) ∧ Ext w w') := by
  have H := Lib.hid h
  have hXe : Ext w ((w.alloc (.cells #[.int .i64 (S : Int), .slice A n c] 76)).alloc (.cells #[.int .i64 0, .slice none 0 0] 76)) := ((Ext.refl w).alloc _).alloc _
  have kP : Blk ((w.alloc (.cells #[.int .i64 (S : Int), .slice A n c] 76)).alloc (.cells #[.int .i64 0, .slice none 0 0] 76)) w.heap.size 76 #[.int .i64 (S : Int), .slice A n c] := Blk.alloc (Blk.new w _ _) _
  have kR : Blk ((w.alloc (.cells #[.int .i64 (S : Int), .slice A n c] 76)).alloc (.cells #[.int .i64 0, .slice none 0 0] 76)) (w.heap.size + 1) 76 #[.int .i64 0, .slice none 0 0] := Blk.at_ (by simp)
  have HV := Lib.hid hv
  clear h hv
  go_enter Try.func51, Try.ntmps51
  go_upto_region 1 with (fail)
  generalize (w.alloc (.cells #[.int .i64 (S : Int), .slice A n c] 76)).alloc (.cells #[.int .i64 0, .slice none 0 0] 76) = w1 at hXe kP kR ⊢
  have HX := Lib.hid hXe
  have HP := Lib.hid kP
  have HR := Lib.hid kR
  clear hXe kP kR
  have p0 := HP.out.cell 0
  have p1 := HP.out.cell 1
  simp only [List.getElem?_toArray, List.getElem?_cons_zero, List.getElem?_cons_succ] at p0 p1
  go_wp2_with fail
  have HI := Lib.hid hI
  have HLD := Lib.hid hn
  have hn64 : n ≤ 64 := by have := HV.out.2.2.1; have := H.out.1; omega
  clear hI hn
  have HB := Lib.hid hb
  clear hb
  refine (valid5_any (S : Int) A n c ms _ (H.out.ext HX.out)).mono ?_
  rw [vpB_iff.2 HV.out]
  rintro e w2 ⟨rfl, hX⟩
  replace HX := Lib.hid (HX.out.trans hX)
  replace HP := Lib.hid (HP.out.ext hX)
  replace HR := Lib.hid (HR.out.ext hX)
  clear hX p0 p1
  have hmm := @run_makeMap Try.prog
  go_upto_region 4 with (fail)
  clear hmm
  have hXa : Ext w2 (w2.alloc (.map #[] 0)) := (Ext.refl _).alloc _
  have kM := MapL.made w2 Try.prog 3
  have hrl := HR.out.lt
  replace HX := Lib.hid (HX.out.trans hXa)
  replace HP := Lib.hid (HP.out.ext hXa)
  replace HR := Lib.hid (HR.out.ext hXa)
  clear hXa
  generalize w2.heap.size = gm at kM hrl ⊢
  generalize w2.alloc (.map #[] 0) = w3 at kM HX HP HR ⊢
  have HM := Lib.hid kM
  clear kM
  go_wp2_with fail
  go_loopg [19] nd (fun fu iv wr => ∃ j : Nat, fu = nd - j ∧ j ≤ nd ∧ iv = .int .i64 (j : Int) ∧ Hid (DropOk n (ds.take j)) ∧ Hid (MapL Try.prog 3 wr gm (gl (ds.take j))) ∧ Hid (Blk wr w.heap.size 76 #[.int .i64 (S : Int), .slice A n c]) ∧ Hid (Blk wr (w.heap.size + 1) 76 #[.int .i64 0, .slice none 0 0]) ∧ Hid (Ext w wr))
  case atStart => exact ⟨0, rfl, by omega, rfl, Lib.hid (DropOk.nil n), HM, HP, HR, HX⟩
  case round =>
    clear HM HP HR HX
    obtain ⟨j, rfl, hj, rfl, HOK, HM, HP, HR, HX⟩ := hrel
    have pl := HP.out
    have p0 := pl.cell 0
    have p1 := pl.cell 1
    simp only [List.getElem?_toArray, List.getElem?_cons_zero, List.getElem?_cons_succ] at p0 p1
    clear pl
    by_cases hlt : j < nd
    · have q1 : decide (j < nd) = true := decide_eq_true hlt
      obtain ⟨gd, od, d, hAd, hd, hwf, x0⟩ := (HI.out.ext HX.out).get hlt
      subst hAd
      have hdr : -9223372036854775808 ≤ d ∧ d ≤ 9223372036854775807 := by simp [Lit.wf, IntKind.min, IntKind.max, IntKind.bits, IntKind.signed] at hwf; omega
      have HSN := Lib.hid (dropOk_snoc (n := n) hd)
      have HD := Lib.hid hd
      clear hd hwf
      have r0 := HR.out.cell 0
      have r1 := HR.out.cell 1
      have f0 := HR.out.free 0
      have f1 := HR.out.free 1
      simp only [List.getElem?_toArray, List.getElem?_cons_zero, List.getElem?_cons_succ] at r0 r1
      by_cases h1 : d < 0
      · have q2 : decide (d < 0) = true := decide_eq_true h1
        have HN : Hid (¬ DropOk n ds) := Lib.hid (fun h => by have := (HSN.out.1 (dropOk_take h (j + 1))).2.1; omega)
        clear h1 hdr
        exact absurd HB.out HN.out
      · have q2 : decide (d < 0) = false := decide_eq_false h1
        by_cases h2 : (n : Int) ≤ d
        · have q3 : decide ((n : Int) ≤ d) = true := decide_eq_true h2
          have HN : Hid (¬ DropOk n ds) := Lib.hid (fun h => by have := (HSN.out.1 (dropOk_take h (j + 1))).2.2.1; omega)
          clear h1 h2 hdr
          exact absurd HB.out HN.out
        · have q3 : decide ((n : Int) ≤ d) = false := decide_eq_false h2
          have q := HM.out.run_at (t := 223) keyed_int und_mapG (zero_G _) (keyOf_i64 und_int (x := d) hdr)
          rw [look_gl] at q
          by_cases h3 : d ∈ ds.take j
          · rw [show (ds.take j).contains d = true by simpa using h3] at q
            have HN : Hid (¬ DropOk n ds) := Lib.hid (fun h => (HSN.out.1 (dropOk_take h (j + 1))).2.2.2 h3)
            clear h1 h2 h3 hdr
            exact absurd HB.out HN.out
          · rw [show (ds.take j).contains d = false by simpa using h3] at q
            have HO2 : Hid (DropOk n (ds.take (j + 1))) := Lib.hid (HSN.out.2 ⟨HOK.out, by omega, by omega, h3⟩)
            have HLN := Lib.hid (look_new h3)
            have hlen : (gl (ds.take j)).length ≤ j := by rw [gl_len, List.length_take]; omega
            clear h1 h2 h3 r0 r1 f0 f1
            go_upto_region 9 with (fail)
            clear q p0 p1 x0
            go_wp2_with (at_mapUpdate; refine wpList_put_new _ rfl _ _ _ 223 rfl 4 keyed_int und_int und_mapG rfl HM.out (by unfold maxLen; omega) d (.bool true) rfl rfl hdr HLN.out ?_; intro w8 hm8 hg8; have HM8 := Lib.hid hm8; have HG8 := Lib.hid hg8; clear hm8 hg8)
            go_roundg (nd - (j + 1))
            case rel =>
              refine ⟨j + 1, rfl, by omega, by go_num, HO2, Lib.hid ?_, Lib.hid (HP.out.grown HG8.out (by simp; omega)), Lib.hid (HR.out.grown HG8.out (by simp; omega)), Lib.hid (HX.out.grown HG8.out (fun b hb => by injection hb with hb; omega))⟩
              rw [show ds.take (j + 1) = ds.take j ++ [d] by rw [List.take_add_one, HD.out]; rfl, gl_snoc]
              exact HM8.out
            case measure => omega
    · obtain rfl : nd = j := by omega
      have q1 : decide (nd < nd) = false := by simp
      have HDT : Hid (ds.take nd = ds) := Lib.hid (List.take_of_length_le (by have := HLD.out; omega))
      rw [HDT.out] at HM
      clear HOK HDT
      go_upto_region 12 with (fail)
      have hXa : Ext wr (wr.alloc (.cells #[.int .i64 (S : Int), .slice none 0 0] 76)) := (Ext.refl _).alloc _
      have kQ := Blk.new wr 76 #[.int .i64 (S : Int), .slice none 0 0]
      have hml := HM.out.lt
      replace HX := Lib.hid (HX.out.trans hXa)
      replace HP := Lib.hid (HP.out.ext hXa)
      replace HR := Lib.hid (HR.out.ext hXa)
      replace HM := Lib.hid (HM.out.ext hXa)
      clear hXa p0 p1
      generalize wr.heap.size = gq at kQ hml ⊢
      generalize wr.alloc (.cells #[.int .i64 (S : Int), .slice none 0 0] 76) = w4 at kQ HX HP HR HM ⊢
      have HQ := Lib.hid kQ
      clear kQ
      have pl := HP.out
      have p0 := pl.cell 0
      have p1 := pl.cell 1
      simp only [List.getElem?_toArray, List.getElem?_cons_zero, List.getElem?_cons_succ] at p0 p1
      clear pl
      go_wp2_with fail
      clear p0 p1
      go_loopg [47] n (fun fu iv wz => ∃ (k : Nat) (ov : Value), fu = n - k ∧ k ≤ n ∧ iv = .int .i64 (k : Int) ∧ Hid (wz.ownsRow (gq + 1) 90 7 ov (keepI ds k).length (mtV ((keepI ds k).map (mtAt ms)))) ∧ Hid (Blk wz gq 76 #[.int .i64 (S : Int), ov]) ∧ Hid (MapL Try.prog 3 wz gm (gl ds)) ∧ Hid (Blk wz (w.heap.size + 1) 76 #[.int .i64 0, .slice none 0 0]) ∧ Hid (Ext w wz))
      case atStart => exact ⟨0, .slice none 0 0, rfl, by omega, rfl, Lib.hid (World.ownsRow_nil _ _ _ _), HQ, HM, HR, HX⟩
      case round =>
        clear HQ HM HR HX
        obtain ⟨k, ov, rfl, hk, rfl, HO, HQ, HM, HR, HX⟩ := hrel
        obtain ⟨Ao, co, rfl⟩ := own_slice HO.out
        by_cases hkn : k < n
        · have q2 : decide (k < n) = true := decide_eq_true hkn
          obtain ⟨gp, op, ⟨a, b, x, y, z, dd, ww⟩, rfl, hm, hmem, x0, x1, x2, x3, x4, x5, x6⟩ := (H.out.ext HX.out).get hkn
          simp only at x0 x1 x2 x3 x4 x5 x6
          have HMK : Hid (mtAt ms k = ⟨a, b, x, y, z, dd, ww⟩) := Lib.hid (by unfold mtAt; rw [hm]; rfl)
          have HKM := Lib.hid (keepI_map ms ds k)
          have HKL := Lib.hid (keepI_succ ds k)
          clear hm hmem
          go_upto_region 15 with (fail)
          have hXa : Ext wr (wr.alloc (.cells #[.int .i64 a, .int .i64 b, .int .i64 x, .int .i64 y, .int .i64 z, .int .i64 dd, .int .i64 ww] 90)) := (Ext.refl _).alloc _
          have kB := Blk.new wr 90 #[.int .i64 a, .int .i64 b, .int .i64 x, .int .i64 y, .int .i64 z, .int .i64 dd, .int .i64 ww]
          have hql := HQ.out.lt
          replace HX := Lib.hid (HX.out.trans hXa)
          replace HO := Lib.hid (World.ownsRow.ext' HO.out hXa)
          replace HQ := Lib.hid (HQ.out.ext hXa)
          replace HR := Lib.hid (HR.out.ext hXa)
          replace HM := Lib.hid (HM.out.ext hXa)
          clear hXa x0 x1 x2 x3 x4 x5 x6
          generalize wr.heap.size = gx at kB hql ⊢
          generalize wr.alloc (.cells #[.int .i64 a, .int .i64 b, .int .i64 x, .int .i64 y, .int .i64 z, .int .i64 dd, .int .i64 ww] 90) = w5 at kB HX HO HQ HR HM ⊢
          have HBX := Lib.hid kB
          clear kB
          have q := HM.out.run_at (t := 223) keyed_int und_mapG (zero_G _) (keyOf_i64 und_int (x := (k : Int)) (by omega))
          rw [look_gl] at q
          obtain ⟨cb, hcb⟩ : ∃ cb, ds.contains (k : Int) = cb := ⟨_, rfl⟩
          rw [hcb] at q HKM HKL
          clear hcb
          by_cases hc : cb = true
          · subst hc
            have HK1 : Hid ((keepI ds (k + 1)).map (mtAt ms) = (keepI ds k).map (mtAt ms)) := Lib.hid (by rw [HKM.out]; simp)
            have HK2 : Hid ((keepI ds (k + 1)).length = (keepI ds k).length) := Lib.hid (by rw [HKL.out]; simp)
            clear HKM HKL
            go_wp2
            go_roundg (n - (k + 1))
            case rel =>
              refine ⟨k + 1, _, rfl, by omega, by go_num, Lib.hid ?_, HQ, HM, HR, HX⟩
              rw [HK1.out, HK2.out]
              exact HO.out
            case measure => omega
          · obtain rfl : cb = false := by simpa using hc
            clear hc
            go_upto_region 16 with (fail)
            clear q
            have HK1 : Hid ((keepI ds (k + 1)).map (mtAt ms) = (keepI ds k).map (mtAt ms) ++ [⟨a, b, x, y, z, dd, ww⟩]) := Lib.hid (by rw [HKM.out, HMK.out]; rfl)
            have HK2 : Hid ((keepI ds (k + 1)).length = (keepI ds k).length + 1) := Lib.hid (by rw [HKL.out]; simp)
            obtain ⟨lk, hlk⟩ : ∃ lk, (keepI ds k).length = lk := ⟨_, rfl⟩
            have hlk64 : lk ≤ 64 := by have := keepI_le ds k; omega
            have HLK := Lib.hid hlk
            rw [hlk] at HO HQ HK2
            clear HKM HKL hlk
            have y0 := HBX.out.cell 0
            have y1 := HBX.out.cell 1
            have y2 := HBX.out.cell 2
            have y3 := HBX.out.cell 3
            have y4 := HBX.out.cell 4
            have y5 := HBX.out.cell 5
            have y6 := HBX.out.cell 6
            simp only [List.getElem?_toArray, List.getElem?_cons_zero, List.getElem?_cons_succ] at y0 y1 y2 y3 y4 y5 y6
            have o1 := HQ.out.cell 1
            have hgxw := HBX.out.lt
            simp only [List.getElem?_toArray, List.getElem?_cons_zero, List.getElem?_cons_succ] at o1
            go_wp2_with (at_builtin; refine wpList_app _ elMt2 rfl _ _ rfl (gq + 1) (.slice Ao lk co) lk _ rfl (HO.out.alloc _) _ 1 1 [.int .i64 a, .int .i64 b, .int .i64 x, .int .i64 y, .int .i64 z, .int .i64 dd, .int .i64 ww] rfl rfl (At.new' _ [_, _, _, _, _, _, _] _ rfl) (by simp [Value.oneCell']) (by omega) (by unfold maxLen; omega) (by simp; omega) ?_; intro v8 w8 hown8 hgr8 _; have HG8 := Lib.hid hgr8; have HO8 := Lib.hid hown8; have hB8 := (HQ.out.alloc _).grown hgr8 (fun e => own_blk_ne HO.out HQ.out (by decide) e.symm); have o0' := hB8.cell 1; have o1' := hB8.free 1; have HB8 := Lib.hid hB8; simp only [List.getElem?_toArray, List.getElem?_cons_zero, List.getElem?_cons_succ] at o0'; obtain ⟨Ao8, co8, rfl⟩ := own_slice hown8; clear hgr8 hown8 hB8)
            go_roundg (n - (k + 1))
            case rel =>
              have hkw : Keeps [gq] w8 (w8.setCell ⟨gq, 1, none⟩ (.slice Ao8 (lk + 1) co8)) := (Keeps.refl [gq] w8).setCell (.inl (by simp)) _
              have hgl : ∀ g, (Value.slice Ao lk co).ownBlock = some g → gq < g := fun g hg => by have := (HO.out.lt g hg).1; omega
              refine ⟨k + 1, .slice Ao8 (lk + 1) co8, rfl, by omega, by go_num, Lib.hid ?_, Lib.hid ?_, Lib.hid (((HM.out.ext ((Ext.refl _).alloc _)).kept HG8.out (fun e => by have := hgl _ e.symm; omega)).setCell (by simp only; omega) _), Lib.hid (((HR.out.alloc _).grown HG8.out (fun e => by have := hgl _ e.symm; omega)).far (by simp only; omega) _), Lib.hid (((HX.out.alloc _).grown HG8.out (fun b hb => by have := hgl _ hb; omega)).setCell (by simp only; omega) _)⟩
              · rw [HK1.out, HK2.out, mtV_snoc]
                exact ownsRow_keeps HO8.out hkw (fun g hg hl => by simp at hl; subst hl; exact own_blk_ne HO8.out HB8.out (by decide) hg)
              · have := HB8.out.set 1 (.slice Ao8 (lk + 1) co8)
                simpa using this
            case measure => omega
        · obtain rfl : n = k := by omega
          have q2 : decide (n < n) = false := by simp
          have HWO : Hid ((keepI ds n).map (mtAt ms) = wout ms ds ∧ (keepI ds n).length = (wout ms ds).length) := Lib.hid (by unfold wout; rw [H.out.1, List.length_map]; exact ⟨rfl, rfl⟩)
          rw [HWO.out.1, HWO.out.2] at HO
          obtain ⟨lk, hlk⟩ : ∃ lk, (wout ms ds).length = lk := ⟨_, rfl⟩
          rw [hlk] at HO
          rw [HWO.out.2, hlk] at HQ
          clear HWO
          have HLK := Lib.hid hlk
          clear hlk
          have r0 := HR.out.cell 0
          have r1 := HR.out.cell 1
          have f0 := HR.out.free 0
          have f1 := HR.out.free 1
          simp only [List.getElem?_toArray, List.getElem?_cons_zero, List.getElem?_cons_succ] at r0 r1
          have o0 := HQ.out.cell 0
          have o1 := HQ.out.cell 1
          simp only [List.getElem?_toArray, List.getElem?_cons_zero, List.getElem?_cons_succ] at o0 o1
          go_wp2
          refine bodyPost_ret (v := .tuple #[.agg #[.int .i64 (S : Int), .slice Ao lk co], .int .i64 0]) (by simp [results, Try.results51, go_sem, *]) rfl ?_
          refine ⟨.slice Ao lk co, rfl, ?_, (HX.out.setCell (p := ⟨w.heap.size + 1, 0, none⟩) (by simp only; omega) _).setCell (p := ⟨w.heap.size + 1, 1, none⟩) (by simp only; omega) _⟩
          have hkw : Keeps [w.heap.size + 1] wr ((wr.setCell ⟨w.heap.size + 1, 0, none⟩ (.int .i64 (S : Int))).setCell ⟨w.heap.size + 1, 1, none⟩ (.slice Ao lk co)) := ((Keeps.refl [w.heap.size + 1] wr).setCell (.inl (by simp)) _).setCell (.inl (by simp)) _
          rw [HLK.out]
          exact ownsRow_keeps (World.ownsRow.mono' HO.out (show w.heap.size ≤ gq + 1 by omega)) hkw (fun g hg hl => by have := (HO.out.lt g hg).1; simp at hl; omega)

end Go.Proofs.Ytikhlcgnlbinfaa
namespace Go.Proofs.Ytikhlcgnlbinfaa
open Go.RowKit

theorem elBo : Elem Try.prog 81 4 1 1 (.bool false) := Elem.mk' (by kernel_rfl) (by kernel_rfl) rfl (by decide)
/-- A list of bools in memory. -/
def BoolR (base : Nat) (w : World) (v : Value) (n : Nat) (f : Nat → Bool) : Prop := w.ownsRow base 4 1 v n ((List.range n).map fun j => .bool (f j))
theorem BoolR.ext {base n : Nat} {w w' : World} {v : Value} {f : Nat → Bool} (h : BoolR base w v n f) (he : Ext w w') : BoolR base w' v n f := World.ownsRow.ext' h he
def TabI (base nn : Nat) (ms : List Mt) (v : Value) (w : World) : Prop := ∃ go ct vs, v = .agg #[.slice (some ⟨go, 0, none⟩) nn ct] ∧ TabG 3 (Tri fun w v q => NumX w v q 53) 217 226 base w go ct nn (nn + 1) vs (tabM ms nn)
theorem TabI.ext {base nn : Nat} {ms : List Mt} {v : Value} {w w' : World} (h : TabI base nn ms v w) (he : Ext w w') : TabI base nn ms v w' := by
  obtain ⟨go, ct, vs, h1, h2⟩ := h
  exact ⟨go, ct, vs, h1, h2.ext (kindNum 53) he⟩
def PivR (base nn : Nat) (ms : List Mt) (v : Value) (w : World) : Prop := ∃ gp, v = .slice (some ⟨gp, 0, none⟩) nn nn ∧ RowI base w gp nn nn (fun j => pivI ((redG nn (tabM ms nn) nn).piv[j]?))
theorem PivR.ext {base nn : Nat} {ms : List Mt} {v : Value} {w w' : World} (h : PivR base nn ms v w) (he : Ext w w') : PivR base nn ms v w' := by
  obtain ⟨gp, h1, h2⟩ := h
  exact ⟨gp, h1, h2.ext he⟩

end Go.Proofs.Ytikhlcgnlbinfaa
namespace Go.Proofs.Ytikhlcgnlbinfaa
open Go.RowKit

section
variable {P : Program}
/-- An operation that is always done, whose value is known. -/
theorem jop_run {ops : Array Oper} {o : Oper} {b : Act} {W W' : World} {K : Act → World → Prop} {Q' : Exit → Act → World → Prop} {v' : Value} (hg : o.guard = none) (hrun : (execOp b.eval o).run P W = .ok (.value v') W') (hK : K (b.put o.dst v') W') :
    if Region.wanted o (yielded ops b.tmps) then o.wp P b W K Q' else K (b.put o.dst undef) W := by
  simp only [Region.wanted, hg, if_true, Oper.wp, hrun]
  exact hK
/-- 'append(s, x...)' in a region that draws its order. -/
theorem jop_app {ops : Array Oper} {o : Oper} {b : Act} {W W' : World} {K : Act → World → Prop} {Q' : Exit → Act → World → Prop} {t : TypeId} {i j : Tmp} {v u v' : Value} (hg : o.guard = none)
    (ho : o.op = .call { callee := .builtin .append, args := #[.tmp i, .tmp j], argTypes := #[t, t] }) (hi : b.tmps[i]? = some v) (hj : b.tmps[j]? = some u)
    (hrun : (Builtin.append_ #[t, t] o.type #[v, u]).run P W = .ok v' W') (hK : K (b.put o.dst v') W') :
    if Region.wanted o (yielded ops b.tmps) then o.wp P b W K Q' else K (b.put o.dst undef) W := by
  refine jop_run hg ?_ hK
  have e1 : b.eval (.tmp i) = v := by simp [Act.eval, hi]
  have e2 : b.eval (.tmp j) = u := by simp [Act.eval, hj]
  unfold execOp
  simp only [ho, resolve, invoke, builtin, Sem.run_bind, Sem.run_pure, Result.andThen_ok, List.map_toArray, List.map_cons, List.map_nil, e1, e2, hrun]
end
end Go.Proofs.Ytikhlcgnlbinfaa
