/- Lemmas of the proof that follows (Carry5, part 10): walks of functions by contract, and plain lemmas. Conditions: none. -/
import Derived.Test.YtikhlcgnlbinfaaCarry5I
namespace Go.Proofs.Ytikhlcgnlbinfaa
open Go.RowKit

theorem elS9 : Elem Try.prog 210 263 9 168 (.agg #[.bool false, .slice none 0 0, .slice none 0 0, .bool false, .slice none 0 0, .slice none 0 0, .bool false, .slice none 0 0, .slice none 0 0]) := Elem.mk' (by kernel_rfl) (by kernel_rfl) rfl (by decide)
theorem RowN.make9 {P : World → Value → Rat → Prop} {te : TypeId} {base g n : Nat} {w : World} {us : List Value} (ho : w.ownsRow base te 9 (.slice (some ⟨g, 0, none⟩) n n) n us) (h1 : ∀ i, i < n * 9 → us[i]? = (Value.agg #[.bool false, .slice none 0 0, .slice none 0 0, .bool false, .slice none 0 0, .slice none 0 0, .bool false, .slice none 0 0, .slice none 0 0]).cells[i % 9]?) (h2 : ∀ u ∈ us, u ∈ (Value.agg #[.bool false, .slice none 0 0, .slice none 0 0, .bool false, .slice none 0 0, .slice none 0 0, .bool false, .slice none 0 0, .slice none 0 0]).cells) : RowN P te 9 base w g n n (3 * n) (fun _ => none) :=
  RowN.zero rfl ho h1 h2 (fun u hu => by
    simp [Value.cells] at hu
    rcases hu with rfl | rfl | rfl | rfl | rfl | rfl
    all_goals first | exact noInt_bool _ | exact noInt_slice _ _ _) ⟨3, rfl⟩ (fun i hi => by
    match i, hi with
    | 0, _ => rfl
    | 1, _ => rfl
    | 2, _ => rfl
    | 3, _ => rfl
    | 4, _ => rfl
    | 5, _ => rfl
    | 6, _ => rfl
    | 7, _ => rfl
    | 8, _ => rfl
    | _ + 9, hi => omega) (by omega)
theorem solG_at {n : Nat} {s : GSt} {j : Nat} : solG n s j = if 0 ≤ pivI (s.piv[j]?) then s.tab (pivI (s.piv[j]?)).toNat n else 0 := by
  unfold solG
  split
  · rename_i i hp
    rw [hp]
    simp [pivI]
  · rename_i h
    cases hp : s.piv[j]? with
    | none => rfl
    | some o =>
      cases o with
      | none => rfl
      | some t => exact absurd hp (h t)
theorem pivI_low (o : Option (Option Nat)) : pivI o = -1 ∨ ∃ t : Nat, o = some (some t) ∧ pivI o = (t : Int) := by
  match o with
  | none => exact .inl rfl
  | some none => exact .inl rfl
  | some (some t) => exact .inr ⟨t, rfl, rfl⟩

set_option maxRecDepth 100000 in
set_option maxHeartbeats 2000000 in
theorem solve_r6 (go S jj ss kk : Nat) (w : World) (hss : Hid (jj / 3 = ss)) (hkk : Hid (jj % 3 = kk)) (hs1 : ss < S) (hk3 : (kk : Int) < 3) (_hk4 : kk < 3) (hj : jj ≤ 1000) (a : Act) (Q : Exit → Act → World → Prop) (hsize : 31 ≤ a.tmps.size)
    (s4 : a.tmps[4]? = some (.slice (some ⟨go, 0, none⟩) S S))
    (s5 : a.tmps[5]? = some (.int .i64 (jj : Int)))
    (hend : ∀ (xv0 xv1 xv2 xv3 xv4 xv5 xv6 xv7 : Value) (W : World), (xv0 = .slice (some ⟨go, 0, none⟩) S S) → (xv1 = .int .i64 (jj : Int)) → (xv2 = .int .i64 (ss : Int)) → (xv3 = .int .i64 (jj : Int)) → (xv4 = .int .i64 (kk : Int)) → (NumX W xv5 (((0 : Int) : Rat)) (2)) → (xv6 = .pointer (some ⟨go, ss * 9, none⟩)) → (xv7 = .pointer (some ⟨go, ss * 9 + kk * 3, none⟩)) → Ext w W → wpList Try.prog (rops Try.f124 6).toArray Q ((rops Try.f124 6).drop 8) ((((((((a.put (some 23) xv0).put (some 24) xv1).put (some 25) xv2).put (some 26) xv3).put (some 27) xv4).put (some 28) xv5).put (some 29) xv6).put (some 30) xv7) W) :
    (Code.region 6 (rops Try.f124 6).toArray true).wp Try.prog Q a w := by
  have hmono : ∀ (W W' : World) (j : Nat) (u : Value), Ext W W' → (fun (i : Nat) (v : Value) (W : World) => match i with
    | 0 => v = .slice (some ⟨go, 0, none⟩) S S
    | 1 => v = .int .i64 (jj : Int)
    | 2 => v = .int .i64 (ss : Int)
    | 3 => v = .int .i64 (jj : Int)
    | 4 => v = .int .i64 (kk : Int)
    | 5 => NumX W v (((0 : Int) : Rat)) (2)
    | 6 => v = .pointer (some ⟨go, ss * 9, none⟩)
    | 7 => v = .pointer (some ⟨go, ss * 9 + kk * 3, none⟩)
    | _ => True) j u W → (fun (i : Nat) (v : Value) (W : World) => match i with
    | 0 => v = .slice (some ⟨go, 0, none⟩) S S
    | 1 => v = .int .i64 (jj : Int)
    | 2 => v = .int .i64 (ss : Int)
    | 3 => v = .int .i64 (jj : Int)
    | 4 => v = .int .i64 (kk : Int)
    | 5 => NumX W v (((0 : Int) : Rat)) (2)
    | 6 => v = .pointer (some ⟨go, ss * 9, none⟩)
    | 7 => v = .pointer (some ⟨go, ss * 9 + kk * 3, none⟩)
    | _ => True) j u W' := by
    intro W W' j u hX h
    match j, h with
    | 0, h => exact h
    | 1, h => exact h
    | 2, h => exact h
    | 3, h => exact h
    | 4, h => exact h
    | 5, h => exact NumX.ext h hX
    | 6, h => exact h
    | 7, h => exact h
    | _ + 8, h => exact h
  have hsz : ∀ d, some d ∈ ([some 23, some 24, some 25, some 26, some 27, some 28, some 29, some 30] : List (Option Tmp)) → d < a.tmps.size := slots_lt (by decide) hsize
  refine wp_region_j 8 [some 23, some 24, some 25, some 26, some 27, some 28, some 29, some 30] [[], [], [1], [], [3], [], [0, 2], [4, 6]] [[], [], [], [], [], [], [], []] (fun (i : Nat) (v : Value) (W : World) => match i with
    | 0 => v = .slice (some ⟨go, 0, none⟩) S S
    | 1 => v = .int .i64 (jj : Int)
    | 2 => v = .int .i64 (ss : Int)
    | 3 => v = .int .i64 (jj : Int)
    | 4 => v = .int .i64 (kk : Int)
    | 5 => NumX W v (((0 : Int) : Rat)) (2)
    | 6 => v = .pointer (some ⟨go, ss * 9, none⟩)
    | 7 => v = .pointer (some ⟨go, ss * 9 + kk * 3, none⟩)
    | _ => True) (fun _ W => Ext w W) (by kernel_rfl) (by kernel_rfl) hsz (fun _ _ _ _ h => h) ((Ext.refl w).drew) ?_ ?_
  · clear hend
    simp only [rops, Try.f124, regOf, Option.bind_some, Nat.reduceBEq, if_true, if_false, Bool.false_eq_true, Option.getD_some]
    simp only [List.take_succ_cons, List.take_zero]
    refine ⟨?_, ?_, ?_, ?_, ?_, ?_, ?_, ?_, trivial⟩
    · intro done us W hJ hdep haft hnot b hb hb' K hK Q'
      have e4 := (hb' 4 (by simp)).trans s4
      clear hb hb'
      go_simp
      exact hK _ _ rfl (fun _ _ _ h => h) hJ
    · intro done us W hJ hdep haft hnot b hb hb' K hK Q'
      have e5 := (hb' 5 (by simp)).trans s5
      clear hb hb'
      go_simp
      exact hK _ _ rfl (fun _ _ _ h => h) hJ
    · intro done us W hJ hdep haft hnot b hb hb' K hK Q'
      simp only [List.getD_cons_succ, List.getD_cons_zero, List.mem_cons, List.not_mem_nil, or_false, forall_eq] at hdep
      have e24 := hb 1 24 rfl
      have d1 := hdep
      rw [d1.1] at e24
      clear hb hb' hdep d1
      have qw : IntKind.i64.wrap ((jj : Int) / 3) = (jj : Int) / 3 := IntWalk.i64_in _ (by omega)
      go_simp
      exact hK _ _ (by have := hss.out; congr 1; omega) (fun _ _ _ h => h) hJ
    · intro done us W hJ hdep haft hnot b hb hb' K hK Q'
      have e5 := (hb' 5 (by simp)).trans s5
      clear hb hb'
      go_simp
      exact hK _ _ rfl (fun _ _ _ h => h) hJ
    · intro done us W hJ hdep haft hnot b hb hb' K hK Q'
      simp only [List.getD_cons_succ, List.getD_cons_zero, List.mem_cons, List.not_mem_nil, or_false, forall_eq] at hdep
      have e26 := hb 3 26 rfl
      have d3 := hdep
      rw [d3.1] at e26
      clear hb hb' hdep d3
      have ht : (jj : Int).tmod 3 = (jj : Int) % 3 := Int.tmod_eq_emod_of_nonneg (by omega)
      have qw : IntKind.i64.wrap ((jj : Int) % 3) = (jj : Int) % 3 := IntWalk.i64_in _ (by omega)
      go_simp
      exact hK _ _ (by have := hkk.out; congr 1; omega) (fun _ _ _ h => h) hJ
    · intro done us W hJ hdep haft hnot b hb hb' K hK Q'
      clear hb hb'
      go_simp
      refine (intX 0 _ (by omega) (by omega)).mono ?_
      rintro e w' ⟨v, rfl, hv, hX⟩
      exact hK _ _ hv (fun j u _ h => hmono _ _ j u hX h) (Ext.trans hJ hX)
    · intro done us W hJ hdep haft hnot b hb hb' K hK Q'
      simp only [List.getD_cons_succ, List.getD_cons_zero, List.mem_cons, List.not_mem_nil, or_false, forall_eq_or_imp, forall_eq] at hdep
      have e23 := hb 0 23 rfl
      have e25 := hb 2 25 rfl
      have d0 := hdep.1
      have d2 := hdep.2
      rw [d0.1] at e23
      rw [d2.1] at e25
      clear hb hb' hdep d0 d2
      go_simp
      exact hK _ _ rfl (fun _ _ _ h => h) hJ
    · intro done us W hJ hdep haft hnot b hb hb' K hK Q'
      simp only [List.getD_cons_succ, List.getD_cons_zero, List.mem_cons, List.not_mem_nil, or_false, forall_eq_or_imp, forall_eq] at hdep
      have e27 := hb 4 27 rfl
      have e29 := hb 6 29 rfl
      have d4 := hdep.1
      have d6 := hdep.2
      rw [d4.1] at e27
      rw [d6.1] at e29
      clear hb hb' hdep d4 d6
      go_simp
      exact hK _ _ rfl (fun _ _ _ h => h) hJ
  · intro us W hV hJ
    exact hend (us 0) (us 1) (us 2) (us 3) (us 4) (us 5) (us 6) (us 7) W (hV 0 (by omega)) (hV 1 (by omega)) (hV 2 (by omega)) (hV 3 (by omega)) (hV 4 (by omega)) (hV 5 (by omega)) (hV 6 (by omega)) (hV 7 (by omega)) hJ
set_option maxRecDepth 100000 in
set_option maxHeartbeats 2000000 in
theorem solve_r8 (go S jj ss kk gs gt ct nn tt ga ca gp : Nat) (s9 : Bool) (A9 B9 : Option Addr) (l9 c9 m9 k9 : Nat) (w : World) (hss : Hid (jj / 3 = ss)) (hkk : Hid (jj % 3 = kk)) (hs1 : ss < S) (hk3 : (kk : Int) < 3) (_hk4 : kk < 3) (hj : jj ≤ 1000) (hs : w.cell? ⟨gs, 0, none⟩ = some (.slice (some ⟨gt, 0, none⟩) nn ct)) (ha : w.cell? ⟨gt, tt, none⟩ = some (.slice (some ⟨ga, 0, none⟩) (nn + 1) ca)) (hp : w.cell? ⟨gp, 0, none⟩ = some (.int .i64 (S : Int))) (hqN : IntKind.i64.wrap (3 * (S : Int)) = (nn : Int)) (htt : tt < nn) (_hnn : nn < nn + 1) (hnn2 : (nn : Int) < (nn : Int) + 1) (x0 : w.cell? ⟨ga, nn * 3, none⟩ = some (.bool s9)) (x1 : w.cell? ⟨ga, nn * 3 + 1, none⟩ = some (.slice A9 l9 c9)) (x2 : w.cell? ⟨ga, nn * 3 + 2, none⟩ = some (.slice B9 m9 k9)) (a : Act) (Q : Exit → Act → World → Prop) (hsize : 50 ≤ a.tmps.size)
    (s1 : a.tmps[1]? = some (.pointer (some ⟨gp, 0, none⟩)))
    (s3 : a.tmps[3]? = some (.pointer (some ⟨gs, 0, none⟩)))
    (s4 : a.tmps[4]? = some (.slice (some ⟨go, 0, none⟩) S S))
    (s5 : a.tmps[5]? = some (.int .i64 (jj : Int)))
    (s6 : a.tmps[6]? = some (.int .i64 (tt : Int)))
    (hend : ∀ (xv0 xv1 xv2 xv3 xv4 xv5 xv6 xv7 xv8 xv9 xv10 xv11 xv12 xv13 xv14 xv15 xv16 : Value) (W : World), (xv0 = .slice (some ⟨go, 0, none⟩) S S) → (xv1 = .int .i64 (jj : Int)) → (xv2 = .int .i64 (ss : Int)) → (xv3 = .int .i64 (jj : Int)) → (xv4 = .int .i64 (kk : Int)) → (xv5 = .pointer (some ⟨gs, 0, none⟩)) → (xv6 = .slice (some ⟨gt, 0, none⟩) nn ct) → (xv7 = .int .i64 (tt : Int)) → (xv8 = .pointer (some ⟨gt, tt, none⟩)) → (xv9 = .slice (some ⟨ga, 0, none⟩) (nn + 1) ca) → (xv10 = .pointer (some ⟨gp, 0, none⟩)) → (xv11 = .int .i64 (S : Int)) → (xv12 = .int .i64 (nn : Int)) → (xv13 = .pointer (some ⟨ga, nn * 3, none⟩)) → (xv14 = .agg #[.bool s9, .slice A9 l9 c9, .slice B9 m9 k9]) → (xv15 = .pointer (some ⟨go, ss * 9, none⟩)) → (xv16 = .pointer (some ⟨go, ss * 9 + kk * 3, none⟩)) → Ext w W → wpList Try.prog (rops Try.f124 8).toArray Q ((rops Try.f124 8).drop 17) (((((((((((((((((a.put (some 33) xv0).put (some 34) xv1).put (some 35) xv2).put (some 36) xv3).put (some 37) xv4).put (some 38) xv5).put (some 39) xv6).put (some 40) xv7).put (some 41) xv8).put (some 42) xv9).put (some 43) xv10).put (some 44) xv11).put (some 45) xv12).put (some 46) xv13).put (some 47) xv14).put (some 48) xv15).put (some 49) xv16) W) :
    (Code.region 8 (rops Try.f124 8).toArray true).wp Try.prog Q a w := by
  have hmono : ∀ (W W' : World) (j : Nat) (u : Value), Ext W W' → (fun (i : Nat) (v : Value) (W : World) => match i with
    | 0 => v = .slice (some ⟨go, 0, none⟩) S S
    | 1 => v = .int .i64 (jj : Int)
    | 2 => v = .int .i64 (ss : Int)
    | 3 => v = .int .i64 (jj : Int)
    | 4 => v = .int .i64 (kk : Int)
    | 5 => v = .pointer (some ⟨gs, 0, none⟩)
    | 6 => v = .slice (some ⟨gt, 0, none⟩) nn ct
    | 7 => v = .int .i64 (tt : Int)
    | 8 => v = .pointer (some ⟨gt, tt, none⟩)
    | 9 => v = .slice (some ⟨ga, 0, none⟩) (nn + 1) ca
    | 10 => v = .pointer (some ⟨gp, 0, none⟩)
    | 11 => v = .int .i64 (S : Int)
    | 12 => v = .int .i64 (nn : Int)
    | 13 => v = .pointer (some ⟨ga, nn * 3, none⟩)
    | 14 => v = .agg #[.bool s9, .slice A9 l9 c9, .slice B9 m9 k9]
    | 15 => v = .pointer (some ⟨go, ss * 9, none⟩)
    | 16 => v = .pointer (some ⟨go, ss * 9 + kk * 3, none⟩)
    | _ => True) j u W → (fun (i : Nat) (v : Value) (W : World) => match i with
    | 0 => v = .slice (some ⟨go, 0, none⟩) S S
    | 1 => v = .int .i64 (jj : Int)
    | 2 => v = .int .i64 (ss : Int)
    | 3 => v = .int .i64 (jj : Int)
    | 4 => v = .int .i64 (kk : Int)
    | 5 => v = .pointer (some ⟨gs, 0, none⟩)
    | 6 => v = .slice (some ⟨gt, 0, none⟩) nn ct
    | 7 => v = .int .i64 (tt : Int)
    | 8 => v = .pointer (some ⟨gt, tt, none⟩)
    | 9 => v = .slice (some ⟨ga, 0, none⟩) (nn + 1) ca
    | 10 => v = .pointer (some ⟨gp, 0, none⟩)
    | 11 => v = .int .i64 (S : Int)
    | 12 => v = .int .i64 (nn : Int)
    | 13 => v = .pointer (some ⟨ga, nn * 3, none⟩)
    | 14 => v = .agg #[.bool s9, .slice A9 l9 c9, .slice B9 m9 k9]
    | 15 => v = .pointer (some ⟨go, ss * 9, none⟩)
    | 16 => v = .pointer (some ⟨go, ss * 9 + kk * 3, none⟩)
    | _ => True) j u W' := by
    intro W W' j u hX h
    match j, h with
    | 0, h => exact h
    | 1, h => exact h
    | 2, h => exact h
    | 3, h => exact h
    | 4, h => exact h
    | 5, h => exact h
    | 6, h => exact h
    | 7, h => exact h
    | 8, h => exact h
    | 9, h => exact h
    | 10, h => exact h
    | 11, h => exact h
    | 12, h => exact h
    | 13, h => exact h
    | 14, h => exact h
    | 15, h => exact h
    | 16, h => exact h
    | _ + 17, h => exact h
  have hsz : ∀ d, some d ∈ ([some 33, some 34, some 35, some 36, some 37, some 38, some 39, some 40, some 41, some 42, some 43, some 44, some 45, some 46, some 47, some 48, some 49] : List (Option Tmp)) → d < a.tmps.size := slots_lt (by decide) hsize
  refine wp_region_j 17 [some 33, some 34, some 35, some 36, some 37, some 38, some 39, some 40, some 41, some 42, some 43, some 44, some 45, some 46, some 47, some 48, some 49] [[], [], [1], [], [3], [], [5], [], [6, 7], [8], [], [10], [11], [9, 12], [13], [0, 2], [4, 15]] [[], [], [], [], [], [], [], [], [], [], [], [], [], [], [], [], []] (fun (i : Nat) (v : Value) (W : World) => match i with
    | 0 => v = .slice (some ⟨go, 0, none⟩) S S
    | 1 => v = .int .i64 (jj : Int)
    | 2 => v = .int .i64 (ss : Int)
    | 3 => v = .int .i64 (jj : Int)
    | 4 => v = .int .i64 (kk : Int)
    | 5 => v = .pointer (some ⟨gs, 0, none⟩)
    | 6 => v = .slice (some ⟨gt, 0, none⟩) nn ct
    | 7 => v = .int .i64 (tt : Int)
    | 8 => v = .pointer (some ⟨gt, tt, none⟩)
    | 9 => v = .slice (some ⟨ga, 0, none⟩) (nn + 1) ca
    | 10 => v = .pointer (some ⟨gp, 0, none⟩)
    | 11 => v = .int .i64 (S : Int)
    | 12 => v = .int .i64 (nn : Int)
    | 13 => v = .pointer (some ⟨ga, nn * 3, none⟩)
    | 14 => v = .agg #[.bool s9, .slice A9 l9 c9, .slice B9 m9 k9]
    | 15 => v = .pointer (some ⟨go, ss * 9, none⟩)
    | 16 => v = .pointer (some ⟨go, ss * 9 + kk * 3, none⟩)
    | _ => True) (fun _ W => Ext w W) (by kernel_rfl) (by kernel_rfl) hsz (fun _ _ _ _ h => h) ((Ext.refl w).drew) ?_ ?_
  · clear hend
    simp only [rops, Try.f124, regOf, Option.bind_some, Nat.reduceBEq, if_true, if_false, Bool.false_eq_true, Option.getD_some]
    simp only [List.take_succ_cons, List.take_zero]
    refine ⟨?_, ?_, ?_, ?_, ?_, ?_, ?_, ?_, ?_, ?_, ?_, ?_, ?_, ?_, ?_, ?_, ?_, trivial⟩
    · intro done us W hJ hdep haft hnot b hb hb' K hK Q'
      have e4 := (hb' 4 (by simp)).trans s4
      clear hb hb'
      go_simp
      exact hK _ _ rfl (fun _ _ _ h => h) hJ
    · intro done us W hJ hdep haft hnot b hb hb' K hK Q'
      have e5 := (hb' 5 (by simp)).trans s5
      clear hb hb'
      go_simp
      exact hK _ _ rfl (fun _ _ _ h => h) hJ
    · intro done us W hJ hdep haft hnot b hb hb' K hK Q'
      simp only [List.getD_cons_succ, List.getD_cons_zero, List.mem_cons, List.not_mem_nil, or_false, forall_eq] at hdep
      have e34 := hb 1 34 rfl
      have d1 := hdep
      rw [d1.1] at e34
      clear hb hb' hdep d1
      have qw : IntKind.i64.wrap ((jj : Int) / 3) = (jj : Int) / 3 := IntWalk.i64_in _ (by omega)
      go_simp
      exact hK _ _ (by have := hss.out; congr 1; omega) (fun _ _ _ h => h) hJ
    · intro done us W hJ hdep haft hnot b hb hb' K hK Q'
      have e5 := (hb' 5 (by simp)).trans s5
      clear hb hb'
      go_simp
      exact hK _ _ rfl (fun _ _ _ h => h) hJ
    · intro done us W hJ hdep haft hnot b hb hb' K hK Q'
      simp only [List.getD_cons_succ, List.getD_cons_zero, List.mem_cons, List.not_mem_nil, or_false, forall_eq] at hdep
      have e36 := hb 3 36 rfl
      have d3 := hdep
      rw [d3.1] at e36
      clear hb hb' hdep d3
      have ht : (jj : Int).tmod 3 = (jj : Int) % 3 := Int.tmod_eq_emod_of_nonneg (by omega)
      have qw : IntKind.i64.wrap ((jj : Int) % 3) = (jj : Int) % 3 := IntWalk.i64_in _ (by omega)
      go_simp
      exact hK _ _ (by have := hkk.out; congr 1; omega) (fun _ _ _ h => h) hJ
    · intro done us W hJ hdep haft hnot b hb hb' K hK Q'
      have e3 := (hb' 3 (by simp)).trans s3
      clear hb hb'
      go_simp
      exact hK _ _ rfl (fun _ _ _ h => h) hJ
    · intro done us W hJ hdep haft hnot b hb hb' K hK Q'
      simp only [List.getD_cons_succ, List.getD_cons_zero, List.mem_cons, List.not_mem_nil, or_false, forall_eq] at hdep
      have e38 := hb 5 38 rfl
      have d5 := hdep
      rw [d5.1] at e38
      clear hb hb' hdep d5
      have q := Ext.cell hJ hs
      go_simp
      exact hK _ _ rfl (fun _ _ _ h => h) hJ
    · intro done us W hJ hdep haft hnot b hb hb' K hK Q'
      have e6 := (hb' 6 (by simp)).trans s6
      clear hb hb'
      go_simp
      exact hK _ _ rfl (fun _ _ _ h => h) hJ
    · intro done us W hJ hdep haft hnot b hb hb' K hK Q'
      simp only [List.getD_cons_succ, List.getD_cons_zero, List.mem_cons, List.not_mem_nil, or_false, forall_eq_or_imp, forall_eq] at hdep
      have e39 := hb 6 39 rfl
      have e40 := hb 7 40 rfl
      have d6 := hdep.1
      have d7 := hdep.2
      rw [d6.1] at e39
      rw [d7.1] at e40
      clear hb hb' hdep d6 d7
      go_simp
      exact hK _ _ rfl (fun _ _ _ h => h) hJ
    · intro done us W hJ hdep haft hnot b hb hb' K hK Q'
      simp only [List.getD_cons_succ, List.getD_cons_zero, List.mem_cons, List.not_mem_nil, or_false, forall_eq] at hdep
      have e41 := hb 8 41 rfl
      have d8 := hdep
      rw [d8.1] at e41
      clear hb hb' hdep d8
      have q := Ext.cell hJ ha
      go_simp
      exact hK _ _ rfl (fun _ _ _ h => h) hJ
    · intro done us W hJ hdep haft hnot b hb hb' K hK Q'
      have e1 := (hb' 1 (by simp)).trans s1
      clear hb hb'
      go_simp
      exact hK _ _ rfl (fun _ _ _ h => h) hJ
    · intro done us W hJ hdep haft hnot b hb hb' K hK Q'
      simp only [List.getD_cons_succ, List.getD_cons_zero, List.mem_cons, List.not_mem_nil, or_false, forall_eq] at hdep
      have e43 := hb 10 43 rfl
      have d10 := hdep
      rw [d10.1] at e43
      clear hb hb' hdep d10
      have q := Ext.cell hJ hp
      go_simp
      exact hK _ _ rfl (fun _ _ _ h => h) hJ
    · intro done us W hJ hdep haft hnot b hb hb' K hK Q'
      simp only [List.getD_cons_succ, List.getD_cons_zero, List.mem_cons, List.not_mem_nil, or_false, forall_eq] at hdep
      have e44 := hb 11 44 rfl
      have d11 := hdep
      rw [d11.1] at e44
      clear hb hb' hdep d11
      go_simp
      exact hK _ _ rfl (fun _ _ _ h => h) hJ
    · intro done us W hJ hdep haft hnot b hb hb' K hK Q'
      simp only [List.getD_cons_succ, List.getD_cons_zero, List.mem_cons, List.not_mem_nil, or_false, forall_eq_or_imp, forall_eq] at hdep
      have e42 := hb 9 42 rfl
      have e45 := hb 12 45 rfl
      have d9 := hdep.1
      have d12 := hdep.2
      rw [d9.1] at e42
      rw [d12.1] at e45
      clear hb hb' hdep d9 d12
      go_simp
      exact hK _ _ rfl (fun _ _ _ h => h) hJ
    · intro done us W hJ hdep haft hnot b hb hb' K hK Q'
      simp only [List.getD_cons_succ, List.getD_cons_zero, List.mem_cons, List.not_mem_nil, or_false, forall_eq] at hdep
      have e46 := hb 13 46 rfl
      have d13 := hdep
      rw [d13.1] at e46
      clear hb hb' hdep d13
      have z0 := Ext.cell hJ x0
      have z1 := Ext.cell hJ x1
      have z2 := Ext.cell hJ x2
      go_simp
      exact hK _ _ rfl (fun _ _ _ h => h) hJ
    · intro done us W hJ hdep haft hnot b hb hb' K hK Q'
      simp only [List.getD_cons_succ, List.getD_cons_zero, List.mem_cons, List.not_mem_nil, or_false, forall_eq_or_imp, forall_eq] at hdep
      have e33 := hb 0 33 rfl
      have e35 := hb 2 35 rfl
      have d0 := hdep.1
      have d2 := hdep.2
      rw [d0.1] at e33
      rw [d2.1] at e35
      clear hb hb' hdep d0 d2
      go_simp
      exact hK _ _ rfl (fun _ _ _ h => h) hJ
    · intro done us W hJ hdep haft hnot b hb hb' K hK Q'
      simp only [List.getD_cons_succ, List.getD_cons_zero, List.mem_cons, List.not_mem_nil, or_false, forall_eq_or_imp, forall_eq] at hdep
      have e37 := hb 4 37 rfl
      have e48 := hb 15 48 rfl
      have d4 := hdep.1
      have d15 := hdep.2
      rw [d4.1] at e37
      rw [d15.1] at e48
      clear hb hb' hdep d4 d15
      go_simp
      exact hK _ _ rfl (fun _ _ _ h => h) hJ
  · intro us W hV hJ
    exact hend (us 0) (us 1) (us 2) (us 3) (us 4) (us 5) (us 6) (us 7) (us 8) (us 9) (us 10) (us 11) (us 12) (us 13) (us 14) (us 15) (us 16) W (hV 0 (by omega)) (hV 1 (by omega)) (hV 2 (by omega)) (hV 3 (by omega)) (hV 4 (by omega)) (hV 5 (by omega)) (hV 6 (by omega)) (hV 7 (by omega)) (hV 8 (by omega)) (hV 9 (by omega)) (hV 10 (by omega)) (hV 11 (by omega)) (hV 12 (by omega)) (hV 13 (by omega)) (hV 14 (by omega)) (hV 15 (by omega)) (hV 16 (by omega)) hJ
set_option maxRecDepth 100000 in
set_option maxHeartbeats 16000000 in
theorem solve_ok (S : Nat) (A : Option Addr) (n c : Nat) (ms : List Mt) (w : World) (h : MsAt w A n ms) (hv : VP S ms) :
    Calls Try.prog 124 #[.agg #[.int .i64 (S : Int), .slice A n c]] w (fun e w' => ∃ go, e = .returned (.slice (some ⟨go, 0, none⟩) S S) ∧ w.heap.size ≤ go ∧ ShP (fun w v q => NumX w v q 53) w' go 0 S (solP (3 * S) ms) ∧ Ext w w') := by
  have hS1 : 1 ≤ S := by have := hv.1; omega
  have hS8 : S ≤ 8 := by have := hv.2.1; omega
  obtain ⟨nn, hN⟩ : ∃ nn, nn = 3 * S := ⟨_, rfl⟩
  have hNb : nn ≤ 24 := by omega
  have hqN : IntKind.i64.wrap (3 * (S : Int)) = (nn : Int) := by rw [IntWalk.i64_in _ (by omega)]; omega
  have hfit := fun j hj i hi c hc => redG_fit hv.2.2.2 hv.2.2.1 hNb j hj i hi c hc
  have HFIT := Lib.hid hfit
  have H := Lib.hid h
  have HV := Lib.hid hv
  have HNN := Lib.hid hN
  rw [← hN]
  clear h hv hN hfit
  have hXe : Ext w (w.alloc (.cells #[.int .i64 (S : Int), .slice A n c] 76)) := (Ext.refl w).alloc _
  have kP : Blk (w.alloc (.cells #[.int .i64 (S : Int), .slice A n c] 76)) w.heap.size 76 #[.int .i64 (S : Int), .slice A n c] := Blk.new w _ _
  go_enter Try.func124, Try.ntmps124
  go_upto_region 1 with (fail)
  generalize w.alloc (.cells #[.int .i64 (S : Int), .slice A n c] 76) = w1 at hXe kP ⊢
  have HX := Lib.hid hXe
  have HP := Lib.hid kP
  have p0 := kP.cell 0
  have p1 := kP.cell 1
  have hpl := kP.lt
  simp only [List.getElem?_toArray, List.getElem?_cons_zero, List.getElem?_cons_succ] at p0 p1
  clear hXe kP
  go_wp2_with fail
  refine (build_ok S nn A n c ms _ (H.out.ext HX.out) HV.out HNN.out).mono ?_
  rintro e w2 ⟨gt, ct, vs0, rfl, hT, hct, hX⟩
  replace HX := Lib.hid (HX.out.trans hX)
  replace HP := Lib.hid (HP.out.ext hX)
  have hT53 : TabG 3 (Tri fun w v q => NumX w v q 53) 217 226 w1.heap.size w2 gt ct nn (nn + 1) vs0 (tabM ms nn) := hT.impl (fun i j cs _ _ hc => by
    obtain ⟨s, A, l, c, B, m, k, e, hx⟩ := hc
    exact ⟨s, A, l, c, B, m, k, e, hx.mono (by omega)⟩)
  have HT := Lib.hid hT53
  have hX2 := hX.size
  clear hT hX p0 p1 hT53
  go_upto_region 2 with (fail)
  have hXa : Ext w2 (w2.alloc (.cells #[.slice (some ⟨gt, 0, none⟩) nn ct] 201)) := (Ext.refl _).alloc _
  have kB := Blk.new w2 201 #[.slice (some ⟨gt, 0, none⟩) nn ct]
  replace HX := Lib.hid (HX.out.trans hXa)
  replace HP := Lib.hid (HP.out.ext hXa)
  have HL := Lib.hid HT.out.tabL_low
  replace HT := Lib.hid (HT.out.ext (kindNum 53) hXa)
  clear hXa
  generalize w2.alloc (.cells #[.slice (some ⟨gt, 0, none⟩) nn ct] 201) = w3 at kB HX HP HT ⊢
  have hgs : w.heap.size < w2.heap.size := by omega
  have hLS : ∀ g ∈ tabL gt vs0, w.heap.size < g ∧ g < w2.heap.size := fun g hg => by have := HL.out g hg; omega
  generalize w2.heap.size = gs at kB hgs hLS hX2 ⊢
  have HB := Lib.hid kB
  have HLS := Lib.hid hLS
  have hbl := kB.lt
  clear kB hLS HL
  have p0 := HP.out.cell 0
  simp only [List.getElem?_toArray, List.getElem?_cons_zero] at p0
  have hxs := HX.out.size
  go_upto_region 3 with (at_make; refine wpList_mkS w3 elS9 rfl _ _ rfl w.heap.size _ _ _ _ S S rfl rfl (by first | rfl | omega) (by first | rfl | omega) (Nat.le_refl _) (by omega) (by unfold maxLen; omega) hxs ?_; intro w4 us hown hz1 hz2 hext hsz)
  have hrow : RowN (fun w v q => NumX w v q 53) 263 9 w.heap.size w4 w3.heap.size S S (3 * S) (fun _ => none) := RowN.make9 hown hz1 hz2
  replace HX := Lib.hid (HX.out.trans hext)
  replace HP := Lib.hid (HP.out.ext hext)
  replace HB := Lib.hid (HB.out.ext hext)
  replace HT := Lib.hid (HT.out.ext (kindNum 53) hext)
  generalize w3.heap.size = go at hrow hbl hsz hxs ⊢
  have HR := Lib.hid hrow
  clear hrow hown hz1 hz2 hext p0
  have p0 := HP.out.cell 0
  have b0 := HB.out.cell 0
  simp only [List.getElem?_toArray, List.getElem?_cons_zero] at p0 b0
  have hsx := HX.out.size
  go_wp2_with fail
  refine (reduce_v 53 w1.heap.size gt ct nn vs0 (tabM ms nn) w4 HT.out (by omega) HFIT.out (by omega) (by omega)).mono ?_
  rintro e w5 ⟨gp, rfl, hgp, ⟨up, hup, hpn⟩, ⟨vs, hsub, hT⟩, hk⟩
  clear p0 b0
  have hni : ∀ g ∈ tabL gt vs0, NoInts w4 g := fun g hg => by
    rcases HT.out.ni with h | h
    · omega
    · rcases List.mem_cons.1 hg with rfl | hg
      · exact h.2
      · obtain ⟨v, hv, hvg⟩ := List.mem_filterMap.1 hg
        exact h.1 v hv g hvg
  replace HX := Lib.hid (hk.ext HX.out (fun g hg => by have := HLS.out g hg; omega))
  replace HP := Lib.hid (HP.out.keeps hk (fun hg => by have := HLS.out _ hg; omega))
  replace HB := Lib.hid (HB.out.keeps hk (fun hg => by have := HLS.out _ hg; omega))
  replace HR := Lib.hid (HR.out.keeps (staysNum 53) hk hni (fun hg => by have := HLS.out _ hg; omega))
  replace HT := Lib.hid hT
  have HPR : Hid (RowI w4.heap.size w5 gp nn nn (fun j => pivI ((redG nn (tabM ms nn) nn).piv[j]?))) := Lib.hid ⟨up, hup, hpn⟩
  have hps : go < w4.heap.size := by have := hsz; omega
  have HPL : Hid (∀ j, j < nn → ∀ t, (redG nn (tabM ms nn) nn).piv[j]? = some (some t) → t < nn) := Lib.hid (fun j hj t ht => by
    have h1 := Stage.pivtop (n := nn) (T := tabM ms nn) nn j t ht
    have h2 := redG_top nn (tabM ms nn) nn
    omega)
  have HSUB := Lib.hid hsub
  have HNG := Lib.hid HR.out.ni
  clear hT hup hpn hk hni hsub HFIT
  go_wp2_with fail
  go_loopg [18] nn (fun f iv wr => ∃ j : Nat, f = nn - j ∧ j ≤ nn ∧ iv = .int .i64 (j : Int) ∧ Hid (RowN (fun w v q => NumX w v q 53) 263 9 w.heap.size wr go S S (3 * S) (fun u => if u < j then some (solP nn ms u) else none)) ∧ Hid (Ext w wr) ∧ Hid (Keeps [go] w5 wr))
  case atStart => exact ⟨0, by omega, by omega, rfl, Lib.hid (HR.out.congr (fun u _ => by rw [if_neg (by omega)])), HX, Lib.hid (Keeps.refl _ _)⟩
  case round =>
    clear HR HX
    obtain ⟨j, rfl, hj, rfl, HR, HX, HK⟩ := hrel
    by_cases hlt : j < nn
    · have q1 : decide (j < nn) = true := decide_eq_true hlt
      obtain ⟨ss, hss⟩ : ∃ ss, j / 3 = ss := ⟨_, rfl⟩
      obtain ⟨kk, hkk⟩ : ∃ kk, j % 3 = kk := ⟨_, rfl⟩
      have hkk3 : kk < 3 := by omega
      have hssS : ss < S := by have := HNN.out; omega
      have hpj : ss * 9 + kk * 3 = j * 3 := by omega
      have hj3 : j < 3 * S := by have := HNN.out; omega
      have HSS := Lib.hid hss
      have HKK := Lib.hid hkk
      have HPJ := Lib.hid hpj
      clear hss hkk hpj
      have hpr := HPR.out.keeps HK.out (by simp; omega)
      have xg := hpr.cell hlt
      obtain ⟨pj, hpj⟩ : ∃ pj, pivI ((redG nn (tabM ms nn) nn).piv[j]?) = pj := ⟨_, rfl⟩
      rw [hpj] at xg
      have HPV := Lib.hid hpj
      clear hpr hpj
      go_upto_region 6 with (fail)
      refine solve_r6 go S j ss kk wr HSS.out HKK.out hssS (by omega) hkk3 (by omega) _ _ (by simp) rfl rfl ?_
      rintro xv0 xv1 xv2 xv3 xv4 xv5 xv6 xv7 W rfl rfl rfl rfl rfl hv rfl rfl hX
      simp only [rops, Try.f124, regOf, Option.bind_some, Nat.reduceBEq, if_true, if_false, Bool.false_eq_true, Option.getD_some, List.drop_succ_cons, List.drop_zero]
      simp only [Act.put, List.setIfInBounds_toArray, List.set_cons_succ, List.set_cons_zero]
      replace HR := Lib.hid (HR.out.ext (staysNum 53) hX)
      replace HX := Lib.hid (HX.out.trans hX)
      replace HK := Lib.hid (HK.out.trans (Keeps.of_ext hX _))
      clear xg hX
      obtain ⟨s4, A4, l4, c4, B4, m4, k4, rfl⟩ := NumX.open hv
      have HN := Lib.hid (hv.mono (show 2 ≤ 53 by omega))
      clear hv
      obtain ⟨s2, A2, l2, c2, B2, m2, k2, x0, x1, x2, _⟩ := HR.out.cells hj3 HPJ.out
      have f0 := HR.out.free (ss * 9 + kk * 3)
      have f1 := HR.out.free (ss * 9 + kk * 3 + 1)
      have f2 := HR.out.free (ss * 9 + kk * 3 + 2)
      go_upto_region 7 with (fail)
      clear x0 x1 x2 f0 f1 f2
      have hput := HR.out.put (staysNum 53) hj3 HPJ.out HN.out
      replace HK := Lib.hid (((HK.out.setCell (p := ⟨go, ss * 9 + kk * 3, none⟩) (.inl (by simp)) (.bool s4)).setCell (p := ⟨go, ss * 9 + kk * 3 + 1, none⟩) (.inl (by simp)) (.slice A4 l4 c4)).setCell (p := ⟨go, ss * 9 + kk * 3 + 2, none⟩) (.inl (by simp)) (.slice B4 m4 k4))
      replace HX := Lib.hid (((HX.out.setCell (p := ⟨go, ss * 9 + kk * 3, none⟩) (by simp only; omega) (.bool s4)).setCell (p := ⟨go, ss * 9 + kk * 3 + 1, none⟩) (by simp only; omega) (.slice A4 l4 c4)).setCell (p := ⟨go, ss * 9 + kk * 3 + 2, none⟩) (by simp only; omega) (.slice B4 m4 k4))
      clear HN HR
      generalize ((W.setCell ⟨go, ss * 9 + kk * 3, none⟩ (.bool s4)).setCell ⟨go, ss * 9 + kk * 3 + 1, none⟩ (.slice A4 l4 c4)).setCell ⟨go, ss * 9 + kk * 3 + 2, none⟩ (.slice B4 m4 k4) = wa at hput HK HX ⊢
      have HR := Lib.hid hput
      clear hput
      have HSOL : Hid (solP nn ms j = if 0 ≤ pj then (redG nn (tabM ms nn) nn).tab pj.toNat nn else 0) := Lib.hid (by unfold solP; rw [solG_at, HPV.out])
      rcases pivI_low ((redG nn (tabM ms nn) nn).piv[j]?) with hp | ⟨t, hp1, hp2⟩
      · obtain rfl : pj = -1 := by rw [← HPV.out]; exact hp
        have HS0 : Hid (solP nn ms j = 0) := Lib.hid (by rw [HSOL.out, if_neg (by omega)])
        clear hp
        go_wp2
        go_roundg (nn - (j + 1))
        case rel =>
          refine ⟨j + 1, rfl, by omega, by go_num, Lib.hid (HR.out.congr (fun u _ => ?_)), HX, HK⟩
          by_cases e : u = j
          · rw [if_pos e, e, if_pos (by omega), HS0.out]; rfl
          · rw [if_neg e]
            by_cases h2 : u < j
            · rw [if_pos h2, if_pos (by omega)]
            · rw [if_neg h2, if_neg (by omega)]
        case measure => omega
      · obtain rfl : pj = (t : Int) := by rw [← HPV.out]; exact hp2
        have htn := HPL.out j hlt t hp1
        have HS0 : Hid (solP nn ms j = (redG nn (tabM ms nn) nn).tab t nn) := Lib.hid (by rw [HSOL.out, if_pos (by omega), Int.toNat_natCast])
        clear hp1 hp2
        have hTW := HT.out.keeps (kindNum 53) HK.out (fun g hg => by simp at hg; subst hg; exact HNG.out) (fun g hg => by
          simp at hg
          subst hg
          refine ⟨?_, fun v hv e => ?_⟩
          · have := HLS.out gt (inL_tab gt vs0).1; omega
          · have := HLS.out g ((inL_tab gt vs0).2 v (HSUB.out v hv) g e); omega)
        obtain ⟨ga, ca, ra, tca, hva, hoa, hra, ha1, ha2, hat, ha3, ha4⟩ := hTW.row (by decide) (Nat.succ_pos _) htn
        obtain ⟨s9, A9, l9, c9, B9, m9, k9, x0, x1, x2, hx⟩ := hra.three (Nat.lt_succ_self nn)
        replace x0 := own_cell hoa x0
        replace x1 := own_cell hoa x1
        replace x2 := own_cell hoa x2
        rw [← HS0.out] at hx
        have HN := Lib.hid hx
        have hbw := HB.out.keeps HK.out (by simp; omega)
        have hpw := HP.out.keeps HK.out (by simp; omega)
        clear hTW hva hoa hra ha1 ha2 hat ha3 ha4 hx
        have q7 : decide ((0 : Int) ≤ (t : Int)) = true := decide_eq_true (by omega)
        go_upto_region 8 with (fail)
        refine solve_r8 go S j ss kk gs gt ct nn t ga ca w.heap.size s9 A9 B9 l9 c9 m9 k9 wa HSS.out HKK.out hssS (by omega) hkk3 (by omega) (hbw.cell 0) tca (hpw.cell 0) hqN htn (Nat.lt_succ_self nn) (by omega) x0 x1 x2 _ _ (by simp) rfl rfl rfl rfl rfl ?_
        rintro xv0 xv1 xv2 xv3 xv4 xv5 xv6 xv7 xv8 xv9 xv10 xv11 xv12 xv13 xv14 xv15 xv16 W rfl rfl rfl rfl rfl rfl rfl rfl rfl rfl rfl rfl rfl rfl rfl rfl rfl hX
        simp only [rops, Try.f124, regOf, Option.bind_some, Nat.reduceBEq, if_true, if_false, Bool.false_eq_true, Option.getD_some, List.drop_succ_cons, List.drop_zero]
        simp only [Act.put, List.setIfInBounds_toArray, List.set_cons_succ, List.set_cons_zero]
        replace HR := Lib.hid (HR.out.ext (staysNum 53) hX)
        replace HX := Lib.hid (HX.out.trans hX)
        replace HK := Lib.hid (HK.out.trans (Keeps.of_ext hX _))
        replace HN := Lib.hid (HN.out.ext hX)
        clear x0 x1 x2 tca hbw hpw hX
        obtain ⟨s2, A2, l2, c2, B2, m2, k2, x0, x1, x2, _⟩ := HR.out.cells hj3 HPJ.out
        have f0 := HR.out.free (ss * 9 + kk * 3)
        have f1 := HR.out.free (ss * 9 + kk * 3 + 1)
        have f2 := HR.out.free (ss * 9 + kk * 3 + 2)
        have hput := HR.out.put (staysNum 53) hj3 HPJ.out HN.out
        have HPUT := Lib.hid hput
        clear hput
        go_wp2
        go_roundg (nn - (j + 1))
        case rel =>
          refine ⟨j + 1, rfl, by omega, by go_num, Lib.hid (HPUT.out.congr (fun u _ => ?_)), Lib.hid (((HX.out.setCell (by simp only; omega) _).setCell (by simp only; omega) _).setCell (by simp only; omega) _), Lib.hid (((HK.out.setCell (.inl (by simp)) _).setCell (.inl (by simp)) _).setCell (.inl (by simp)) _)⟩
          by_cases e : u = j
          · rw [if_pos e, e, if_pos (by omega)]
          · rw [if_neg e, if_neg e]
            by_cases h2 : u < j
            · rw [if_pos h2, if_pos (by omega)]
            · rw [if_neg h2, if_neg (by omega)]
        case measure => omega
    · obtain rfl : nn = j := by omega
      go_wp2
      go_ret
      exact ⟨go, rfl, by omega, HR.out.shp (fun u hu => by rw [if_pos (by have := HNN.out; omega)]), HX.out⟩

end Go.Proofs.Ytikhlcgnlbinfaa
namespace Go.Proofs.Ytikhlcgnlbinfaa
open Go.RowKit

theorem elR9 : Elem Try.prog 91 98 9 168 (.agg #[.bool false, .slice none 0 0, .slice none 0 0, .bool false, .slice none 0 0, .slice none 0 0, .bool false, .slice none 0 0, .slice none 0 0]) := Elem.mk' (by kernel_rfl) (by kernel_rfl) rfl (by decide)
theorem pick_agg {P : World → Value → Rat → Prop} {w : World} {k : Nat} (hk : k < 3) {s0 s1 s2 : Bool} {A0 A1 A2 B0 B1 B2 : Option Addr} {l0 c0 m0 k0 l1 c1 m1 k1 l2 c2 m2 k2 : Nat} {q : Nat → Rat} (h0 : P w (.agg #[.bool s0, .slice A0 l0 c0, .slice B0 m0 k0]) (q 0)) (h1 : P w (.agg #[.bool s1, .slice A1 l1 c1, .slice B1 m1 k1]) (q 1)) (h2 : P w (.agg #[.bool s2, .slice A2 l2 c2, .slice B2 m2 k2]) (q 2)) :
    ∃ s A l c B m n, pick3 (Value.bool s0) (Value.bool s1) (Value.bool s2) k = .bool s ∧ pick3 (Value.slice A0 l0 c0) (Value.slice A1 l1 c1) (Value.slice A2 l2 c2) k = .slice A l c ∧ pick3 (Value.slice B0 m0 k0) (Value.slice B1 m1 k1) (Value.slice B2 m2 k2) k = .slice B m n ∧ P w (.agg #[.bool s, .slice A l c, .slice B m n]) (q k) := by
  match k, hk with
  | 0, _ => exact ⟨_, _, _, _, _, _, _, rfl, rfl, rfl, h0⟩
  | 1, _ => exact ⟨_, _, _, _, _, _, _, rfl, rfl, rfl, h1⟩
  | 2, _ => exact ⟨_, _, _, _, _, _, _, rfl, rfl, rfl, h2⟩
  | _ + 3, hk => omega

theorem idx9N (x0 x1 x2 x3 x4 x5 x6 x7 x8 : Value) {k : Nat} (hk : k < 3) (w : World) : (Instr.index 263 (.agg #[x0, x1, x2, x3, x4, x5, x6, x7, x8]) (.int .i64 (k : Int))).run Try.prog w = .ok (.agg #[pick3 x0 x3 x6 k, pick3 x1 x4 x7 k, pick3 x2 x5 x8 k]) w := by
  have i0 : ∀ w : World, (Instr.index 263 (.agg #[x0, x1, x2, x3, x4, x5, x6, x7, x8]) (.int .i64 0)).run Try.prog w = .ok (.agg #[x0, x1, x2]) w := fun _ => by kernel_rfl
  have i1 : ∀ w : World, (Instr.index 263 (.agg #[x0, x1, x2, x3, x4, x5, x6, x7, x8]) (.int .i64 1)).run Try.prog w = .ok (.agg #[x3, x4, x5]) w := fun _ => by kernel_rfl
  have i2 : ∀ w : World, (Instr.index 263 (.agg #[x0, x1, x2, x3, x4, x5, x6, x7, x8]) (.int .i64 2)).run Try.prog w = .ok (.agg #[x6, x7, x8]) w := fun _ => by kernel_rfl
  match k, hk with
  | 0, _ => exact i0 w
  | 1, _ => exact i1 w
  | 2, _ => exact i2 w
  | _ + 3, hk => omega

theorem idx9R (x0 x1 x2 x3 x4 x5 x6 x7 x8 : Value) {k : Nat} (hk : k < 3) (w : World) : (Instr.index 98 (.agg #[x0, x1, x2, x3, x4, x5, x6, x7, x8]) (.int .i64 (k : Int))).run Try.prog w = .ok (.agg #[pick3 x0 x3 x6 k, pick3 x1 x4 x7 k, pick3 x2 x5 x8 k]) w := by
  have i0 : ∀ w : World, (Instr.index 98 (.agg #[x0, x1, x2, x3, x4, x5, x6, x7, x8]) (.int .i64 0)).run Try.prog w = .ok (.agg #[x0, x1, x2]) w := fun _ => by kernel_rfl
  have i1 : ∀ w : World, (Instr.index 98 (.agg #[x0, x1, x2, x3, x4, x5, x6, x7, x8]) (.int .i64 1)).run Try.prog w = .ok (.agg #[x3, x4, x5]) w := fun _ => by kernel_rfl
  have i2 : ∀ w : World, (Instr.index 98 (.agg #[x0, x1, x2, x3, x4, x5, x6, x7, x8]) (.int .i64 2)).run Try.prog w = .ok (.agg #[x6, x7, x8]) w := fun _ => by kernel_rfl
  match k, hk with
  | 0, _ => exact i0 w
  | 1, _ => exact i1 w
  | 2, _ => exact i2 w
  | _ + 3, hk => omega

set_option maxRecDepth 100000 in
set_option maxHeartbeats 2000000 in
theorem done9_r11 (go S ss kk gr : Nat) (sy : Bool) (Ay By : Option Addr) (ly cy my ky : Nat) (w : World) (x0 : w.cell? ⟨gr, 0, none⟩ = some (.bool sy)) (x1 : w.cell? ⟨gr, 1, none⟩ = some (.slice Ay ly cy)) (x2 : w.cell? ⟨gr, 2, none⟩ = some (.slice By my ky)) (hs1 : ss < S) (hk3 : (kk : Int) < 3) (_hk4 : kk < 3) (a : Act) (Q : Exit → Act → World → Prop) (hsize : 40 ≤ a.tmps.size)
    (s4 : a.tmps[4]? = some (.slice (some ⟨go, 0, none⟩) S S))
    (s5 : a.tmps[5]? = some (.int .i64 (ss : Int)))
    (s7 : a.tmps[7]? = some (.int .i64 (kk : Int)))
    (s9 : a.tmps[9]? = some (.pointer (some ⟨gr, 0, none⟩)))
    (hend : ∀ (xv0 xv1 xv2 xv3 xv4 xv5 : Value) (W : World), (xv0 = .slice (some ⟨go, 0, none⟩) S S) → (xv1 = .int .i64 (ss : Int)) → (xv2 = .int .i64 (kk : Int)) → (xv3 = .agg #[.bool sy, .slice Ay ly cy, .slice By my ky]) → (xv4 = .pointer (some ⟨go, ss * 9, none⟩)) → (xv5 = .pointer (some ⟨go, ss * 9 + kk * 3, none⟩)) → Ext w W → wpList Try.prog (rops Try.f125 11).toArray Q ((rops Try.f125 11).drop 6) ((((((a.put (some 34) xv0).put (some 35) xv1).put (some 36) xv2).put (some 37) xv3).put (some 38) xv4).put (some 39) xv5) W) :
    (Code.region 11 (rops Try.f125 11).toArray true).wp Try.prog Q a w := by
  have hmono : ∀ (W W' : World) (j : Nat) (u : Value), Ext W W' → (fun (i : Nat) (v : Value) (W : World) => match i with
    | 0 => v = .slice (some ⟨go, 0, none⟩) S S
    | 1 => v = .int .i64 (ss : Int)
    | 2 => v = .int .i64 (kk : Int)
    | 3 => v = .agg #[.bool sy, .slice Ay ly cy, .slice By my ky]
    | 4 => v = .pointer (some ⟨go, ss * 9, none⟩)
    | 5 => v = .pointer (some ⟨go, ss * 9 + kk * 3, none⟩)
    | _ => True) j u W → (fun (i : Nat) (v : Value) (W : World) => match i with
    | 0 => v = .slice (some ⟨go, 0, none⟩) S S
    | 1 => v = .int .i64 (ss : Int)
    | 2 => v = .int .i64 (kk : Int)
    | 3 => v = .agg #[.bool sy, .slice Ay ly cy, .slice By my ky]
    | 4 => v = .pointer (some ⟨go, ss * 9, none⟩)
    | 5 => v = .pointer (some ⟨go, ss * 9 + kk * 3, none⟩)
    | _ => True) j u W' := by
    intro W W' j u hX h
    match j, h with
    | 0, h => exact h
    | 1, h => exact h
    | 2, h => exact h
    | 3, h => exact h
    | 4, h => exact h
    | 5, h => exact h
    | _ + 6, h => exact h
  have hsz : ∀ d, some d ∈ ([some 34, some 35, some 36, some 37, some 38, some 39] : List (Option Tmp)) → d < a.tmps.size := slots_lt (by decide) hsize
  refine wp_region_j 6 [some 34, some 35, some 36, some 37, some 38, some 39] [[], [], [], [], [0, 1], [2, 4]] [[], [], [], [], [], []] (fun (i : Nat) (v : Value) (W : World) => match i with
    | 0 => v = .slice (some ⟨go, 0, none⟩) S S
    | 1 => v = .int .i64 (ss : Int)
    | 2 => v = .int .i64 (kk : Int)
    | 3 => v = .agg #[.bool sy, .slice Ay ly cy, .slice By my ky]
    | 4 => v = .pointer (some ⟨go, ss * 9, none⟩)
    | 5 => v = .pointer (some ⟨go, ss * 9 + kk * 3, none⟩)
    | _ => True) (fun _ W => Ext w W) (by kernel_rfl) (by kernel_rfl) hsz (fun _ _ _ _ h => h) ((Ext.refl w).drew) ?_ ?_
  · clear hend
    simp only [rops, Try.f125, regOf, Option.bind_some, Nat.reduceBEq, if_true, if_false, Bool.false_eq_true, Option.getD_some]
    simp only [List.take_succ_cons, List.take_zero]
    refine ⟨?_, ?_, ?_, ?_, ?_, ?_, trivial⟩
    · intro done us W hJ hdep haft hnot b hb hb' K hK Q'
      have e4 := (hb' 4 (by simp)).trans s4
      clear hb hb'
      go_simp
      exact hK _ _ rfl (fun _ _ _ h => h) hJ
    · intro done us W hJ hdep haft hnot b hb hb' K hK Q'
      have e5 := (hb' 5 (by simp)).trans s5
      clear hb hb'
      go_simp
      exact hK _ _ rfl (fun _ _ _ h => h) hJ
    · intro done us W hJ hdep haft hnot b hb hb' K hK Q'
      have e7 := (hb' 7 (by simp)).trans s7
      clear hb hb'
      go_simp
      exact hK _ _ rfl (fun _ _ _ h => h) hJ
    · intro done us W hJ hdep haft hnot b hb hb' K hK Q'
      have e9 := (hb' 9 (by simp)).trans s9
      clear hb hb'
      have z0 := Ext.cell hJ x0
      have z1 := Ext.cell hJ x1
      have z2 := Ext.cell hJ x2
      go_simp
      exact hK _ _ rfl (fun _ _ _ h => h) hJ
    · intro done us W hJ hdep haft hnot b hb hb' K hK Q'
      simp only [List.getD_cons_succ, List.getD_cons_zero, List.mem_cons, List.not_mem_nil, or_false, forall_eq_or_imp, forall_eq] at hdep
      have e34 := hb 0 34 rfl
      have e35 := hb 1 35 rfl
      have d0 := hdep.1
      have d1 := hdep.2
      rw [d0.1] at e34
      rw [d1.1] at e35
      clear hb hb' hdep d0 d1
      go_simp
      exact hK _ _ rfl (fun _ _ _ h => h) hJ
    · intro done us W hJ hdep haft hnot b hb hb' K hK Q'
      simp only [List.getD_cons_succ, List.getD_cons_zero, List.mem_cons, List.not_mem_nil, or_false, forall_eq_or_imp, forall_eq] at hdep
      have e36 := hb 2 36 rfl
      have e38 := hb 4 38 rfl
      have d2 := hdep.1
      have d4 := hdep.2
      rw [d2.1] at e36
      rw [d4.1] at e38
      clear hb hb' hdep d2 d4
      go_simp
      exact hK _ _ rfl (fun _ _ _ h => h) hJ
  · intro us W hV hJ
    exact hend (us 0) (us 1) (us 2) (us 3) (us 4) (us 5) W (hV 0 (by omega)) (hV 1 (by omega)) (hV 2 (by omega)) (hV 3 (by omega)) (hV 4 (by omega)) (hV 5 (by omega)) hJ
set_option maxRecDepth 100000 in
set_option maxHeartbeats 16000000 in
theorem done_S (L gt ot S ct : Nat) (u : Nat → Rat) (w : World) (hS : ShP (fun w v q => NumX w v q L) w gt ot S u) (hL : L ≤ 100000) (hf : ∀ j, j < 3 * S → FitQW (u j)) (hS8 : S ≤ 1000) :
    Calls Try.prog 125 #[.slice (some ⟨gt, ot, none⟩) S ct] w (fun e w' => ∃ go, e = .returned (.tuple #[.slice (some ⟨go, 0, none⟩) S S, .int .i64 0]) ∧ w.heap.size ≤ go ∧ ShP RatC w' go 0 S u ∧ Ext w w') := by
  have HS := Lib.hid hS
  have HF := Lib.hid hf
  clear hS hf
  go_enter Try.func125, Try.ntmps125
  go_upto_region 1 with (fail)
  go_upto_region 2 with (at_make; refine wpList_mkS w elR9 rfl _ _ rfl w.heap.size _ _ _ _ S S rfl rfl (by first | rfl | omega) (by first | rfl | omega) (Nat.le_refl _) (by omega) (by unfold maxLen; omega) (Nat.le_refl _) ?_; intro w4 us hown hz1 hz2 hext hsz)
  have hrow : RowN RatC 98 9 w.heap.size w4 w.heap.size S S (3 * S) (fun _ => none) := RowN.make9 hown hz1 hz2
  have HR : Hid (RowN RatC 98 9 w.heap.size w4 w.heap.size S S (3 * S) (fun _ => none)) := Lib.hid hrow
  have HX := Lib.hid hext
  clear hrow hown hz1 hz2 hext
  go_wp2_with fail
  go_loopg [16] S (fun f iv wr => ∃ i : Nat, f = S - i ∧ i ≤ S ∧ iv = .int .i64 (i : Int) ∧ Hid (RowN RatC 98 9 w.heap.size wr w.heap.size S S (3 * S) (fun j => if j < 3 * i then some (u j) else none)) ∧ Hid (Ext w wr))
  case atStart => exact ⟨0, by omega, by omega, rfl, Lib.hid (HR.out.congr (fun j _ => by rw [if_neg (by omega)])), HX⟩
  case round =>
    clear HR HX hsz
    obtain ⟨i, rfl, hi, rfl, HR, HX⟩ := hrel
    by_cases hlt : i < S
    · have q1 : decide (i < S) = true := decide_eq_true hlt
      obtain ⟨s0, A0, l0, c0, B0, m0, k0, a0, b0, d0, e0⟩ := HS.out i 0 hlt (by omega)
      replace a0 := HX.out.cell a0
      replace b0 := HX.out.cell b0
      replace d0 := HX.out.cell d0
      obtain ⟨s1, A1, l1, c1, B1, m1, k1, a1, b1, d1, e1⟩ := HS.out i 1 hlt (by omega)
      replace a1 := HX.out.cell a1
      replace b1 := HX.out.cell b1
      replace d1 := HX.out.cell d1
      obtain ⟨s2, A2, l2, c2, B2, m2, k2, a2, b2, d2, e2⟩ := HS.out i 2 hlt (by omega)
      replace a2 := HX.out.cell a2
      replace b2 := HX.out.cell b2
      replace d2 := HX.out.cell d2
      have HE0 := Lib.hid e0
      have HE1 := Lib.hid e1
      have HE2 := Lib.hid e2
      clear e0 e1 e2
      simp only [Nat.zero_mul, Nat.add_zero, Nat.one_mul] at a0 b0 d0 a1 b1 d1
      have e3 : ot + i * 9 + 3 + 1 = ot + i * 9 + 4 := by omega
      have e4 : ot + i * 9 + 3 + 2 = ot + i * 9 + 5 := by omega
      have e6 : ot + i * 9 + 2 * 3 = ot + i * 9 + 6 := by omega
      have e7 : ot + i * 9 + 2 * 3 + 1 = ot + i * 9 + 7 := by omega
      have e8 : ot + i * 9 + 2 * 3 + 2 = ot + i * 9 + 8 := by omega
      rw [e3] at b1
      rw [e4] at d1
      rw [e7] at b2
      rw [e8] at d2
      rw [e6] at a2
      clear e3 e4 e6 e7 e8
      go_upto_region 5 with (fail)
      have hXa : Ext wr (wr.alloc (.cells #[.bool s0, .slice A0 l0 c0, .slice B0 m0 k0, .bool s1, .slice A1 l1 c1, .slice B1 m1 k1, .bool s2, .slice A2 l2 c2, .slice B2 m2 k2] 263)) := (Ext.refl _).alloc _
      have kB := Blk.new wr 263 #[.bool s0, .slice A0 l0 c0, .slice B0 m0 k0, .bool s1, .slice A1 l1 c1, .slice B1 m1 k1, .bool s2, .slice A2 l2 c2, .slice B2 m2 k2]
      replace HR := Lib.hid (HR.out.ext staysC hXa)
      replace HX := Lib.hid (HX.out.trans hXa)
      clear hXa a0 b0 d0 a1 b1 d1 a2 b2 d2
      generalize wr.heap.size = gv at kB ⊢
      generalize wr.alloc (.cells #[.bool s0, .slice A0 l0 c0, .slice B0 m0 k0, .bool s1, .slice A1 l1 c1, .slice B1 m1 k1, .bool s2, .slice A2 l2 c2, .slice B2 m2 k2] 263) = w5 at kB HR HX ⊢
      have y0 := kB.cell 0
      have y1 := kB.cell 1
      have y2 := kB.cell 2
      have y3 := kB.cell 3
      have y4 := kB.cell 4
      have y5 := kB.cell 5
      have y6 := kB.cell 6
      have y7 := kB.cell 7
      have y8 := kB.cell 8
      simp only [List.getElem?_toArray, List.getElem?_cons_zero, List.getElem?_cons_succ] at y0 y1 y2 y3 y4 y5 y6 y7 y8
      clear kB
      go_wp2_with fail
      clear y0 y1 y2 y3 y4 y5 y6 y7 y8
      go_loopg [22] 3 (fun f kv wr => ∃ k : Nat, f = 3 - k ∧ k ≤ 3 ∧ kv = .int .i64 (k : Int) ∧ Hid (RowN RatC 98 9 w.heap.size wr w.heap.size S S (3 * S) (fun j => if j < 3 * i + k then some (u j) else none)) ∧ Hid (Ext w wr))
      case atStart => exact ⟨0, by omega, by omega, rfl, HR, HX⟩
      case round =>
        clear HR HX
        obtain ⟨k, rfl, hk, rfl, HR, HX⟩ := hrel
        by_cases hkl : k < 3
        · have q2 : decide (k < 3) = true := decide_eq_true hkl
          obtain ⟨s9, A9, l9, c9, B9, m9, k9, g1, g2, g3, hq⟩ := pick_agg (P := fun w v q => NumX w v q L) (w := wr) (q := fun k => u (3 * i + k)) hkl (HE0.out.ext HX.out) (HE1.out.ext HX.out) (HE2.out.ext HX.out)
          have ik := idx9N (.bool s0) (.slice A0 l0 c0) (.slice B0 m0 k0) (.bool s1) (.slice A1 l1 c1) (.slice B1 m1 k1) (.bool s2) (.slice A2 l2 c2) (.slice B2 m2 k2) hkl
          rw [g1, g2, g3] at ik
          have HQ := Lib.hid hq
          clear hq g1 g2 g3
          have hj3 : 3 * i + k < 3 * S := by omega
          have HFQ := Lib.hid (HF.out _ hj3)
          go_upto_region 8 with (fail)
          have hXa : Ext wr (wr.alloc (.cells #[.bool s9, .slice A9 l9 c9, .slice B9 m9 k9] 217)) := (Ext.refl _).alloc _
          have kB := Blk.new wr 217 #[.bool s9, .slice A9 l9 c9, .slice B9 m9 k9]
          replace HR := Lib.hid (HR.out.ext staysC hXa)
          replace HX := Lib.hid (HX.out.trans hXa)
          replace HQ := Lib.hid (HQ.out.ext hXa)
          clear hXa
          generalize wr.heap.size = gn at kB ⊢
          generalize wr.alloc (.cells #[.bool s9, .slice A9 l9 c9, .slice B9 m9 k9] 217) = w6 at kB HR HX HQ ⊢
          have y0 := kB.cell 0
          have y1 := kB.cell 1
          have y2 := kB.cell 2
          simp only [List.getElem?_toArray, List.getElem?_cons_zero, List.getElem?_cons_succ] at y0 y1 y2
          clear kB
          go_wp2_with fail
          refine (doneG HQ.out (by omega) HFQ.out).mono ?_
          rintro e w7 ⟨v7, rfl, hv, hX⟩
          obtain ⟨s4, A4, l4, c4, B4, m4, k4, rfl⟩ := RatC.open hv
          clear y0 y1 y2 HQ
          replace HR := Lib.hid (HR.out.ext staysC hX)
          replace HX := Lib.hid (HX.out.trans hX)
          clear hX
          have HV := Lib.hid hv
          clear hv
          go_upto_region 9 with (fail)
          have hXa : Ext w7 (w7.alloc (.cells #[.bool s4, .slice A4 l4 c4, .slice B4 m4 k4] 97)) := (Ext.refl _).alloc _
          have kB := Blk.new w7 97 #[.bool s4, .slice A4 l4 c4, .slice B4 m4 k4]
          replace HR := Lib.hid (HR.out.ext staysC hXa)
          replace HX := Lib.hid (HX.out.trans hXa)
          replace HV := Lib.hid (HV.out.ext hXa)
          clear hXa
          generalize w7.heap.size = gn2 at kB ⊢
          generalize w7.alloc (.cells #[.bool s4, .slice A4 l4 c4, .slice B4 m4 k4] 97) = w8 at kB HR HX HV ⊢
          have KB := Lib.hid kB
          clear kB
          go_upto_region 11 with (fail)
          refine done9_r11 w.heap.size S i k gn2 s4 A4 B4 l4 c4 m4 k4 w8 (KB.out.cell 0) (KB.out.cell 1) (KB.out.cell 2) hlt (by omega) hkl _ _ (by simp) rfl rfl rfl rfl ?_
          rintro xv0 xv1 xv2 xv3 xv4 xv5 W rfl rfl rfl rfl rfl rfl hX
          simp only [rops, Try.f125, regOf, Option.bind_some, Nat.reduceBEq, if_true, if_false, Bool.false_eq_true, Option.getD_some, List.drop_succ_cons, List.drop_zero]
          simp only [Act.put, List.setIfInBounds_toArray, List.set_cons_succ, List.set_cons_zero]
          replace HR := Lib.hid (HR.out.ext staysC hX)
          replace HX := Lib.hid (HX.out.trans hX)
          replace HV := Lib.hid (HV.out.ext hX)
          clear hX KB
          have hpj : i * 9 + k * 3 = (3 * i + k) * 3 := by omega
          obtain ⟨s2, A2, l2, c2, B2, m2, k2, z0, z1, z2, _⟩ := HR.out.cells hj3 hpj
          have f0 := HR.out.free (i * 9 + k * 3)
          have f1 := HR.out.free (i * 9 + k * 3 + 1)
          have f2 := HR.out.free (i * 9 + k * 3 + 2)
          have HPUT := Lib.hid (HR.out.put staysC hj3 hpj HV.out)
          clear hpj
          go_wp2
          go_roundg (3 - (k + 1))
          case rel =>
            refine ⟨k + 1, rfl, by omega, by go_num, Lib.hid (HPUT.out.congr (fun j _ => ?_)), Lib.hid (((HX.out.setCell (by simp only; omega) _).setCell (by simp only; omega) _).setCell (by simp only; omega) _)⟩
            by_cases e : j = 3 * i + k
            · rw [if_pos e, e, if_pos (by omega)]
            · rw [if_neg e]
              by_cases h2 : j < 3 * i + k
              · rw [if_pos h2, if_pos (by omega)]
              · rw [if_neg h2, if_neg (by omega)]
          case measure => omega
        · obtain rfl : k = 3 := by omega
          go_wp2
          go_roundg (S - (i + 1))
          case rel => exact ⟨i + 1, rfl, by omega, by go_num, Lib.hid (HR.out.congr (fun j _ => by rw [show 3 * (i + 1) = 3 * i + 3 by omega])), HX⟩
          case measure => omega
    · obtain rfl : i = S := by omega
      go_wp2
      go_ret2
      exact ⟨w.heap.size, rfl, by omega, HR.out.shp (fun j hj => by rw [if_pos hj]), HX.out⟩

end Go.Proofs.Ytikhlcgnlbinfaa
namespace Go.Proofs.Ytikhlcgnlbinfaa
open Go.ChangeShapes Go.WideShapes Go.ChangeAt Go.RowKit Go.Joins

/-- The cells of a struct that came in. -/
theorem agg_cellsZ {P : Program} {W : World} {H : Type} {enc : TypeId × Value → H} {t : TypeId} {fs : Array Field} {v : Value} {d : DataW H} {p : List MemPlace} {b base : Nat} {sp : Nat → Bool} {hd : Bool} (hs : P.underlying t = some (.struct fs))
    (hv : Value.okWide P W .any base t v) (h : DataW.Trod enc P W b sp hd t v d p) : ∃ cs fuel z, v = .agg cs ∧ cs.toList.length = P.cellsOf t ∧ DataW.trod enc P W b sp hd fuel t cs.toList = some z := by
  obtain ⟨cs, rfl, hsz⟩ := okWide_struct hs hv
  obtain ⟨fuel, hf⟩ := h
  exact ⟨cs, fuel, _, rfl, by simpa using hsz, by simpa [Value.cells] using hf⟩
theorem listZ12 {α : Type} {cs : List α} (h : cs.length = 12) : ∃ c0 c1 c2 c3 c4 c5 c6 c7 c8 c9 c10 c11, cs = [c0, c1, c2, c3, c4, c5, c6, c7, c8, c9, c10, c11] := by
  match cs, h with
  | [c0, c1, c2, c3, c4, c5, c6, c7, c8, c9, c10, c11], _ => exact ⟨c0, c1, c2, c3, c4, c5, c6, c7, c8, c9, c10, c11, rfl⟩
set_option maxRecDepth 100000 in
set_option maxHeartbeats 1000000 in
theorem carry_open {W : World} {H : Type} {enc : TypeId × Value → H} {v : Value} {d : DataW H} {p : List MemPlace} {b base : Nat} {sp : Nat → Bool} {hd : Bool} (hv : Value.okWide Try.prog W .any base 131 v) (h : DataW.Trod enc Try.prog W b sp hd 131 v d p) : ∃ f0 f1 f2 f3 f4 f5 f6 f7 f8 f9 f10 f11 : Int, v = .agg #[.int .i64 f0, .int .i64 f1, .int .i64 f2, .int .i64 f3, .int .i64 f4, .int .i64 f5, .int .i32 f6, .int .i32 f7, .int .i32 f8, .int .u32 f9, .int .u32 f10, .int .u32 f11] ∧ (-9223372036854775808 ≤ f0 ∧ f0 ≤ 9223372036854775807) ∧ (-9223372036854775808 ≤ f1 ∧ f1 ≤ 9223372036854775807) ∧ (-9223372036854775808 ≤ f2 ∧ f2 ≤ 9223372036854775807) ∧ (-9223372036854775808 ≤ f3 ∧ f3 ≤ 9223372036854775807) ∧ (-9223372036854775808 ≤ f4 ∧ f4 ≤ 9223372036854775807) ∧ (-9223372036854775808 ≤ f5 ∧ f5 ≤ 9223372036854775807) ∧ (-2147483648 ≤ f6 ∧ f6 ≤ 2147483647) ∧ (-2147483648 ≤ f7 ∧ f7 ≤ 2147483647) ∧ (-2147483648 ≤ f8 ∧ f8 ≤ 2147483647) ∧ (0 ≤ f9 ∧ f9 ≤ 4294967295) ∧ (0 ≤ f10 ∧ f10 ≤ 4294967295) ∧ (0 ≤ f11 ∧ f11 ≤ 4294967295) := by
  obtain ⟨cs, fuel, z, rfl, hl, hf⟩ := agg_cellsZ Try.underlying131 hv h
  obtain ⟨c0, c1, c2, c3, c4, c5, c6, c7, c8, c9, c10, c11, he⟩ := listZ12 (hl.trans (by kernel_rfl))
  rw [he] at hf
  obtain ⟨xs67, n67, _, _, _, hl67, hg67⟩ := DataW.trod_struct Try.underlying131 hf
  have g67_0 : DataW.trod enc Try.prog W b sp hd n67 54 [c0, c1, c2, c3, c4, c5] = xs67[0]? := by
    have h := hg67 0 _ rfl
    rw [show Try.prog.cellsOf _ = 6 by kernel_rfl] at h
    exact h
  rw [List.getElem?_eq_getElem (by rw [hl67]; decide)] at g67_0
  obtain ⟨xs68, n68, _, _, _, hl68, hg68⟩ := DataW.trod_struct Try.underlying54 g67_0
  have g68_0 : DataW.trod enc Try.prog W b sp hd n68 31 [c0, c1] = xs68[0]? := by
    have h := hg68 0 _ rfl
    rw [show Try.prog.cellsOf _ = 2 by kernel_rfl] at h
    exact h
  rw [List.getElem?_eq_getElem (by rw [hl68]; decide)] at g68_0
  obtain ⟨xs69, n69, _, _, _, hl69, hg69⟩ := DataW.trod_struct Try.underlying31 g68_0
  have g69_0 : DataW.trod enc Try.prog W b sp hd n69 3 [c0] = xs69[0]? := by
    have h := hg69 0 _ rfl
    rw [show Try.prog.cellsOf _ = 1 by kernel_rfl] at h
    exact h
  rw [List.getElem?_eq_getElem (by rw [hl69]; decide)] at g69_0
  obtain ⟨vc0, ec0, _, wc0⟩ := DataW.trod_int Try.underlying3 g69_0
  simp only [List.cons.injEq, and_true] at ec0
  subst ec0
  have g69_1 : DataW.trod enc Try.prog W b sp hd n69 3 [c1] = xs69[1]? := by
    have h := hg69 1 _ rfl
    rw [show Try.prog.cellsOf _ = 1 by kernel_rfl] at h
    exact h
  rw [List.getElem?_eq_getElem (by rw [hl69]; decide)] at g69_1
  obtain ⟨vc1, ec1, _, wc1⟩ := DataW.trod_int Try.underlying3 g69_1
  simp only [List.cons.injEq, and_true] at ec1
  subst ec1
  have g68_1 : DataW.trod enc Try.prog W b sp hd n68 31 [c2, c3] = xs68[1]? := by
    have h := hg68 1 _ rfl
    rw [show Try.prog.cellsOf _ = 2 by kernel_rfl] at h
    exact h
  rw [List.getElem?_eq_getElem (by rw [hl68]; decide)] at g68_1
  obtain ⟨xs72, n72, _, _, _, hl72, hg72⟩ := DataW.trod_struct Try.underlying31 g68_1
  have g72_0 : DataW.trod enc Try.prog W b sp hd n72 3 [c2] = xs72[0]? := by
    have h := hg72 0 _ rfl
    rw [show Try.prog.cellsOf _ = 1 by kernel_rfl] at h
    exact h
  rw [List.getElem?_eq_getElem (by rw [hl72]; decide)] at g72_0
  obtain ⟨vc2, ec2, _, wc2⟩ := DataW.trod_int Try.underlying3 g72_0
  simp only [List.cons.injEq, and_true] at ec2
  subst ec2
  have g72_1 : DataW.trod enc Try.prog W b sp hd n72 3 [c3] = xs72[1]? := by
    have h := hg72 1 _ rfl
    rw [show Try.prog.cellsOf _ = 1 by kernel_rfl] at h
    exact h
  rw [List.getElem?_eq_getElem (by rw [hl72]; decide)] at g72_1
  obtain ⟨vc3, ec3, _, wc3⟩ := DataW.trod_int Try.underlying3 g72_1
  simp only [List.cons.injEq, and_true] at ec3
  subst ec3
  have g68_2 : DataW.trod enc Try.prog W b sp hd n68 31 [c4, c5] = xs68[2]? := by
    have h := hg68 2 _ rfl
    rw [show Try.prog.cellsOf _ = 2 by kernel_rfl] at h
    exact h
  rw [List.getElem?_eq_getElem (by rw [hl68]; decide)] at g68_2
  obtain ⟨xs75, n75, _, _, _, hl75, hg75⟩ := DataW.trod_struct Try.underlying31 g68_2
  have g75_0 : DataW.trod enc Try.prog W b sp hd n75 3 [c4] = xs75[0]? := by
    have h := hg75 0 _ rfl
    rw [show Try.prog.cellsOf _ = 1 by kernel_rfl] at h
    exact h
  rw [List.getElem?_eq_getElem (by rw [hl75]; decide)] at g75_0
  obtain ⟨vc4, ec4, _, wc4⟩ := DataW.trod_int Try.underlying3 g75_0
  simp only [List.cons.injEq, and_true] at ec4
  subst ec4
  have g75_1 : DataW.trod enc Try.prog W b sp hd n75 3 [c5] = xs75[1]? := by
    have h := hg75 1 _ rfl
    rw [show Try.prog.cellsOf _ = 1 by kernel_rfl] at h
    exact h
  rw [List.getElem?_eq_getElem (by rw [hl75]; decide)] at g75_1
  obtain ⟨vc5, ec5, _, wc5⟩ := DataW.trod_int Try.underlying3 g75_1
  simp only [List.cons.injEq, and_true] at ec5
  subst ec5
  have g67_1 : DataW.trod enc Try.prog W b sp hd n67 128 [c6, c7, c8] = xs67[1]? := by
    have h := hg67 1 _ rfl
    rw [show Try.prog.cellsOf _ = 3 by kernel_rfl] at h
    exact h
  rw [List.getElem?_eq_getElem (by rw [hl67]; decide)] at g67_1
  obtain ⟨xs78, n78, _, _, _, hl78, hg78⟩ := DataW.trod_array Try.underlying128 g67_1
  have g78_0 : DataW.trod enc Try.prog W b sp hd n78 21 [c6] = xs78[0]? := by
    have h := hg78 0 (by decide)
    rw [show Try.prog.cellsOf _ = 1 by kernel_rfl] at h
    exact h
  rw [List.getElem?_eq_getElem (by rw [hl78]; decide)] at g78_0
  obtain ⟨vc6, ec6, _, wc6⟩ := DataW.trod_int Try.underlying21 g78_0
  simp only [List.cons.injEq, and_true] at ec6
  subst ec6
  have g78_1 : DataW.trod enc Try.prog W b sp hd n78 21 [c7] = xs78[1]? := by
    have h := hg78 1 (by decide)
    rw [show Try.prog.cellsOf _ = 1 by kernel_rfl] at h
    exact h
  rw [List.getElem?_eq_getElem (by rw [hl78]; decide)] at g78_1
  obtain ⟨vc7, ec7, _, wc7⟩ := DataW.trod_int Try.underlying21 g78_1
  simp only [List.cons.injEq, and_true] at ec7
  subst ec7
  have g78_2 : DataW.trod enc Try.prog W b sp hd n78 21 [c8] = xs78[2]? := by
    have h := hg78 2 (by decide)
    rw [show Try.prog.cellsOf _ = 1 by kernel_rfl] at h
    exact h
  rw [List.getElem?_eq_getElem (by rw [hl78]; decide)] at g78_2
  obtain ⟨vc8, ec8, _, wc8⟩ := DataW.trod_int Try.underlying21 g78_2
  simp only [List.cons.injEq, and_true] at ec8
  subst ec8
  have g67_2 : DataW.trod enc Try.prog W b sp hd n67 129 [c9] = xs67[2]? := by
    have h := hg67 2 _ rfl
    rw [show Try.prog.cellsOf _ = 1 by kernel_rfl] at h
    exact h
  rw [List.getElem?_eq_getElem (by rw [hl67]; decide)] at g67_2
  obtain ⟨vc9, ec9, _, wc9⟩ := DataW.trod_int Try.underlying129 g67_2
  simp only [List.cons.injEq, and_true] at ec9
  subst ec9
  have g67_3 : DataW.trod enc Try.prog W b sp hd n67 129 [c10] = xs67[3]? := by
    have h := hg67 3 _ rfl
    rw [show Try.prog.cellsOf _ = 1 by kernel_rfl] at h
    exact h
  rw [List.getElem?_eq_getElem (by rw [hl67]; decide)] at g67_3
  obtain ⟨vc10, ec10, _, wc10⟩ := DataW.trod_int Try.underlying129 g67_3
  simp only [List.cons.injEq, and_true] at ec10
  subst ec10
  have g67_4 : DataW.trod enc Try.prog W b sp hd n67 129 [c11] = xs67[4]? := by
    have h := hg67 4 _ rfl
    rw [show Try.prog.cellsOf _ = 1 by kernel_rfl] at h
    exact h
  rw [List.getElem?_eq_getElem (by rw [hl67]; decide)] at g67_4
  obtain ⟨vc11, ec11, _, wc11⟩ := DataW.trod_int Try.underlying129 g67_4
  simp only [List.cons.injEq, and_true] at ec11
  subst ec11
  exact ⟨vc0, vc1, vc2, vc3, vc4, vc5, vc6, vc7, vc8, vc9, vc10, vc11, congrArg Value.agg (Array.toList_inj.1 he), by have h := wc0; simp [Lit.wf, IntKind.min, IntKind.max, IntKind.bits, IntKind.signed] at h; omega, by have h := wc1; simp [Lit.wf, IntKind.min, IntKind.max, IntKind.bits, IntKind.signed] at h; omega, by have h := wc2; simp [Lit.wf, IntKind.min, IntKind.max, IntKind.bits, IntKind.signed] at h; omega, by have h := wc3; simp [Lit.wf, IntKind.min, IntKind.max, IntKind.bits, IntKind.signed] at h; omega, by have h := wc4; simp [Lit.wf, IntKind.min, IntKind.max, IntKind.bits, IntKind.signed] at h; omega, by have h := wc5; simp [Lit.wf, IntKind.min, IntKind.max, IntKind.bits, IntKind.signed] at h; omega, by have h := wc6; simp [Lit.wf, IntKind.min, IntKind.max, IntKind.bits, IntKind.signed] at h; omega, by have h := wc7; simp [Lit.wf, IntKind.min, IntKind.max, IntKind.bits, IntKind.signed] at h; omega, by have h := wc8; simp [Lit.wf, IntKind.min, IntKind.max, IntKind.bits, IntKind.signed] at h; omega, by have h := wc9; simp [Lit.wf, IntKind.min, IntKind.max, IntKind.bits, IntKind.signed] at h; omega, by have h := wc10; simp [Lit.wf, IntKind.min, IntKind.max, IntKind.bits, IntKind.signed] at h; omega, by have h := wc11; simp [Lit.wf, IntKind.min, IntKind.max, IntKind.bits, IntKind.signed] at h; omega⟩
end Go.Proofs.Ytikhlcgnlbinfaa
namespace Go.Proofs.Ytikhlcgnlbinfaa
open Go.RowKit

section
variable {P : Program} {l : List Oper} {a : Act} {Q : Exit → Act → World → Prop}
theorem wp_region_g0 {id : Nat} {w : World} (n : Nat) (ds : List (Option Tmp)) (D A : List (List Nat)) (J : (Nat → Prop) → (Nat → Value) → World → Prop) (hm : P.follows .mixedOrders = true) (hB : jB l.toArray n ds D A = true)
    (hd : ∀ d, some d ∈ ds → d < a.tmps.size) (hJ : ∀ p q us W, (∀ k, p k ↔ q k) → J p us W → J q us W) (h0 : ∀ us : Nat → Value, (∀ j d, ds[j]? = some (some d) → a.tmps[d]? = some (us j)) → J (fun _ => False) us w.drew) (hop : GAllq P l.toArray J D A ds a 0 (l.take n))
    (hend : ∀ us W, J (fun k => k < n) us W → wpList P l.toArray Q (l.drop n) (fillO a ds us 0) W) : (Code.region id l.toArray true).wp P Q a w := by
  refine wp_region_any hm ?_
  have hB' := hB
  simp only [jB, Bool.and_eq_true, decide_eq_true_eq] at hB'
  obtain ⟨⟨⟨⟨⟨⟨hn, hl⟩, hnt⟩, _⟩, _⟩, _⟩, _⟩ := hB'
  have h := g_any hB hd hJ hop hend n (List.range n) (Array.replicate l.toArray.size false) (fun j => a.tmps.getD ((ds.getD j none).getD 0) undef) w.drew (by simp) List.nodup_range
    ⟨by simp, fun j oj _ hl => (by rw [getD_replicate_false] at hl; cases hl), fun t _ ht => getD_in (by simpa using ht) (getD_replicate_false _ _)⟩
    (fun j hj => ⟨fun _ => List.mem_range.2 hj, fun _ => getD_in (by simp at hn ⊢; omega) (getD_replicate_false _ _)⟩) (fun j hj => List.mem_range.1 hj)
    (hJ _ _ _ _ (fun k => by simp) (h0 _ (fun j d hj => by
      have hlt := hd d (List.mem_of_getElem? hj)
      simp only [List.getD, hj, Option.getD_some]
      simp [Array.getD, hlt])))
  rw [fillO_start ds a 0 _ hd (fun i d hi => by simp [List.getD, hi])] at h
  have e : n + (l.toArray.size - n) = l.toArray.size := by omega
  rw [e] at h
  exact h
end
end Go.Proofs.Ytikhlcgnlbinfaa
namespace Go.Proofs.Ytikhlcgnlbinfaa
open Go.RowKit

theorem fitQ_zero (L : Nat) : FitQ 0 (L + 1) := ⟨Fit.zero (by decide), Fit.one (by decide) (by omega)⟩
theorem solP_fit {S : Int} {ms : List Mt} (h : ∀ m ∈ ms, VM S m) (hl : ms.length ≤ 64) {n : Nat} (hn : n ≤ 24) (j : Nat) : FitQ (solP n ms j) 53 := by
  unfold solP solG
  split
  · rename_i i hp
    have hi := Stage.pivtop n j i hp
    have h2 := redG_top n (tabM ms n) n
    exact redG_fit h hl hn n (Nat.le_refl _) i (by omega) n (Nat.le_refl _)
  · exact fitQ_zero 52

set_option maxRecDepth 100000 in
set_option maxHeartbeats 2000000 in
theorem solveP_ok (S : Nat) (A : Option Addr) (n c : Nat) (ms : List Mt) (w : World) (h : MsAt w A n ms) (hv : VP (S : Int) ms) :
    Calls Try.prog 48 #[.agg #[.int .i64 (S : Int), .slice A n c]] w (fun e w' => ∃ go, e = .returned (.tuple #[.slice (some ⟨go, 0, none⟩) S S, .int .i64 0]) ∧ w.heap.size ≤ go ∧ ShP RatC w' go 0 S (solP (3 * S) ms) ∧ Ext w w') := by
  have HX := Lib.hid ((Ext.refl w).alloc (.cells #[.int .i64 (S : Int), .slice A n c] 76))
  have HP := Lib.hid (Blk.new w 76 #[.int .i64 (S : Int), .slice A n c])
  have HB := Lib.hid (vpB_iff.2 hv)
  have H := Lib.hid h
  have HV := Lib.hid hv
  clear h hv
  go_enter Try.func48, Try.ntmps48
  go_upto_region 1 with (fail)
  generalize w.alloc (.cells #[.int .i64 (S : Int), .slice A n c] 76) = w1 at HX HP ⊢
  have p0 := HP.out.cell 0
  have p1 := HP.out.cell 1
  simp only [List.getElem?_toArray, List.getElem?_cons_zero, List.getElem?_cons_succ] at p0 p1
  go_wp2_with fail
  refine (valid5_any (S : Int) A n c ms _ (H.out.ext HX.out)).mono ?_
  rw [HB.out]
  rintro e w2 ⟨rfl, hX⟩
  replace HX := Lib.hid (HX.out.trans hX)
  replace HP := Lib.hid (HP.out.ext hX)
  clear hX p0 p1
  have hS8 : S ≤ 8 := by have := HV.out.2.1; omega
  have HF : Hid (∀ j, j < 3 * S → FitQW (solP (3 * S) ms j)) := Lib.hid (fun j _ => FitQW.of4 ((solP_fit HV.out.2.2.2 HV.out.2.2.1 (by omega) j)) (by omega))
  have p0 := HP.out.cell 0
  have p1 := HP.out.cell 1
  simp only [List.getElem?_toArray, List.getElem?_cons_zero, List.getElem?_cons_succ] at p0 p1
  go_wp2_with fail
  refine (solve_ok S A n c ms _ (H.out.ext HX.out) HV.out).mono ?_
  rintro e w3 ⟨go, rfl, hgo, hS, hX⟩
  have HS := Lib.hid hS
  have hs := HX.out.size
  replace HX := Lib.hid (HX.out.trans hX)
  clear hS hX p0 p1
  go_wp2_with fail
  refine (done_S 53 go 0 S S (solP (3 * S) ms) _ HS.out (by omega) HF.out (by omega)).mono ?_
  rintro e w4 ⟨g2, rfl, hg2, hS2, hX⟩
  have hs3 := HX.out.size
  replace HX := Lib.hid (HX.out.trans hX)
  have HS2 := Lib.hid hS2
  clear hS2 hX
  go_wp2
  go_ret2
  exact ⟨g2, rfl, by omega, HS2.out, HX.out⟩

end Go.Proofs.Ytikhlcgnlbinfaa
namespace Go.Proofs.Ytikhlcgnlbinfaa
open Go.RowKit

set_option maxRecDepth 100000 in
set_option maxHeartbeats 2000000 in
theorem read_r14 (go S ss kk gr : Nat) (sy : Bool) (Ay By : Option Addr) (ly cy my ky : Nat) (q : Rat) (w : World) (x0 : w.cell? ⟨gr, 0, none⟩ = some (.bool sy)) (x1 : w.cell? ⟨gr, 1, none⟩ = some (.slice Ay ly cy)) (x2 : w.cell? ⟨gr, 2, none⟩ = some (.slice By my ky)) (hx : RatG w (.agg #[.bool sy, .slice Ay ly cy, .slice By my ky]) q) (hs1 : ss < S) (hk3 : (kk : Int) < 3) (_hk4 : kk < 3) (a : Act) (Q : Exit → Act → World → Prop) (hsize : 43 ≤ a.tmps.size)
    (s6 : a.tmps[6]? = some (.slice (some ⟨go, 0, none⟩) S S))
    (s7 : a.tmps[7]? = some (.int .i64 (ss : Int)))
    (s9 : a.tmps[9]? = some (.int .i64 (kk : Int)))
    (s10 : a.tmps[10]? = some (.pointer (some ⟨gr, 0, none⟩)))
    (hend : ∀ (xv0 xv1 xv2 xv3 xv4 xv5 xv6 : Value) (W : World), (xv0 = .slice (some ⟨go, 0, none⟩) S S) → (xv1 = .int .i64 (ss : Int)) → (xv2 = .int .i64 (kk : Int)) → (xv3 = .agg #[.bool sy, .slice Ay ly cy, .slice By my ky]) → (NumX W xv4 (q) (256)) → (xv5 = .pointer (some ⟨go, ss * 9, none⟩)) → (xv6 = .pointer (some ⟨go, ss * 9 + kk * 3, none⟩)) → Ext w W → wpList Try.prog (rops Try.f126 14).toArray Q ((rops Try.f126 14).drop 7) (((((((a.put (some 36) xv0).put (some 37) xv1).put (some 38) xv2).put (some 39) xv3).put (some 40) xv4).put (some 41) xv5).put (some 42) xv6) W) :
    (Code.region 14 (rops Try.f126 14).toArray true).wp Try.prog Q a w := by
  have hmono : ∀ (W W' : World) (j : Nat) (u : Value), Ext W W' → (fun (i : Nat) (v : Value) (W : World) => match i with
    | 0 => v = .slice (some ⟨go, 0, none⟩) S S
    | 1 => v = .int .i64 (ss : Int)
    | 2 => v = .int .i64 (kk : Int)
    | 3 => v = .agg #[.bool sy, .slice Ay ly cy, .slice By my ky]
    | 4 => NumX W v (q) (256)
    | 5 => v = .pointer (some ⟨go, ss * 9, none⟩)
    | 6 => v = .pointer (some ⟨go, ss * 9 + kk * 3, none⟩)
    | _ => True) j u W → (fun (i : Nat) (v : Value) (W : World) => match i with
    | 0 => v = .slice (some ⟨go, 0, none⟩) S S
    | 1 => v = .int .i64 (ss : Int)
    | 2 => v = .int .i64 (kk : Int)
    | 3 => v = .agg #[.bool sy, .slice Ay ly cy, .slice By my ky]
    | 4 => NumX W v (q) (256)
    | 5 => v = .pointer (some ⟨go, ss * 9, none⟩)
    | 6 => v = .pointer (some ⟨go, ss * 9 + kk * 3, none⟩)
    | _ => True) j u W' := by
    intro W W' j u hX h
    match j, h with
    | 0, h => exact h
    | 1, h => exact h
    | 2, h => exact h
    | 3, h => exact h
    | 4, h => exact NumX.ext h hX
    | 5, h => exact h
    | 6, h => exact h
    | _ + 7, h => exact h
  have hsz : ∀ d, some d ∈ ([some 36, some 37, some 38, some 39, some 40, some 41, some 42] : List (Option Tmp)) → d < a.tmps.size := slots_lt (by decide) hsize
  refine wp_region_j 7 [some 36, some 37, some 38, some 39, some 40, some 41, some 42] [[], [], [], [], [3], [0, 1], [2, 5]] [[], [], [], [], [], [], []] (fun (i : Nat) (v : Value) (W : World) => match i with
    | 0 => v = .slice (some ⟨go, 0, none⟩) S S
    | 1 => v = .int .i64 (ss : Int)
    | 2 => v = .int .i64 (kk : Int)
    | 3 => v = .agg #[.bool sy, .slice Ay ly cy, .slice By my ky]
    | 4 => NumX W v (q) (256)
    | 5 => v = .pointer (some ⟨go, ss * 9, none⟩)
    | 6 => v = .pointer (some ⟨go, ss * 9 + kk * 3, none⟩)
    | _ => True) (fun _ W => Ext w W) (by kernel_rfl) (by kernel_rfl) hsz (fun _ _ _ _ h => h) ((Ext.refl w).drew) ?_ ?_
  · clear hend
    simp only [rops, Try.f126, regOf, Option.bind_some, Nat.reduceBEq, if_true, if_false, Bool.false_eq_true, Option.getD_some]
    simp only [List.take_succ_cons, List.take_zero]
    refine ⟨?_, ?_, ?_, ?_, ?_, ?_, ?_, trivial⟩
    · intro done us W hJ hdep haft hnot b hb hb' K hK Q'
      have e6 := (hb' 6 (by simp)).trans s6
      clear hb hb'
      go_simp
      exact hK _ _ rfl (fun _ _ _ h => h) hJ
    · intro done us W hJ hdep haft hnot b hb hb' K hK Q'
      have e7 := (hb' 7 (by simp)).trans s7
      clear hb hb'
      go_simp
      exact hK _ _ rfl (fun _ _ _ h => h) hJ
    · intro done us W hJ hdep haft hnot b hb hb' K hK Q'
      have e9 := (hb' 9 (by simp)).trans s9
      clear hb hb'
      go_simp
      exact hK _ _ rfl (fun _ _ _ h => h) hJ
    · intro done us W hJ hdep haft hnot b hb hb' K hK Q'
      have e10 := (hb' 10 (by simp)).trans s10
      clear hb hb'
      have z0 := Ext.cell hJ x0
      have z1 := Ext.cell hJ x1
      have z2 := Ext.cell hJ x2
      go_simp
      exact hK _ _ rfl (fun _ _ _ h => h) hJ
    · intro done us W hJ hdep haft hnot b hb hb' K hK Q'
      simp only [List.getD_cons_succ, List.getD_cons_zero, List.mem_cons, List.not_mem_nil, or_false, forall_eq] at hdep
      have e39 := hb 3 39 rfl
      have d3 := hdep
      rw [d3.1] at e39
      clear hb hb' hdep d3
      go_simp
      refine (ofG (hx.ext hJ)).mono ?_
      rintro e w' ⟨v, rfl, hv, hX⟩
      exact hK _ _ hv (fun j u _ h => hmono _ _ j u hX h) (Ext.trans hJ hX)
    · intro done us W hJ hdep haft hnot b hb hb' K hK Q'
      simp only [List.getD_cons_succ, List.getD_cons_zero, List.mem_cons, List.not_mem_nil, or_false, forall_eq_or_imp, forall_eq] at hdep
      have e36 := hb 0 36 rfl
      have e37 := hb 1 37 rfl
      have d0 := hdep.1
      have d1 := hdep.2
      rw [d0.1] at e36
      rw [d1.1] at e37
      clear hb hb' hdep d0 d1
      go_simp
      exact hK _ _ rfl (fun _ _ _ h => h) hJ
    · intro done us W hJ hdep haft hnot b hb hb' K hK Q'
      simp only [List.getD_cons_succ, List.getD_cons_zero, List.mem_cons, List.not_mem_nil, or_false, forall_eq_or_imp, forall_eq] at hdep
      have e38 := hb 2 38 rfl
      have e41 := hb 5 41 rfl
      have d2 := hdep.1
      have d5 := hdep.2
      rw [d2.1] at e38
      rw [d5.1] at e41
      clear hb hb' hdep d2 d5
      go_simp
      exact hK _ _ rfl (fun _ _ _ h => h) hJ
  · intro us W hV hJ
    exact hend (us 0) (us 1) (us 2) (us 3) (us 4) (us 5) (us 6) W (hV 0 (by omega)) (hV 1 (by omega)) (hV 2 (by omega)) (hV 3 (by omega)) (hV 4 (by omega)) (hV 5 (by omega)) (hV 6 (by omega)) hJ
set_option maxRecDepth 100000 in
set_option maxHeartbeats 16000000 in
theorem rdP_ok (S : Nat) (A : Option Addr) (n c : Nat) (ms : List Mt) (gt ot ct : Nat) (u : Nat → Rat) (w : World) (h : MsAt w A n ms) (hv : VP (S : Int) ms) (hS : ShP RatG w gt ot S u) :
    Calls Try.prog 126 #[.agg #[.int .i64 (S : Int), .slice A n c], .slice (some ⟨gt, ot, none⟩) S ct] w (fun e w' => ∃ go, e = .returned (.tuple #[.slice (some ⟨go, 0, none⟩) S S, .int .i64 0]) ∧ w.heap.size ≤ go ∧ ShP (fun w v q => NumX w v q 256) w' go 0 S u ∧ Ext w w') := by
  have HX := Lib.hid ((Ext.refl w).alloc (.cells #[.int .i64 (S : Int), .slice A n c] 76))
  have HP := Lib.hid (Blk.new w 76 #[.int .i64 (S : Int), .slice A n c])
  have HB := Lib.hid (vpB_iff.2 hv)
  have H := Lib.hid h
  have HV := Lib.hid hv
  clear h hv
  go_enter Try.func126, Try.ntmps126
  go_upto_region 1 with (fail)
  generalize w.alloc (.cells #[.int .i64 (S : Int), .slice A n c] 76) = w1 at HX HP ⊢
  have p0 := HP.out.cell 0
  have p1 := HP.out.cell 1
  simp only [List.getElem?_toArray, List.getElem?_cons_zero, List.getElem?_cons_succ] at p0 p1
  go_wp2_with fail
  refine (valid5_any (S : Int) A n c ms _ (H.out.ext HX.out)).mono ?_
  rw [HB.out]
  rintro e w2 ⟨rfl, hX⟩
  replace HX := Lib.hid (HX.out.trans hX)
  replace HP := Lib.hid (HP.out.ext hX)
  clear hX p0 p1
  have p0 := HP.out.cell 0
  simp only [List.getElem?_toArray, List.getElem?_cons_zero] at p0
  have q0 : ((S : Int) != (S : Int)) = false := by simp
  have hS8 : S ≤ 8 := by have := HV.out.2.1; omega
  have HS := Lib.hid hS
  clear hS
  have hsx := HX.out.size
  go_upto_region 6 with (at_make; refine wpList_mkS w2 elS9 rfl _ _ rfl w.heap.size _ _ _ _ S S rfl rfl (by first | rfl | omega) (by first | rfl | omega) (Nat.le_refl _) (by omega) (by unfold maxLen; omega) hsx ?_; intro w4 us hown hz1 hz2 hext hsz)
  have hrow : RowN (fun w v q => NumX w v q 256) 263 9 w.heap.size w4 w2.heap.size S S (3 * S) (fun _ => none) := RowN.make9 hown hz1 hz2
  replace HX := Lib.hid (HX.out.trans hext)
  generalize w2.heap.size = go at hrow hsx hsz ⊢
  have HR := Lib.hid hrow
  clear hrow hown hz1 hz2 hext p0
  go_wp2_with fail
  go_loopg [24] S (fun f iv wr => ∃ i : Nat, f = S - i ∧ i ≤ S ∧ iv = .int .i64 (i : Int) ∧ Hid (RowN (fun w v q => NumX w v q 256) 263 9 w.heap.size wr go S S (3 * S) (fun j => if j < 3 * i then some (u j) else none)) ∧ Hid (Ext w wr))
  case atStart => exact ⟨0, by omega, by omega, rfl, Lib.hid (HR.out.congr (fun j _ => by rw [if_neg (by omega)])), HX⟩
  case round =>
    clear HR HX hsz
    obtain ⟨i, rfl, hi, rfl, HR, HX⟩ := hrel
    by_cases hlt : i < S
    · have q1 : decide (i < S) = true := decide_eq_true hlt
      obtain ⟨s0, A0, l0, c0, B0, m0, k0, a0, b0, d0, e0⟩ := HS.out i 0 hlt (by omega)
      replace a0 := HX.out.cell a0
      replace b0 := HX.out.cell b0
      replace d0 := HX.out.cell d0
      obtain ⟨s1, A1, l1, c1, B1, m1, k1, a1, b1, d1, e1⟩ := HS.out i 1 hlt (by omega)
      replace a1 := HX.out.cell a1
      replace b1 := HX.out.cell b1
      replace d1 := HX.out.cell d1
      obtain ⟨s2, A2, l2, c2, B2, m2, k2, a2, b2, d2, e2⟩ := HS.out i 2 hlt (by omega)
      replace a2 := HX.out.cell a2
      replace b2 := HX.out.cell b2
      replace d2 := HX.out.cell d2
      have HE0 := Lib.hid e0
      have HE1 := Lib.hid e1
      have HE2 := Lib.hid e2
      clear e0 e1 e2
      simp only [Nat.zero_mul, Nat.add_zero, Nat.one_mul] at a0 b0 d0 a1 b1 d1
      have e3 : ot + i * 9 + 3 + 1 = ot + i * 9 + 4 := by omega
      have e4 : ot + i * 9 + 3 + 2 = ot + i * 9 + 5 := by omega
      have e6 : ot + i * 9 + 2 * 3 = ot + i * 9 + 6 := by omega
      have e7 : ot + i * 9 + 2 * 3 + 1 = ot + i * 9 + 7 := by omega
      have e8 : ot + i * 9 + 2 * 3 + 2 = ot + i * 9 + 8 := by omega
      rw [e3] at b1
      rw [e4] at d1
      rw [e7] at b2
      rw [e8] at d2
      rw [e6] at a2
      clear e3 e4 e6 e7 e8
      go_upto_region 9 with (fail)
      have hXa : Ext wr (wr.alloc (.cells #[.bool s0, .slice A0 l0 c0, .slice B0 m0 k0, .bool s1, .slice A1 l1 c1, .slice B1 m1 k1, .bool s2, .slice A2 l2 c2, .slice B2 m2 k2] 98)) := (Ext.refl _).alloc _
      have kB := Blk.new wr 98 #[.bool s0, .slice A0 l0 c0, .slice B0 m0 k0, .bool s1, .slice A1 l1 c1, .slice B1 m1 k1, .bool s2, .slice A2 l2 c2, .slice B2 m2 k2]
      replace HR := Lib.hid (HR.out.ext (staysNum 256) hXa)
      replace HX := Lib.hid (HX.out.trans hXa)
      clear hXa a0 b0 d0 a1 b1 d1 a2 b2 d2
      generalize wr.heap.size = gv at kB ⊢
      generalize wr.alloc (.cells #[.bool s0, .slice A0 l0 c0, .slice B0 m0 k0, .bool s1, .slice A1 l1 c1, .slice B1 m1 k1, .bool s2, .slice A2 l2 c2, .slice B2 m2 k2] 98) = w5 at kB HR HX ⊢
      have y0 := kB.cell 0
      have y1 := kB.cell 1
      have y2 := kB.cell 2
      have y3 := kB.cell 3
      have y4 := kB.cell 4
      have y5 := kB.cell 5
      have y6 := kB.cell 6
      have y7 := kB.cell 7
      have y8 := kB.cell 8
      simp only [List.getElem?_toArray, List.getElem?_cons_zero, List.getElem?_cons_succ] at y0 y1 y2 y3 y4 y5 y6 y7 y8
      clear kB
      go_wp2_with fail
      clear y0 y1 y2 y3 y4 y5 y6 y7 y8
      go_loopg [30] 3 (fun f kv wr => ∃ k : Nat, f = 3 - k ∧ k ≤ 3 ∧ kv = .int .i64 (k : Int) ∧ Hid (RowN (fun w v q => NumX w v q 256) 263 9 w.heap.size wr go S S (3 * S) (fun j => if j < 3 * i + k then some (u j) else none)) ∧ Hid (Ext w wr))
      case atStart => exact ⟨0, by omega, by omega, rfl, HR, HX⟩
      case round =>
        clear HR HX
        obtain ⟨k, rfl, hk, rfl, HR, HX⟩ := hrel
        by_cases hkl : k < 3
        · have q2 : decide (k < 3) = true := decide_eq_true hkl
          obtain ⟨s9, A9, l9, c9, B9, m9, k9, g1, g2, g3, hq⟩ := pick_agg (P := RatG) (w := wr) (q := fun k => u (3 * i + k)) hkl (HE0.out.ext HX.out) (HE1.out.ext HX.out) (HE2.out.ext HX.out)
          have ik := idx9R (.bool s0) (.slice A0 l0 c0) (.slice B0 m0 k0) (.bool s1) (.slice A1 l1 c1) (.slice B1 m1 k1) (.bool s2) (.slice A2 l2 c2) (.slice B2 m2 k2) hkl
          rw [g1, g2, g3] at ik
          have HQ := Lib.hid hq
          clear hq g1 g2 g3
          have hj3 : 3 * i + k < 3 * S := by omega
          go_upto_region 12 with (fail)
          have hXa : Ext wr (wr.alloc (.cells #[.bool s9, .slice A9 l9 c9, .slice B9 m9 k9] 97)) := (Ext.refl _).alloc _
          have kB := Blk.new wr 97 #[.bool s9, .slice A9 l9 c9, .slice B9 m9 k9]
          replace HR := Lib.hid (HR.out.ext (staysNum 256) hXa)
          replace HX := Lib.hid (HX.out.trans hXa)
          replace HQ := Lib.hid (HQ.out.ext hXa)
          clear hXa ik
          generalize wr.heap.size = gn at kB ⊢
          generalize wr.alloc (.cells #[.bool s9, .slice A9 l9 c9, .slice B9 m9 k9] 97) = w6 at kB HR HX HQ ⊢
          have KB := Lib.hid kB
          have y0 := kB.cell 0
          have y1 := kB.cell 1
          have y2 := kB.cell 2
          simp only [List.getElem?_toArray, List.getElem?_cons_zero, List.getElem?_cons_succ] at y0 y1 y2
          clear kB
          go_wp2_with fail
          refine (RatL.is HQ.out.small).mono ?_
          rintro e w7 ⟨rfl, hX⟩
          clear y0 y1 y2
          replace HR := Lib.hid (HR.out.ext (staysNum 256) hX)
          replace HX := Lib.hid (HX.out.trans hX)
          replace HQ := Lib.hid (HQ.out.ext hX)
          replace KB := Lib.hid (KB.out.ext hX)
          clear hX
          go_upto_region 14 with (fail)
          refine read_r14 go S i k gn s9 A9 B9 l9 c9 m9 k9 _ w7 (KB.out.cell 0) (KB.out.cell 1) (KB.out.cell 2) HQ.out hlt (by omega) hkl _ _ (by simp) rfl rfl rfl rfl ?_
          rintro xv0 xv1 xv2 xv3 xv4 xv5 xv6 W rfl rfl rfl rfl hv rfl rfl hX
          simp only [rops, Try.f126, regOf, Option.bind_some, Nat.reduceBEq, if_true, if_false, Bool.false_eq_true, Option.getD_some, List.drop_succ_cons, List.drop_zero]
          simp only [Act.put, List.setIfInBounds_toArray, List.set_cons_succ, List.set_cons_zero]
          obtain ⟨s4, A4, l4, c4, B4, m4, k4, rfl⟩ := NumX.open hv
          have HV4 := Lib.hid hv
          clear hv
          replace HR := Lib.hid (HR.out.ext (staysNum 256) hX)
          replace HX := Lib.hid (HX.out.trans hX)
          clear hX KB HQ
          have hpj : i * 9 + k * 3 = (3 * i + k) * 3 := by omega
          obtain ⟨s2, A2, l2, c2, B2, m2, k2, z0, z1, z2, _⟩ := HR.out.cells hj3 hpj
          have f0 := HR.out.free (i * 9 + k * 3)
          have f1 := HR.out.free (i * 9 + k * 3 + 1)
          have f2 := HR.out.free (i * 9 + k * 3 + 2)
          have HPUT := Lib.hid (HR.out.put (staysNum 256) hj3 hpj HV4.out)
          clear hpj
          go_wp2
          go_roundg (3 - (k + 1))
          case rel =>
            refine ⟨k + 1, rfl, by omega, by go_num, Lib.hid (HPUT.out.congr (fun j _ => ?_)), Lib.hid (((HX.out.setCell (by simp only; omega) _).setCell (by simp only; omega) _).setCell (by simp only; omega) _)⟩
            by_cases e : j = 3 * i + k
            · rw [if_pos e, e, if_pos (by omega)]
            · rw [if_neg e]
              by_cases h2 : j < 3 * i + k
              · rw [if_pos h2, if_pos (by omega)]
              · rw [if_neg h2, if_neg (by omega)]
          case measure => omega
        · obtain rfl : k = 3 := by omega
          go_wp2
          go_roundg (S - (i + 1))
          case rel => exact ⟨i + 1, rfl, by omega, by go_num, Lib.hid (HR.out.congr (fun j _ => by rw [show 3 * (i + 1) = 3 * i + 3 by omega])), HX⟩
          case measure => omega
    · obtain rfl : i = S := by omega
      go_wp2
      go_ret2
      exact ⟨go, rfl, by omega, HR.out.shp (fun j hj => by rw [if_pos hj]), HX.out⟩

end Go.Proofs.Ytikhlcgnlbinfaa
namespace Go.Proofs.Ytikhlcgnlbinfaa
open Go.RowKit

theorem misfit_take {n : Nat} {ms : List Mt} {u : Nat → Rat} {k : Nat} {m : Mt} (h : ms[k]? = some m) : misfit n (ms.take (k + 1)) u = misfit n (ms.take k) u + wsq n u m := by
  unfold misfit
  rw [take_snoc h, sumM_append]
  simp only [sumM]
  grind

set_option maxRecDepth 100000 in
set_option maxHeartbeats 2000000 in
theorem misfit_r8 (gs gt ot S ct gm L M : Nat) (ma mb mx my mz md mw : Int) (un : Nat → Rat) (su : Bool) (Au Bu : Option Addr) (lu cu mu ku : Nat) (q : Rat) (w : World) (x0 : w.cell? ⟨gs, 0, none⟩ = some (.bool su)) (x1 : w.cell? ⟨gs, 1, none⟩ = some (.slice Au lu cu)) (x2 : w.cell? ⟨gs, 2, none⟩ = some (.slice Bu mu ku)) (v0 : w.cell? ⟨gm, 0, none⟩ = some (.int .i64 (ma))) (v1 : w.cell? ⟨gm, 1, none⟩ = some (.int .i64 (mb))) (v2 : w.cell? ⟨gm, 2, none⟩ = some (.int .i64 (mx))) (v3 : w.cell? ⟨gm, 3, none⟩ = some (.int .i64 (my))) (v4 : w.cell? ⟨gm, 4, none⟩ = some (.int .i64 (mz))) (v5 : w.cell? ⟨gm, 5, none⟩ = some (.int .i64 (md))) (v6 : w.cell? ⟨gm, 6, none⟩ = some (.int .i64 (mw))) (hS : ShP (fun w v q => NumX w v q L) w gt ot S un) (hm : VM S ⟨ma, mb, mx, my, mz, md, mw⟩) (hx : NumX w (.agg #[.bool su, .slice Au lu cu, .slice Bu mu ku]) q M) (hL : L ≤ 100000) (hM : M ≤ 1000000000) (a : Act) (Q : Exit → Act → World → Prop) (hsize : 35 ≤ a.tmps.size)
    (s6 : a.tmps[6]? = some (.slice (some ⟨gt, ot, none⟩) S ct))
    (s8 : a.tmps[8]? = some (.pointer (some ⟨gs, 0, none⟩)))
    (s10 : a.tmps[10]? = some (.pointer (some ⟨gm, 0, none⟩)))
    (hend : ∀ (xv0 xv1 xv2 xv3 xv4 xv5 : Value) (W : World), (xv0 = .agg #[.bool su, .slice Au lu cu, .slice Bu mu ku]) → (xv1 = .slice (some ⟨gt, ot, none⟩) S ct) → (xv2 = .agg #[.int .i64 (ma), .int .i64 (mb), .int .i64 (mx), .int .i64 (my), .int .i64 (mz), .int .i64 (md), .int .i64 (mw)]) → (NumX W xv3 (wsq (3 * S) un ⟨ma, mb, mx, my, mz, md, mw⟩) (12 * L + 30)) → (NumX W xv4 (q + wsq (3 * S) un ⟨ma, mb, mx, my, mz, md, mw⟩) (M + (12 * L + 30) + 1)) → (NumX W xv5 (q + wsq (3 * S) un ⟨ma, mb, mx, my, mz, md, mw⟩) (M + (12 * L + 30) + 1)) → Ext w W → wpList Try.prog (rops Try.f50 8).toArray Q ((rops Try.f50 8).drop 6) ((((((a.put (some 29) xv0).put (some 30) xv1).put (some 31) xv2).put (some 32) xv3).put (some 33) xv4).put (some 34) xv5) W) :
    (Code.region 8 (rops Try.f50 8).toArray true).wp Try.prog Q a w := by
  have hmono : ∀ (W W' : World) (j : Nat) (u : Value), Ext W W' → (fun (i : Nat) (v : Value) (W : World) => match i with
    | 0 => v = .agg #[.bool su, .slice Au lu cu, .slice Bu mu ku]
    | 1 => v = .slice (some ⟨gt, ot, none⟩) S ct
    | 2 => v = .agg #[.int .i64 (ma), .int .i64 (mb), .int .i64 (mx), .int .i64 (my), .int .i64 (mz), .int .i64 (md), .int .i64 (mw)]
    | 3 => NumX W v (wsq (3 * S) un ⟨ma, mb, mx, my, mz, md, mw⟩) (12 * L + 30)
    | 4 => NumX W v (q + wsq (3 * S) un ⟨ma, mb, mx, my, mz, md, mw⟩) (M + (12 * L + 30) + 1)
    | 5 => NumX W v (q + wsq (3 * S) un ⟨ma, mb, mx, my, mz, md, mw⟩) (M + (12 * L + 30) + 1)
    | _ => True) j u W → (fun (i : Nat) (v : Value) (W : World) => match i with
    | 0 => v = .agg #[.bool su, .slice Au lu cu, .slice Bu mu ku]
    | 1 => v = .slice (some ⟨gt, ot, none⟩) S ct
    | 2 => v = .agg #[.int .i64 (ma), .int .i64 (mb), .int .i64 (mx), .int .i64 (my), .int .i64 (mz), .int .i64 (md), .int .i64 (mw)]
    | 3 => NumX W v (wsq (3 * S) un ⟨ma, mb, mx, my, mz, md, mw⟩) (12 * L + 30)
    | 4 => NumX W v (q + wsq (3 * S) un ⟨ma, mb, mx, my, mz, md, mw⟩) (M + (12 * L + 30) + 1)
    | 5 => NumX W v (q + wsq (3 * S) un ⟨ma, mb, mx, my, mz, md, mw⟩) (M + (12 * L + 30) + 1)
    | _ => True) j u W' := by
    intro W W' j u hX h
    match j, h with
    | 0, h => exact h
    | 1, h => exact h
    | 2, h => exact h
    | 3, h => exact NumX.ext h hX
    | 4, h => exact NumX.ext h hX
    | 5, h => exact NumX.ext h hX
    | _ + 6, h => exact h
  have hsz : ∀ d, some d ∈ ([some 29, some 30, some 31, some 32, some 33, some 34] : List (Option Tmp)) → d < a.tmps.size := slots_lt (by decide) hsize
  refine wp_region_j 6 [some 29, some 30, some 31, some 32, some 33, some 34] [[], [], [], [1, 2], [0, 3], [4]] [[], [], [], [], [], []] (fun (i : Nat) (v : Value) (W : World) => match i with
    | 0 => v = .agg #[.bool su, .slice Au lu cu, .slice Bu mu ku]
    | 1 => v = .slice (some ⟨gt, ot, none⟩) S ct
    | 2 => v = .agg #[.int .i64 (ma), .int .i64 (mb), .int .i64 (mx), .int .i64 (my), .int .i64 (mz), .int .i64 (md), .int .i64 (mw)]
    | 3 => NumX W v (wsq (3 * S) un ⟨ma, mb, mx, my, mz, md, mw⟩) (12 * L + 30)
    | 4 => NumX W v (q + wsq (3 * S) un ⟨ma, mb, mx, my, mz, md, mw⟩) (M + (12 * L + 30) + 1)
    | 5 => NumX W v (q + wsq (3 * S) un ⟨ma, mb, mx, my, mz, md, mw⟩) (M + (12 * L + 30) + 1)
    | _ => True) (fun _ W => Ext w W) (by kernel_rfl) (by kernel_rfl) hsz (fun _ _ _ _ h => h) ((Ext.refl w).drew) ?_ ?_
  · clear hend
    simp only [rops, Try.f50, regOf, Option.bind_some, Nat.reduceBEq, if_true, if_false, Bool.false_eq_true, Option.getD_some]
    simp only [List.take_succ_cons, List.take_zero]
    refine ⟨?_, ?_, ?_, ?_, ?_, ?_, trivial⟩
    · intro done us W hJ hdep haft hnot b hb hb' K hK Q'
      have e8 := (hb' 8 (by simp)).trans s8
      clear hb hb'
      have z0 := Ext.cell hJ x0
      have z1 := Ext.cell hJ x1
      have z2 := Ext.cell hJ x2
      go_simp
      exact hK _ _ rfl (fun _ _ _ h => h) hJ
    · intro done us W hJ hdep haft hnot b hb hb' K hK Q'
      have e6 := (hb' 6 (by simp)).trans s6
      clear hb hb'
      go_simp
      exact hK _ _ rfl (fun _ _ _ h => h) hJ
    · intro done us W hJ hdep haft hnot b hb hb' K hK Q'
      have e10 := (hb' 10 (by simp)).trans s10
      clear hb hb'
      have z0 := Ext.cell hJ v0
      have z1 := Ext.cell hJ v1
      have z2 := Ext.cell hJ v2
      have z3 := Ext.cell hJ v3
      have z4 := Ext.cell hJ v4
      have z5 := Ext.cell hJ v5
      have z6 := Ext.cell hJ v6
      go_simp
      exact hK _ _ rfl (fun _ _ _ h => h) hJ
    · intro done us W hJ hdep haft hnot b hb hb' K hK Q'
      simp only [List.getD_cons_succ, List.getD_cons_zero, List.mem_cons, List.not_mem_nil, or_false, forall_eq_or_imp, forall_eq] at hdep
      have e30 := hb 1 30 rfl
      have e31 := hb 2 31 rfl
      have d1 := hdep.1
      have d2 := hdep.2
      rw [d1.1] at e30
      rw [d2.1] at e31
      clear hb hb' hdep d1 d2
      go_simp
      refine (weighted_any (m := ⟨ma, mb, mx, my, mz, md, mw⟩) (hS.ext (growsNum L) hJ) hm hL).mono ?_
      rintro e w' ⟨v, rfl, hv, hX⟩
      exact hK _ _ hv (fun j u _ h => hmono _ _ j u hX h) (Ext.trans hJ hX)
    · intro done us W hJ hdep haft hnot b hb hb' K hK Q'
      simp only [List.getD_cons_succ, List.getD_cons_zero, List.mem_cons, List.not_mem_nil, or_false, forall_eq_or_imp, forall_eq] at hdep
      have e29 := hb 0 29 rfl
      have e32 := hb 3 32 rfl
      have d0 := hdep.1
      have d3 := hdep.2
      rw [d0.1] at e29
      clear hb hb' hdep d0
      go_simp
      refine (addX (hx.ext hJ) d3.1 (by omega)).mono ?_
      rintro e w' ⟨v, rfl, hv, hX⟩
      exact hK _ _ hv (fun j u _ h => hmono _ _ j u hX h) (Ext.trans hJ hX)
    · intro done us W hJ hdep haft hnot b hb hb' K hK Q'
      simp only [List.getD_cons_succ, List.getD_cons_zero, List.mem_cons, List.not_mem_nil, or_false, forall_eq] at hdep
      have e33 := hb 4 33 rfl
      have d4 := hdep
      clear hb hb' hdep 
      go_simp
      refine (reducedX d4.1 (by omega)).mono ?_
      rintro e w' ⟨v, rfl, hv, hX⟩
      exact hK _ _ (hv.numx d4.1.fit) (fun j u _ h => hmono _ _ j u hX h) (Ext.trans hJ hX)
  · intro us W hV hJ
    exact hend (us 0) (us 1) (us 2) (us 3) (us 4) (us 5) W (hV 0 (by omega)) (hV 1 (by omega)) (hV 2 (by omega)) (hV 3 (by omega)) (hV 4 (by omega)) (hV 5 (by omega)) hJ
set_option maxRecDepth 100000 in
set_option maxHeartbeats 16000000 in
theorem misfit_ok (S : Nat) (A : Option Addr) (n c : Nat) (ms : List Mt) (gt ot ct : Nat) (u : Nat → Rat) (w : World) (h : MsAt w A n ms) (hv : VP (S : Int) ms) (hS : ShP RatG w gt ot S u) (hf : FitQW (misfit (3 * S) ms u)) :
    Calls Try.prog 50 #[.agg #[.int .i64 (S : Int), .slice A n c], .slice (some ⟨gt, ot, none⟩) S ct] w (fun e w' => ∃ v, e = .returned (.tuple #[v, .int .i64 0]) ∧ RatC w' v (misfit (3 * S) ms u) ∧ Ext w w') := by
  have H := Lib.hid h
  have HV := Lib.hid hv
  clear h hv
  have hXe : Ext w ((w.alloc (.cells #[.int .i64 (S : Int), .slice A n c] 76)).alloc (.cells #[.bool false, .slice none 0 0, .slice none 0 0] 97)) := ((Ext.refl w).alloc _).alloc _
  have kP : Blk ((w.alloc (.cells #[.int .i64 (S : Int), .slice A n c] 76)).alloc (.cells #[.bool false, .slice none 0 0, .slice none 0 0] 97)) w.heap.size 76 #[.int .i64 (S : Int), .slice A n c] := Blk.alloc (Blk.new w _ _) _
  have kR : Blk ((w.alloc (.cells #[.int .i64 (S : Int), .slice A n c] 76)).alloc (.cells #[.bool false, .slice none 0 0, .slice none 0 0] 97)) (w.heap.size + 1) 97 #[.bool false, .slice none 0 0, .slice none 0 0] := Blk.at_ (by simp)
  go_enter Try.func50, Try.ntmps50
  go_upto_region 1 with (fail)
  generalize (w.alloc (.cells #[.int .i64 (S : Int), .slice A n c] 76)).alloc (.cells #[.bool false, .slice none 0 0, .slice none 0 0] 97) = w1 at hXe kP kR ⊢
  have HX := Lib.hid hXe
  have HP := Lib.hid kP
  have HR := Lib.hid kR
  clear hXe kP kR
  have p0 := HP.out.cell 0
  have p1 := HP.out.cell 1
  simp only [List.getElem?_toArray, List.getElem?_cons_zero, List.getElem?_cons_succ] at p0 p1
  go_wp2_with fail
  have HS0 := Lib.hid hS
  have HF := Lib.hid hf
  have HVM := Lib.hid HV.out.2.2.2
  have HL := Lib.hid H.out.1
  have hn64 : n ≤ 64 := by have := HV.out.2.2.1; have := HL.out; omega
  clear hS hf
  refine (rdP_ok S A n c ms gt ot ct u _ (H.out.ext HX.out) HV.out (HS0.out.ext growsG HX.out)).mono ?_
  rintro e w2 ⟨go, rfl, hgo, hS, hX⟩
  have HS := Lib.hid hS
  replace HX := Lib.hid (HX.out.trans hX)
  replace HP := Lib.hid (HP.out.ext hX)
  replace HR := Lib.hid (HR.out.ext hX)
  clear hS hX p0 p1 hgo
  go_wp2_with fail
  refine (intX 0 _ (by omega) (by omega)).mono ?_
  rintro e w3 ⟨v3, rfl, hv, hX⟩
  obtain ⟨s0, A0, l0, c0, B0, m0, k0, rfl⟩ := NumX.open hv
  replace HX := Lib.hid (HX.out.trans hX)
  replace HP := Lib.hid (HP.out.ext hX)
  replace HR := Lib.hid (HR.out.ext hX)
  replace HS := Lib.hid (HS.out.ext (growsNum 256) hX)
  have HN := Lib.hid hv
  clear hv hX
  go_upto_region 5 with (fail)
  have hXa : Ext w3 (w3.alloc (.cells #[.bool s0, .slice A0 l0 c0, .slice B0 m0 k0] 217)) := (Ext.refl _).alloc _
  have kS := Blk.new w3 217 #[.bool s0, .slice A0 l0 c0, .slice B0 m0 k0]
  have hrl := HR.out.lt
  have hgl := HS.out.low (by have := HV.out.1; omega)
  replace HX := Lib.hid (HX.out.trans hXa)
  replace HP := Lib.hid (HP.out.ext hXa)
  replace HR := Lib.hid (HR.out.ext hXa)
  replace HS := Lib.hid (HS.out.ext (growsNum 256) hXa)
  replace HN : Hid (NumX _ (.agg #[.bool s0, .slice A0 l0 c0, .slice B0 m0 k0]) (misfit (3 * S) (ms.take 0) u) (2 + 0 * 3103)) := Lib.hid (HN.out.ext hXa)
  clear hXa
  generalize w3.alloc (.cells #[.bool s0, .slice A0 l0 c0, .slice B0 m0 k0] 217) = w4 at kS HX HP HR HS HN ⊢
  generalize w3.heap.size = gs at kS hrl hgl ⊢
  have KS := Lib.hid kS
  clear kS
  have p1 := HP.out.cell 1
  simp only [List.getElem?_toArray, List.getElem?_cons_zero, List.getElem?_cons_succ] at p1
  go_wp2_with fail
  clear p1
  go_loopg [25] n (fun f iv wr => ∃ (k : Nat) (s0 : Bool) (A0 B0 : Option Addr) (l0 c0 m0 k0 : Nat), f = n - k ∧ k ≤ n ∧ iv = .int .i64 (k : Int) ∧ Hid (NumX wr (.agg #[.bool s0, .slice A0 l0 c0, .slice B0 m0 k0]) (misfit (3 * S) (ms.take k) u) (2 + k * 3103)) ∧ Hid (Blk wr gs 217 #[.bool s0, .slice A0 l0 c0, .slice B0 m0 k0]) ∧ Hid (Blk wr (w.heap.size + 1) 97 #[.bool false, .slice none 0 0, .slice none 0 0]) ∧ Hid (Ext w wr) ∧ Hid (ShP (fun w v q => NumX w v q 256) wr go 0 S u))
  case atStart => exact ⟨0, s0, A0, B0, l0, c0, m0, k0, rfl, by omega, rfl, HN, KS, HR, HX, HS⟩
  case round =>
    clear HN KS HR HX HS
    obtain ⟨k, s0, A0, B0, l0, c0, m0, k0, rfl, hk, rfl, HN, KS, HR, HX, HS⟩ := hrel
    by_cases hlt : k < n
    · have q1 : decide (k < n) = true := decide_eq_true hlt
      obtain ⟨g, o, ⟨a, b, x, y, z, d, ww⟩, rfl, hm, hmem, x0, x1, x2, x3, x4, x5, x6⟩ := (H.out.ext HX.out).get hlt
      simp only at x0 x1 x2 x3 x4 x5 x6
      have HTK := Lib.hid (misfit_take (n := 3 * S) (u := u) hm)
      have HMM := Lib.hid (HVM.out _ hmem)
      clear hm hmem
      go_upto_region 8 with (fail)
      have hXa : Ext wr (wr.alloc (.cells #[.int .i64 (a), .int .i64 (b), .int .i64 (x), .int .i64 (y), .int .i64 (z), .int .i64 (d), .int .i64 (ww)] 90)) := (Ext.refl _).alloc _
      have kM := Blk.new wr 90 #[.int .i64 (a), .int .i64 (b), .int .i64 (x), .int .i64 (y), .int .i64 (z), .int .i64 (d), .int .i64 (ww)]
      replace HX := Lib.hid (HX.out.trans hXa)
      replace HR := Lib.hid (HR.out.ext hXa)
      replace KS := Lib.hid (KS.out.ext hXa)
      replace HN := Lib.hid (HN.out.ext hXa)
      replace HS := Lib.hid (HS.out.ext (growsNum 256) hXa)
      clear hXa x0 x1 x2 x3 x4 x5 x6
      generalize wr.heap.size = gm at kM ⊢
      generalize wr.alloc (.cells #[.int .i64 (a), .int .i64 (b), .int .i64 (x), .int .i64 (y), .int .i64 (z), .int .i64 (d), .int .i64 (ww)] 90) = w5 at kM HX HR KS HN HS ⊢
      refine misfit_r8 gs go 0 S S gm 256 (2 + k * 3103) a b x y z d ww u s0 A0 B0 l0 c0 m0 k0 _ w5 (KS.out.cell 0) (KS.out.cell 1) (KS.out.cell 2) (kM.cell 0) (kM.cell 1) (kM.cell 2) (kM.cell 3) (kM.cell 4) (kM.cell 5) (kM.cell 6) HS.out HMM.out HN.out (by omega) (by omega) _ _ (by simp) rfl rfl rfl ?_
      rintro xv0 xv1 xv2 xv3 xv4 xv5 W rfl rfl rfl _ _ hv hX
      simp only [rops, Try.f50, regOf, Option.bind_some, Nat.reduceBEq, if_true, if_false, Bool.false_eq_true, Option.getD_some, List.drop_succ_cons, List.drop_zero]
      simp only [Act.put, List.setIfInBounds_toArray, List.set_cons_succ, List.set_cons_zero]
      clear kM HN
      obtain ⟨s4, A4, l4, c4, B4, m4, k4, rfl⟩ := NumX.open hv
      have HN := Lib.hid hv
      replace HX := Lib.hid (HX.out.trans hX)
      replace HR := Lib.hid (HR.out.ext hX)
      replace KS := Lib.hid (KS.out.ext hX)
      replace HS := Lib.hid (HS.out.ext (growsNum 256) hX)
      clear hv hX
      obtain ⟨r0, r1, r2, f0, f1, f2⟩ := KS.out.three
      have HNI := Lib.hid (NoInts.three KS.out)
      go_wp2
      go_roundg (n - (k + 1))
      case rel =>
        refine ⟨k + 1, s4, A4, B4, l4, c4, m4, k4, rfl, by omega, by go_num, Lib.hid ?_, Lib.hid (((KS.out.set 0 _).set 1 _).set 2 _), Lib.hid (((HR.out.far (by simp only; omega) _).far (by simp only; omega) _).far (by simp only; omega) _), Lib.hid (Ext.boxed HX.out (by omega) _ _ _), Lib.hid (ShP.keeps (staysNum 256) HS.out ((((Keeps.refl [gs] W).setCell (.inl (by simp)) _).setCell (.inl (by simp)) _).setCell (.inl (by simp)) _) (fun g hg => by simp at hg; subst hg; exact HNI.out) (by simp; omega))⟩
        rw [HTK.out]
        exact (HN.out.mono (show 2 + k * 3103 + (12 * 256 + 30) + 1 ≤ 2 + (k + 1) * 3103 by omega)).boxed HNI.out _ _ _ _ _ _ _
      case measure => omega
    · obtain rfl : k = n := by omega
      have q1 : decide (k < k) = false := by simp
      have HTK : Hid (ms.take k = ms) := Lib.hid (List.take_of_length_le (by have := HL.out; omega))
      rw [HTK.out] at HN
      obtain ⟨r0, r1, r2, f0, f1, f2⟩ := KS.out.three
      clear f0 f1 f2
      go_wp2_with fail
      refine (doneG HN.out (by omega) HF.out).mono ?_
      rintro e w5 ⟨v5, rfl, hv, hX⟩
      obtain ⟨s4, A4, l4, c4, B4, m4, k4, rfl⟩ := RatC.open hv
      have HC := Lib.hid hv
      replace HX := Lib.hid (HX.out.trans hX)
      replace HR := Lib.hid (HR.out.ext hX)
      clear hv hX r0 r1 r2
      obtain ⟨r0, r1, r2, f0, f1, f2⟩ := HR.out.three
      have HNI := Lib.hid (NoInts.three HR.out)
      go_wp2
      refine bodyPost_ret (v := .tuple #[.agg #[.bool s4, .slice A4 l4 c4, .slice B4 m4 k4], .int .i64 0]) (by simp [results, Try.results50, go_sem, *]) rfl ?_
      exact ⟨_, rfl, staysC _ _ _ _ _ HC.out ((((Keeps.refl [w.heap.size + 1] w5).setCell (.inl (by simp)) _).setCell (.inl (by simp)) _).setCell (.inl (by simp)) _) (fun g hg => by simp at hg; subst hg; exact HNI.out), Ext.boxed HX.out (by omega) _ _ _⟩

end Go.Proofs.Ytikhlcgnlbinfaa
