/- ExactOrder: its walk. -/
import Derived.Test.YteoijnaljkagfaaL14
import Derived.Test.YteoijnaljkagfaaOpenY
namespace Go.Proofs.Yteoijnaljkagfaa
open Go.RowKit

theorem sgnQ_cases (q : Rat) : (q < 0 ∧ sgnQ q = -1) ∨ (q = 0 ∧ sgnQ q = 0) ∨ (0 < q ∧ sgnQ q = 1) := by
  unfold sgnQ
  by_cases h1 : q.num < 0
  · left
    refine ⟨?_, by simp [h1]⟩
    apply Rat.not_le.1
    intro h
    have := Rat.num_nonneg.2 h
    omega
  · by_cases h2 : q.num = 0
    · right; left
      exact ⟨Rat.num_eq_zero.1 h2, by simp [h2]⟩
    · right; right
      refine ⟨?_, by simp [h1, h2]⟩
      apply Rat.not_le.1
      intro h
      have h3 : 0 ≤ (-q).num := Rat.num_nonneg.2 (by grind)
      rw [Rat.neg_num] at h3
      omega
theorem sgnQ_flip (q r : Rat) : sgnQ (r - q) = -sgnQ (q - r) := by
  rcases sgnQ_cases (q - r) with ⟨h, e⟩ | ⟨h, e⟩ | ⟨h, e⟩ <;> rcases sgnQ_cases (r - q) with ⟨h', e'⟩ | ⟨h', e'⟩ | ⟨h', e'⟩ <;> rw [e, e'] <;> first | rfl | (exfalso; grind)
theorem sgnQ_in (q : Rat) : -1 ≤ sgnQ q ∧ sgnQ q ≤ 1 := by
  rcases sgnQ_cases q with ⟨_, e⟩ | ⟨_, e⟩ | ⟨_, e⟩ <;> rw [e] <;> omega
/-- The nearest integers of a number. -/
theorem near (q : Rat) : sgnQ (((-(-q).floor : Int) : Rat) - q) ≥ 0 ∧ sgnQ (((q.floor + 1 : Int) : Rat) - q) = 1 ∧
    ((-(-q).floor = q.floor ∧ sgnQ (((q.floor : Int) : Rat) - q) = 0) ∨ (-(-q).floor = q.floor + 1 ∧ sgnQ (((q.floor : Int) : Rat) - q) = -1)) := by
  have h1 := Rat.floor_le q
  have h2 := Rat.lt_floor_add_one q
  have h3 := Rat.floor_le (-q)
  have h4 := Rat.lt_floor_add_one (-q)
  generalize hf : q.floor = f at *
  generalize hg : (-q).floor = g at *
  have e1 : ((-g : Int) : Rat) = -((g : Int) : Rat) := Rat.intCast_neg g
  have e2 : ((f + 1 : Int) : Rat) = ((f : Int) : Rat) + 1 := by rw [Rat.intCast_add]; rfl
  have e3 : ((g + 1 : Int) : Rat) = ((g : Int) : Rat) + 1 := by rw [Rat.intCast_add]; rfl
  have k1 : f ≤ -g := by
    apply Rat.intCast_le_intCast.1
    rw [e1]; grind
  have k2 : -g < f + 2 := by
    apply Rat.intCast_lt_intCast.1
    have e4 : ((f + 2 : Int) : Rat) = ((f : Int) : Rat) + 2 := by rw [Rat.intCast_add]; rfl
    rw [e1, e4]
    rw [e3] at h4
    rw [e2] at h2
    grind
  refine ⟨?_, ?_, ?_⟩
  · rw [e1]
    rcases sgnQ_cases (-((g : Int) : Rat) - q) with ⟨h, e⟩ | ⟨h, e⟩ | ⟨h, e⟩ <;> rw [e]
    · exfalso; grind
    · omega
    · omega
  · rcases sgnQ_cases (((f + 1 : Int) : Rat) - q) with ⟨h, e⟩ | ⟨h, e⟩ | ⟨h, e⟩
    · exfalso; grind
    · exfalso; grind
    · exact e
  · rcases sgnQ_cases (((f : Int) : Rat) - q) with ⟨h, e⟩ | ⟨h, e⟩ | ⟨h, e⟩
    · right
      refine ⟨?_, e⟩
      have : f < -g := by
        apply Rat.intCast_lt_intCast.1
        rw [e1]; grind
      omega
    · left
      refine ⟨?_, e⟩
      have : -g < f + 1 := by
        apply Rat.intCast_lt_intCast.1
        rw [e1, e2]
        rw [e3] at h4
        grind
      omega
    · exfalso; grind
def inR (n : Int) : Prop := -1152921504606846976 ≤ n ∧ n ≤ 1152921504606846976
/-- What Floor and Ceil return: an integer and an error. -/
def RetF (w : World) (n : Int) (e : Ending) (w' : World) : Prop := ∃ x er : Int, e = .returned (.tuple #[.int .i64 x, .int .i64 er]) ∧ Hid (er = 0 → x = n ∧ inR n) ∧ Ext w w'
theorem floorS {w : World} {v : Value} {q : Rat} (h : RatG w v q) : Calls Try.prog 28 #[v] w (RetF w q.floor) := by
  by_cases hi : inR q.floor
  · refine (floorG h hi.1 hi.2).mono ?_
    rintro e w' ⟨rfl, hX⟩
    exact ⟨_, _, rfl, fun _ => ⟨rfl, hi⟩, hX⟩
  · refine (floorG_out h (by unfold inR at hi; omega)).mono ?_
    rintro e w' ⟨rfl, hX⟩
    exact ⟨_, _, rfl, fun h => by omega, hX⟩
theorem ceilS {w : World} {v : Value} {q : Rat} (h : RatG w v q) : Calls Try.prog 29 #[v] w (RetF w (-(-q).floor)) := by
  by_cases hi : inR (-q).floor
  · refine (ceilG h hi.1 hi.2).mono ?_
    rintro e w' ⟨rfl, hX⟩
    exact ⟨_, _, rfl, fun _ => ⟨rfl, by unfold inR at *; omega⟩, hX⟩
  · refine (ceilG_out h (by unfold inR at hi; omega)).mono ?_
    rintro e w' ⟨rfl, hX⟩
    exact ⟨_, _, rfl, fun h => by omega, hX⟩
theorem fromIntG (n : Int) (w : World) (h0 : -9223372036854775808 ≤ n) (h1 : n ≤ 9223372036854775807) : Calls Try.prog 24 #[.int .i64 n] w fun e w' => ∃ v, e = .returned v ∧ RatG w' v ((n : Int) : Rat) ∧ Ext w w' := by
  refine (fromInt_any n w h0 h1).mono ?_
  rintro e w' ⟨v, rfl, hv, hX⟩
  exact ⟨v, rfl, hv.good (FitQW.of ((fitQ_small h0 h1).mono (by omega))), hX⟩
theorem cmpG {w : World} {va vb : Value} {q r : Rat} (h : RatG w va q) (k : RatG w vb r) : Calls Try.prog 50 #[va, vb] w (RetE w (.int .i64 (sgnQ (q - r))) 0) := by
  obtain ⟨s0, A0, l0, c0, B0, m0, k0, rfl⟩ := h.open
  obtain ⟨s1, A1, l1, c1, B1, m1, k1, rfl⟩ := k.open
  exact ecmp_ok s0 s1 A0 B0 A1 B1 l0 c0 m0 k0 l1 c1 m1 k1 q r w h k

set_option maxRecDepth 100000 in
set_option maxHeartbeats 2000000 in
theorem order_r13 (ga : Nat) (s0 : Bool) (A0 B0 : Option Addr) (l0 c0 m0 k0 : Nat) (q : Rat) (n : Int) (w : World) (x0 : w.cell? ⟨ga, 0, none⟩ = some (.bool s0)) (x1 : w.cell? ⟨ga, 1, none⟩ = some (.slice A0 l0 c0)) (x2 : w.cell? ⟨ga, 2, none⟩ = some (.slice B0 m0 k0)) (hx : RatG w (.agg #[.bool s0, .slice A0 l0 c0, .slice B0 m0 k0]) q) (h0 : -9223372036854775808 ≤ n) (h1 : n ≤ 9223372036854775807) (a : Act) (Q : Exit → Act → World → Prop) (hsize : 117 ≤ a.tmps.size)
    (s2 : a.tmps[2]? = some (.pointer (some ⟨ga, 0, none⟩)))
    (s13 : a.tmps[13]? = some (.int .i64 n))
    (hend : ∀ (xv0 xv1 xv2 xv3 xv4 xv5 xv6 xv7 xv8 : Value) (W : World), (xv0 = .int .i64 n) → (RatG W xv1 ((n : Int) : Rat)) → (xv2 = .agg #[.bool s0, .slice A0 l0 c0, .slice B0 m0 k0]) → (xv3 = .tuple #[.int .i64 (sgnQ (((n : Int) : Rat) - q)), .int .i64 0]) → (xv4 = .tuple #[.int .i64 (sgnQ (((n : Int) : Rat) - q)), .int .i64 0]) → (xv5 = .int .i64 (sgnQ (((n : Int) : Rat) - q))) → (xv6 = .int .i64 0) → (xv7 = .int .i64 (sgnQ (((n : Int) : Rat) - q))) → (xv8 = .int .i64 0) → Ext w W → wpList Try.prog (rops Try.f12 13).toArray Q ((rops Try.f12 13).drop 9) (((((((((a.put (some 111) xv0).put (some 112) xv1).put (some 113) xv2).put (some 114) xv3).put (some 110) xv4).put (some 115) xv5).put (some 116) xv6).put (some 15) xv7).put (some 6) xv8) W) :
    (Code.region 13 (rops Try.f12 13).toArray true).wp Try.prog Q a w := by
  have hmono : ∀ (W W' : World) (j : Nat) (u : Value), Ext W W' → (fun (i : Nat) (v : Value) (W : World) => match i with
    | 0 => v = .int .i64 n
    | 1 => RatG W v ((n : Int) : Rat)
    | 2 => v = .agg #[.bool s0, .slice A0 l0 c0, .slice B0 m0 k0]
    | 3 => v = .tuple #[.int .i64 (sgnQ (((n : Int) : Rat) - q)), .int .i64 0]
    | 4 => v = .tuple #[.int .i64 (sgnQ (((n : Int) : Rat) - q)), .int .i64 0]
    | 5 => v = .int .i64 (sgnQ (((n : Int) : Rat) - q))
    | 6 => v = .int .i64 0
    | 7 => v = .int .i64 (sgnQ (((n : Int) : Rat) - q))
    | 8 => v = .int .i64 0
    | _ => True) j u W → (fun (i : Nat) (v : Value) (W : World) => match i with
    | 0 => v = .int .i64 n
    | 1 => RatG W v ((n : Int) : Rat)
    | 2 => v = .agg #[.bool s0, .slice A0 l0 c0, .slice B0 m0 k0]
    | 3 => v = .tuple #[.int .i64 (sgnQ (((n : Int) : Rat) - q)), .int .i64 0]
    | 4 => v = .tuple #[.int .i64 (sgnQ (((n : Int) : Rat) - q)), .int .i64 0]
    | 5 => v = .int .i64 (sgnQ (((n : Int) : Rat) - q))
    | 6 => v = .int .i64 0
    | 7 => v = .int .i64 (sgnQ (((n : Int) : Rat) - q))
    | 8 => v = .int .i64 0
    | _ => True) j u W' := by
    intro W W' j u hX h
    match j, h with
    | 0, h => exact h
    | 1, h => exact RatG.ext h hX
    | 2, h => exact h
    | 3, h => exact h
    | 4, h => exact h
    | 5, h => exact h
    | 6, h => exact h
    | 7, h => exact h
    | 8, h => exact h
    | _ + 9, h => exact h
  have hsz : ∀ d, some d ∈ ([some 111, some 112, some 113, some 114, some 110, some 115, some 116, some 15, some 6] : List (Option Tmp)) → d < a.tmps.size := slots_lt (by decide) hsize
  refine wp_region_j 9 [some 111, some 112, some 113, some 114, some 110, some 115, some 116, some 15, some 6] [[], [0], [], [1, 2], [3], [4], [4], [5], [6]] [[], [], [], [], [], [], [], [], []] (fun (i : Nat) (v : Value) (W : World) => match i with
    | 0 => v = .int .i64 n
    | 1 => RatG W v ((n : Int) : Rat)
    | 2 => v = .agg #[.bool s0, .slice A0 l0 c0, .slice B0 m0 k0]
    | 3 => v = .tuple #[.int .i64 (sgnQ (((n : Int) : Rat) - q)), .int .i64 0]
    | 4 => v = .tuple #[.int .i64 (sgnQ (((n : Int) : Rat) - q)), .int .i64 0]
    | 5 => v = .int .i64 (sgnQ (((n : Int) : Rat) - q))
    | 6 => v = .int .i64 0
    | 7 => v = .int .i64 (sgnQ (((n : Int) : Rat) - q))
    | 8 => v = .int .i64 0
    | _ => True) (fun _ W => Ext w W) (by kernel_rfl) (by kernel_rfl) hsz (fun _ _ _ _ h => h) ((Ext.refl w).drew) ?_ ?_
  · clear hend
    simp only [rops, Try.f12, regOf, Option.bind_some, Nat.reduceBEq, if_true, if_false, Bool.false_eq_true, Option.getD_some]
    simp only [List.take_succ_cons, List.take_zero]
    refine ⟨?_, ?_, ?_, ?_, ?_, ?_, ?_, ?_, ?_, trivial⟩
    · intro done us W hJ hdep haft hnot b hb hb' K hK Q'
      have e13 := (hb' 13 (by simp)).trans s13
      clear hb hb'
      go_simp
      exact hK _ _ rfl (fun _ _ _ h => h) hJ
    · intro done us W hJ hdep haft hnot b hb hb' K hK Q'
      simp only [List.getD_cons_succ, List.getD_cons_zero, List.mem_cons, List.not_mem_nil, or_false, forall_eq_or_imp, forall_eq] at hdep
      have e111 := hb 0 111 rfl
      have d0 := hdep
      rw [d0.1] at e111
      clear hb hb' hdep d0
      go_simp
      refine (fromIntG _ _ h0 h1).mono ?_
      rintro e w' ⟨v, rfl, hv, hX⟩
      exact hK _ _ hv (fun j u _ h => hmono _ _ j u hX h) (Ext.trans hJ hX)
    · intro done us W hJ hdep haft hnot b hb hb' K hK Q'
      have e2 := (hb' 2 (by simp)).trans s2
      clear hb hb'
      have q0 := Ext.cell hJ x0
      have q1 := Ext.cell hJ x1
      have q2 := Ext.cell hJ x2
      go_simp
      exact hK _ _ rfl (fun _ _ _ h => h) hJ
    · intro done us W hJ hdep haft hnot b hb hb' K hK Q'
      simp only [List.getD_cons_succ, List.getD_cons_zero, List.mem_cons, List.not_mem_nil, or_false, forall_eq_or_imp, forall_eq] at hdep
      have e112 := hb 1 112 rfl
      have e113 := hb 2 113 rfl
      have d1 := hdep.1
      have d2 := hdep.2
      rw [d2.1] at e113
      clear hb hb' hdep d2
      go_simp
      refine (cmpG d1.1 (RatG.ext hx hJ)).mono ?_
      rintro e w' ⟨rfl, hX⟩
      exact hK _ _ rfl (fun j u _ h => hmono _ _ j u hX h) (Ext.trans hJ hX)
    · intro done us W hJ hdep haft hnot b hb hb' K hK Q'
      simp only [List.getD_cons_succ, List.getD_cons_zero, List.mem_cons, List.not_mem_nil, or_false, forall_eq_or_imp, forall_eq] at hdep
      have e114 := hb 3 114 rfl
      have d3 := hdep
      rw [d3.1] at e114
      clear hb hb' hdep d3
      go_simp
      exact hK _ _ rfl (fun _ _ _ h => h) hJ
    · intro done us W hJ hdep haft hnot b hb hb' K hK Q'
      simp only [List.getD_cons_succ, List.getD_cons_zero, List.mem_cons, List.not_mem_nil, or_false, forall_eq_or_imp, forall_eq] at hdep
      have e110 := hb 4 110 rfl
      have d4 := hdep
      rw [d4.1] at e110
      clear hb hb' hdep d4
      go_simp
      exact hK _ _ rfl (fun _ _ _ h => h) hJ
    · intro done us W hJ hdep haft hnot b hb hb' K hK Q'
      simp only [List.getD_cons_succ, List.getD_cons_zero, List.mem_cons, List.not_mem_nil, or_false, forall_eq_or_imp, forall_eq] at hdep
      have e110 := hb 4 110 rfl
      have d4 := hdep
      rw [d4.1] at e110
      clear hb hb' hdep d4
      go_simp
      exact hK _ _ rfl (fun _ _ _ h => h) hJ
    · intro done us W hJ hdep haft hnot b hb hb' K hK Q'
      simp only [List.getD_cons_succ, List.getD_cons_zero, List.mem_cons, List.not_mem_nil, or_false, forall_eq_or_imp, forall_eq] at hdep
      have e115 := hb 5 115 rfl
      have d5 := hdep
      rw [d5.1] at e115
      clear hb hb' hdep d5
      go_simp
      exact hK _ _ rfl (fun _ _ _ h => h) hJ
    · intro done us W hJ hdep haft hnot b hb hb' K hK Q'
      simp only [List.getD_cons_succ, List.getD_cons_zero, List.mem_cons, List.not_mem_nil, or_false, forall_eq_or_imp, forall_eq] at hdep
      have e116 := hb 6 116 rfl
      have d6 := hdep
      rw [d6.1] at e116
      clear hb hb' hdep d6
      go_simp
      exact hK _ _ rfl (fun _ _ _ h => h) hJ
  · intro us W hV hJ
    exact hend (us 0) (us 1) (us 2) (us 3) (us 4) (us 5) (us 6) (us 7) (us 8) W (hV 0 (by omega)) (hV 1 (by omega)) (hV 2 (by omega)) (hV 3 (by omega)) (hV 4 (by omega)) (hV 5 (by omega)) (hV 6 (by omega)) (hV 7 (by omega)) (hV 8 (by omega)) hJ
set_option maxRecDepth 100000 in
set_option maxHeartbeats 2000000 in
theorem order_r14 (ga : Nat) (s0 : Bool) (A0 B0 : Option Addr) (l0 c0 m0 k0 : Nat) (q : Rat) (n : Int) (w : World) (x0 : w.cell? ⟨ga, 0, none⟩ = some (.bool s0)) (x1 : w.cell? ⟨ga, 1, none⟩ = some (.slice A0 l0 c0)) (x2 : w.cell? ⟨ga, 2, none⟩ = some (.slice B0 m0 k0)) (hx : RatG w (.agg #[.bool s0, .slice A0 l0 c0, .slice B0 m0 k0]) q) (h0 : -9223372036854775808 ≤ n) (h1 : n ≤ 9223372036854775807) (a : Act) (Q : Exit → Act → World → Prop) (hsize : 124 ≤ a.tmps.size)
    (s2 : a.tmps[2]? = some (.pointer (some ⟨ga, 0, none⟩)))
    (s14 : a.tmps[14]? = some (.int .i64 n))
    (hend : ∀ (xv0 xv1 xv2 xv3 xv4 xv5 xv6 xv7 xv8 : Value) (W : World), (xv0 = .int .i64 n) → (RatG W xv1 ((n : Int) : Rat)) → (xv2 = .agg #[.bool s0, .slice A0 l0 c0, .slice B0 m0 k0]) → (xv3 = .tuple #[.int .i64 (sgnQ (((n : Int) : Rat) - q)), .int .i64 0]) → (xv4 = .tuple #[.int .i64 (sgnQ (((n : Int) : Rat) - q)), .int .i64 0]) → (xv5 = .int .i64 (sgnQ (((n : Int) : Rat) - q))) → (xv6 = .int .i64 0) → (xv7 = .int .i64 (sgnQ (((n : Int) : Rat) - q))) → (xv8 = .int .i64 0) → Ext w W → wpList Try.prog (rops Try.f12 14).toArray Q ((rops Try.f12 14).drop 9) (((((((((a.put (some 118) xv0).put (some 119) xv1).put (some 120) xv2).put (some 121) xv3).put (some 117) xv4).put (some 122) xv5).put (some 123) xv6).put (some 16) xv7).put (some 8) xv8) W) :
    (Code.region 14 (rops Try.f12 14).toArray true).wp Try.prog Q a w := by
  have hmono : ∀ (W W' : World) (j : Nat) (u : Value), Ext W W' → (fun (i : Nat) (v : Value) (W : World) => match i with
    | 0 => v = .int .i64 n
    | 1 => RatG W v ((n : Int) : Rat)
    | 2 => v = .agg #[.bool s0, .slice A0 l0 c0, .slice B0 m0 k0]
    | 3 => v = .tuple #[.int .i64 (sgnQ (((n : Int) : Rat) - q)), .int .i64 0]
    | 4 => v = .tuple #[.int .i64 (sgnQ (((n : Int) : Rat) - q)), .int .i64 0]
    | 5 => v = .int .i64 (sgnQ (((n : Int) : Rat) - q))
    | 6 => v = .int .i64 0
    | 7 => v = .int .i64 (sgnQ (((n : Int) : Rat) - q))
    | 8 => v = .int .i64 0
    | _ => True) j u W → (fun (i : Nat) (v : Value) (W : World) => match i with
    | 0 => v = .int .i64 n
    | 1 => RatG W v ((n : Int) : Rat)
    | 2 => v = .agg #[.bool s0, .slice A0 l0 c0, .slice B0 m0 k0]
    | 3 => v = .tuple #[.int .i64 (sgnQ (((n : Int) : Rat) - q)), .int .i64 0]
    | 4 => v = .tuple #[.int .i64 (sgnQ (((n : Int) : Rat) - q)), .int .i64 0]
    | 5 => v = .int .i64 (sgnQ (((n : Int) : Rat) - q))
    | 6 => v = .int .i64 0
    | 7 => v = .int .i64 (sgnQ (((n : Int) : Rat) - q))
    | 8 => v = .int .i64 0
    | _ => True) j u W' := by
    intro W W' j u hX h
    match j, h with
    | 0, h => exact h
    | 1, h => exact RatG.ext h hX
    | 2, h => exact h
    | 3, h => exact h
    | 4, h => exact h
    | 5, h => exact h
    | 6, h => exact h
    | 7, h => exact h
    | 8, h => exact h
    | _ + 9, h => exact h
  have hsz : ∀ d, some d ∈ ([some 118, some 119, some 120, some 121, some 117, some 122, some 123, some 16, some 8] : List (Option Tmp)) → d < a.tmps.size := slots_lt (by decide) hsize
  refine wp_region_j 9 [some 118, some 119, some 120, some 121, some 117, some 122, some 123, some 16, some 8] [[], [0], [], [1, 2], [3], [4], [4], [5], [6]] [[], [], [], [], [], [], [], [], []] (fun (i : Nat) (v : Value) (W : World) => match i with
    | 0 => v = .int .i64 n
    | 1 => RatG W v ((n : Int) : Rat)
    | 2 => v = .agg #[.bool s0, .slice A0 l0 c0, .slice B0 m0 k0]
    | 3 => v = .tuple #[.int .i64 (sgnQ (((n : Int) : Rat) - q)), .int .i64 0]
    | 4 => v = .tuple #[.int .i64 (sgnQ (((n : Int) : Rat) - q)), .int .i64 0]
    | 5 => v = .int .i64 (sgnQ (((n : Int) : Rat) - q))
    | 6 => v = .int .i64 0
    | 7 => v = .int .i64 (sgnQ (((n : Int) : Rat) - q))
    | 8 => v = .int .i64 0
    | _ => True) (fun _ W => Ext w W) (by kernel_rfl) (by kernel_rfl) hsz (fun _ _ _ _ h => h) ((Ext.refl w).drew) ?_ ?_
  · clear hend
    simp only [rops, Try.f12, regOf, Option.bind_some, Nat.reduceBEq, if_true, if_false, Bool.false_eq_true, Option.getD_some]
    simp only [List.take_succ_cons, List.take_zero]
    refine ⟨?_, ?_, ?_, ?_, ?_, ?_, ?_, ?_, ?_, trivial⟩
    · intro done us W hJ hdep haft hnot b hb hb' K hK Q'
      have e14 := (hb' 14 (by simp)).trans s14
      clear hb hb'
      go_simp
      exact hK _ _ rfl (fun _ _ _ h => h) hJ
    · intro done us W hJ hdep haft hnot b hb hb' K hK Q'
      simp only [List.getD_cons_succ, List.getD_cons_zero, List.mem_cons, List.not_mem_nil, or_false, forall_eq_or_imp, forall_eq] at hdep
      have e118 := hb 0 118 rfl
      have d0 := hdep
      rw [d0.1] at e118
      clear hb hb' hdep d0
      go_simp
      refine (fromIntG _ _ h0 h1).mono ?_
      rintro e w' ⟨v, rfl, hv, hX⟩
      exact hK _ _ hv (fun j u _ h => hmono _ _ j u hX h) (Ext.trans hJ hX)
    · intro done us W hJ hdep haft hnot b hb hb' K hK Q'
      have e2 := (hb' 2 (by simp)).trans s2
      clear hb hb'
      have q0 := Ext.cell hJ x0
      have q1 := Ext.cell hJ x1
      have q2 := Ext.cell hJ x2
      go_simp
      exact hK _ _ rfl (fun _ _ _ h => h) hJ
    · intro done us W hJ hdep haft hnot b hb hb' K hK Q'
      simp only [List.getD_cons_succ, List.getD_cons_zero, List.mem_cons, List.not_mem_nil, or_false, forall_eq_or_imp, forall_eq] at hdep
      have e119 := hb 1 119 rfl
      have e120 := hb 2 120 rfl
      have d1 := hdep.1
      have d2 := hdep.2
      rw [d2.1] at e120
      clear hb hb' hdep d2
      go_simp
      refine (cmpG d1.1 (RatG.ext hx hJ)).mono ?_
      rintro e w' ⟨rfl, hX⟩
      exact hK _ _ rfl (fun j u _ h => hmono _ _ j u hX h) (Ext.trans hJ hX)
    · intro done us W hJ hdep haft hnot b hb hb' K hK Q'
      simp only [List.getD_cons_succ, List.getD_cons_zero, List.mem_cons, List.not_mem_nil, or_false, forall_eq_or_imp, forall_eq] at hdep
      have e121 := hb 3 121 rfl
      have d3 := hdep
      rw [d3.1] at e121
      clear hb hb' hdep d3
      go_simp
      exact hK _ _ rfl (fun _ _ _ h => h) hJ
    · intro done us W hJ hdep haft hnot b hb hb' K hK Q'
      simp only [List.getD_cons_succ, List.getD_cons_zero, List.mem_cons, List.not_mem_nil, or_false, forall_eq_or_imp, forall_eq] at hdep
      have e117 := hb 4 117 rfl
      have d4 := hdep
      rw [d4.1] at e117
      clear hb hb' hdep d4
      go_simp
      exact hK _ _ rfl (fun _ _ _ h => h) hJ
    · intro done us W hJ hdep haft hnot b hb hb' K hK Q'
      simp only [List.getD_cons_succ, List.getD_cons_zero, List.mem_cons, List.not_mem_nil, or_false, forall_eq_or_imp, forall_eq] at hdep
      have e117 := hb 4 117 rfl
      have d4 := hdep
      rw [d4.1] at e117
      clear hb hb' hdep d4
      go_simp
      exact hK _ _ rfl (fun _ _ _ h => h) hJ
    · intro done us W hJ hdep haft hnot b hb hb' K hK Q'
      simp only [List.getD_cons_succ, List.getD_cons_zero, List.mem_cons, List.not_mem_nil, or_false, forall_eq_or_imp, forall_eq] at hdep
      have e122 := hb 5 122 rfl
      have d5 := hdep
      rw [d5.1] at e122
      clear hb hb' hdep d5
      go_simp
      exact hK _ _ rfl (fun _ _ _ h => h) hJ
    · intro done us W hJ hdep haft hnot b hb hb' K hK Q'
      simp only [List.getD_cons_succ, List.getD_cons_zero, List.mem_cons, List.not_mem_nil, or_false, forall_eq_or_imp, forall_eq] at hdep
      have e123 := hb 6 123 rfl
      have d6 := hdep
      rw [d6.1] at e123
      clear hb hb' hdep d6
      go_simp
      exact hK _ _ rfl (fun _ _ _ h => h) hJ
  · intro us W hV hJ
    exact hend (us 0) (us 1) (us 2) (us 3) (us 4) (us 5) (us 6) (us 7) (us 8) W (hV 0 (by omega)) (hV 1 (by omega)) (hV 2 (by omega)) (hV 3 (by omega)) (hV 4 (by omega)) (hV 5 (by omega)) (hV 6 (by omega)) (hV 7 (by omega)) (hV 8 (by omega)) hJ
set_option maxRecDepth 100000 in
set_option maxHeartbeats 2000000 in
theorem order_r15 (ga : Nat) (s0 : Bool) (A0 B0 : Option Addr) (l0 c0 m0 k0 : Nat) (q : Rat) (n mm : Int) (w : World) (x0 : w.cell? ⟨ga, 0, none⟩ = some (.bool s0)) (x1 : w.cell? ⟨ga, 1, none⟩ = some (.slice A0 l0 c0)) (x2 : w.cell? ⟨ga, 2, none⟩ = some (.slice B0 m0 k0)) (hx : RatG w (.agg #[.bool s0, .slice A0 l0 c0, .slice B0 m0 k0]) q) (h0 : -9223372036854775808 ≤ mm) (h1 : mm ≤ 9223372036854775807) (hmm : Hid (n + 1 = mm)) (a : Act) (Q : Exit → Act → World → Prop) (hsize : 132 ≤ a.tmps.size)
    (s2 : a.tmps[2]? = some (.pointer (some ⟨ga, 0, none⟩)))
    (s13 : a.tmps[13]? = some (.int .i64 n))
    (hend : ∀ (xv0 xv1 xv2 xv3 xv4 xv5 xv6 xv7 xv8 xv9 : Value) (W : World), (xv0 = .int .i64 n) → (xv1 = .int .i64 mm) → (RatG W xv2 ((mm : Int) : Rat)) → (xv3 = .agg #[.bool s0, .slice A0 l0 c0, .slice B0 m0 k0]) → (xv4 = .tuple #[.int .i64 (sgnQ (((mm : Int) : Rat) - q)), .int .i64 0]) → (xv5 = .tuple #[.int .i64 (sgnQ (((mm : Int) : Rat) - q)), .int .i64 0]) → (xv6 = .int .i64 (sgnQ (((mm : Int) : Rat) - q))) → (xv7 = .int .i64 0) → (xv8 = .int .i64 (sgnQ (((mm : Int) : Rat) - q))) → (xv9 = .int .i64 0) → Ext w W → wpList Try.prog (rops Try.f12 15).toArray Q ((rops Try.f12 15).drop 10) ((((((((((a.put (some 125) xv0).put (some 126) xv1).put (some 127) xv2).put (some 128) xv3).put (some 129) xv4).put (some 124) xv5).put (some 130) xv6).put (some 131) xv7).put (some 17) xv8).put (some 10) xv9) W) :
    (Code.region 15 (rops Try.f12 15).toArray true).wp Try.prog Q a w := by
  have hmono : ∀ (W W' : World) (j : Nat) (u : Value), Ext W W' → (fun (i : Nat) (v : Value) (W : World) => match i with
    | 0 => v = .int .i64 n
    | 1 => v = .int .i64 mm
    | 2 => RatG W v ((mm : Int) : Rat)
    | 3 => v = .agg #[.bool s0, .slice A0 l0 c0, .slice B0 m0 k0]
    | 4 => v = .tuple #[.int .i64 (sgnQ (((mm : Int) : Rat) - q)), .int .i64 0]
    | 5 => v = .tuple #[.int .i64 (sgnQ (((mm : Int) : Rat) - q)), .int .i64 0]
    | 6 => v = .int .i64 (sgnQ (((mm : Int) : Rat) - q))
    | 7 => v = .int .i64 0
    | 8 => v = .int .i64 (sgnQ (((mm : Int) : Rat) - q))
    | 9 => v = .int .i64 0
    | _ => True) j u W → (fun (i : Nat) (v : Value) (W : World) => match i with
    | 0 => v = .int .i64 n
    | 1 => v = .int .i64 mm
    | 2 => RatG W v ((mm : Int) : Rat)
    | 3 => v = .agg #[.bool s0, .slice A0 l0 c0, .slice B0 m0 k0]
    | 4 => v = .tuple #[.int .i64 (sgnQ (((mm : Int) : Rat) - q)), .int .i64 0]
    | 5 => v = .tuple #[.int .i64 (sgnQ (((mm : Int) : Rat) - q)), .int .i64 0]
    | 6 => v = .int .i64 (sgnQ (((mm : Int) : Rat) - q))
    | 7 => v = .int .i64 0
    | 8 => v = .int .i64 (sgnQ (((mm : Int) : Rat) - q))
    | 9 => v = .int .i64 0
    | _ => True) j u W' := by
    intro W W' j u hX h
    match j, h with
    | 0, h => exact h
    | 1, h => exact h
    | 2, h => exact RatG.ext h hX
    | 3, h => exact h
    | 4, h => exact h
    | 5, h => exact h
    | 6, h => exact h
    | 7, h => exact h
    | 8, h => exact h
    | 9, h => exact h
    | _ + 10, h => exact h
  have hsz : ∀ d, some d ∈ ([some 125, some 126, some 127, some 128, some 129, some 124, some 130, some 131, some 17, some 10] : List (Option Tmp)) → d < a.tmps.size := slots_lt (by decide) hsize
  refine wp_region_j 10 [some 125, some 126, some 127, some 128, some 129, some 124, some 130, some 131, some 17, some 10] [[], [0], [1], [], [2, 3], [4], [5], [5], [6], [7]] [[], [], [], [], [], [], [], [], [], []] (fun (i : Nat) (v : Value) (W : World) => match i with
    | 0 => v = .int .i64 n
    | 1 => v = .int .i64 mm
    | 2 => RatG W v ((mm : Int) : Rat)
    | 3 => v = .agg #[.bool s0, .slice A0 l0 c0, .slice B0 m0 k0]
    | 4 => v = .tuple #[.int .i64 (sgnQ (((mm : Int) : Rat) - q)), .int .i64 0]
    | 5 => v = .tuple #[.int .i64 (sgnQ (((mm : Int) : Rat) - q)), .int .i64 0]
    | 6 => v = .int .i64 (sgnQ (((mm : Int) : Rat) - q))
    | 7 => v = .int .i64 0
    | 8 => v = .int .i64 (sgnQ (((mm : Int) : Rat) - q))
    | 9 => v = .int .i64 0
    | _ => True) (fun _ W => Ext w W) (by kernel_rfl) (by kernel_rfl) hsz (fun _ _ _ _ h => h) ((Ext.refl w).drew) ?_ ?_
  · clear hend
    simp only [rops, Try.f12, regOf, Option.bind_some, Nat.reduceBEq, if_true, if_false, Bool.false_eq_true, Option.getD_some]
    simp only [List.take_succ_cons, List.take_zero]
    refine ⟨?_, ?_, ?_, ?_, ?_, ?_, ?_, ?_, ?_, ?_, trivial⟩
    · intro done us W hJ hdep haft hnot b hb hb' K hK Q'
      have e13 := (hb' 13 (by simp)).trans s13
      clear hb hb'
      go_simp
      exact hK _ _ rfl (fun _ _ _ h => h) hJ
    · intro done us W hJ hdep haft hnot b hb hb' K hK Q'
      simp only [List.getD_cons_succ, List.getD_cons_zero, List.mem_cons, List.not_mem_nil, or_false, forall_eq_or_imp, forall_eq] at hdep
      have e125 := hb 0 125 rfl
      have d0 := hdep
      rw [d0.1] at e125
      clear hb hb' hdep d0
      have hw : IntKind.i64.wrap (n + 1) = mm := by
        have := hmm.out
        rw [IntKind.wrap_i64]; omega
      go_simp
      exact hK _ _ rfl (fun _ _ _ h => h) hJ
    · intro done us W hJ hdep haft hnot b hb hb' K hK Q'
      simp only [List.getD_cons_succ, List.getD_cons_zero, List.mem_cons, List.not_mem_nil, or_false, forall_eq_or_imp, forall_eq] at hdep
      have e126 := hb 1 126 rfl
      have d1 := hdep
      rw [d1.1] at e126
      clear hb hb' hdep d1
      go_simp
      refine (fromIntG _ _ h0 h1).mono ?_
      rintro e w' ⟨v, rfl, hv, hX⟩
      exact hK _ _ hv (fun j u _ h => hmono _ _ j u hX h) (Ext.trans hJ hX)
    · intro done us W hJ hdep haft hnot b hb hb' K hK Q'
      have e2 := (hb' 2 (by simp)).trans s2
      clear hb hb'
      have q0 := Ext.cell hJ x0
      have q1 := Ext.cell hJ x1
      have q2 := Ext.cell hJ x2
      go_simp
      exact hK _ _ rfl (fun _ _ _ h => h) hJ
    · intro done us W hJ hdep haft hnot b hb hb' K hK Q'
      simp only [List.getD_cons_succ, List.getD_cons_zero, List.mem_cons, List.not_mem_nil, or_false, forall_eq_or_imp, forall_eq] at hdep
      have e127 := hb 2 127 rfl
      have e128 := hb 3 128 rfl
      have d2 := hdep.1
      have d3 := hdep.2
      rw [d3.1] at e128
      clear hb hb' hdep d3
      go_simp
      refine (cmpG d2.1 (RatG.ext hx hJ)).mono ?_
      rintro e w' ⟨rfl, hX⟩
      exact hK _ _ rfl (fun j u _ h => hmono _ _ j u hX h) (Ext.trans hJ hX)
    · intro done us W hJ hdep haft hnot b hb hb' K hK Q'
      simp only [List.getD_cons_succ, List.getD_cons_zero, List.mem_cons, List.not_mem_nil, or_false, forall_eq_or_imp, forall_eq] at hdep
      have e129 := hb 4 129 rfl
      have d4 := hdep
      rw [d4.1] at e129
      clear hb hb' hdep d4
      go_simp
      exact hK _ _ rfl (fun _ _ _ h => h) hJ
    · intro done us W hJ hdep haft hnot b hb hb' K hK Q'
      simp only [List.getD_cons_succ, List.getD_cons_zero, List.mem_cons, List.not_mem_nil, or_false, forall_eq_or_imp, forall_eq] at hdep
      have e124 := hb 5 124 rfl
      have d5 := hdep
      rw [d5.1] at e124
      clear hb hb' hdep d5
      go_simp
      exact hK _ _ rfl (fun _ _ _ h => h) hJ
    · intro done us W hJ hdep haft hnot b hb hb' K hK Q'
      simp only [List.getD_cons_succ, List.getD_cons_zero, List.mem_cons, List.not_mem_nil, or_false, forall_eq_or_imp, forall_eq] at hdep
      have e124 := hb 5 124 rfl
      have d5 := hdep
      rw [d5.1] at e124
      clear hb hb' hdep d5
      go_simp
      exact hK _ _ rfl (fun _ _ _ h => h) hJ
    · intro done us W hJ hdep haft hnot b hb hb' K hK Q'
      simp only [List.getD_cons_succ, List.getD_cons_zero, List.mem_cons, List.not_mem_nil, or_false, forall_eq_or_imp, forall_eq] at hdep
      have e130 := hb 6 130 rfl
      have d6 := hdep
      rw [d6.1] at e130
      clear hb hb' hdep d6
      go_simp
      exact hK _ _ rfl (fun _ _ _ h => h) hJ
    · intro done us W hJ hdep haft hnot b hb hb' K hK Q'
      simp only [List.getD_cons_succ, List.getD_cons_zero, List.mem_cons, List.not_mem_nil, or_false, forall_eq_or_imp, forall_eq] at hdep
      have e131 := hb 7 131 rfl
      have d7 := hdep
      rw [d7.1] at e131
      clear hb hb' hdep d7
      go_simp
      exact hK _ _ rfl (fun _ _ _ h => h) hJ
  · intro us W hV hJ
    exact hend (us 0) (us 1) (us 2) (us 3) (us 4) (us 5) (us 6) (us 7) (us 8) (us 9) W (hV 0 (by omega)) (hV 1 (by omega)) (hV 2 (by omega)) (hV 3 (by omega)) (hV 4 (by omega)) (hV 5 (by omega)) (hV 6 (by omega)) (hV 7 (by omega)) (hV 8 (by omega)) (hV 9 (by omega)) hJ
set_option maxRecDepth 100000 in
set_option maxHeartbeats 2000000 in
theorem order_a0 (s0 s1 : Bool) (A0 B0 A1 B1 : Option Addr) (l0 c0 m0 k0 l1 c1 m1 k1 : Nat) (w : World) (h0 : 60 < l0) (hl : l0 ≤ 9223372036854775807) :
    Calls Try.prog 12 #[.agg #[.bool s0, .slice A0 l0 c0, .slice B0 m0 k0], .agg #[.bool s1, .slice A1 l1 c1, .slice B1 m1 k1]] w (fun e w' => e = .returned (.bool true) ∧ Ext w w') := by
  have hXe : Ext w ((w.alloc (.cells #[.bool s0, .slice A0 l0 c0, .slice B0 m0 k0] 33)).alloc (.cells #[.bool s1, .slice A1 l1 c1, .slice B1 m1 k1] 33)) := (((Ext.refl w).alloc _).alloc _)
  have kA : Blk ((w.alloc (.cells #[.bool s0, .slice A0 l0 c0, .slice B0 m0 k0] 33)).alloc (.cells #[.bool s1, .slice A1 l1 c1, .slice B1 m1 k1] 33)) w.heap.size 33 #[.bool s0, .slice A0 l0 c0, .slice B0 m0 k0] := Blk.alloc (Blk.at_ (by simp)) _
  have kB : Blk ((w.alloc (.cells #[.bool s0, .slice A0 l0 c0, .slice B0 m0 k0] 33)).alloc (.cells #[.bool s1, .slice A1 l1 c1, .slice B1 m1 k1] 33)) (w.heap.size + 1) 33 #[.bool s1, .slice A1 l1 c1, .slice B1 m1 k1] := Blk.at_ (by simp)
  go_enter Try.func12, Try.ntmps12
  go_wp2_with fail
  generalize ((w.alloc (.cells #[.bool s0, .slice A0 l0 c0, .slice B0 m0 k0] 33)).alloc (.cells #[.bool s1, .slice A1 l1 c1, .slice B1 m1 k1] 33)) = w1 at hXe kA kB ⊢
  have HX := Lib.hid hXe
  clear hXe
  have KA := Lib.hid kA
  clear kA
  have KB := Lib.hid kB
  clear kB
  refine (short_no0 _ _ _ _ _ _ _ _ h0 hl).mono ?_
  rintro e w2 ⟨rfl, hX⟩
  replace HX := Lib.hid (HX.out.trans hX)
  replace KA := Lib.hid (KA.out.ext hX)
  replace KB := Lib.hid (KB.out.ext hX)
  clear hX
  have cA0 : w2.cell? ⟨w.heap.size, 0, none⟩ = some (.bool s0) := KA.out.cell 0
  have cA1 : w2.cell? ⟨w.heap.size, 1, none⟩ = some (.slice A0 l0 c0) := KA.out.cell 1
  have cA2 : w2.cell? ⟨w.heap.size, 2, none⟩ = some (.slice B0 m0 k0) := KA.out.cell 2
  have cB0 : w2.cell? ⟨(w.heap.size + 1), 0, none⟩ = some (.bool s1) := KB.out.cell 0
  have cB1 : w2.cell? ⟨(w.heap.size + 1), 1, none⟩ = some (.slice A1 l1 c1) := KB.out.cell 1
  have cB2 : w2.cell? ⟨(w.heap.size + 1), 2, none⟩ = some (.slice B1 m1 k1) := KB.out.cell 2
  go_wp2_with fail
  clear cA0 cA1 cA2 cB0 cB1 cB2
  refine (first_any _).mono ?_
  rintro e w3 ⟨rfl, hX⟩
  replace HX := Lib.hid (HX.out.trans hX)
  replace KA := Lib.hid (KA.out.ext hX)
  replace KB := Lib.hid (KB.out.ext hX)
  clear hX
  go_wp2
  go_ret
  exact ⟨rfl, HX.out⟩

set_option maxRecDepth 100000 in
set_option maxHeartbeats 2000000 in
theorem order_a1 (s0 s1 : Bool) (A0 B0 A1 B1 : Option Addr) (l0 c0 m0 k0 l1 c1 m1 k1 : Nat) (w : World) (h0 : l0 ≤ 60) (h1 : 60 < m0) (hm : m0 ≤ 9223372036854775807) :
    Calls Try.prog 12 #[.agg #[.bool s0, .slice A0 l0 c0, .slice B0 m0 k0], .agg #[.bool s1, .slice A1 l1 c1, .slice B1 m1 k1]] w (fun e w' => e = .returned (.bool true) ∧ Ext w w') := by
  have hXe : Ext w ((w.alloc (.cells #[.bool s0, .slice A0 l0 c0, .slice B0 m0 k0] 33)).alloc (.cells #[.bool s1, .slice A1 l1 c1, .slice B1 m1 k1] 33)) := (((Ext.refl w).alloc _).alloc _)
  have kA : Blk ((w.alloc (.cells #[.bool s0, .slice A0 l0 c0, .slice B0 m0 k0] 33)).alloc (.cells #[.bool s1, .slice A1 l1 c1, .slice B1 m1 k1] 33)) w.heap.size 33 #[.bool s0, .slice A0 l0 c0, .slice B0 m0 k0] := Blk.alloc (Blk.at_ (by simp)) _
  have kB : Blk ((w.alloc (.cells #[.bool s0, .slice A0 l0 c0, .slice B0 m0 k0] 33)).alloc (.cells #[.bool s1, .slice A1 l1 c1, .slice B1 m1 k1] 33)) (w.heap.size + 1) 33 #[.bool s1, .slice A1 l1 c1, .slice B1 m1 k1] := Blk.at_ (by simp)
  go_enter Try.func12, Try.ntmps12
  go_wp2_with fail
  generalize ((w.alloc (.cells #[.bool s0, .slice A0 l0 c0, .slice B0 m0 k0] 33)).alloc (.cells #[.bool s1, .slice A1 l1 c1, .slice B1 m1 k1] 33)) = w1 at hXe kA kB ⊢
  have HX := Lib.hid hXe
  clear hXe
  have KA := Lib.hid kA
  clear kA
  have KB := Lib.hid kB
  clear kB
  refine (short_no1 _ _ _ _ _ _ _ _ h0 h1 hm).mono ?_
  rintro e w2 ⟨rfl, hX⟩
  replace HX := Lib.hid (HX.out.trans hX)
  replace KA := Lib.hid (KA.out.ext hX)
  replace KB := Lib.hid (KB.out.ext hX)
  clear hX
  have cA0 : w2.cell? ⟨w.heap.size, 0, none⟩ = some (.bool s0) := KA.out.cell 0
  have cA1 : w2.cell? ⟨w.heap.size, 1, none⟩ = some (.slice A0 l0 c0) := KA.out.cell 1
  have cA2 : w2.cell? ⟨w.heap.size, 2, none⟩ = some (.slice B0 m0 k0) := KA.out.cell 2
  have cB0 : w2.cell? ⟨(w.heap.size + 1), 0, none⟩ = some (.bool s1) := KB.out.cell 0
  have cB1 : w2.cell? ⟨(w.heap.size + 1), 1, none⟩ = some (.slice A1 l1 c1) := KB.out.cell 1
  have cB2 : w2.cell? ⟨(w.heap.size + 1), 2, none⟩ = some (.slice B1 m1 k1) := KB.out.cell 2
  go_wp2_with fail
  clear cA0 cA1 cA2 cB0 cB1 cB2
  refine (first_any _).mono ?_
  rintro e w3 ⟨rfl, hX⟩
  replace HX := Lib.hid (HX.out.trans hX)
  replace KA := Lib.hid (KA.out.ext hX)
  replace KB := Lib.hid (KB.out.ext hX)
  clear hX
  go_wp2
  go_ret
  exact ⟨rfl, HX.out⟩

set_option maxRecDepth 100000 in
set_option maxHeartbeats 2000000 in
theorem order_b0 (s0 s1 : Bool) (A0 B0 A1 B1 : Option Addr) (l0 c0 m0 k0 l1 c1 m1 k1 : Nat) (w : World) (g0 : l0 ≤ 60) (g1 : m0 ≤ 60) (h0 : 60 < l1) (hl : l1 ≤ 9223372036854775807) :
    Calls Try.prog 12 #[.agg #[.bool s0, .slice A0 l0 c0, .slice B0 m0 k0], .agg #[.bool s1, .slice A1 l1 c1, .slice B1 m1 k1]] w (fun e w' => e = .returned (.bool true) ∧ Ext w w') := by
  have hXe : Ext w ((w.alloc (.cells #[.bool s0, .slice A0 l0 c0, .slice B0 m0 k0] 33)).alloc (.cells #[.bool s1, .slice A1 l1 c1, .slice B1 m1 k1] 33)) := (((Ext.refl w).alloc _).alloc _)
  have kA : Blk ((w.alloc (.cells #[.bool s0, .slice A0 l0 c0, .slice B0 m0 k0] 33)).alloc (.cells #[.bool s1, .slice A1 l1 c1, .slice B1 m1 k1] 33)) w.heap.size 33 #[.bool s0, .slice A0 l0 c0, .slice B0 m0 k0] := Blk.alloc (Blk.at_ (by simp)) _
  have kB : Blk ((w.alloc (.cells #[.bool s0, .slice A0 l0 c0, .slice B0 m0 k0] 33)).alloc (.cells #[.bool s1, .slice A1 l1 c1, .slice B1 m1 k1] 33)) (w.heap.size + 1) 33 #[.bool s1, .slice A1 l1 c1, .slice B1 m1 k1] := Blk.at_ (by simp)
  go_enter Try.func12, Try.ntmps12
  go_wp2_with fail
  generalize ((w.alloc (.cells #[.bool s0, .slice A0 l0 c0, .slice B0 m0 k0] 33)).alloc (.cells #[.bool s1, .slice A1 l1 c1, .slice B1 m1 k1] 33)) = w1 at hXe kA kB ⊢
  have HX := Lib.hid hXe
  clear hXe
  have KA := Lib.hid kA
  clear kA
  have KB := Lib.hid kB
  clear kB
  refine (short_yes _ _ _ _ _ _ _ _ g0 g1).mono ?_
  rintro e w2 ⟨rfl, hX⟩
  replace HX := Lib.hid (HX.out.trans hX)
  replace KA := Lib.hid (KA.out.ext hX)
  replace KB := Lib.hid (KB.out.ext hX)
  clear hX
  have cA0 : w2.cell? ⟨w.heap.size, 0, none⟩ = some (.bool s0) := KA.out.cell 0
  have cA1 : w2.cell? ⟨w.heap.size, 1, none⟩ = some (.slice A0 l0 c0) := KA.out.cell 1
  have cA2 : w2.cell? ⟨w.heap.size, 2, none⟩ = some (.slice B0 m0 k0) := KA.out.cell 2
  have cB0 : w2.cell? ⟨(w.heap.size + 1), 0, none⟩ = some (.bool s1) := KB.out.cell 0
  have cB1 : w2.cell? ⟨(w.heap.size + 1), 1, none⟩ = some (.slice A1 l1 c1) := KB.out.cell 1
  have cB2 : w2.cell? ⟨(w.heap.size + 1), 2, none⟩ = some (.slice B1 m1 k1) := KB.out.cell 2
  go_wp2_with fail
  clear cA0 cA1 cA2 cB0 cB1 cB2
  refine (short_no0 _ _ _ _ _ _ _ _ h0 hl).mono ?_
  rintro e w3 ⟨rfl, hX⟩
  replace HX := Lib.hid (HX.out.trans hX)
  replace KA := Lib.hid (KA.out.ext hX)
  replace KB := Lib.hid (KB.out.ext hX)
  clear hX
  have cA0 : w3.cell? ⟨w.heap.size, 0, none⟩ = some (.bool s0) := KA.out.cell 0
  have cA1 : w3.cell? ⟨w.heap.size, 1, none⟩ = some (.slice A0 l0 c0) := KA.out.cell 1
  have cA2 : w3.cell? ⟨w.heap.size, 2, none⟩ = some (.slice B0 m0 k0) := KA.out.cell 2
  have cB0 : w3.cell? ⟨(w.heap.size + 1), 0, none⟩ = some (.bool s1) := KB.out.cell 0
  have cB1 : w3.cell? ⟨(w.heap.size + 1), 1, none⟩ = some (.slice A1 l1 c1) := KB.out.cell 1
  have cB2 : w3.cell? ⟨(w.heap.size + 1), 2, none⟩ = some (.slice B1 m1 k1) := KB.out.cell 2
  go_wp2_with fail
  clear cA0 cA1 cA2 cB0 cB1 cB2
  refine (first_any _).mono ?_
  rintro e w4 ⟨rfl, hX⟩
  replace HX := Lib.hid (HX.out.trans hX)
  replace KA := Lib.hid (KA.out.ext hX)
  replace KB := Lib.hid (KB.out.ext hX)
  clear hX
  go_wp2
  go_ret
  exact ⟨rfl, HX.out⟩

set_option maxRecDepth 100000 in
set_option maxHeartbeats 2000000 in
theorem order_b1 (s0 s1 : Bool) (A0 B0 A1 B1 : Option Addr) (l0 c0 m0 k0 l1 c1 m1 k1 : Nat) (w : World) (g0 : l0 ≤ 60) (g1 : m0 ≤ 60) (h0 : l1 ≤ 60) (h1 : 60 < m1) (hm : m1 ≤ 9223372036854775807) :
    Calls Try.prog 12 #[.agg #[.bool s0, .slice A0 l0 c0, .slice B0 m0 k0], .agg #[.bool s1, .slice A1 l1 c1, .slice B1 m1 k1]] w (fun e w' => e = .returned (.bool true) ∧ Ext w w') := by
  have hXe : Ext w ((w.alloc (.cells #[.bool s0, .slice A0 l0 c0, .slice B0 m0 k0] 33)).alloc (.cells #[.bool s1, .slice A1 l1 c1, .slice B1 m1 k1] 33)) := (((Ext.refl w).alloc _).alloc _)
  have kA : Blk ((w.alloc (.cells #[.bool s0, .slice A0 l0 c0, .slice B0 m0 k0] 33)).alloc (.cells #[.bool s1, .slice A1 l1 c1, .slice B1 m1 k1] 33)) w.heap.size 33 #[.bool s0, .slice A0 l0 c0, .slice B0 m0 k0] := Blk.alloc (Blk.at_ (by simp)) _
  have kB : Blk ((w.alloc (.cells #[.bool s0, .slice A0 l0 c0, .slice B0 m0 k0] 33)).alloc (.cells #[.bool s1, .slice A1 l1 c1, .slice B1 m1 k1] 33)) (w.heap.size + 1) 33 #[.bool s1, .slice A1 l1 c1, .slice B1 m1 k1] := Blk.at_ (by simp)
  go_enter Try.func12, Try.ntmps12
  go_wp2_with fail
  generalize ((w.alloc (.cells #[.bool s0, .slice A0 l0 c0, .slice B0 m0 k0] 33)).alloc (.cells #[.bool s1, .slice A1 l1 c1, .slice B1 m1 k1] 33)) = w1 at hXe kA kB ⊢
  have HX := Lib.hid hXe
  clear hXe
  have KA := Lib.hid kA
  clear kA
  have KB := Lib.hid kB
  clear kB
  refine (short_yes _ _ _ _ _ _ _ _ g0 g1).mono ?_
  rintro e w2 ⟨rfl, hX⟩
  replace HX := Lib.hid (HX.out.trans hX)
  replace KA := Lib.hid (KA.out.ext hX)
  replace KB := Lib.hid (KB.out.ext hX)
  clear hX
  have cA0 : w2.cell? ⟨w.heap.size, 0, none⟩ = some (.bool s0) := KA.out.cell 0
  have cA1 : w2.cell? ⟨w.heap.size, 1, none⟩ = some (.slice A0 l0 c0) := KA.out.cell 1
  have cA2 : w2.cell? ⟨w.heap.size, 2, none⟩ = some (.slice B0 m0 k0) := KA.out.cell 2
  have cB0 : w2.cell? ⟨(w.heap.size + 1), 0, none⟩ = some (.bool s1) := KB.out.cell 0
  have cB1 : w2.cell? ⟨(w.heap.size + 1), 1, none⟩ = some (.slice A1 l1 c1) := KB.out.cell 1
  have cB2 : w2.cell? ⟨(w.heap.size + 1), 2, none⟩ = some (.slice B1 m1 k1) := KB.out.cell 2
  go_wp2_with fail
  clear cA0 cA1 cA2 cB0 cB1 cB2
  refine (short_no1 _ _ _ _ _ _ _ _ h0 h1 hm).mono ?_
  rintro e w3 ⟨rfl, hX⟩
  replace HX := Lib.hid (HX.out.trans hX)
  replace KA := Lib.hid (KA.out.ext hX)
  replace KB := Lib.hid (KB.out.ext hX)
  clear hX
  have cA0 : w3.cell? ⟨w.heap.size, 0, none⟩ = some (.bool s0) := KA.out.cell 0
  have cA1 : w3.cell? ⟨w.heap.size, 1, none⟩ = some (.slice A0 l0 c0) := KA.out.cell 1
  have cA2 : w3.cell? ⟨w.heap.size, 2, none⟩ = some (.slice B0 m0 k0) := KA.out.cell 2
  have cB0 : w3.cell? ⟨(w.heap.size + 1), 0, none⟩ = some (.bool s1) := KB.out.cell 0
  have cB1 : w3.cell? ⟨(w.heap.size + 1), 1, none⟩ = some (.slice A1 l1 c1) := KB.out.cell 1
  have cB2 : w3.cell? ⟨(w.heap.size + 1), 2, none⟩ = some (.slice B1 m1 k1) := KB.out.cell 2
  go_wp2_with fail
  clear cA0 cA1 cA2 cB0 cB1 cB2
  refine (first_any _).mono ?_
  rintro e w4 ⟨rfl, hX⟩
  replace HX := Lib.hid (HX.out.trans hX)
  replace KA := Lib.hid (KA.out.ext hX)
  replace KB := Lib.hid (KB.out.ext hX)
  clear hX
  go_wp2
  go_ret
  exact ⟨rfl, HX.out⟩

set_option maxRecDepth 100000 in
set_option maxHeartbeats 2000000 in
theorem order_c (s0 s1 : Bool) (A0 B0 A1 B1 : Option Addr) (l0 c0 m0 k0 l1 c1 m1 k1 : Nat) (w : World) (g0 : l0 ≤ 60) (g1 : m0 ≤ 60) (g2 : l1 ≤ 60) (g3 : m1 ≤ 60) (h : 40 < l0 + l1 + m0 + m1) :
    Calls Try.prog 12 #[.agg #[.bool s0, .slice A0 l0 c0, .slice B0 m0 k0], .agg #[.bool s1, .slice A1 l1 c1, .slice B1 m1 k1]] w (fun e w' => e = .returned (.bool true) ∧ Ext w w') := by
  have hXe : Ext w ((w.alloc (.cells #[.bool s0, .slice A0 l0 c0, .slice B0 m0 k0] 33)).alloc (.cells #[.bool s1, .slice A1 l1 c1, .slice B1 m1 k1] 33)) := (((Ext.refl w).alloc _).alloc _)
  have kA : Blk ((w.alloc (.cells #[.bool s0, .slice A0 l0 c0, .slice B0 m0 k0] 33)).alloc (.cells #[.bool s1, .slice A1 l1 c1, .slice B1 m1 k1] 33)) w.heap.size 33 #[.bool s0, .slice A0 l0 c0, .slice B0 m0 k0] := Blk.alloc (Blk.at_ (by simp)) _
  have kB : Blk ((w.alloc (.cells #[.bool s0, .slice A0 l0 c0, .slice B0 m0 k0] 33)).alloc (.cells #[.bool s1, .slice A1 l1 c1, .slice B1 m1 k1] 33)) (w.heap.size + 1) 33 #[.bool s1, .slice A1 l1 c1, .slice B1 m1 k1] := Blk.at_ (by simp)
  go_enter Try.func12, Try.ntmps12
  go_wp2_with fail
  generalize ((w.alloc (.cells #[.bool s0, .slice A0 l0 c0, .slice B0 m0 k0] 33)).alloc (.cells #[.bool s1, .slice A1 l1 c1, .slice B1 m1 k1] 33)) = w1 at hXe kA kB ⊢
  have HX := Lib.hid hXe
  clear hXe
  have KA := Lib.hid kA
  clear kA
  have KB := Lib.hid kB
  clear kB
  refine (short_yes _ _ _ _ _ _ _ _ g0 g1).mono ?_
  rintro e w2 ⟨rfl, hX⟩
  replace HX := Lib.hid (HX.out.trans hX)
  replace KA := Lib.hid (KA.out.ext hX)
  replace KB := Lib.hid (KB.out.ext hX)
  clear hX
  have cA0 : w2.cell? ⟨w.heap.size, 0, none⟩ = some (.bool s0) := KA.out.cell 0
  have cA1 : w2.cell? ⟨w.heap.size, 1, none⟩ = some (.slice A0 l0 c0) := KA.out.cell 1
  have cA2 : w2.cell? ⟨w.heap.size, 2, none⟩ = some (.slice B0 m0 k0) := KA.out.cell 2
  have cB0 : w2.cell? ⟨(w.heap.size + 1), 0, none⟩ = some (.bool s1) := KB.out.cell 0
  have cB1 : w2.cell? ⟨(w.heap.size + 1), 1, none⟩ = some (.slice A1 l1 c1) := KB.out.cell 1
  have cB2 : w2.cell? ⟨(w.heap.size + 1), 2, none⟩ = some (.slice B1 m1 k1) := KB.out.cell 2
  go_wp2_with fail
  clear cA0 cA1 cA2 cB0 cB1 cB2
  refine (short_yes _ _ _ _ _ _ _ _ g2 g3).mono ?_
  rintro e w3 ⟨rfl, hX⟩
  replace HX := Lib.hid (HX.out.trans hX)
  replace KA := Lib.hid (KA.out.ext hX)
  replace KB := Lib.hid (KB.out.ext hX)
  clear hX
  have cA0 : w3.cell? ⟨w.heap.size, 0, none⟩ = some (.bool s0) := KA.out.cell 0
  have cA1 : w3.cell? ⟨w.heap.size, 1, none⟩ = some (.slice A0 l0 c0) := KA.out.cell 1
  have cA2 : w3.cell? ⟨w.heap.size, 2, none⟩ = some (.slice B0 m0 k0) := KA.out.cell 2
  have cB0 : w3.cell? ⟨(w.heap.size + 1), 0, none⟩ = some (.bool s1) := KB.out.cell 0
  have cB1 : w3.cell? ⟨(w.heap.size + 1), 1, none⟩ = some (.slice A1 l1 c1) := KB.out.cell 1
  have cB2 : w3.cell? ⟨(w.heap.size + 1), 2, none⟩ = some (.slice B1 m1 k1) := KB.out.cell 2
  go_wp2_with fail
  clear cA0 cA1 cA2 cB0 cB1 cB2
  refine (first_any _).mono ?_
  rintro e w4 ⟨rfl, hX⟩
  replace HX := Lib.hid (HX.out.trans hX)
  replace KA := Lib.hid (KA.out.ext hX)
  replace KB := Lib.hid (KB.out.ext hX)
  clear hX
  go_wp2
  go_ret
  exact ⟨rfl, HX.out⟩

set_option maxRecDepth 100000 in
set_option maxHeartbeats 2000000 in
theorem order_in (s0 s1 : Bool) (A0 B0 A1 B1 : Option Addr) (l0 c0 m0 k0 l1 c1 m1 k1 : Nat) (q r : Rat) (w : World) (g0 : l0 ≤ 60) (g1 : m0 ≤ 60) (g2 : l1 ≤ 60) (g3 : m1 ≤ 60) (h : l0 + l1 + m0 + m1 ≤ 40) (hx : RatG w (.agg #[.bool s0, .slice A0 l0 c0, .slice B0 m0 k0]) q) (hy : RatG w (.agg #[.bool s1, .slice A1 l1 c1, .slice B1 m1 k1]) r) (fq : FitQ q 41) (fr : FitQ r 41) :
    Calls Try.prog 12 #[.agg #[.bool s0, .slice A0 l0 c0, .slice B0 m0 k0], .agg #[.bool s1, .slice A1 l1 c1, .slice B1 m1 k1]] w (fun e w' => e = .returned (.bool true) ∧ Ext w w') := by
  have HX0 := Lib.hid hx
  have HY0 := Lib.hid hy
  have HF := Lib.hid (FitQW.of ((fitQ_sub fq fr).mono (by omega)))
  have HFL := Lib.hid (sgnQ_flip q r)
  obtain ⟨sb1, sb2⟩ := sgnQ_in (q - r)
  obtain ⟨sg, hsg⟩ : ∃ s, sgnQ (q - r) = s := ⟨_, rfl⟩
  rw [hsg] at sb1 sb2
  have HSG := Lib.hid hsg
  clear hx hy fq fr hsg
  have hXe : Ext w ((w.alloc (.cells #[.bool s0, .slice A0 l0 c0, .slice B0 m0 k0] 33)).alloc (.cells #[.bool s1, .slice A1 l1 c1, .slice B1 m1 k1] 33)) := (((Ext.refl w).alloc _).alloc _)
  have kA : Blk ((w.alloc (.cells #[.bool s0, .slice A0 l0 c0, .slice B0 m0 k0] 33)).alloc (.cells #[.bool s1, .slice A1 l1 c1, .slice B1 m1 k1] 33)) w.heap.size 33 #[.bool s0, .slice A0 l0 c0, .slice B0 m0 k0] := Blk.alloc (Blk.at_ (by simp)) _
  have kB : Blk ((w.alloc (.cells #[.bool s0, .slice A0 l0 c0, .slice B0 m0 k0] 33)).alloc (.cells #[.bool s1, .slice A1 l1 c1, .slice B1 m1 k1] 33)) (w.heap.size + 1) 33 #[.bool s1, .slice A1 l1 c1, .slice B1 m1 k1] := Blk.at_ (by simp)
  go_enter Try.func12, Try.ntmps12
  go_wp2_with fail
  generalize ((w.alloc (.cells #[.bool s0, .slice A0 l0 c0, .slice B0 m0 k0] 33)).alloc (.cells #[.bool s1, .slice A1 l1 c1, .slice B1 m1 k1] 33)) = w1 at hXe kA kB ⊢
  have HX := Lib.hid hXe
  clear hXe
  have KA := Lib.hid kA
  clear kA
  have KB := Lib.hid kB
  clear kB
  replace HX0 := Lib.hid (HX0.out.ext HX.out)
  replace HY0 := Lib.hid (HY0.out.ext HX.out)
  refine (short_yes _ _ _ _ _ _ _ _ g0 g1).mono ?_
  rintro e w2 ⟨rfl, hX⟩
  replace HX := Lib.hid (HX.out.trans hX)
  replace HX0 := Lib.hid (HX0.out.ext hX)
  replace HY0 := Lib.hid (HY0.out.ext hX)
  replace KA := Lib.hid (KA.out.ext hX)
  replace KB := Lib.hid (KB.out.ext hX)
  clear hX
  have cA0 : w2.cell? ⟨w.heap.size, 0, none⟩ = some (.bool s0) := KA.out.cell 0
  have cA1 : w2.cell? ⟨w.heap.size, 1, none⟩ = some (.slice A0 l0 c0) := KA.out.cell 1
  have cA2 : w2.cell? ⟨w.heap.size, 2, none⟩ = some (.slice B0 m0 k0) := KA.out.cell 2
  have cB0 : w2.cell? ⟨(w.heap.size + 1), 0, none⟩ = some (.bool s1) := KB.out.cell 0
  have cB1 : w2.cell? ⟨(w.heap.size + 1), 1, none⟩ = some (.slice A1 l1 c1) := KB.out.cell 1
  have cB2 : w2.cell? ⟨(w.heap.size + 1), 2, none⟩ = some (.slice B1 m1 k1) := KB.out.cell 2
  go_wp2_with fail
  clear cA0 cA1 cA2 cB0 cB1 cB2
  refine (short_yes _ _ _ _ _ _ _ _ g2 g3).mono ?_
  rintro e w3 ⟨rfl, hX⟩
  replace HX := Lib.hid (HX.out.trans hX)
  replace HX0 := Lib.hid (HX0.out.ext hX)
  replace HY0 := Lib.hid (HY0.out.ext hX)
  replace KA := Lib.hid (KA.out.ext hX)
  replace KB := Lib.hid (KB.out.ext hX)
  clear hX
  have cA0 : w3.cell? ⟨w.heap.size, 0, none⟩ = some (.bool s0) := KA.out.cell 0
  have cA1 : w3.cell? ⟨w.heap.size, 1, none⟩ = some (.slice A0 l0 c0) := KA.out.cell 1
  have cA2 : w3.cell? ⟨w.heap.size, 2, none⟩ = some (.slice B0 m0 k0) := KA.out.cell 2
  have cB0 : w3.cell? ⟨(w.heap.size + 1), 0, none⟩ = some (.bool s1) := KB.out.cell 0
  have cB1 : w3.cell? ⟨(w.heap.size + 1), 1, none⟩ = some (.slice A1 l1 c1) := KB.out.cell 1
  have cB2 : w3.cell? ⟨(w.heap.size + 1), 2, none⟩ = some (.slice B1 m1 k1) := KB.out.cell 2
  go_wp2_with fail
  clear cA0 cA1 cA2 cB0 cB1 cB2
  refine (cmpG HX0.out HY0.out).mono ?_
  rw [HSG.out]
  rintro e w4 ⟨rfl, hX⟩
  replace HX := Lib.hid (HX.out.trans hX)
  replace HX0 := Lib.hid (HX0.out.ext hX)
  replace HY0 := Lib.hid (HY0.out.ext hX)
  replace KA := Lib.hid (KA.out.ext hX)
  replace KB := Lib.hid (KB.out.ext hX)
  clear hX
  have cA0 : w4.cell? ⟨w.heap.size, 0, none⟩ = some (.bool s0) := KA.out.cell 0
  have cA1 : w4.cell? ⟨w.heap.size, 1, none⟩ = some (.slice A0 l0 c0) := KA.out.cell 1
  have cA2 : w4.cell? ⟨w.heap.size, 2, none⟩ = some (.slice B0 m0 k0) := KA.out.cell 2
  have cB0 : w4.cell? ⟨(w.heap.size + 1), 0, none⟩ = some (.bool s1) := KB.out.cell 0
  have cB1 : w4.cell? ⟨(w.heap.size + 1), 1, none⟩ = some (.slice A1 l1 c1) := KB.out.cell 1
  have cB2 : w4.cell? ⟨(w.heap.size + 1), 2, none⟩ = some (.slice B1 m1 k1) := KB.out.cell 2
  go_wp2_with fail
  clear cA0 cA1 cA2 cB0 cB1 cB2
  refine (cmpG HY0.out HX0.out).mono ?_
  rw [HFL.out, HSG.out]
  rintro e w5 ⟨rfl, hX⟩
  replace HX := Lib.hid (HX.out.trans hX)
  replace HX0 := Lib.hid (HX0.out.ext hX)
  replace HY0 := Lib.hid (HY0.out.ext hX)
  replace KA := Lib.hid (KA.out.ext hX)
  replace KB := Lib.hid (KB.out.ext hX)
  clear hX
  have cA0 : w5.cell? ⟨w.heap.size, 0, none⟩ = some (.bool s0) := KA.out.cell 0
  have cA1 : w5.cell? ⟨w.heap.size, 1, none⟩ = some (.slice A0 l0 c0) := KA.out.cell 1
  have cA2 : w5.cell? ⟨w.heap.size, 2, none⟩ = some (.slice B0 m0 k0) := KA.out.cell 2
  have cB0 : w5.cell? ⟨(w.heap.size + 1), 0, none⟩ = some (.bool s1) := KB.out.cell 0
  have cB1 : w5.cell? ⟨(w.heap.size + 1), 1, none⟩ = some (.slice A1 l1 c1) := KB.out.cell 1
  have cB2 : w5.cell? ⟨(w.heap.size + 1), 2, none⟩ = some (.slice B1 m1 k1) := KB.out.cell 2
  go_wp2_with fail
  clear cA0 cA1 cA2 cB0 cB1 cB2
  refine (esub_ok s0 s1 A0 B0 A1 B1 l0 c0 m0 k0 l1 c1 m1 k1 q r _ HX0.out HY0.out HF.out).mono ?_
  rintro e w6 ⟨vm, rfl, hm, hX⟩
  replace HX := Lib.hid (HX.out.trans hX)
  replace HX0 := Lib.hid (HX0.out.ext hX)
  replace HY0 := Lib.hid (HY0.out.ext hX)
  replace KA := Lib.hid (KA.out.ext hX)
  replace KB := Lib.hid (KB.out.ext hX)
  clear hX
  obtain ⟨s2, A2, l2, c2, B2, m2, k2, rfl⟩ := hm.open
  have HM := Lib.hid (hm.good HF.out)
  clear hm
  go_upto_region 6 with (fail)
  have hXa : Ext w6 (w6.alloc (.cells #[.bool s2, .slice A2 l2 c2, .slice B2 m2 k2] 33)) := (Ext.refl _).alloc _
  have kM := Blk.new w6 33 #[.bool s2, .slice A2 l2 c2, .slice B2 m2 k2]
  have zA := KA.out.lt
  have zB := KB.out.lt
  have zg := HX.out.size
  replace HX := Lib.hid (HX.out.trans hXa)
  replace HX0 := Lib.hid (HX0.out.ext hXa)
  replace HY0 := Lib.hid (HY0.out.ext hXa)
  replace HM := Lib.hid (HM.out.ext hXa)
  replace KA := Lib.hid (KA.out.ext hXa)
  replace KB := Lib.hid (KB.out.ext hXa)
  generalize (w6.alloc (.cells #[.bool s2, .slice A2 l2 c2, .slice B2 m2 k2] 33)) = w7 at HX HX0 HY0 HM KA KB kM ⊢
  have KM := Lib.hid kM
  clear kM hXa
  have cA0 : w7.cell? ⟨w.heap.size, 0, none⟩ = some (.bool s0) := KA.out.cell 0
  have cA1 : w7.cell? ⟨w.heap.size, 1, none⟩ = some (.slice A0 l0 c0) := KA.out.cell 1
  have cA2 : w7.cell? ⟨w.heap.size, 2, none⟩ = some (.slice B0 m0 k0) := KA.out.cell 2
  have cB0 : w7.cell? ⟨(w.heap.size + 1), 0, none⟩ = some (.bool s1) := KB.out.cell 0
  have cB1 : w7.cell? ⟨(w.heap.size + 1), 1, none⟩ = some (.slice A1 l1 c1) := KB.out.cell 1
  have cB2 : w7.cell? ⟨(w.heap.size + 1), 2, none⟩ = some (.slice B1 m1 k1) := KB.out.cell 2
  have cM0 : w7.cell? ⟨w6.heap.size, 0, none⟩ = some (.bool s2) := KM.out.cell 0
  have cM1 : w7.cell? ⟨w6.heap.size, 1, none⟩ = some (.slice A2 l2 c2) := KM.out.cell 1
  have cM2 : w7.cell? ⟨w6.heap.size, 2, none⟩ = some (.slice B2 m2 k2) := KM.out.cell 2
  go_wp2_with fail
  clear cA0 cA1 cA2 cB0 cB1 cB2 cM0 cM1 cM2
  refine (signG HM.out).mono ?_
  rw [HSG.out]
  rintro e w8 ⟨rfl, hX⟩
  replace HX := Lib.hid (HX.out.trans hX)
  replace HX0 := Lib.hid (HX0.out.ext hX)
  replace HY0 := Lib.hid (HY0.out.ext hX)
  replace HM := Lib.hid (HM.out.ext hX)
  replace KA := Lib.hid (KA.out.ext hX)
  replace KB := Lib.hid (KB.out.ext hX)
  replace KM := Lib.hid (KM.out.ext hX)
  clear hX
  have cA0 : w8.cell? ⟨w.heap.size, 0, none⟩ = some (.bool s0) := KA.out.cell 0
  have cA1 : w8.cell? ⟨w.heap.size, 1, none⟩ = some (.slice A0 l0 c0) := KA.out.cell 1
  have cA2 : w8.cell? ⟨w.heap.size, 2, none⟩ = some (.slice B0 m0 k0) := KA.out.cell 2
  have cB0 : w8.cell? ⟨(w.heap.size + 1), 0, none⟩ = some (.bool s1) := KB.out.cell 0
  have cB1 : w8.cell? ⟨(w.heap.size + 1), 1, none⟩ = some (.slice A1 l1 c1) := KB.out.cell 1
  have cB2 : w8.cell? ⟨(w.heap.size + 1), 2, none⟩ = some (.slice B1 m1 k1) := KB.out.cell 2
  have cM0 : w8.cell? ⟨w6.heap.size, 0, none⟩ = some (.bool s2) := KM.out.cell 0
  have cM1 : w8.cell? ⟨w6.heap.size, 1, none⟩ = some (.slice A2 l2 c2) := KM.out.cell 1
  have cM2 : w8.cell? ⟨w6.heap.size, 2, none⟩ = some (.slice B2 m2 k2) := KM.out.cell 2
  go_wp2_with fail
  clear cA0 cA1 cA2 cB0 cB1 cB2 cM0 cM1 cM2
  refine (floorS HX0.out).mono ?_
  rintro e w9 ⟨lo, e1, rfl, HLO, hX⟩
  replace HX := Lib.hid (HX.out.trans hX)
  replace HX0 := Lib.hid (HX0.out.ext hX)
  replace HY0 := Lib.hid (HY0.out.ext hX)
  replace HM := Lib.hid (HM.out.ext hX)
  replace KA := Lib.hid (KA.out.ext hX)
  replace KB := Lib.hid (KB.out.ext hX)
  replace KM := Lib.hid (KM.out.ext hX)
  clear hX
  have cA0 : w9.cell? ⟨w.heap.size, 0, none⟩ = some (.bool s0) := KA.out.cell 0
  have cA1 : w9.cell? ⟨w.heap.size, 1, none⟩ = some (.slice A0 l0 c0) := KA.out.cell 1
  have cA2 : w9.cell? ⟨w.heap.size, 2, none⟩ = some (.slice B0 m0 k0) := KA.out.cell 2
  have cB0 : w9.cell? ⟨(w.heap.size + 1), 0, none⟩ = some (.bool s1) := KB.out.cell 0
  have cB1 : w9.cell? ⟨(w.heap.size + 1), 1, none⟩ = some (.slice A1 l1 c1) := KB.out.cell 1
  have cB2 : w9.cell? ⟨(w.heap.size + 1), 2, none⟩ = some (.slice B1 m1 k1) := KB.out.cell 2
  have cM0 : w9.cell? ⟨w6.heap.size, 0, none⟩ = some (.bool s2) := KM.out.cell 0
  have cM1 : w9.cell? ⟨w6.heap.size, 1, none⟩ = some (.slice A2 l2 c2) := KM.out.cell 1
  have cM2 : w9.cell? ⟨w6.heap.size, 2, none⟩ = some (.slice B2 m2 k2) := KM.out.cell 2
  go_wp2_with fail
  clear cA0 cA1 cA2 cB0 cB1 cB2 cM0 cM1 cM2
  refine (ceilS HX0.out).mono ?_
  rintro e w10 ⟨hi, e2, rfl, HHI, hX⟩
  replace HX := Lib.hid (HX.out.trans hX)
  replace HX0 := Lib.hid (HX0.out.ext hX)
  replace HY0 := Lib.hid (HY0.out.ext hX)
  replace HM := Lib.hid (HM.out.ext hX)
  replace KA := Lib.hid (KA.out.ext hX)
  replace KB := Lib.hid (KB.out.ext hX)
  replace KM := Lib.hid (KM.out.ext hX)
  clear hX
  have cA0 : w10.cell? ⟨w.heap.size, 0, none⟩ = some (.bool s0) := KA.out.cell 0
  have cA1 : w10.cell? ⟨w.heap.size, 1, none⟩ = some (.slice A0 l0 c0) := KA.out.cell 1
  have cA2 : w10.cell? ⟨w.heap.size, 2, none⟩ = some (.slice B0 m0 k0) := KA.out.cell 2
  have cB0 : w10.cell? ⟨(w.heap.size + 1), 0, none⟩ = some (.bool s1) := KB.out.cell 0
  have cB1 : w10.cell? ⟨(w.heap.size + 1), 1, none⟩ = some (.slice A1 l1 c1) := KB.out.cell 1
  have cB2 : w10.cell? ⟨(w.heap.size + 1), 2, none⟩ = some (.slice B1 m1 k1) := KB.out.cell 2
  have cM0 : w10.cell? ⟨w6.heap.size, 0, none⟩ = some (.bool s2) := KM.out.cell 0
  have cM1 : w10.cell? ⟨w6.heap.size, 1, none⟩ = some (.slice A2 l2 c2) := KM.out.cell 1
  have cM2 : w10.cell? ⟨w6.heap.size, 2, none⟩ = some (.slice B2 m2 k2) := KM.out.cell 2
  by_cases he1 : e1 = 0
  · by_cases he2 : e2 = 0
    · obtain ⟨h1, h2⟩ := HLO.out he1
      obtain ⟨h3, h4⟩ := HHI.out he2
      subst he1 he2
      obtain ⟨n1, n2, n3⟩ := near q
      rw [← h3] at n1 n3
      rw [← h1] at n2 n3
      rw [← h1] at h2
      rw [← h3] at h4
      obtain ⟨i1, i2⟩ := h2
      obtain ⟨i3, i4⟩ := h4
      obtain ⟨lp, hlp⟩ : ∃ z, lo + 1 = z := ⟨_, rfl⟩
      rw [hlp] at n2
      have hlp0 : -9223372036854775808 ≤ lp := by omega
      have hlp1 : lp ≤ 9223372036854775807 := by omega
      have HLP := Lib.hid hlp
      clear hlp
      clear HLO HHI h1 h3
      go_upto_region 13 with (fail)
      clear cA0 cA1 cA2 cB0 cB1 cB2 cM0 cM1 cM2
      refine order_r13 w.heap.size s0 A0 B0 l0 c0 m0 k0 q lo w10 (KA.out.cell 0) (KA.out.cell 1) (KA.out.cell 2) HX0.out (by omega) (by omega) _ _ (by simp) rfl rfl ?_
      rintro xv0 xv1 xv2 xv3 xv4 xv5 xv6 xv7 xv8 w11 rfl _ rfl rfl rfl rfl rfl rfl rfl hXW
      simp only [rops, Try.f12, regOf, Option.bind_some, Nat.reduceBEq, if_true, if_false, Bool.false_eq_true, Option.getD_some, List.drop_succ_cons, List.drop_zero]
      simp only [Act.put, List.setIfInBounds_toArray, List.set_cons_succ, List.set_cons_zero]
      replace HX := Lib.hid (HX.out.trans hXW)
      replace HX0 := Lib.hid (HX0.out.ext hXW)
      replace HY0 := Lib.hid (HY0.out.ext hXW)
      replace HM := Lib.hid (HM.out.ext hXW)
      replace KA := Lib.hid (KA.out.ext hXW)
      replace KB := Lib.hid (KB.out.ext hXW)
      replace KM := Lib.hid (KM.out.ext hXW)
      clear hXW
      go_upto_region 14 with (fail)
      refine order_r14 w.heap.size s0 A0 B0 l0 c0 m0 k0 q hi w11 (KA.out.cell 0) (KA.out.cell 1) (KA.out.cell 2) HX0.out (by omega) (by omega) _ _ (by simp) rfl rfl ?_
      rintro xv0 xv1 xv2 xv3 xv4 xv5 xv6 xv7 xv8 w12 rfl _ rfl rfl rfl rfl rfl rfl rfl hXW
      simp only [rops, Try.f12, regOf, Option.bind_some, Nat.reduceBEq, if_true, if_false, Bool.false_eq_true, Option.getD_some, List.drop_succ_cons, List.drop_zero]
      simp only [Act.put, List.setIfInBounds_toArray, List.set_cons_succ, List.set_cons_zero]
      replace HX := Lib.hid (HX.out.trans hXW)
      replace HX0 := Lib.hid (HX0.out.ext hXW)
      replace HY0 := Lib.hid (HY0.out.ext hXW)
      replace HM := Lib.hid (HM.out.ext hXW)
      replace KA := Lib.hid (KA.out.ext hXW)
      replace KB := Lib.hid (KB.out.ext hXW)
      replace KM := Lib.hid (KM.out.ext hXW)
      clear hXW
      go_upto_region 15 with (fail)
      refine order_r15 w.heap.size s0 A0 B0 l0 c0 m0 k0 q lo lp w12 (KA.out.cell 0) (KA.out.cell 1) (KA.out.cell 2) HX0.out hlp0 hlp1 HLP _ _ (by simp) rfl rfl ?_
      rintro xv0 xv1 xv2 xv3 xv4 xv5 xv6 xv7 xv8 xv9 w13 rfl rfl _ rfl rfl rfl rfl rfl rfl rfl hXW
      simp only [rops, Try.f12, regOf, Option.bind_some, Nat.reduceBEq, if_true, if_false, Bool.false_eq_true, Option.getD_some, List.drop_succ_cons, List.drop_zero]
      simp only [Act.put, List.setIfInBounds_toArray, List.set_cons_succ, List.set_cons_zero]
      replace HX := Lib.hid (HX.out.trans hXW)
      replace HX0 := Lib.hid (HX0.out.ext hXW)
      replace HY0 := Lib.hid (HY0.out.ext hXW)
      replace HM := Lib.hid (HM.out.ext hXW)
      replace KA := Lib.hid (KA.out.ext hXW)
      replace KB := Lib.hid (KB.out.ext hXW)
      replace KM := Lib.hid (KM.out.ext hXW)
      clear hXW
      rw [n2]
      generalize sgnQ (((lo : Int) : Rat) - q) = sa at n3 ⊢
      generalize sgnQ (((hi : Int) : Rat) - q) = sb at n1 ⊢
      clear n2
      have n1' : ¬ sb < 0 := by omega
      rcases n3 with ⟨rfl, rfl⟩ | ⟨rfl, rfl⟩
      · go_wp2_with fail
        refine (first_any _).mono ?_
        rintro e w14 ⟨rfl, hX⟩
        replace HX := Lib.hid (HX.out.trans hX)
        replace HX0 := Lib.hid (HX0.out.ext hX)
        replace HY0 := Lib.hid (HY0.out.ext hX)
        replace HM := Lib.hid (HM.out.ext hX)
        replace KA := Lib.hid (KA.out.ext hX)
        replace KB := Lib.hid (KB.out.ext hX)
        replace KM := Lib.hid (KM.out.ext hX)
        clear hX
        go_wp2
        go_ret
        exact ⟨rfl, HX.out⟩
      · go_wp2_with fail
        refine (first_any _).mono ?_
        rintro e w14 ⟨rfl, hX⟩
        replace HX := Lib.hid (HX.out.trans hX)
        replace HX0 := Lib.hid (HX0.out.ext hX)
        replace HY0 := Lib.hid (HY0.out.ext hX)
        replace HM := Lib.hid (HM.out.ext hX)
        replace KA := Lib.hid (KA.out.ext hX)
        replace KB := Lib.hid (KB.out.ext hX)
        replace KM := Lib.hid (KM.out.ext hX)
        clear hX
        go_wp2
        go_ret
        exact ⟨rfl, HX.out⟩
    · have hb : (e2 != 0) = true := by simpa using he2
      subst he1
      clear HLO HHI he2
      go_wp2_with fail
      clear cA0 cA1 cA2 cB0 cB1 cB2 cM0 cM1 cM2
      refine (first_any _).mono ?_
      rintro e w11 ⟨rfl, hX⟩
      replace HX := Lib.hid (HX.out.trans hX)
      replace HX0 := Lib.hid (HX0.out.ext hX)
      replace HY0 := Lib.hid (HY0.out.ext hX)
      replace HM := Lib.hid (HM.out.ext hX)
      replace KA := Lib.hid (KA.out.ext hX)
      replace KB := Lib.hid (KB.out.ext hX)
      replace KM := Lib.hid (KM.out.ext hX)
      clear hX
      go_wp2
      go_ret
      exact ⟨rfl, HX.out⟩
  · have hb : (e1 != 0) = true := by simpa using he1
    clear HLO HHI he1
    go_wp2_with fail
    clear cA0 cA1 cA2 cB0 cB1 cB2 cM0 cM1 cM2
    refine (first_any _).mono ?_
    rintro e w11 ⟨rfl, hX⟩
    replace HX := Lib.hid (HX.out.trans hX)
    replace HX0 := Lib.hid (HX0.out.ext hX)
    replace HY0 := Lib.hid (HY0.out.ext hX)
    replace HM := Lib.hid (HM.out.ext hX)
    replace KA := Lib.hid (KA.out.ext hX)
    replace KB := Lib.hid (KB.out.ext hX)
    replace KM := Lib.hid (KM.out.ext hX)
    clear hX
    go_wp2
    go_ret
    exact ⟨rfl, HX.out⟩

theorem exactOrder_walk (vx : Value) (f : Bool × List Int × List Int) (vy : Value) (g : Bool × List Int × List Int) (w : World) (hx : RatV_ w vx f) (hy : RatV_ w vy g) :
    Calls Try.prog 12 #[vx, vy] w fun e w' => e = .returned (.bool true) ∧ Ext w w' := by
  obtain ⟨s0, xs0, ys0⟩ := f
  obtain ⟨s1, xs1, ys1⟩ := g
  obtain ⟨A0, l0, c0, B0, m0, k0, rfl, ⟨hA0, hl0, hc0⟩, ⟨hB0, hm0, hk0⟩⟩ := hx
  obtain ⟨A1, l1, c1, B1, m1, k1, rfl, ⟨hA1, hl1, hc1⟩, ⟨hB1, hm1, hk1⟩⟩ := hy
  simp only at *
  by_cases h0 : l0 ≤ 60
  · by_cases h1 : m0 ≤ 60
    · by_cases h2 : l1 ≤ 60
      · by_cases h3 : m1 ≤ 60
        · by_cases h4 : l0 + l1 + m0 + m1 ≤ 40
          · have e1 := hA0.1
            have e2 := hB0.1
            have e3 := hA1.1
            have e4 := hB1.1
            obtain ⟨gx, fx⟩ := ratG_short (L := 41) ⟨A0, l0, c0, B0, m0, k0, rfl, hA0, hl0, hc0, hB0, hm0, hk0⟩ (by omega) (by omega) (by omega) (by omega)
            obtain ⟨gy, fy⟩ := ratG_short (L := 41) ⟨A1, l1, c1, B1, m1, k1, rfl, hA1, hl1, hc1, hB1, hm1, hk1⟩ (by omega) (by omega) (by omega) (by omega)
            exact order_in s0 s1 A0 B0 A1 B1 l0 c0 m0 k0 l1 c1 m1 k1 _ _ w h0 h1 h2 h3 h4 gx gy fx fy
          · exact order_c s0 s1 A0 B0 A1 B1 l0 c0 m0 k0 l1 c1 m1 k1 w h0 h1 h2 h3 (by omega)
        · exact order_b1 s0 s1 A0 B0 A1 B1 l0 c0 m0 k0 l1 c1 m1 k1 w h0 h1 h2 (by omega) (by omega)
      · exact order_b0 s0 s1 A0 B0 A1 B1 l0 c0 m0 k0 l1 c1 m1 k1 w h0 h1 (by omega) (by omega)
    · exact order_a1 s0 s1 A0 B0 A1 B1 l0 c0 m0 k0 l1 c1 m1 k1 w h0 (by omega) (by omega)
  · exact order_a0 s0 s1 A0 B0 A1 B1 l0 c0 m0 k0 l1 c1 m1 k1 w (by omega) (by omega)
end Go.Proofs.Yteoijnaljkagfaa
