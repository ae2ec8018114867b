/- Lemmas of the proof that follows (Covers, part 10): walks of functions by contract, and plain lemmas. Conditions: none. -/
import Derived.Test.YteoijnaljkagfaaCoversI
namespace Go.Proofs.Yteoijnaljkagfaa
open Go.RowKit

/-- A result of the program, with its error. -/
def ResX (w : World) (v : Value) (er : Int) (q : Rat) : Prop := (er = 0 ∧ RatC w v q ∧ FitQW q) ∨ (er ≠ 0 ∧ v = zeroR)
theorem ResX.ext {w w' : World} {v : Value} {er : Int} {q : Rat} (h : ResX w v er q) (he : Ext w w') : ResX w' v er q := by
  rcases h with ⟨h1, h2, h3⟩ | h
  · exact .inl ⟨h1, h2.ext he, h3⟩
  · exact .inr h
theorem ResX.open {w : World} {v : Value} {er : Int} {q : Rat} (h : ResX w v er q) : ∃ s A l c B m k, v = .agg #[.bool s, .slice A l c, .slice B m k] := by
  rcases h with ⟨_, h, _⟩ | ⟨_, rfl⟩
  · exact h.open
  · exact ⟨_, _, _, _, _, _, _, rfl⟩
/-- A result of the reference, with its error. -/
def ResQ (w : World) (v : Value) (er : Int) (q : Rat) : Prop := ∃ s A l c B m k, v = .agg #[.bool s, .slice A l c, .slice B m k] ∧ (er = 0 → QZ w v q)
theorem ResQ.ext {w w' : World} {v : Value} {er : Int} {q : Rat} (h : ResQ w v er q) (he : Ext w w') : ResQ w' v er q := by
  obtain ⟨s, A, l, c, B, m, k, h1, h2⟩ := h
  exact ⟨s, A, l, c, B, m, k, h1, fun h => (h2 h).ext he⟩
theorem ResQ.open {w : World} {v : Value} {er : Int} {q : Rat} (h : ResQ w v er q) : ∃ s A l c B m k, v = .agg #[.bool s, .slice A l c, .slice B m k] := by
  obtain ⟨s, A, l, c, B, m, k, h1, h2⟩ := h
  exact ⟨s, A, l, c, B, m, k, h1⟩
section
variable {w : World} {va vb : Value} {q r : Rat} {er : Int}
theorem fitR_512 (h : FitQ q 256) : FitR q 512 := by
  have h2 := fitR_double h
  rw [show 2 * 256 = 512 from rfl] at h2
  exact h2
end

end Go.Proofs.Yteoijnaljkagfaa
namespace Go.Proofs.Yteoijnaljkagfaa
open Go.RowKit

/-- A span is valid. -/
def okS (lo hi : Int) : Bool := decide (-1152921504606846976 ≤ lo ∧ lo ≤ hi ∧ hi ≤ 1152921504606846976)
theorem okS_cases (lo hi : Int) : (okS lo hi = true ∧ -1152921504606846976 ≤ lo ∧ lo ≤ hi ∧ hi ≤ 1152921504606846976) ∨ (okS lo hi = false ∧ (lo < -1152921504606846976 ∨ (-1152921504606846976 ≤ lo ∧ hi < lo) ∨ (-1152921504606846976 ≤ lo ∧ lo ≤ hi ∧ 1152921504606846976 < hi))) := by
  by_cases hb : okS lo hi = true
  · have hb' := hb
    simp only [okS, decide_eq_true_eq] at hb'
    exact .inl ⟨hb, hb'⟩
  · refine .inr ⟨by simpa using hb, ?_⟩
    simp only [okS, decide_eq_true_eq] at hb; omega
theorem okS_in {lo hi : Int} (h : okS lo hi = true) : -1152921504606846976 ≤ lo ∧ lo ≤ hi ∧ hi ≤ 1152921504606846976 := by simpa [okS] using h

set_option maxHeartbeats 1000000 in
theorem valid_any (x y : Int) (w : World) : Calls Try.prog 52 #[.agg #[.int .i64 x, .int .i64 y]] w fun e w' => e = .returned (.bool (okS x y)) ∧ Ext w w' := by
  have HX := Lib.hid ((Ext.refl w).alloc (.cells #[.int .i64 x, .int .i64 y] 62))
  rcases okS_cases x y with ⟨hb, b1, b2, b3⟩ | ⟨hb, b1 | ⟨b1, b2⟩ | ⟨b1, b2, b3⟩⟩
  all_goals
    rw [hb]
    clear hb
    go_enter Try.func52, Try.ntmps52
    go_wp2
    go_ret
    refine ⟨?_, HX.out⟩
    first
    | rfl
    | (show Ending.returned (.bool (decide (y ≤ 1152921504606846976))) = Ending.returned (.bool false); rw [decide_eq_false (by omega)])
set_option maxHeartbeats 1000000 in
theorem span_ok (lo hi : Int) (w : World) (h0 : -1152921504606846976 ≤ lo) (h1 : hi ≤ 1152921504606846976) : Calls Try.prog 96 #[.int .i64 lo, .int .i64 hi] w (RetE w (.agg #[.int .i64 lo, .int .i64 hi]) 0) := by
  have HX := Lib.hid ((Ext.refl w).alloc (.cells #[.int .i64 lo, .int .i64 hi] 62))
  go_enter Try.func96, Try.ntmps96
  go_wp2
  refine bodyPost_ret (v := .tuple #[.agg #[.int .i64 lo, .int .i64 hi], .int .i64 0]) (by simp [results, Try.results96, go_sem, *]) rfl ?_
  exact ⟨rfl, HX.out⟩
end Go.Proofs.Yteoijnaljkagfaa
namespace Go.Proofs.Yteoijnaljkagfaa
open Go.RowKit

theorem down_facts {a n : Int} (hn : 1 ≤ n) (ha : a < 0) : (a.tmod n = 0 ∧ a.tdiv n = a / n) ∨ (a.tmod n < 0 ∧ a.tdiv n = a / n + 1) := by
  have h1 := Int.tdiv_eq_ediv (a := a) (b := n)
  have h2 := Int.tmod_eq_emod (a := a) (b := n)
  by_cases hd : n ∣ a
  · left
    rw [if_pos (.inr hd)] at h1 h2
    have := Int.emod_eq_zero_of_dvd hd
    omega
  · right
    have hne : ¬ (0 ≤ a ∨ n ∣ a) := fun h => by rcases h with h | h; omega; exact hd h
    rw [if_neg hne] at h1 h2
    have h3 := Int.emod_lt_of_pos a (show 0 < n by omega)
    have h4 : n.sign = 1 := Int.sign_eq_one_of_pos (by omega)
    omega
theorem div_in {a n lo hi : Int} (hn : 1 ≤ n) (h0 : lo ≤ 0) (h1 : 0 ≤ hi) (ha : lo ≤ a) (hb : a ≤ hi) : lo ≤ a / n ∧ a / n ≤ hi := by
  constructor
  · rw [Int.le_ediv_iff_mul_le (by omega)]
    have : lo * n ≤ lo * 1 := Int.mul_le_mul_of_nonpos_left h0 hn
    omega
  · by_cases h : 0 ≤ a
    · have := Int.ediv_le_self n h
      omega
    · have : a / n < 0 := Int.ediv_neg_of_neg_of_pos (by omega) (by omega)
      omega

set_option maxHeartbeats 1000000 in
theorem down_any (a n : Int) (w : World) (a0 : -1152921504606846976 ≤ a) (a1 : a ≤ 1152921504606846976) (hn : 1 ≤ n) (hn2 : n ≤ 9223372036854775807) :
    Calls Try.prog 104 #[.int .i64 a, .int .i64 n] w fun e w' => e = .returned (.int .i64 (a / n)) ∧ w = w' := by
  obtain ⟨d0, d1⟩ := div_in hn (show -1152921504606846976 ≤ (0 : Int) by omega) (show (0 : Int) ≤ 1152921504606846976 by omega) a0 a1
  have hnz : (n == 0) = false := by simp; omega
  by_cases h : 0 ≤ a
  · have hm := Int.emod_nonneg a (show n ≠ 0 by omega)
    have hm2 := Int.emod_lt_of_pos a (show 0 < n by omega)
    have e1 : a.tdiv n = a / n := Int.tdiv_eq_ediv_of_nonneg h
    have e2 : a.tmod n = a % n := Int.tmod_eq_emod_of_nonneg h
    have HD : Hid (a.tdiv n = a / n) := e1
    clear e1 e2 HD
    go_enter Try.func104, Try.ntmps104
    go_wp2
    go_ret
    exact ⟨rfl, rfl⟩
  · have hneg : a < 0 := by omega
    rcases down_facts hn hneg with ⟨e1, e2⟩ | ⟨e1, e2⟩
    · rw [← e2] at d0 d1 ⊢
      have HE := Lib.hid e2
      clear e2
      go_enter Try.func104, Try.ntmps104
      go_wp2
      go_ret
      exact ⟨rfl, rfl⟩
    · have e3 : a / n = a.tdiv n - 1 := by omega
      rw [e3] at d0 d1 ⊢
      clear e2 e3
      have d2 : -9223372036854775808 ≤ a.tdiv n - 1 := by omega
      go_enter Try.func104, Try.ntmps104
      go_wp2
      go_ret
      exact ⟨rfl, rfl⟩

set_option maxRecDepth 100000 in
set_option maxHeartbeats 2000000 in
theorem over_r3 (ga : Nat) (x y n : Int) (w : World) (x0 : w.cell? ⟨ga, 0, none⟩ = some (.int .i64 x)) (x1 : w.cell? ⟨ga, 1, none⟩ = some (.int .i64 y)) (a0 : -1152921504606846976 ≤ x) (a1 : x ≤ y) (a2 : y ≤ 1152921504606846976) (hn : 1 ≤ n) (hn2 : n ≤ 9223372036854775807) (h0 : -1152921504606846976 ≤ x / n) (h1 : -((-y) / n) ≤ 1152921504606846976) (a : Act) (Q : Exit → Act → World → Prop) (hsize : 27 ≤ a.tmps.size)
    (s1 : a.tmps[1]? = some (.int .i64 n))
    (s2 : a.tmps[2]? = some (.pointer (some ⟨ga, 0, none⟩)))
    (hend : ∀ (xv0 xv1 xv2 xv3 xv4 xv5 xv6 xv7 xv8 xv9 xv10 xv11 xv12 : Value) (W : World), (xv0 = .pointer (some ⟨ga, 0, none⟩)) → (xv1 = .int .i64 x) → (xv2 = .int .i64 n) → (xv3 = .int .i64 (x / n)) → (xv4 = .pointer (some ⟨ga, 1, none⟩)) → (xv5 = .int .i64 y) → (xv6 = .int .i64 (-y)) → (xv7 = .int .i64 n) → (xv8 = .int .i64 ((-y) / n)) → (xv9 = .int .i64 (-((-y) / n))) → (xv10 = .tuple #[.agg #[.int .i64 (x / n), .int .i64 (-((-y) / n))], .int .i64 0]) → (xv11 = .agg #[.int .i64 (x / n), .int .i64 (-((-y) / n))]) → (xv12 = .int .i64 0) → Ext w W → wpList Try.prog (rops Try.f57 3).toArray Q ((rops Try.f57 3).drop 13) (((((((((((((a.put (some 14) xv0).put (some 15) xv1).put (some 16) xv2).put (some 17) xv3).put (some 18) xv4).put (some 19) xv5).put (some 20) xv6).put (some 21) xv7).put (some 22) xv8).put (some 23) xv9).put (some 24) xv10).put (some 25) xv11).put (some 26) xv12) W) :
    (Code.region 3 (rops Try.f57 3).toArray true).wp Try.prog Q a w := by
  have hmono : ∀ (W W' : World) (j : Nat) (u : Value), Ext W W' → (fun (i : Nat) (v : Value) (W : World) => match i with
    | 0 => v = .pointer (some ⟨ga, 0, none⟩)
    | 1 => v = .int .i64 x
    | 2 => v = .int .i64 n
    | 3 => v = .int .i64 (x / n)
    | 4 => v = .pointer (some ⟨ga, 1, none⟩)
    | 5 => v = .int .i64 y
    | 6 => v = .int .i64 (-y)
    | 7 => v = .int .i64 n
    | 8 => v = .int .i64 ((-y) / n)
    | 9 => v = .int .i64 (-((-y) / n))
    | 10 => v = .tuple #[.agg #[.int .i64 (x / n), .int .i64 (-((-y) / n))], .int .i64 0]
    | 11 => v = .agg #[.int .i64 (x / n), .int .i64 (-((-y) / n))]
    | 12 => v = .int .i64 0
    | _ => True) j u W → (fun (i : Nat) (v : Value) (W : World) => match i with
    | 0 => v = .pointer (some ⟨ga, 0, none⟩)
    | 1 => v = .int .i64 x
    | 2 => v = .int .i64 n
    | 3 => v = .int .i64 (x / n)
    | 4 => v = .pointer (some ⟨ga, 1, none⟩)
    | 5 => v = .int .i64 y
    | 6 => v = .int .i64 (-y)
    | 7 => v = .int .i64 n
    | 8 => v = .int .i64 ((-y) / n)
    | 9 => v = .int .i64 (-((-y) / n))
    | 10 => v = .tuple #[.agg #[.int .i64 (x / n), .int .i64 (-((-y) / n))], .int .i64 0]
    | 11 => v = .agg #[.int .i64 (x / n), .int .i64 (-((-y) / n))]
    | 12 => v = .int .i64 0
    | _ => True) j u W' := by
    intro W W' j u hX h
    match j, h with
    | 0, h => exact h
    | 1, h => exact h
    | 2, h => exact h
    | 3, h => exact h
    | 4, h => exact h
    | 5, h => exact h
    | 6, h => exact h
    | 7, h => exact h
    | 8, h => exact h
    | 9, h => exact h
    | 10, h => exact h
    | 11, h => exact h
    | 12, h => exact h
    | _ + 13, h => exact h
  have hsz : ∀ d, some d ∈ ([some 14, some 15, some 16, some 17, some 18, some 19, some 20, some 21, some 22, some 23, some 24, some 25, some 26] : List (Option Tmp)) → d < a.tmps.size := slots_lt (by decide) hsize
  refine wp_region_j 13 [some 14, some 15, some 16, some 17, some 18, some 19, some 20, some 21, some 22, some 23, some 24, some 25, some 26] [[], [0], [], [1, 2], [], [4], [5], [], [6, 7], [8], [3, 9], [10], [10]] [[], [], [], [], [], [], [], [], [], [], [], [], []] (fun (i : Nat) (v : Value) (W : World) => match i with
    | 0 => v = .pointer (some ⟨ga, 0, none⟩)
    | 1 => v = .int .i64 x
    | 2 => v = .int .i64 n
    | 3 => v = .int .i64 (x / n)
    | 4 => v = .pointer (some ⟨ga, 1, none⟩)
    | 5 => v = .int .i64 y
    | 6 => v = .int .i64 (-y)
    | 7 => v = .int .i64 n
    | 8 => v = .int .i64 ((-y) / n)
    | 9 => v = .int .i64 (-((-y) / n))
    | 10 => v = .tuple #[.agg #[.int .i64 (x / n), .int .i64 (-((-y) / n))], .int .i64 0]
    | 11 => v = .agg #[.int .i64 (x / n), .int .i64 (-((-y) / n))]
    | 12 => v = .int .i64 0
    | _ => True) (fun _ W => Ext w W) (by kernel_rfl) (by kernel_rfl) hsz (fun _ _ _ _ h => h) ((Ext.refl w).drew) ?_ ?_
  · clear hend
    simp only [rops, Try.f57, regOf, Option.bind_some, Nat.reduceBEq, if_true, if_false, Bool.false_eq_true, Option.getD_some]
    simp only [List.take_succ_cons, List.take_zero]
    refine ⟨?_, ?_, ?_, ?_, ?_, ?_, ?_, ?_, ?_, ?_, ?_, ?_, ?_, trivial⟩
    · intro done us W hJ hdep haft hnot b hb hb' K hK Q'
      have e2 := (hb' 2 (by simp)).trans s2
      clear hb hb'
      go_simp
      exact hK _ _ rfl (fun _ _ _ h => h) hJ
    · intro done us W hJ hdep haft hnot b hb hb' K hK Q'
      simp only [List.getD_cons_succ, List.getD_cons_zero, List.mem_cons, List.not_mem_nil, or_false, forall_eq_or_imp, forall_eq] at hdep
      have e14 := hb 0 14 rfl
      have d0 := hdep
      rw [d0.1] at e14
      clear hb hb' hdep d0
      have q := Ext.cell hJ x0
      go_simp
      exact hK _ _ rfl (fun _ _ _ h => h) hJ
    · intro done us W hJ hdep haft hnot b hb hb' K hK Q'
      have e1 := (hb' 1 (by simp)).trans s1
      clear hb hb'
      go_simp
      exact hK _ _ rfl (fun _ _ _ h => h) hJ
    · intro done us W hJ hdep haft hnot b hb hb' K hK Q'
      simp only [List.getD_cons_succ, List.getD_cons_zero, List.mem_cons, List.not_mem_nil, or_false, forall_eq_or_imp, forall_eq] at hdep
      have e15 := hb 1 15 rfl
      have e16 := hb 2 16 rfl
      have d1 := hdep.1
      have d2 := hdep.2
      rw [d1.1] at e15
      rw [d2.1] at e16
      clear hb hb' hdep d1 d2
      go_simp
      refine (down_any _ _ _ a0 (by omega) hn hn2).mono ?_
      rintro e w' ⟨rfl, rfl⟩
      exact hK _ _ rfl (fun j u _ h => h) hJ
    · intro done us W hJ hdep haft hnot b hb hb' K hK Q'
      have e2 := (hb' 2 (by simp)).trans s2
      clear hb hb'
      go_simp
      exact hK _ _ rfl (fun _ _ _ h => h) hJ
    · intro done us W hJ hdep haft hnot b hb hb' K hK Q'
      simp only [List.getD_cons_succ, List.getD_cons_zero, List.mem_cons, List.not_mem_nil, or_false, forall_eq_or_imp, forall_eq] at hdep
      have e18 := hb 4 18 rfl
      have d4 := hdep
      rw [d4.1] at e18
      clear hb hb' hdep d4
      have q := Ext.cell hJ x1
      go_simp
      exact hK _ _ rfl (fun _ _ _ h => h) hJ
    · intro done us W hJ hdep haft hnot b hb hb' K hK Q'
      simp only [List.getD_cons_succ, List.getD_cons_zero, List.mem_cons, List.not_mem_nil, or_false, forall_eq_or_imp, forall_eq] at hdep
      have e19 := hb 5 19 rfl
      have d5 := hdep
      rw [d5.1] at e19
      clear hb hb' hdep d5
      have hw : IntKind.i64.wrap (-y) = -y := by rw [IntKind.wrap_i64]; omega
      go_simp
      exact hK _ _ rfl (fun _ _ _ h => h) hJ
    · intro done us W hJ hdep haft hnot b hb hb' K hK Q'
      have e1 := (hb' 1 (by simp)).trans s1
      clear hb hb'
      go_simp
      exact hK _ _ rfl (fun _ _ _ h => h) hJ
    · intro done us W hJ hdep haft hnot b hb hb' K hK Q'
      simp only [List.getD_cons_succ, List.getD_cons_zero, List.mem_cons, List.not_mem_nil, or_false, forall_eq_or_imp, forall_eq] at hdep
      have e20 := hb 6 20 rfl
      have e21 := hb 7 21 rfl
      have d6 := hdep.1
      have d7 := hdep.2
      rw [d6.1] at e20
      rw [d7.1] at e21
      clear hb hb' hdep d6 d7
      go_simp
      refine (down_any _ _ _ (by omega) (by omega) hn hn2).mono ?_
      rintro e w' ⟨rfl, rfl⟩
      exact hK _ _ rfl (fun j u _ h => h) hJ
    · intro done us W hJ hdep haft hnot b hb hb' K hK Q'
      simp only [List.getD_cons_succ, List.getD_cons_zero, List.mem_cons, List.not_mem_nil, or_false, forall_eq_or_imp, forall_eq] at hdep
      have e22 := hb 8 22 rfl
      have d8 := hdep
      rw [d8.1] at e22
      clear hb hb' hdep d8
      have g := div_in hn (show -1152921504606846976 ≤ (0 : Int) by omega) (show (0 : Int) ≤ 1152921504606846976 by omega) (show -1152921504606846976 ≤ -y by omega) (show -y ≤ 1152921504606846976 by omega)
      obtain ⟨g1, g2⟩ := g
      have hw : IntKind.i64.wrap (-((-y) / n)) = -((-y) / n) := by rw [IntKind.wrap_i64]; omega
      go_simp
      exact hK _ _ rfl (fun _ _ _ h => h) hJ
    · intro done us W hJ hdep haft hnot b hb hb' K hK Q'
      simp only [List.getD_cons_succ, List.getD_cons_zero, List.mem_cons, List.not_mem_nil, or_false, forall_eq_or_imp, forall_eq] at hdep
      have e17 := hb 3 17 rfl
      have e23 := hb 9 23 rfl
      have d3 := hdep.1
      have d9 := hdep.2
      rw [d3.1] at e17
      rw [d9.1] at e23
      clear hb hb' hdep d3 d9
      go_simp
      refine (span_ok _ _ _ h0 h1).mono ?_
      rintro e w' ⟨rfl, hX⟩
      exact hK _ _ rfl (fun j u _ h => hmono _ _ j u hX h) (Ext.trans hJ hX)
    · intro done us W hJ hdep haft hnot b hb hb' K hK Q'
      simp only [List.getD_cons_succ, List.getD_cons_zero, List.mem_cons, List.not_mem_nil, or_false, forall_eq_or_imp, forall_eq] at hdep
      have e24 := hb 10 24 rfl
      have d10 := hdep
      rw [d10.1] at e24
      clear hb hb' hdep d10
      go_simp
      exact hK _ _ rfl (fun _ _ _ h => h) hJ
    · intro done us W hJ hdep haft hnot b hb hb' K hK Q'
      simp only [List.getD_cons_succ, List.getD_cons_zero, List.mem_cons, List.not_mem_nil, or_false, forall_eq_or_imp, forall_eq] at hdep
      have e24 := hb 10 24 rfl
      have d10 := hdep
      rw [d10.1] at e24
      clear hb hb' hdep d10
      go_simp
      exact hK _ _ rfl (fun _ _ _ h => h) hJ
  · intro us W hV hJ
    exact hend (us 0) (us 1) (us 2) (us 3) (us 4) (us 5) (us 6) (us 7) (us 8) (us 9) (us 10) (us 11) (us 12) W (hV 0 (by omega)) (hV 1 (by omega)) (hV 2 (by omega)) (hV 3 (by omega)) (hV 4 (by omega)) (hV 5 (by omega)) (hV 6 (by omega)) (hV 7 (by omega)) (hV 8 (by omega)) (hV 9 (by omega)) (hV 10 (by omega)) (hV 11 (by omega)) (hV 12 (by omega)) hJ
set_option maxRecDepth 100000 in
set_option maxHeartbeats 2000000 in
theorem eover_bad (a b n : Int) (w : World) (h : okS a b = false ∨ n < 1) :
    Calls Try.prog 57 #[.agg #[.int .i64 (a), .int .i64 (b)], .int .i64 n] w (RetE w (.agg #[.int .i64 (0), .int .i64 (0)]) 2) := by
  rcases hb : okS a b with _ | _
  · have HB := Lib.hid hb
    clear hb h
    have hXe : Ext w ((w.alloc (.cells #[.int .i64 a, .int .i64 b] 62)).alloc (.cells #[.int .i64 0, .int .i64 0] 62)) := (((Ext.refl w).alloc _).alloc _)
    have kA : Blk ((w.alloc (.cells #[.int .i64 a, .int .i64 b] 62)).alloc (.cells #[.int .i64 0, .int .i64 0] 62)) w.heap.size 62 #[.int .i64 a, .int .i64 b] := Blk.alloc (Blk.at_ (by simp)) _
    have kR : Blk ((w.alloc (.cells #[.int .i64 a, .int .i64 b] 62)).alloc (.cells #[.int .i64 0, .int .i64 0] 62)) (w.heap.size + 1) 62 #[.int .i64 0, .int .i64 0] := Blk.at_ (by simp)
    go_enter Try.func57, Try.ntmps57
    go_wp2_with fail
    generalize ((w.alloc (.cells #[.int .i64 a, .int .i64 b] 62)).alloc (.cells #[.int .i64 0, .int .i64 0] 62)) = w1 at hXe kA kR ⊢
    have HX := Lib.hid hXe
    clear hXe
    have KA := Lib.hid kA
    clear kA
    have KR := Lib.hid kR
    clear kR
    refine (valid_any a b _).mono ?_
    rw [HB.out]
    rintro e w2 ⟨rfl, hX⟩
    replace HX := Lib.hid (HX.out.trans hX)
    replace KA := Lib.hid (KA.out.ext hX)
    replace KR := Lib.hid (KR.out.ext hX)
    clear hX
    have cA0 : w2.cell? ⟨w.heap.size, 0, none⟩ = some (.int .i64 a) := KA.out.cell 0
    have cA1 : w2.cell? ⟨w.heap.size, 1, none⟩ = some (.int .i64 b) := KA.out.cell 1
    have cR0 : w2.cell? ⟨(w.heap.size + 1), 0, none⟩ = some (.int .i64 0) := KR.out.cell 0
    have fR0 : w2.frozen? ⟨(w.heap.size + 1), 0, none⟩ = false := KR.out.free 0
    have cR1 : w2.cell? ⟨(w.heap.size + 1), 1, none⟩ = some (.int .i64 0) := KR.out.cell 1
    have fR1 : w2.frozen? ⟨(w.heap.size + 1), 1, none⟩ = false := KR.out.free 1
    go_wp2
    refine bodyPost_ret (v := .tuple #[.agg #[.int .i64 (0), .int .i64 (0)], .int .i64 2]) (by simp [results, Try.results57, go_sem, *]) rfl ?_
    exact ⟨rfl, HX.out.two (by omega) _ _⟩
  · have HB := Lib.hid hb
    have hn : n < 1 := by rcases h with h | h; rw [hb] at h; cases h; exact h
    clear hb h
    have hXe : Ext w ((w.alloc (.cells #[.int .i64 a, .int .i64 b] 62)).alloc (.cells #[.int .i64 0, .int .i64 0] 62)) := (((Ext.refl w).alloc _).alloc _)
    have kA : Blk ((w.alloc (.cells #[.int .i64 a, .int .i64 b] 62)).alloc (.cells #[.int .i64 0, .int .i64 0] 62)) w.heap.size 62 #[.int .i64 a, .int .i64 b] := Blk.alloc (Blk.at_ (by simp)) _
    have kR : Blk ((w.alloc (.cells #[.int .i64 a, .int .i64 b] 62)).alloc (.cells #[.int .i64 0, .int .i64 0] 62)) (w.heap.size + 1) 62 #[.int .i64 0, .int .i64 0] := Blk.at_ (by simp)
    go_enter Try.func57, Try.ntmps57
    go_wp2_with fail
    generalize ((w.alloc (.cells #[.int .i64 a, .int .i64 b] 62)).alloc (.cells #[.int .i64 0, .int .i64 0] 62)) = w1 at hXe kA kR ⊢
    have HX := Lib.hid hXe
    clear hXe
    have KA := Lib.hid kA
    clear kA
    have KR := Lib.hid kR
    clear kR
    refine (valid_any a b _).mono ?_
    rw [HB.out]
    rintro e w2 ⟨rfl, hX⟩
    replace HX := Lib.hid (HX.out.trans hX)
    replace KA := Lib.hid (KA.out.ext hX)
    replace KR := Lib.hid (KR.out.ext hX)
    clear hX
    have cA0 : w2.cell? ⟨w.heap.size, 0, none⟩ = some (.int .i64 a) := KA.out.cell 0
    have cA1 : w2.cell? ⟨w.heap.size, 1, none⟩ = some (.int .i64 b) := KA.out.cell 1
    have cR0 : w2.cell? ⟨(w.heap.size + 1), 0, none⟩ = some (.int .i64 0) := KR.out.cell 0
    have fR0 : w2.frozen? ⟨(w.heap.size + 1), 0, none⟩ = false := KR.out.free 0
    have cR1 : w2.cell? ⟨(w.heap.size + 1), 1, none⟩ = some (.int .i64 0) := KR.out.cell 1
    have fR1 : w2.frozen? ⟨(w.heap.size + 1), 1, none⟩ = false := KR.out.free 1
    go_wp2
    refine bodyPost_ret (v := .tuple #[.agg #[.int .i64 (0), .int .i64 (0)], .int .i64 2]) (by simp [results, Try.results57, go_sem, *]) rfl ?_
    exact ⟨rfl, HX.out.two (by omega) _ _⟩

set_option maxRecDepth 100000 in
set_option maxHeartbeats 2000000 in
theorem eover_ok (a b n : Int) (w : World) (h : okS a b = true) (hn : 1 ≤ n) (hn2 : n ≤ 9223372036854775807) :
    Calls Try.prog 57 #[.agg #[.int .i64 (a), .int .i64 (b)], .int .i64 n] w (RetE w (.agg #[.int .i64 (a / n), .int .i64 (-((-b) / n))]) 0) := by
  obtain ⟨a0, a1, a2⟩ := okS_in h
  have HB := Lib.hid h
  clear h
  obtain ⟨g1, g2⟩ := div_in hn (show -1152921504606846976 ≤ (0 : Int) by omega) (show (0 : Int) ≤ 1152921504606846976 by omega) a0 (show a ≤ 1152921504606846976 by omega)
  obtain ⟨g3, g4⟩ := div_in hn (show -1152921504606846976 ≤ (0 : Int) by omega) (show (0 : Int) ≤ 1152921504606846976 by omega) (show -1152921504606846976 ≤ -b by omega) (show -b ≤ 1152921504606846976 by omega)
  have H1 := Lib.hid (show -1152921504606846976 ≤ a / n ∧ -((-b) / n) ≤ 1152921504606846976 by omega)
  clear g1 g2 g3 g4
  have hXe : Ext w ((w.alloc (.cells #[.int .i64 a, .int .i64 b] 62)).alloc (.cells #[.int .i64 0, .int .i64 0] 62)) := (((Ext.refl w).alloc _).alloc _)
  have kA : Blk ((w.alloc (.cells #[.int .i64 a, .int .i64 b] 62)).alloc (.cells #[.int .i64 0, .int .i64 0] 62)) w.heap.size 62 #[.int .i64 a, .int .i64 b] := Blk.alloc (Blk.at_ (by simp)) _
  have kR : Blk ((w.alloc (.cells #[.int .i64 a, .int .i64 b] 62)).alloc (.cells #[.int .i64 0, .int .i64 0] 62)) (w.heap.size + 1) 62 #[.int .i64 0, .int .i64 0] := Blk.at_ (by simp)
  go_enter Try.func57, Try.ntmps57
  go_wp2_with fail
  generalize ((w.alloc (.cells #[.int .i64 a, .int .i64 b] 62)).alloc (.cells #[.int .i64 0, .int .i64 0] 62)) = w1 at hXe kA kR ⊢
  have HX := Lib.hid hXe
  clear hXe
  have KA := Lib.hid kA
  clear kA
  have KR := Lib.hid kR
  clear kR
  refine (valid_any a b _).mono ?_
  rw [HB.out]
  rintro e w2 ⟨rfl, hX⟩
  replace HX := Lib.hid (HX.out.trans hX)
  replace KA := Lib.hid (KA.out.ext hX)
  replace KR := Lib.hid (KR.out.ext hX)
  clear hX
  have cA0 : w2.cell? ⟨w.heap.size, 0, none⟩ = some (.int .i64 a) := KA.out.cell 0
  have cA1 : w2.cell? ⟨w.heap.size, 1, none⟩ = some (.int .i64 b) := KA.out.cell 1
  have cR0 : w2.cell? ⟨(w.heap.size + 1), 0, none⟩ = some (.int .i64 0) := KR.out.cell 0
  have cR1 : w2.cell? ⟨(w.heap.size + 1), 1, none⟩ = some (.int .i64 0) := KR.out.cell 1
  go_upto_region 3 with (fail)
  clear cA0 cA1 cR0 cR1
  refine over_r3 w.heap.size a b n w2 (KA.out.cell 0) (KA.out.cell 1) a0 a1 a2 hn hn2 H1.out.1 H1.out.2 _ _ (by simp) rfl rfl ?_
  rintro xv0 xv1 xv2 xv3 xv4 xv5 xv6 xv7 xv8 xv9 xv10 xv11 xv12 w3 rfl rfl rfl rfl rfl rfl rfl rfl rfl rfl rfl rfl rfl hXW
  simp only [rops, Try.f57, regOf, Option.bind_some, Nat.reduceBEq, if_true, if_false, Bool.false_eq_true, Option.getD_some, List.drop_succ_cons, List.drop_zero]
  simp only [Act.put, List.setIfInBounds_toArray, List.set_cons_succ, List.set_cons_zero]
  replace HX := Lib.hid (HX.out.trans hXW)
  replace KA := Lib.hid (KA.out.ext hXW)
  replace KR := Lib.hid (KR.out.ext hXW)
  clear hXW
  obtain ⟨lo, hlo⟩ : ∃ q, a / n = q := ⟨_, rfl⟩
  obtain ⟨hi, hhi⟩ : ∃ q, -((-b) / n) = q := ⟨_, rfl⟩
  rw [hlo, hhi]
  have HLO := Lib.hid hlo
  have HHI := Lib.hid hhi
  clear hlo hhi
  have cA0 : w3.cell? ⟨w.heap.size, 0, none⟩ = some (.int .i64 a) := KA.out.cell 0
  have cA1 : w3.cell? ⟨w.heap.size, 1, none⟩ = some (.int .i64 b) := KA.out.cell 1
  have cR0 : w3.cell? ⟨(w.heap.size + 1), 0, none⟩ = some (.int .i64 0) := KR.out.cell 0
  have fR0 : w3.frozen? ⟨(w.heap.size + 1), 0, none⟩ = false := KR.out.free 0
  have cR1 : w3.cell? ⟨(w.heap.size + 1), 1, none⟩ = some (.int .i64 0) := KR.out.cell 1
  have fR1 : w3.frozen? ⟨(w.heap.size + 1), 1, none⟩ = false := KR.out.free 1
  go_wp2
  refine bodyPost_ret (v := .tuple #[.agg #[.int .i64 (lo), .int .i64 (hi)], .int .i64 0]) (by simp [results, Try.results57, go_sem, *]) rfl ?_
  exact ⟨by rw [HLO.out, HHI.out], HX.out.two (by omega) _ _⟩

end Go.Proofs.Yteoijnaljkagfaa
