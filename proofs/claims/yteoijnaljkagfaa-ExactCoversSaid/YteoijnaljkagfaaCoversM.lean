/- Lemmas of the proof that follows (Covers, part 13): walks of functions by contract, and plain lemmas. Conditions: none. -/
import Derived.Test.YteoijnaljkagfaaCoversL
namespace Go.Proofs.Yteoijnaljkagfaa
open Go.RowKit

theorem fitR_small {n : Int} (h0 : -9223372036854775808 ≤ n) (h1 : n ≤ 9223372036854775807) : FitR ((n : Int) : Rat) 4 := by
  have h := fitR_double (fitQ_small h0 h1)
  rw [show 2 * 2 = 4 from rfl] at h
  exact h
end Go.Proofs.Yteoijnaljkagfaa
namespace Go.Proofs.Yteoijnaljkagfaa
open Go.RowKit

theorem ratsAt_two {w : World} {g : Nat} {T : TypeId} {s0 s1 : Bool} {A0 B0 A1 B1 : Option Addr} {l0 c0 m0 k0 l1 c1 m1 k1 : Nat} {n0 n1 : Bool} {xs ys xs' ys' : List Int} (hB : Blk w g T #[.bool s0, .slice A0 l0 c0, .slice B0 m0 k0, .bool s1, .slice A1 l1 c1, .slice B1 m1 k1])
    (h : RatV w (.agg #[.bool s0, .slice A0 l0 c0, .slice B0 m0 k0]) n0 xs ys) (k : RatV w (.agg #[.bool s1, .slice A1 l1 c1, .slice B1 m1 k1]) n1 xs' ys') : RatsAt w g 2 := by
  obtain ⟨A, l, c, B, m, kk, e, h1, h2, h3, h4, h5, h6⟩ := h
  obtain ⟨A', l', c', B', m', k', e', g1, g2, g3, g4, g5, g6⟩ := k
  simp only [Value.agg.injEq, Array.mk.injEq, List.cons.injEq, Value.bool.injEq, Value.slice.injEq, and_true] at e e'
  obtain ⟨rfl, ⟨rfl, rfl, rfl⟩, rfl, rfl, rfl⟩ := e
  obtain ⟨rfl, ⟨rfl, rfl, rfl⟩, rfl, rfl, rfl⟩ := e'
  intro j hj
  rcases (show j = 0 ∨ j = 1 by omega) with rfl | rfl
  · exact ⟨_, _, _, _, _, _, _, _, hB.cell 1, hB.cell 2, h1, h4, by omega, by omega⟩
  · exact ⟨_, _, _, _, _, _, _, _, hB.cell 4, hB.cell 5, g1, g4, by omega, by omega⟩
section
variable {w : World} {va vb : Value} {b0 b1 : Bool}
theorem RatL.open {w : World} {v : Value} {b : Bool} (h : RatL w v b) : ∃ s A l c B m k, v = .agg #[.bool s, .slice A l c, .slice B m k] := by
  obtain ⟨neg, xs, ys, ⟨A, l, c, B, m, k, rfl, _⟩, _⟩ := h
  exact ⟨_, _, _, _, _, _, _, rfl⟩

end

end Go.Proofs.Yteoijnaljkagfaa
namespace Go.Proofs.Yteoijnaljkagfaa
open Go.RowKit

theorem rat_pos {n : Int} (hn : 1 ≤ n) : (0 : Rat) < (n : Rat) := by
  have := Rat.intCast_lt_intCast.2 (show (0 : Int) < n by omega); simpa using this
theorem floor_div (a n : Int) (hn : 1 ≤ n) : ((a : Rat) / (n : Rat)).floor = a / n := by
  have hq := rat_pos hn
  have h1 := Rat.floor_le ((a : Rat) / (n : Rat))
  have h2 := Rat.lt_floor_add_one ((a : Rat) / (n : Rat))
  generalize ((a : Rat) / (n : Rat)).floor = f at *
  have e : ((a : Rat) / (n : Rat)) * (n : Rat) = (a : Rat) := by rw [Rat.div_mul_cancel]; intro h; rw [h] at hq; exact absurd hq (by decide)
  have h3 : (f : Rat) * (n : Rat) ≤ (a : Rat) := by rw [← e]; exact Rat.mul_le_mul_of_nonneg_right h1 (Rat.le_of_lt hq)
  have h4 : (a : Rat) < ((f + 1 : Int) : Rat) * (n : Rat) := by
    have := Rat.mul_lt_mul_of_pos_right h2 hq
    rw [e] at this; exact this
  have h5 : f * n ≤ a := by apply Rat.intCast_le_intCast.1; rw [Rat.intCast_mul]; exact h3
  have h6 : a < (f + 1) * n := by apply Rat.intCast_lt_intCast.1; rw [Rat.intCast_mul]; exact h4
  have h7 := (Int.ediv_emod_unique (a := a) (b := n) (r := a - f * n) (q := f) (by omega)).2 ⟨by rw [Int.mul_comm]; omega, by omega, by rw [Int.add_mul] at h6; omega⟩
  exact h7.1.symm
theorem neg_div' (a n : Int) : -((a : Rat) / (n : Rat)) = ((-a : Int) : Rat) / (n : Rat) := by
  rw [Rat.intCast_neg, Rat.div_def, Rat.div_def, Rat.neg_mul]
theorem le_div (a b n : Int) (hn : 1 ≤ n) (h : a ≤ b) : ((a : Rat) / (n : Rat)) ≤ ((b : Rat) / (n : Rat)) := by
  have hq := rat_pos hn
  rw [Rat.div_def, Rat.div_def]
  exact Rat.mul_le_mul_of_nonneg_right (Rat.intCast_le_intCast.2 h) (Rat.le_of_lt (Rat.inv_pos.2 hq))

theorem ratV_div2 (x : Int) {n : Int} (hn : 1 ≤ n) : ratV (decide (x < 0)) x.natAbs n.toNat = (x : Rat) / (n : Rat) := by
  unfold ratV
  rw [sgn_int, Rat.mkRat_eq_div, ← Rat.intCast_natCast, show ((n.toNat : Nat) : Int) = n by omega]
theorem fit_small4 {n : Int} (h0 : -9223372036854775808 ≤ n) (h1 : n ≤ 9223372036854775807) : Fit 65536 n.natAbs 4 := by
  have h := (fitR_small h0 h1).1
  rw [Rat.num_intCast] at h
  exact h
theorem fitR_div {x n : Int} (h0 : -9223372036854775808 ≤ x) (h1 : x ≤ 9223372036854775807) (hn : 1 ≤ n) (hn2 : n ≤ 9223372036854775807) : FitR ((x : Rat) / (n : Rat)) 4 := by
  rw [← ratV_div2 x hn]
  have h := fit_small4 (n := n) (by omega) hn2
  rw [show n.natAbs = n.toNat by omega] at h
  exact fitR_red (by omega) (fit_small4 h0 h1) h
set_option maxHeartbeats 1000000 in
theorem rvalid_any (x y : Int) (w : World) : Calls Try.prog 68 #[.agg #[.int .i64 x, .int .i64 y]] w fun e w' => e = .returned (.bool (okS x y)) ∧ Ext w w' := by
  have HX := Lib.hid ((Ext.refl w).alloc (.cells #[.int .i64 x, .int .i64 y] 62))
  rcases okS_cases x y with ⟨hb, b1, b2, b3⟩ | ⟨hb, b1 | ⟨b1, b2⟩ | ⟨b1, b2, b3⟩⟩
  all_goals
    rw [hb]
    clear hb
    go_enter Try.func68, Try.ntmps68
    go_wp2
    go_ret
    refine ⟨?_, HX.out⟩
    first
    | rfl
    | (show Ending.returned (.bool (decide (y ≤ 1152921504606846976))) = Ending.returned (.bool false); rw [decide_eq_false (by omega)])
theorem rvalid_is {x y : Int} {b : Bool} (h : okS x y = b) (w : World) : Calls Try.prog 68 #[.agg #[.int .i64 x, .int .i64 y]] w fun e w' => e = .returned (.bool b) ∧ Ext w w' := by
  rw [← h]; exact rvalid_any x y w
/-- The least span around two quotients. -/
theorem over_span {x y n : Int} (h : okS x y = true) (hn : 1 ≤ n) : (lowN [(x : Rat) / (n : Rat), (y : Rat) / (n : Rat)] 1).floor = x / n ∧ (-(-(highN [(x : Rat) / (n : Rat), (y : Rat) / (n : Rat)] 1)).floor) = -((-y) / n) ∧ endE (x / n) = 0 ∧ endE (-((-y) / n)) = 0 := by
  obtain ⟨a0, a1, a2⟩ := okS_in h
  have hs : ¬ 0 < sgnQ ((x : Rat) / (n : Rat) - (y : Rat) / (n : Rat)) := by
    have := le_div x y n hn a1
    rcases sgnQ_cases ((x : Rat) / (n : Rat) - (y : Rat) / (n : Rat)) with ⟨_, e⟩ | ⟨_, e⟩ | ⟨h2, e⟩
    · omega
    · omega
    · exfalso; grind
  obtain ⟨d1, d2⟩ := div_in (a := x) (lo := -1152921504606846976) (hi := 1152921504606846976) hn (by omega) (by omega) a0 (by omega)
  obtain ⟨d3, d4⟩ := div_in (a := -y) (lo := -1152921504606846976) (hi := 1152921504606846976) hn (by omega) (by omega) (by omega) (by omega)
  rw [low_two, high_two, mnQ, mxQ, if_neg hs, if_neg hs, neg_div', floor_div _ _ hn, floor_div _ _ hn]
  exact ⟨rfl, rfl, (end_in ⟨d1, d2⟩).2, (end_in (z := -((-y) / n)) (by omega)).2⟩

theorem retSp_val {w : World} {lo hi a b : Int} (h : lo = a ∧ hi = b ∧ endE a = 0 ∧ endE b = 0) : ∀ e w', RetSp w lo hi e w' → e = .returned (.tuple #[.agg #[.int .i64 a, .int .i64 b], .int .i64 0]) ∧ Ext w w' := by
  obtain ⟨rfl, rfl, h0, h1⟩ := h
  rintro e w' ⟨rfl, hX⟩
  obtain ⟨e1, e2, e3⟩ := sp_yes h0 h1
  exact ⟨by rw [e1, e2, e3], hX⟩

set_option maxRecDepth 100000 in
set_option maxHeartbeats 2000000 in
theorem rover_r3 (ga : Nat) (x y n : Int) (w : World) (x0 : w.cell? ⟨ga, 0, none⟩ = some (.int .i64 x)) (x1 : w.cell? ⟨ga, 1, none⟩ = some (.int .i64 y)) (hok : okS x y = true) (hb0 : -1152921504606846976 ≤ x) (hb1 : x ≤ 1152921504606846976) (hb2 : -1152921504606846976 ≤ y) (hb3 : y ≤ 1152921504606846976) (hn : 1 ≤ n) (hn2 : n ≤ 9223372036854775807) (a : Act) (Q : Exit → Act → World → Prop) (hsize : 30 ≤ a.tmps.size)
    (s1 : a.tmps[1]? = some (.int .i64 n))
    (s2 : a.tmps[2]? = some (.pointer (some ⟨ga, 0, none⟩)))
    (hend : ∀ (xv0 xv1 xv2 xv3 xv4 xv5 xv6 xv7 xv8 xv9 xv10 xv11 xv12 xv13 xv14 xv15 : Value) (W : World), (xv0 = .pointer (some ⟨ga, 0, none⟩)) → (xv1 = .int .i64 x) → (IntZ W xv2 x) → (xv3 = .int .i64 n) → (∃ A l c, xv4 = .agg #[.bool false, .slice A l c] ∧ Z16 W (.slice A l c) n.toNat) → (QZ W xv5 ((x : Rat) / (n : Rat))) → (xv6 = .pointer (some ⟨ga, 1, none⟩)) → (xv7 = .int .i64 y) → (IntZ W xv8 y) → (xv9 = .int .i64 n) → (∃ A l c, xv10 = .agg #[.bool false, .slice A l c] ∧ Z16 W (.slice A l c) n.toNat) → (QZ W xv11 ((y : Rat) / (n : Rat))) → (∃ g, xv12 = .slice (some ⟨g, 0, none⟩) 2 2 ∧ QsAt W (some ⟨g, 0, none⟩) 2 [(x : Rat) / (n : Rat), (y : Rat) / (n : Rat)]) → (xv13 = .tuple #[.agg #[.int .i64 (x / n), .int .i64 (-((-y) / n))], .int .i64 0]) → (xv14 = .agg #[.int .i64 (x / n), .int .i64 (-((-y) / n))]) → (xv15 = .int .i64 0) → Ext w W → wpList Try.prog (rops Try.f63 3).toArray Q ((rops Try.f63 3).drop 16) ((((((((((((((((a.put (some 14) xv0).put (some 15) xv1).put (some 16) xv2).put (some 17) xv3).put (some 18) xv4).put (some 19) xv5).put (some 20) xv6).put (some 21) xv7).put (some 22) xv8).put (some 23) xv9).put (some 24) xv10).put (some 25) xv11).put (some 26) xv12).put (some 27) xv13).put (some 28) xv14).put (some 29) xv15) W) :
    (Code.region 3 (rops Try.f63 3).toArray true).wp Try.prog Q a w := by
  have hmono : ∀ (W W' : World) (j : Nat) (u : Value), Ext W W' → (fun (i : Nat) (v : Value) (W : World) => match i with
    | 0 => v = .pointer (some ⟨ga, 0, none⟩)
    | 1 => v = .int .i64 x
    | 2 => IntZ W v x
    | 3 => v = .int .i64 n
    | 4 => ∃ A l c, v = .agg #[.bool false, .slice A l c] ∧ Z16 W (.slice A l c) n.toNat
    | 5 => QZ W v ((x : Rat) / (n : Rat))
    | 6 => v = .pointer (some ⟨ga, 1, none⟩)
    | 7 => v = .int .i64 y
    | 8 => IntZ W v y
    | 9 => v = .int .i64 n
    | 10 => ∃ A l c, v = .agg #[.bool false, .slice A l c] ∧ Z16 W (.slice A l c) n.toNat
    | 11 => QZ W v ((y : Rat) / (n : Rat))
    | 12 => ∃ g, v = .slice (some ⟨g, 0, none⟩) 2 2 ∧ QsAt W (some ⟨g, 0, none⟩) 2 [(x : Rat) / (n : Rat), (y : Rat) / (n : Rat)]
    | 13 => v = .tuple #[.agg #[.int .i64 (x / n), .int .i64 (-((-y) / n))], .int .i64 0]
    | 14 => v = .agg #[.int .i64 (x / n), .int .i64 (-((-y) / n))]
    | 15 => v = .int .i64 0
    | _ => True) j u W → (fun (i : Nat) (v : Value) (W : World) => match i with
    | 0 => v = .pointer (some ⟨ga, 0, none⟩)
    | 1 => v = .int .i64 x
    | 2 => IntZ W v x
    | 3 => v = .int .i64 n
    | 4 => ∃ A l c, v = .agg #[.bool false, .slice A l c] ∧ Z16 W (.slice A l c) n.toNat
    | 5 => QZ W v ((x : Rat) / (n : Rat))
    | 6 => v = .pointer (some ⟨ga, 1, none⟩)
    | 7 => v = .int .i64 y
    | 8 => IntZ W v y
    | 9 => v = .int .i64 n
    | 10 => ∃ A l c, v = .agg #[.bool false, .slice A l c] ∧ Z16 W (.slice A l c) n.toNat
    | 11 => QZ W v ((y : Rat) / (n : Rat))
    | 12 => ∃ g, v = .slice (some ⟨g, 0, none⟩) 2 2 ∧ QsAt W (some ⟨g, 0, none⟩) 2 [(x : Rat) / (n : Rat), (y : Rat) / (n : Rat)]
    | 13 => v = .tuple #[.agg #[.int .i64 (x / n), .int .i64 (-((-y) / n))], .int .i64 0]
    | 14 => v = .agg #[.int .i64 (x / n), .int .i64 (-((-y) / n))]
    | 15 => v = .int .i64 0
    | _ => True) j u W' := by
    intro W W' j u hX h
    match j, h with
    | 0, h => exact h
    | 1, h => exact h
    | 2, h => exact IntZ.ext h hX
    | 3, h => exact h
    | 4, h => obtain ⟨A, l, c, h1, h2⟩ := h; exact ⟨A, l, c, h1, Z16.ext h2 hX⟩
    | 5, h => exact QZ.ext h hX
    | 6, h => exact h
    | 7, h => exact h
    | 8, h => exact IntZ.ext h hX
    | 9, h => exact h
    | 10, h => obtain ⟨A, l, c, h1, h2⟩ := h; exact ⟨A, l, c, h1, Z16.ext h2 hX⟩
    | 11, h => exact QZ.ext h hX
    | 12, h => obtain ⟨g, h1, h2⟩ := h; exact ⟨g, h1, h2.ext hX⟩
    | 13, h => exact h
    | 14, h => exact h
    | 15, h => exact h
    | _ + 16, h => exact h
  have hsz : ∀ d, some d ∈ ([some 14, some 15, some 16, some 17, some 18, some 19, some 20, some 21, some 22, some 23, some 24, some 25, some 26, some 27, some 28, some 29] : List (Option Tmp)) → d < a.tmps.size := slots_lt (by decide) hsize
  refine wp_region_j 16 [some 14, some 15, some 16, some 17, some 18, some 19, some 20, some 21, some 22, some 23, some 24, some 25, some 26, some 27, some 28, some 29] [[], [0], [1], [], [3], [2, 4], [], [6], [7], [], [9], [8, 10], [5, 11], [12], [13], [13]] [[], [], [], [], [], [], [], [], [], [], [], [], [], [], [], []] (fun (i : Nat) (v : Value) (W : World) => match i with
    | 0 => v = .pointer (some ⟨ga, 0, none⟩)
    | 1 => v = .int .i64 x
    | 2 => IntZ W v x
    | 3 => v = .int .i64 n
    | 4 => ∃ A l c, v = .agg #[.bool false, .slice A l c] ∧ Z16 W (.slice A l c) n.toNat
    | 5 => QZ W v ((x : Rat) / (n : Rat))
    | 6 => v = .pointer (some ⟨ga, 1, none⟩)
    | 7 => v = .int .i64 y
    | 8 => IntZ W v y
    | 9 => v = .int .i64 n
    | 10 => ∃ A l c, v = .agg #[.bool false, .slice A l c] ∧ Z16 W (.slice A l c) n.toNat
    | 11 => QZ W v ((y : Rat) / (n : Rat))
    | 12 => ∃ g, v = .slice (some ⟨g, 0, none⟩) 2 2 ∧ QsAt W (some ⟨g, 0, none⟩) 2 [(x : Rat) / (n : Rat), (y : Rat) / (n : Rat)]
    | 13 => v = .tuple #[.agg #[.int .i64 (x / n), .int .i64 (-((-y) / n))], .int .i64 0]
    | 14 => v = .agg #[.int .i64 (x / n), .int .i64 (-((-y) / n))]
    | 15 => v = .int .i64 0
    | _ => True) (fun _ W => Ext w W) (by kernel_rfl) (by kernel_rfl) hsz (fun _ _ _ _ h => h) ((Ext.refl w).drew) ?_ ?_
  · clear hend
    simp only [rops, Try.f63, regOf, Option.bind_some, Nat.reduceBEq, if_true, if_false, Bool.false_eq_true, Option.getD_some]
    simp only [List.take_succ_cons, List.take_zero]
    refine ⟨?_, ?_, ?_, ?_, ?_, ?_, ?_, ?_, ?_, ?_, ?_, ?_, ?_, ?_, ?_, ?_, trivial⟩
    · intro done us W hJ hdep haft hnot b hb hb' K hK Q'
      have e2 := (hb' 2 (by simp)).trans s2
      clear hb hb'
      go_simp
      exact hK _ _ rfl (fun _ _ _ h => h) hJ
    · intro done us W hJ hdep haft hnot b hb hb' K hK Q'
      simp only [List.getD_cons_succ, List.getD_cons_zero, List.mem_cons, List.not_mem_nil, or_false, forall_eq_or_imp, forall_eq] at hdep
      have e14 := hb 0 14 rfl
      have d0 := hdep
      rw [d0.1] at e14
      clear hb hb' hdep d0
      have q := Ext.cell hJ x0
      go_simp
      exact hK _ _ rfl (fun _ _ _ h => h) hJ
    · intro done us W hJ hdep haft hnot b hb hb' K hK Q'
      simp only [List.getD_cons_succ, List.getD_cons_zero, List.mem_cons, List.not_mem_nil, or_false, forall_eq_or_imp, forall_eq] at hdep
      have e15 := hb 1 15 rfl
      have d1 := hdep
      rw [d1.1] at e15
      clear hb hb' hdep d1
      go_simp
      refine (small_any x _ (by omega) (by omega)).mono ?_
      rintro e w' ⟨v, rfl, hv, hX⟩
      exact hK _ _ hv (fun j u _ h => hmono _ _ j u hX h) (Ext.trans hJ hX)
    · intro done us W hJ hdep haft hnot b hb hb' K hK Q'
      have e1 := (hb' 1 (by simp)).trans s1
      clear hb hb'
      go_simp
      exact hK _ _ rfl (fun _ _ _ h => h) hJ
    · intro done us W hJ hdep haft hnot b hb hb' K hK Q'
      simp only [List.getD_cons_succ, List.getD_cons_zero, List.mem_cons, List.not_mem_nil, or_false, forall_eq_or_imp, forall_eq] at hdep
      have e17 := hb 3 17 rfl
      have d3 := hdep
      rw [d3.1] at e17
      clear hb hb' hdep d3
      go_simp
      refine (small_any n _ (by omega) hn2).mono ?_
      rintro e w' ⟨v, rfl, ⟨A9, l9, c9, rfl, hz⟩, hX⟩
      exact hK _ _ ⟨A9, l9, c9, by rw [decide_eq_false (by omega)], by rw [show n.toNat = n.natAbs by omega]; exact hz⟩ (fun j u _ h => hmono _ _ j u hX h) (Ext.trans hJ hX)
    · intro done us W hJ hdep haft hnot b hb hb' K hK Q'
      simp only [List.getD_cons_succ, List.getD_cons_zero, List.mem_cons, List.not_mem_nil, or_false, forall_eq_or_imp, forall_eq] at hdep
      have e16 := hb 2 16 rfl
      have e18 := hb 4 18 rfl
      have d2 := hdep.1
      have d4 := hdep.2
      clear hb hb' hdep 
      obtain ⟨A9, l9, c9, hv9, g9⟩ := d4.1
      rw [hv9] at e18
      go_simp
      refine ((fracI _ x false A9 l9 c9 n.toNat 4 _ d2.1 g9 (fit_small4 (by omega) (by omega)) (by rw [show n.toNat = n.natAbs by omega]; exact fit_small4 (by omega) hn2) (by omega) (by omega)).mono (RetQz.of (ratV_div2 x hn))).mono ?_
      rintro e w' ⟨v, rfl, hv, hX⟩
      exact hK _ _ hv (fun j u _ h => hmono _ _ j u hX h) (Ext.trans hJ hX)
    · intro done us W hJ hdep haft hnot b hb hb' K hK Q'
      have e2 := (hb' 2 (by simp)).trans s2
      clear hb hb'
      go_simp
      exact hK _ _ rfl (fun _ _ _ h => h) hJ
    · intro done us W hJ hdep haft hnot b hb hb' K hK Q'
      simp only [List.getD_cons_succ, List.getD_cons_zero, List.mem_cons, List.not_mem_nil, or_false, forall_eq_or_imp, forall_eq] at hdep
      have e20 := hb 6 20 rfl
      have d6 := hdep
      rw [d6.1] at e20
      clear hb hb' hdep d6
      have q := Ext.cell hJ x1
      go_simp
      exact hK _ _ rfl (fun _ _ _ h => h) hJ
    · intro done us W hJ hdep haft hnot b hb hb' K hK Q'
      simp only [List.getD_cons_succ, List.getD_cons_zero, List.mem_cons, List.not_mem_nil, or_false, forall_eq_or_imp, forall_eq] at hdep
      have e21 := hb 7 21 rfl
      have d7 := hdep
      rw [d7.1] at e21
      clear hb hb' hdep d7
      go_simp
      refine (small_any y _ (by omega) (by omega)).mono ?_
      rintro e w' ⟨v, rfl, hv, hX⟩
      exact hK _ _ hv (fun j u _ h => hmono _ _ j u hX h) (Ext.trans hJ hX)
    · intro done us W hJ hdep haft hnot b hb hb' K hK Q'
      have e1 := (hb' 1 (by simp)).trans s1
      clear hb hb'
      go_simp
      exact hK _ _ rfl (fun _ _ _ h => h) hJ
    · intro done us W hJ hdep haft hnot b hb hb' K hK Q'
      simp only [List.getD_cons_succ, List.getD_cons_zero, List.mem_cons, List.not_mem_nil, or_false, forall_eq_or_imp, forall_eq] at hdep
      have e23 := hb 9 23 rfl
      have d9 := hdep
      rw [d9.1] at e23
      clear hb hb' hdep d9
      go_simp
      refine (small_any n _ (by omega) hn2).mono ?_
      rintro e w' ⟨v, rfl, ⟨A9, l9, c9, rfl, hz⟩, hX⟩
      exact hK _ _ ⟨A9, l9, c9, by rw [decide_eq_false (by omega)], by rw [show n.toNat = n.natAbs by omega]; exact hz⟩ (fun j u _ h => hmono _ _ j u hX h) (Ext.trans hJ hX)
    · intro done us W hJ hdep haft hnot b hb hb' K hK Q'
      simp only [List.getD_cons_succ, List.getD_cons_zero, List.mem_cons, List.not_mem_nil, or_false, forall_eq_or_imp, forall_eq] at hdep
      have e22 := hb 8 22 rfl
      have e24 := hb 10 24 rfl
      have d8 := hdep.1
      have d10 := hdep.2
      clear hb hb' hdep 
      obtain ⟨A9, l9, c9, hv9, g9⟩ := d10.1
      rw [hv9] at e24
      go_simp
      refine ((fracI _ y false A9 l9 c9 n.toNat 4 _ d8.1 g9 (fit_small4 (by omega) (by omega)) (by rw [show n.toNat = n.natAbs by omega]; exact fit_small4 (by omega) hn2) (by omega) (by omega)).mono (RetQz.of (ratV_div2 y hn))).mono ?_
      rintro e w' ⟨v, rfl, hv, hX⟩
      exact hK _ _ hv (fun j u _ h => hmono _ _ j u hX h) (Ext.trans hJ hX)
    · intro done us W hJ hdep haft hnot b hb hb' K hK Q'
      simp only [List.getD_cons_succ, List.getD_cons_zero, List.mem_cons, List.not_mem_nil, or_false, forall_eq_or_imp, forall_eq] at hdep
      have e19 := hb 5 19 rfl
      have e25 := hb 11 25 rfl
      have d5 := hdep.1
      have d11 := hdep.2
      clear hb hb' hdep 
      obtain ⟨s5, A5, l5, c5, B5, m5, k5, hv5⟩ := QZ.open d5.1
      obtain ⟨s6, A6, l6, c6, B6, m6, k6, hv6⟩ := QZ.open d11.1
      have hz5 := d5.1
      have hz6 := d11.1
      rw [hv5] at e19 hz5
      rw [hv6] at e25 hz6
      have hX : Ext W (W.alloc (.cells #[.bool s5, .slice A5 l5 c5, .slice B5 m5 k5, .bool s6, .slice A6 l6 c6, .slice B6 m6 k6] 42)) := (Ext.refl W).alloc _
      clear hv5 hv6 d5 d11
      go_simp
      exact hK _ _ ⟨_, rfl, qsAt_two (Blk.new _ _ _) (QZ.ext hz5 hX) (QZ.ext hz6 hX)⟩ (fun j u _ h => hmono _ _ j u hX h) (Ext.trans hJ hX)
    · intro done us W hJ hdep haft hnot b hb hb' K hK Q'
      simp only [List.getD_cons_succ, List.getD_cons_zero, List.mem_cons, List.not_mem_nil, or_false, forall_eq_or_imp, forall_eq] at hdep
      have e26 := hb 12 26 rfl
      have d12 := hdep
      clear hb hb' hdep 
      obtain ⟨g, hv9, hq9⟩ := d12.1
      rw [hv9] at e26
      go_simp
      refine ((around_any _ 1 2 4 _ _ hq9 (by omega) (fun z hz => by simp at hz; rcases hz with rfl | rfl; exact fitR_div (by omega) (by omega) hn hn2; exact fitR_div (by omega) (by omega) hn hn2) (by omega)).mono (retSp_val (over_span hok hn))).mono ?_
      rintro e w' ⟨rfl, hX⟩
      exact hK _ _ rfl (fun j u _ h => hmono _ _ j u hX h) (Ext.trans hJ hX)
    · intro done us W hJ hdep haft hnot b hb hb' K hK Q'
      simp only [List.getD_cons_succ, List.getD_cons_zero, List.mem_cons, List.not_mem_nil, or_false, forall_eq_or_imp, forall_eq] at hdep
      have e27 := hb 13 27 rfl
      have d13 := hdep
      rw [d13.1] at e27
      clear hb hb' hdep d13
      go_simp
      exact hK _ _ rfl (fun _ _ _ h => h) hJ
    · intro done us W hJ hdep haft hnot b hb hb' K hK Q'
      simp only [List.getD_cons_succ, List.getD_cons_zero, List.mem_cons, List.not_mem_nil, or_false, forall_eq_or_imp, forall_eq] at hdep
      have e27 := hb 13 27 rfl
      have d13 := hdep
      rw [d13.1] at e27
      clear hb hb' hdep d13
      go_simp
      exact hK _ _ rfl (fun _ _ _ h => h) hJ
  · intro us W hV hJ
    exact hend (us 0) (us 1) (us 2) (us 3) (us 4) (us 5) (us 6) (us 7) (us 8) (us 9) (us 10) (us 11) (us 12) (us 13) (us 14) (us 15) W (hV 0 (by omega)) (hV 1 (by omega)) (hV 2 (by omega)) (hV 3 (by omega)) (hV 4 (by omega)) (hV 5 (by omega)) (hV 6 (by omega)) (hV 7 (by omega)) (hV 8 (by omega)) (hV 9 (by omega)) (hV 10 (by omega)) (hV 11 (by omega)) (hV 12 (by omega)) (hV 13 (by omega)) (hV 14 (by omega)) (hV 15 (by omega)) hJ
set_option maxRecDepth 100000 in
set_option maxHeartbeats 2000000 in
theorem rover_ok (x y n : Int) (w : World) (h : okS x y = true) (hn : 1 ≤ n) (hn2 : n ≤ 9223372036854775807) :
    Calls Try.prog 63 #[.agg #[.int .i64 x, .int .i64 y], .int .i64 n] w (RetE w (.agg #[.int .i64 (x / n), .int .i64 (-((-y) / n))]) 0) := by
  obtain ⟨a0, a1, a2⟩ := okS_in h
  have HB := Lib.hid h
  clear h
  have hn3 : ¬ n < 1 := by omega
  obtain ⟨z1, hz1⟩ : ∃ z, x / n = z := ⟨_, rfl⟩
  obtain ⟨z2, hz2⟩ : ∃ z, -((-y) / n) = z := ⟨_, rfl⟩
  rw [hz1, hz2]
  have HZ1 := Lib.hid hz1
  have HZ2 := Lib.hid hz2
  clear hz1 hz2
  have hXe : Ext w ((w.alloc (.cells #[.int .i64 x, .int .i64 y] 62)).alloc (.cells #[.int .i64 0, .int .i64 0] 62)) := (((Ext.refl w).alloc _).alloc _)
  have kA : Blk ((w.alloc (.cells #[.int .i64 x, .int .i64 y] 62)).alloc (.cells #[.int .i64 0, .int .i64 0] 62)) w.heap.size 62 #[.int .i64 x, .int .i64 y] := Blk.alloc (Blk.at_ (by simp)) _
  have kR : Blk ((w.alloc (.cells #[.int .i64 x, .int .i64 y] 62)).alloc (.cells #[.int .i64 0, .int .i64 0] 62)) (w.heap.size + 1) 62 #[.int .i64 0, .int .i64 0] := Blk.at_ (by simp)
  go_enter Try.func63, Try.ntmps63
  go_wp2_with fail
  generalize ((w.alloc (.cells #[.int .i64 x, .int .i64 y] 62)).alloc (.cells #[.int .i64 0, .int .i64 0] 62)) = w1 at hXe kA kR ⊢
  have HX := Lib.hid hXe
  clear hXe
  have KA := Lib.hid kA
  clear kA
  have KR := Lib.hid kR
  clear kR
  have cA0 : w1.cell? ⟨w.heap.size, 0, none⟩ = some (.int .i64 x) := KA.out.cell 0
  have cA1 : w1.cell? ⟨w.heap.size, 1, none⟩ = some (.int .i64 y) := KA.out.cell 1
  go_wp2_with fail
  clear cA0 cA1
  refine (rvalid_is HB.out _).mono ?_
  rintro e w2 ⟨rfl, hX⟩
  replace hX : Ext w1 w2 := by with_reducible exact hX
  replace HX := Lib.hid (HX.out.trans hX)
  replace KA := Lib.hid (KA.out.ext hX)
  replace KR := Lib.hid (KR.out.ext hX)
  clear hX
  go_upto_region 3 with (fail)
  refine rover_r3 w.heap.size x y n w2 (KA.out.cell 0) (KA.out.cell 1) HB.out (by omega) (by omega) (by omega) (by omega) hn hn2 _ _ (by simp) rfl rfl ?_
  rintro xv0 xv1 xv2 xv3 xv4 xv5 xv6 xv7 xv8 xv9 xv10 xv11 xv12 xv13 xv14 xv15 w3 rfl rfl _ rfl _ _ rfl rfl _ rfl _ _ _ rfl rfl rfl hXW
  simp only [rops, Try.f63, regOf, Option.bind_some, Nat.reduceBEq, if_true, if_false, Bool.false_eq_true, Option.getD_some, List.drop_succ_cons, List.drop_zero]
  simp only [Act.put, List.setIfInBounds_toArray, List.set_cons_succ, List.set_cons_zero]
  replace HX := Lib.hid (HX.out.trans hXW)
  replace KA := Lib.hid (KA.out.ext hXW)
  replace KR := Lib.hid (KR.out.ext hXW)
  clear hXW
  rw [HZ1.out, HZ2.out]
  have cR0 : w3.cell? ⟨(w.heap.size + 1), 0, none⟩ = some (.int .i64 0) := KR.out.cell 0
  have fR0 : w3.frozen? ⟨(w.heap.size + 1), 0, none⟩ = false := KR.out.free 0
  have cR1 : w3.cell? ⟨(w.heap.size + 1), 1, none⟩ = some (.int .i64 0) := KR.out.cell 1
  have fR1 : w3.frozen? ⟨(w.heap.size + 1), 1, none⟩ = false := KR.out.free 1
  go_wp2
  refine bodyPost_ret (v := .tuple #[.agg #[.int .i64 z1, .int .i64 z2], .int .i64 0]) (by simp [results, Try.results63, go_sem, *]) rfl ?_
  exact ⟨rfl, HX.out.two (by omega) _ _⟩

set_option maxRecDepth 100000 in
set_option maxHeartbeats 2000000 in
theorem rover_bad (x y n : Int) (w : World) (h : okS x y = false) :
    Calls Try.prog 63 #[.agg #[.int .i64 x, .int .i64 y], .int .i64 n] w (RetE w (.agg #[.int .i64 0, .int .i64 0]) 2) := by
  have HB := Lib.hid h
  clear h
  have hXe : Ext w ((w.alloc (.cells #[.int .i64 x, .int .i64 y] 62)).alloc (.cells #[.int .i64 0, .int .i64 0] 62)) := (((Ext.refl w).alloc _).alloc _)
  have kA : Blk ((w.alloc (.cells #[.int .i64 x, .int .i64 y] 62)).alloc (.cells #[.int .i64 0, .int .i64 0] 62)) w.heap.size 62 #[.int .i64 x, .int .i64 y] := Blk.alloc (Blk.at_ (by simp)) _
  have kR : Blk ((w.alloc (.cells #[.int .i64 x, .int .i64 y] 62)).alloc (.cells #[.int .i64 0, .int .i64 0] 62)) (w.heap.size + 1) 62 #[.int .i64 0, .int .i64 0] := Blk.at_ (by simp)
  go_enter Try.func63, Try.ntmps63
  go_wp2_with fail
  generalize ((w.alloc (.cells #[.int .i64 x, .int .i64 y] 62)).alloc (.cells #[.int .i64 0, .int .i64 0] 62)) = w1 at hXe kA kR ⊢
  have HX := Lib.hid hXe
  clear hXe
  have KA := Lib.hid kA
  clear kA
  have KR := Lib.hid kR
  clear kR
  have cA0 : w1.cell? ⟨w.heap.size, 0, none⟩ = some (.int .i64 x) := KA.out.cell 0
  have cA1 : w1.cell? ⟨w.heap.size, 1, none⟩ = some (.int .i64 y) := KA.out.cell 1
  go_wp2_with fail
  clear cA0 cA1
  refine (rvalid_is HB.out _).mono ?_
  rintro e w2 ⟨rfl, hX⟩
  replace hX : Ext w1 w2 := by with_reducible exact hX
  replace HX := Lib.hid (HX.out.trans hX)
  replace KA := Lib.hid (KA.out.ext hX)
  replace KR := Lib.hid (KR.out.ext hX)
  clear hX
  have cR0 : w2.cell? ⟨(w.heap.size + 1), 0, none⟩ = some (.int .i64 0) := KR.out.cell 0
  have fR0 : w2.frozen? ⟨(w.heap.size + 1), 0, none⟩ = false := KR.out.free 0
  have cR1 : w2.cell? ⟨(w.heap.size + 1), 1, none⟩ = some (.int .i64 0) := KR.out.cell 1
  have fR1 : w2.frozen? ⟨(w.heap.size + 1), 1, none⟩ = false := KR.out.free 1
  go_wp2
  refine bodyPost_ret (v := .tuple #[.agg #[.int .i64 0, .int .i64 0], .int .i64 2]) (by simp [results, Try.results63, go_sem, *]) rfl ?_
  exact ⟨rfl, HX.out.two (by omega) _ _⟩

set_option maxRecDepth 100000 in
set_option maxHeartbeats 2000000 in
theorem rover_neg (x y n : Int) (w : World) (h : okS x y = true) (hn : n < 1) :
    Calls Try.prog 63 #[.agg #[.int .i64 x, .int .i64 y], .int .i64 n] w (RetE w (.agg #[.int .i64 0, .int .i64 0]) 2) := by
  have HB := Lib.hid h
  clear h
  have hXe : Ext w ((w.alloc (.cells #[.int .i64 x, .int .i64 y] 62)).alloc (.cells #[.int .i64 0, .int .i64 0] 62)) := (((Ext.refl w).alloc _).alloc _)
  have kA : Blk ((w.alloc (.cells #[.int .i64 x, .int .i64 y] 62)).alloc (.cells #[.int .i64 0, .int .i64 0] 62)) w.heap.size 62 #[.int .i64 x, .int .i64 y] := Blk.alloc (Blk.at_ (by simp)) _
  have kR : Blk ((w.alloc (.cells #[.int .i64 x, .int .i64 y] 62)).alloc (.cells #[.int .i64 0, .int .i64 0] 62)) (w.heap.size + 1) 62 #[.int .i64 0, .int .i64 0] := Blk.at_ (by simp)
  go_enter Try.func63, Try.ntmps63
  go_wp2_with fail
  generalize ((w.alloc (.cells #[.int .i64 x, .int .i64 y] 62)).alloc (.cells #[.int .i64 0, .int .i64 0] 62)) = w1 at hXe kA kR ⊢
  have HX := Lib.hid hXe
  clear hXe
  have KA := Lib.hid kA
  clear kA
  have KR := Lib.hid kR
  clear kR
  have cA0 : w1.cell? ⟨w.heap.size, 0, none⟩ = some (.int .i64 x) := KA.out.cell 0
  have cA1 : w1.cell? ⟨w.heap.size, 1, none⟩ = some (.int .i64 y) := KA.out.cell 1
  go_wp2_with fail
  clear cA0 cA1
  refine (rvalid_is HB.out _).mono ?_
  rintro e w2 ⟨rfl, hX⟩
  replace hX : Ext w1 w2 := by with_reducible exact hX
  replace HX := Lib.hid (HX.out.trans hX)
  replace KA := Lib.hid (KA.out.ext hX)
  replace KR := Lib.hid (KR.out.ext hX)
  clear hX
  have cR0 : w2.cell? ⟨(w.heap.size + 1), 0, none⟩ = some (.int .i64 0) := KR.out.cell 0
  have fR0 : w2.frozen? ⟨(w.heap.size + 1), 0, none⟩ = false := KR.out.free 0
  have cR1 : w2.cell? ⟨(w.heap.size + 1), 1, none⟩ = some (.int .i64 0) := KR.out.cell 1
  have fR1 : w2.frozen? ⟨(w.heap.size + 1), 1, none⟩ = false := KR.out.free 1
  go_wp2
  refine bodyPost_ret (v := .tuple #[.agg #[.int .i64 0, .int .i64 0], .int .i64 2]) (by simp [results, Try.results63, go_sem, *]) rfl ?_
  exact ⟨rfl, HX.out.two (by omega) _ _⟩

theorem overs (x y n : Int) (hn2 : n ≤ 9223372036854775807) : ∃ z1 z2 z3 : Int, (∀ w, Calls Try.prog 57 #[.agg #[.int .i64 x, .int .i64 y], .int .i64 n] w (RetE w (.agg #[.int .i64 z1, .int .i64 z2]) z3)) ∧ (∀ w, Calls Try.prog 63 #[.agg #[.int .i64 x, .int .i64 y], .int .i64 n] w (RetE w (.agg #[.int .i64 z1, .int .i64 z2]) z3)) := by
  rcases h : okS x y with _ | _
  · exact ⟨0, 0, 2, fun w => eover_bad x y n w (.inl h), fun w => rover_bad x y n w h⟩
  · by_cases hn : 1 ≤ n
    · exact ⟨_, _, 0, fun w => eover_ok x y n w h hn hn2, fun w => rover_ok x y n w h hn hn2⟩
    · exact ⟨0, 0, 2, fun w => eover_bad x y n w (.inr (by omega)), fun w => rover_neg x y n w h (by omega)⟩
theorem covers {w : World} {va vb : Value} {n0 n1 : Bool} {xs ys xs' ys' : List Int} (h : RatV w va n0 xs ys) (k : RatV w vb n1 xs' ys') : ∃ z1 z2 z3 : Int, ∀ W, Ext w W → Calls Try.prog 64 #[va, vb] W (RetE W (.agg #[.int .i64 z1, .int .i64 z2]) z3) ∧ Calls Try.prog 65 #[va, vb] W (RetE W (.agg #[.int .i64 z1, .int .i64 z2]) z3) := by
  have ha : ∃ s A l c B m k, va = .agg #[.bool s, .slice A l c, .slice B m k] := by
    obtain ⟨A, l, c, B, m, k, rfl, _⟩ := h
    exact ⟨_, _, _, _, _, _, _, rfl⟩
  have hb : ∃ s A l c B m k, vb = .agg #[.bool s, .slice A l c, .slice B m k] := by
    obtain ⟨A, l, c, B, m, k, rfl, _⟩ := k
    exact ⟨_, _, _, _, _, _, _, rfl⟩
  obtain ⟨s0, A0, l0, c0, B0, m0, k0, rfl⟩ := ha
  obtain ⟨s1, A1, l1, c1, B1, m1, k1, rfl⟩ := hb
  rcases h.cases with h | ⟨_, h⟩ <;> rcases k.cases with k | ⟨_, k⟩
  · exact ⟨0, 0, 1, fun W hX => ⟨ecover_large _ _ _ _ _ _ _ _ _ _ _ _ _ _ true true W (h.ext hX) (k.ext hX) rfl, rcover_ll _ _ _ _ _ _ _ _ _ _ _ _ _ _ 0 W (h.ext hX) (k.ext hX)⟩⟩
  · exact ⟨0, 0, 1, fun W hX => ⟨ecover_large _ _ _ _ _ _ _ _ _ _ _ _ _ _ true false W (h.ext hX) (k.small.ext hX) rfl, rcover_ls _ _ _ _ _ _ _ _ _ _ _ _ _ _ _ W (h.ext hX) (k.ext hX)⟩⟩
  · exact ⟨0, 0, 1, fun W hX => ⟨ecover_large _ _ _ _ _ _ _ _ _ _ _ _ _ _ false true W (h.small.ext hX) (k.ext hX) rfl, rcover_sl _ _ _ _ _ _ _ _ _ _ _ _ _ _ _ W (h.ext hX) (k.ext hX)⟩⟩
  · exact ⟨_, _, _, fun W hX => ⟨ecover_any (h.ext hX) (k.ext hX), rcover_v _ _ _ _ _ _ _ _ _ _ _ _ _ _ _ _ W (h.ext hX) (k.ext hX)⟩⟩

set_option maxRecDepth 100000 in
set_option maxHeartbeats 2000000 in
theorem open_ExactCovers (gv : Nat) (x y n : Int) (s21 : Bool) (A21 B21 : Option Addr) (l21 c21 m21 k21 : Nat) (s22 : Bool) (A22 B22 : Option Addr) (l22 c22 m22 k22 : Nat) (w : World) (v0 : w.cell? ⟨gv, 0, none⟩ = some (.int .i64 x)) (v1 : w.cell? ⟨gv, 1, none⟩ = some (.int .i64 y)) (v2 : w.cell? ⟨gv, 2, none⟩ = some (.int .i64 n)) (v3 : w.cell? ⟨gv, 3, none⟩ = some (.bool s21)) (v4 : w.cell? ⟨gv, 4, none⟩ = some (.slice A21 l21 c21)) (v5 : w.cell? ⟨gv, 5, none⟩ = some (.slice B21 m21 k21)) (v6 : w.cell? ⟨gv, 6, none⟩ = some (.bool s22)) (v7 : w.cell? ⟨gv, 7, none⟩ = some (.slice A22 l22 c22)) (v8 : w.cell? ⟨gv, 8, none⟩ = some (.slice B22 m22 k22)) (a : Act) (Q : Exit → Act → World → Prop) (hsize : 19 ≤ a.tmps.size)
    (s1 : a.tmps[1]? = some (.pointer (some ⟨gv, 0, none⟩)))
    (hend : ∀ (xv0 xv1 xv2 xv3 xv4 xv5 xv6 xv7 xv8 xv9 xv10 xv11 xv12 xv13 xv14 : Value) (W : World), (xv0 = .pointer (some ⟨gv, 0, none⟩)) → (xv1 = .agg #[.int .i64 x, .int .i64 y]) → (xv2 = .pointer (some ⟨gv, 2, none⟩)) → (xv3 = .int .i64 n) → (xv4 = .pointer (some ⟨gv, 3, none⟩)) → (xv5 = .agg #[.bool s21, .slice A21 l21 c21, .slice B21 m21 k21]) → (xv6 = .pointer (some ⟨gv, 6, none⟩)) → (xv7 = .agg #[.bool s22, .slice A22 l22 c22, .slice B22 m22 k22]) → (xv12 = .int .i64 n) → (∃ g, xv8 = .pointer (some ⟨g, 0, none⟩) ∧ w.heap.size ≤ g ∧ Blk W g 62 #[.int .i64 x, .int .i64 y]) → (∃ g, xv9 = .pointer (some ⟨g, 0, none⟩) ∧ w.heap.size ≤ g ∧ Blk W g 33 #[.bool s21, .slice A21 l21 c21, .slice B21 m21 k21]) → (∃ g, xv10 = .pointer (some ⟨g, 0, none⟩) ∧ w.heap.size ≤ g ∧ Blk W g 33 #[.bool s22, .slice A22 l22 c22, .slice B22 m22 k22]) → (xv8 ≠ xv9) → (xv8 ≠ xv10) → (xv9 ≠ xv10) → Ext w W → wpList Try.prog (rops Try.f15 1).toArray Q [] (((((((((((((((a.put (some 11) xv0).put (some 12) xv1).put (some 13) xv2).put (some 14) xv3).put (some 15) xv4).put (some 16) xv5).put (some 17) xv6).put (some 18) xv7).put (some 3) xv8).put (some 5) xv9).put (some 6) xv10).put (none) xv11).put (some 4) xv12).put (none) xv13).put (none) xv14) W) :
    (Code.region 1 (rops Try.f15 1).toArray true).wp Try.prog Q a w := by
  have hsz : ∀ d, some d ∈ ([some 11, some 12, some 13, some 14, some 15, some 16, some 17, some 18, some 3, some 5, some 6, none, some 4, none, none] : List (Option Tmp)) → d < a.tmps.size := slots_lt (by decide) hsize
  refine wp_region_g 15 [some 11, some 12, some 13, some 14, some 15, some 16, some 17, some 18, some 3, some 5, some 6, none, some 4, none, none] [[], [0], [], [2], [], [4], [], [6], [], [], [], [1, 8], [3], [5, 9], [7, 10]] [[], [], [], [], [], [], [], [], [11], [13], [14], [], [], [], []] (fun (done : Nat → Prop) (us : Nat → Value) (W : World) => Ext w W ∧ (done 0 → us 0 = .pointer (some ⟨gv, 0, none⟩)) ∧ (done 1 → us 1 = .agg #[.int .i64 x, .int .i64 y]) ∧ (done 2 → us 2 = .pointer (some ⟨gv, 2, none⟩)) ∧ (done 3 → us 3 = .int .i64 n) ∧ (done 4 → us 4 = .pointer (some ⟨gv, 3, none⟩)) ∧ (done 5 → us 5 = .agg #[.bool s21, .slice A21 l21 c21, .slice B21 m21 k21]) ∧ (done 6 → us 6 = .pointer (some ⟨gv, 6, none⟩)) ∧ (done 7 → us 7 = .agg #[.bool s22, .slice A22 l22 c22, .slice B22 m22 k22]) ∧ (done 12 → us 12 = .int .i64 n) ∧ Loc w W 62 #[.int .i64 0, .int .i64 0] #[.int .i64 x, .int .i64 y] (done 8) (done 11) (us 8) ∧ Loc w W 33 #[.bool false, .slice none 0 0, .slice none 0 0] #[.bool s21, .slice A21 l21 c21, .slice B21 m21 k21] (done 9) (done 13) (us 9) ∧ Loc w W 33 #[.bool false, .slice none 0 0, .slice none 0 0] #[.bool s22, .slice A22 l22 c22, .slice B22 m22 k22] (done 10) (done 14) (us 10) ∧ Far (done 8) (done 9) (us 8) (us 9) ∧ Far (done 8) (done 10) (us 8) (us 10) ∧ Far (done 9) (done 10) (us 9) (us 10)) (by kernel_rfl) (by kernel_rfl) hsz (fun p q us W h => by have e : p = q := funext fun k => propext (h k); rw [e]; exact id) (fun us => ⟨(Ext.refl w).drew, fun h => h.elim, fun h => h.elim, fun h => h.elim, fun h => h.elim, fun h => h.elim, fun h => h.elim, fun h => h.elim, fun h => h.elim, fun h => h.elim, Loc.unmade id, Loc.unmade id, Loc.unmade id, fun h => h.elim, fun h => h.elim, fun h => h.elim⟩) ?_ ?_
  · clear hend
    simp only [rops, Try.f15, regOf, Option.bind_some, Nat.reduceBEq, if_true, if_false, Bool.false_eq_true, Option.getD_some]
    simp only [List.take_succ_cons, List.take_zero]
    refine ⟨?_, ?_, ?_, ?_, ?_, ?_, ?_, ?_, ?_, ?_, ?_, ?_, ?_, ?_, ?_, trivial⟩
    · intro done us W hJ hdep haft hnot b hb hb' K hK Q'
      obtain ⟨hX0, cc0, cc1, cc2, cc3, cc4, cc5, cc6, cc7, cc12, ll8, ll9, ll10, f8_9, f8_10, f9_10⟩ := hJ
      have e1 := (hb' 1 (by simp)).trans s1
      clear hb hb'
      have hfin := hK (.pointer (some ⟨gv, 0, none⟩)) _ ⟨hX0, fun _ => rfl, fun h => cc1 (h.resolve_right (by decide)), fun h => cc2 (h.resolve_right (by decide)), fun h => cc3 (h.resolve_right (by decide)), fun h => cc4 (h.resolve_right (by decide)), fun h => cc5 (h.resolve_right (by decide)), fun h => cc6 (h.resolve_right (by decide)), fun h => cc7 (h.resolve_right (by decide)), fun h => cc12 (h.resolve_right (by decide)), Loc.same ll8 ⟨fun h => h.resolve_right (by decide), .inl⟩ ⟨fun h => h.resolve_right (by decide), .inl⟩, Loc.same ll9 ⟨fun h => h.resolve_right (by decide), .inl⟩ ⟨fun h => h.resolve_right (by decide), .inl⟩, Loc.same ll10 ⟨fun h => h.resolve_right (by decide), .inl⟩ ⟨fun h => h.resolve_right (by decide), .inl⟩, fun h h' => f8_9 (h.resolve_right (by decide)) (h'.resolve_right (by decide)), fun h h' => f8_10 (h.resolve_right (by decide)) (h'.resolve_right (by decide)), fun h h' => f9_10 (h.resolve_right (by decide)) (h'.resolve_right (by decide))⟩
      clear hK cc0 cc1 cc2 cc3 cc4 cc5 cc6 cc7 cc12 ll8 ll9 ll10 f8_9 f8_10 f9_10
      go_simp
      exact hfin
    · intro done us W hJ hdep haft hnot b hb hb' K hK Q'
      obtain ⟨hX0, cc0, cc1, cc2, cc3, cc4, cc5, cc6, cc7, cc12, ll8, ll9, ll10, f8_9, f8_10, f9_10⟩ := hJ
      simp only [List.getD_cons_succ, List.getD_cons_zero, List.mem_cons, List.not_mem_nil, or_false, forall_eq_or_imp, forall_eq] at hdep
      have e11 := hb 0 11 rfl
      rw [cc0 hdep] at e11
      clear hb hb'
      have z0 := Ext.cell hX0 v0
      have z1 := Ext.cell hX0 v1
      have hfin := hK (.agg #[.int .i64 x, .int .i64 y]) _ ⟨hX0, fun h => cc0 (h.resolve_right (by decide)), fun _ => rfl, fun h => cc2 (h.resolve_right (by decide)), fun h => cc3 (h.resolve_right (by decide)), fun h => cc4 (h.resolve_right (by decide)), fun h => cc5 (h.resolve_right (by decide)), fun h => cc6 (h.resolve_right (by decide)), fun h => cc7 (h.resolve_right (by decide)), fun h => cc12 (h.resolve_right (by decide)), Loc.same ll8 ⟨fun h => h.resolve_right (by decide), .inl⟩ ⟨fun h => h.resolve_right (by decide), .inl⟩, Loc.same ll9 ⟨fun h => h.resolve_right (by decide), .inl⟩ ⟨fun h => h.resolve_right (by decide), .inl⟩, Loc.same ll10 ⟨fun h => h.resolve_right (by decide), .inl⟩ ⟨fun h => h.resolve_right (by decide), .inl⟩, fun h h' => f8_9 (h.resolve_right (by decide)) (h'.resolve_right (by decide)), fun h h' => f8_10 (h.resolve_right (by decide)) (h'.resolve_right (by decide)), fun h h' => f9_10 (h.resolve_right (by decide)) (h'.resolve_right (by decide))⟩
      clear hK cc0 cc1 cc2 cc3 cc4 cc5 cc6 cc7 cc12 ll8 ll9 ll10 f8_9 f8_10 f9_10
      go_simp
      exact hfin
    · intro done us W hJ hdep haft hnot b hb hb' K hK Q'
      obtain ⟨hX0, cc0, cc1, cc2, cc3, cc4, cc5, cc6, cc7, cc12, ll8, ll9, ll10, f8_9, f8_10, f9_10⟩ := hJ
      have e1 := (hb' 1 (by simp)).trans s1
      clear hb hb'
      have hfin := hK (.pointer (some ⟨gv, 2, none⟩)) _ ⟨hX0, fun h => cc0 (h.resolve_right (by decide)), fun h => cc1 (h.resolve_right (by decide)), fun _ => rfl, fun h => cc3 (h.resolve_right (by decide)), fun h => cc4 (h.resolve_right (by decide)), fun h => cc5 (h.resolve_right (by decide)), fun h => cc6 (h.resolve_right (by decide)), fun h => cc7 (h.resolve_right (by decide)), fun h => cc12 (h.resolve_right (by decide)), Loc.same ll8 ⟨fun h => h.resolve_right (by decide), .inl⟩ ⟨fun h => h.resolve_right (by decide), .inl⟩, Loc.same ll9 ⟨fun h => h.resolve_right (by decide), .inl⟩ ⟨fun h => h.resolve_right (by decide), .inl⟩, Loc.same ll10 ⟨fun h => h.resolve_right (by decide), .inl⟩ ⟨fun h => h.resolve_right (by decide), .inl⟩, fun h h' => f8_9 (h.resolve_right (by decide)) (h'.resolve_right (by decide)), fun h h' => f8_10 (h.resolve_right (by decide)) (h'.resolve_right (by decide)), fun h h' => f9_10 (h.resolve_right (by decide)) (h'.resolve_right (by decide))⟩
      clear hK cc0 cc1 cc2 cc3 cc4 cc5 cc6 cc7 cc12 ll8 ll9 ll10 f8_9 f8_10 f9_10
      go_simp
      exact hfin
    · intro done us W hJ hdep haft hnot b hb hb' K hK Q'
      obtain ⟨hX0, cc0, cc1, cc2, cc3, cc4, cc5, cc6, cc7, cc12, ll8, ll9, ll10, f8_9, f8_10, f9_10⟩ := hJ
      simp only [List.getD_cons_succ, List.getD_cons_zero, List.mem_cons, List.not_mem_nil, or_false, forall_eq_or_imp, forall_eq] at hdep
      have e13 := hb 2 13 rfl
      rw [cc2 hdep] at e13
      clear hb hb'
      have z2 := Ext.cell hX0 v2
      have hfin := hK (.int .i64 n) _ ⟨hX0, fun h => cc0 (h.resolve_right (by decide)), fun h => cc1 (h.resolve_right (by decide)), fun h => cc2 (h.resolve_right (by decide)), fun _ => rfl, fun h => cc4 (h.resolve_right (by decide)), fun h => cc5 (h.resolve_right (by decide)), fun h => cc6 (h.resolve_right (by decide)), fun h => cc7 (h.resolve_right (by decide)), fun h => cc12 (h.resolve_right (by decide)), Loc.same ll8 ⟨fun h => h.resolve_right (by decide), .inl⟩ ⟨fun h => h.resolve_right (by decide), .inl⟩, Loc.same ll9 ⟨fun h => h.resolve_right (by decide), .inl⟩ ⟨fun h => h.resolve_right (by decide), .inl⟩, Loc.same ll10 ⟨fun h => h.resolve_right (by decide), .inl⟩ ⟨fun h => h.resolve_right (by decide), .inl⟩, fun h h' => f8_9 (h.resolve_right (by decide)) (h'.resolve_right (by decide)), fun h h' => f8_10 (h.resolve_right (by decide)) (h'.resolve_right (by decide)), fun h h' => f9_10 (h.resolve_right (by decide)) (h'.resolve_right (by decide))⟩
      clear hK cc0 cc1 cc2 cc3 cc4 cc5 cc6 cc7 cc12 ll8 ll9 ll10 f8_9 f8_10 f9_10
      go_simp
      exact hfin
    · intro done us W hJ hdep haft hnot b hb hb' K hK Q'
      obtain ⟨hX0, cc0, cc1, cc2, cc3, cc4, cc5, cc6, cc7, cc12, ll8, ll9, ll10, f8_9, f8_10, f9_10⟩ := hJ
      have e1 := (hb' 1 (by simp)).trans s1
      clear hb hb'
      have hfin := hK (.pointer (some ⟨gv, 3, none⟩)) _ ⟨hX0, fun h => cc0 (h.resolve_right (by decide)), fun h => cc1 (h.resolve_right (by decide)), fun h => cc2 (h.resolve_right (by decide)), fun h => cc3 (h.resolve_right (by decide)), fun _ => rfl, fun h => cc5 (h.resolve_right (by decide)), fun h => cc6 (h.resolve_right (by decide)), fun h => cc7 (h.resolve_right (by decide)), fun h => cc12 (h.resolve_right (by decide)), Loc.same ll8 ⟨fun h => h.resolve_right (by decide), .inl⟩ ⟨fun h => h.resolve_right (by decide), .inl⟩, Loc.same ll9 ⟨fun h => h.resolve_right (by decide), .inl⟩ ⟨fun h => h.resolve_right (by decide), .inl⟩, Loc.same ll10 ⟨fun h => h.resolve_right (by decide), .inl⟩ ⟨fun h => h.resolve_right (by decide), .inl⟩, fun h h' => f8_9 (h.resolve_right (by decide)) (h'.resolve_right (by decide)), fun h h' => f8_10 (h.resolve_right (by decide)) (h'.resolve_right (by decide)), fun h h' => f9_10 (h.resolve_right (by decide)) (h'.resolve_right (by decide))⟩
      clear hK cc0 cc1 cc2 cc3 cc4 cc5 cc6 cc7 cc12 ll8 ll9 ll10 f8_9 f8_10 f9_10
      go_simp
      exact hfin
    · intro done us W hJ hdep haft hnot b hb hb' K hK Q'
      obtain ⟨hX0, cc0, cc1, cc2, cc3, cc4, cc5, cc6, cc7, cc12, ll8, ll9, ll10, f8_9, f8_10, f9_10⟩ := hJ
      simp only [List.getD_cons_succ, List.getD_cons_zero, List.mem_cons, List.not_mem_nil, or_false, forall_eq_or_imp, forall_eq] at hdep
      have e15 := hb 4 15 rfl
      rw [cc4 hdep] at e15
      clear hb hb'
      have z3 := Ext.cell hX0 v3
      have z4 := Ext.cell hX0 v4
      have z5 := Ext.cell hX0 v5
      have hfin := hK (.agg #[.bool s21, .slice A21 l21 c21, .slice B21 m21 k21]) _ ⟨hX0, fun h => cc0 (h.resolve_right (by decide)), fun h => cc1 (h.resolve_right (by decide)), fun h => cc2 (h.resolve_right (by decide)), fun h => cc3 (h.resolve_right (by decide)), fun h => cc4 (h.resolve_right (by decide)), fun _ => rfl, fun h => cc6 (h.resolve_right (by decide)), fun h => cc7 (h.resolve_right (by decide)), fun h => cc12 (h.resolve_right (by decide)), Loc.same ll8 ⟨fun h => h.resolve_right (by decide), .inl⟩ ⟨fun h => h.resolve_right (by decide), .inl⟩, Loc.same ll9 ⟨fun h => h.resolve_right (by decide), .inl⟩ ⟨fun h => h.resolve_right (by decide), .inl⟩, Loc.same ll10 ⟨fun h => h.resolve_right (by decide), .inl⟩ ⟨fun h => h.resolve_right (by decide), .inl⟩, fun h h' => f8_9 (h.resolve_right (by decide)) (h'.resolve_right (by decide)), fun h h' => f8_10 (h.resolve_right (by decide)) (h'.resolve_right (by decide)), fun h h' => f9_10 (h.resolve_right (by decide)) (h'.resolve_right (by decide))⟩
      clear hK cc0 cc1 cc2 cc3 cc4 cc5 cc6 cc7 cc12 ll8 ll9 ll10 f8_9 f8_10 f9_10
      go_simp
      exact hfin
    · intro done us W hJ hdep haft hnot b hb hb' K hK Q'
      obtain ⟨hX0, cc0, cc1, cc2, cc3, cc4, cc5, cc6, cc7, cc12, ll8, ll9, ll10, f8_9, f8_10, f9_10⟩ := hJ
      have e1 := (hb' 1 (by simp)).trans s1
      clear hb hb'
      have hfin := hK (.pointer (some ⟨gv, 6, none⟩)) _ ⟨hX0, fun h => cc0 (h.resolve_right (by decide)), fun h => cc1 (h.resolve_right (by decide)), fun h => cc2 (h.resolve_right (by decide)), fun h => cc3 (h.resolve_right (by decide)), fun h => cc4 (h.resolve_right (by decide)), fun h => cc5 (h.resolve_right (by decide)), fun _ => rfl, fun h => cc7 (h.resolve_right (by decide)), fun h => cc12 (h.resolve_right (by decide)), Loc.same ll8 ⟨fun h => h.resolve_right (by decide), .inl⟩ ⟨fun h => h.resolve_right (by decide), .inl⟩, Loc.same ll9 ⟨fun h => h.resolve_right (by decide), .inl⟩ ⟨fun h => h.resolve_right (by decide), .inl⟩, Loc.same ll10 ⟨fun h => h.resolve_right (by decide), .inl⟩ ⟨fun h => h.resolve_right (by decide), .inl⟩, fun h h' => f8_9 (h.resolve_right (by decide)) (h'.resolve_right (by decide)), fun h h' => f8_10 (h.resolve_right (by decide)) (h'.resolve_right (by decide)), fun h h' => f9_10 (h.resolve_right (by decide)) (h'.resolve_right (by decide))⟩
      clear hK cc0 cc1 cc2 cc3 cc4 cc5 cc6 cc7 cc12 ll8 ll9 ll10 f8_9 f8_10 f9_10
      go_simp
      exact hfin
    · intro done us W hJ hdep haft hnot b hb hb' K hK Q'
      obtain ⟨hX0, cc0, cc1, cc2, cc3, cc4, cc5, cc6, cc7, cc12, ll8, ll9, ll10, f8_9, f8_10, f9_10⟩ := hJ
      simp only [List.getD_cons_succ, List.getD_cons_zero, List.mem_cons, List.not_mem_nil, or_false, forall_eq_or_imp, forall_eq] at hdep
      have e17 := hb 6 17 rfl
      rw [cc6 hdep] at e17
      clear hb hb'
      have z6 := Ext.cell hX0 v6
      have z7 := Ext.cell hX0 v7
      have z8 := Ext.cell hX0 v8
      have hfin := hK (.agg #[.bool s22, .slice A22 l22 c22, .slice B22 m22 k22]) _ ⟨hX0, fun h => cc0 (h.resolve_right (by decide)), fun h => cc1 (h.resolve_right (by decide)), fun h => cc2 (h.resolve_right (by decide)), fun h => cc3 (h.resolve_right (by decide)), fun h => cc4 (h.resolve_right (by decide)), fun h => cc5 (h.resolve_right (by decide)), fun h => cc6 (h.resolve_right (by decide)), fun _ => rfl, fun h => cc12 (h.resolve_right (by decide)), Loc.same ll8 ⟨fun h => h.resolve_right (by decide), .inl⟩ ⟨fun h => h.resolve_right (by decide), .inl⟩, Loc.same ll9 ⟨fun h => h.resolve_right (by decide), .inl⟩ ⟨fun h => h.resolve_right (by decide), .inl⟩, Loc.same ll10 ⟨fun h => h.resolve_right (by decide), .inl⟩ ⟨fun h => h.resolve_right (by decide), .inl⟩, fun h h' => f8_9 (h.resolve_right (by decide)) (h'.resolve_right (by decide)), fun h h' => f8_10 (h.resolve_right (by decide)) (h'.resolve_right (by decide)), fun h h' => f9_10 (h.resolve_right (by decide)) (h'.resolve_right (by decide))⟩
      clear hK cc0 cc1 cc2 cc3 cc4 cc5 cc6 cc7 cc12 ll8 ll9 ll10 f8_9 f8_10 f9_10
      go_simp
      exact hfin
    · intro done us W hJ hdep haft hnot b hb hb' K hK Q'
      obtain ⟨hX0, cc0, cc1, cc2, cc3, cc4, cc5, cc6, cc7, cc12, ll8, ll9, ll10, f8_9, f8_10, f9_10⟩ := hJ
      simp only [List.getD_cons_succ, List.getD_cons_zero, List.mem_cons, List.not_mem_nil, or_false, forall_eq_or_imp, forall_eq] at haft
      clear hb hb'
      have hfin := hK _ _ ⟨hX0.alloc _, fun h => cc0 (h.resolve_right (by decide)), fun h => cc1 (h.resolve_right (by decide)), fun h => cc2 (h.resolve_right (by decide)), fun h => cc3 (h.resolve_right (by decide)), fun h => cc4 (h.resolve_right (by decide)), fun h => cc5 (h.resolve_right (by decide)), fun h => cc6 (h.resolve_right (by decide)), fun h => cc7 (h.resolve_right (by decide)), fun h => cc12 (h.resolve_right (by decide)), Loc.new w W hX0 (fun h => h.elim haft (by decide)) (Ext.refl _), Loc.same (ll9.ext ((Ext.refl _).alloc _)) ⟨fun h => h.resolve_right (by decide), .inl⟩ ⟨fun h => h.resolve_right (by decide), .inl⟩, Loc.same (ll10.ext ((Ext.refl _).alloc _)) ⟨fun h => h.resolve_right (by decide), .inl⟩ ⟨fun h => h.resolve_right (by decide), .inl⟩, fun _ h => Ne.symm (ll9.far_new (h.resolve_right (by decide))), fun _ h => Ne.symm (ll10.far_new (h.resolve_right (by decide))), fun h h' => f9_10 (h.resolve_right (by decide)) (h'.resolve_right (by decide))⟩
      clear hK hX0 cc0 cc1 cc2 cc3 cc4 cc5 cc6 cc7 cc12 ll8 ll9 ll10 f8_9 f8_10 f9_10
      go_simp
      exact hfin
    · intro done us W hJ hdep haft hnot b hb hb' K hK Q'
      obtain ⟨hX0, cc0, cc1, cc2, cc3, cc4, cc5, cc6, cc7, cc12, ll8, ll9, ll10, f8_9, f8_10, f9_10⟩ := hJ
      simp only [List.getD_cons_succ, List.getD_cons_zero, List.mem_cons, List.not_mem_nil, or_false, forall_eq_or_imp, forall_eq] at haft
      clear hb hb'
      have hfin := hK _ _ ⟨hX0.alloc _, fun h => cc0 (h.resolve_right (by decide)), fun h => cc1 (h.resolve_right (by decide)), fun h => cc2 (h.resolve_right (by decide)), fun h => cc3 (h.resolve_right (by decide)), fun h => cc4 (h.resolve_right (by decide)), fun h => cc5 (h.resolve_right (by decide)), fun h => cc6 (h.resolve_right (by decide)), fun h => cc7 (h.resolve_right (by decide)), fun h => cc12 (h.resolve_right (by decide)), Loc.same (ll8.ext ((Ext.refl _).alloc _)) ⟨fun h => h.resolve_right (by decide), .inl⟩ ⟨fun h => h.resolve_right (by decide), .inl⟩, Loc.new w W hX0 (fun h => h.elim haft (by decide)) (Ext.refl _), Loc.same (ll10.ext ((Ext.refl _).alloc _)) ⟨fun h => h.resolve_right (by decide), .inl⟩ ⟨fun h => h.resolve_right (by decide), .inl⟩, fun h _ => ll8.far_new (h.resolve_right (by decide)), fun h h' => f8_10 (h.resolve_right (by decide)) (h'.resolve_right (by decide)), fun _ h => Ne.symm (ll10.far_new (h.resolve_right (by decide)))⟩
      clear hK hX0 cc0 cc1 cc2 cc3 cc4 cc5 cc6 cc7 cc12 ll8 ll9 ll10 f8_9 f8_10 f9_10
      go_simp
      exact hfin
    · intro done us W hJ hdep haft hnot b hb hb' K hK Q'
      obtain ⟨hX0, cc0, cc1, cc2, cc3, cc4, cc5, cc6, cc7, cc12, ll8, ll9, ll10, f8_9, f8_10, f9_10⟩ := hJ
      simp only [List.getD_cons_succ, List.getD_cons_zero, List.mem_cons, List.not_mem_nil, or_false, forall_eq_or_imp, forall_eq] at haft
      clear hb hb'
      have hfin := hK _ _ ⟨hX0.alloc _, fun h => cc0 (h.resolve_right (by decide)), fun h => cc1 (h.resolve_right (by decide)), fun h => cc2 (h.resolve_right (by decide)), fun h => cc3 (h.resolve_right (by decide)), fun h => cc4 (h.resolve_right (by decide)), fun h => cc5 (h.resolve_right (by decide)), fun h => cc6 (h.resolve_right (by decide)), fun h => cc7 (h.resolve_right (by decide)), fun h => cc12 (h.resolve_right (by decide)), Loc.same (ll8.ext ((Ext.refl _).alloc _)) ⟨fun h => h.resolve_right (by decide), .inl⟩ ⟨fun h => h.resolve_right (by decide), .inl⟩, Loc.same (ll9.ext ((Ext.refl _).alloc _)) ⟨fun h => h.resolve_right (by decide), .inl⟩ ⟨fun h => h.resolve_right (by decide), .inl⟩, Loc.new w W hX0 (fun h => h.elim haft (by decide)) (Ext.refl _), fun h h' => f8_9 (h.resolve_right (by decide)) (h'.resolve_right (by decide)), fun h _ => ll8.far_new (h.resolve_right (by decide)), fun h _ => ll9.far_new (h.resolve_right (by decide))⟩
      clear hK hX0 cc0 cc1 cc2 cc3 cc4 cc5 cc6 cc7 cc12 ll8 ll9 ll10 f8_9 f8_10 f9_10
      go_simp
      exact hfin
    · intro done us W hJ hdep haft hnot b hb hb' K hK Q'
      obtain ⟨hX0, cc0, cc1, cc2, cc3, cc4, cc5, cc6, cc7, cc12, ll8, ll9, ll10, f8_9, f8_10, f9_10⟩ := hJ
      simp only [List.getD_cons_succ, List.getD_cons_zero, List.mem_cons, List.not_mem_nil, or_false, forall_eq_or_imp, forall_eq] at hdep
      have e3 := hb 8 3 rfl
      have e12 := hb 1 12 rfl
      rw [cc1 hdep.1] at e12
      obtain ⟨g, eg, hg, hB⟩ := ll8.stored hdep.2 hnot
      rw [eg] at e3
      have q0 : W.cell? ⟨g, 0, none⟩ = some (.int .i64 0) := hB.cell 0
      have z0 : W.frozen? ⟨g, 0, none⟩ = false := hB.free 0
      have q1 : W.cell? ⟨g, 1, none⟩ = some (.int .i64 0) := hB.cell 1
      have z1 : W.frozen? ⟨g, 1, none⟩ = false := hB.free 1
      clear hb hb'
      have hfin := hK undef _ ⟨((hX0.setCell hg _).setCell hg _), fun h => cc0 (h.resolve_right (by decide)), fun h => cc1 (h.resolve_right (by decide)), fun h => cc2 (h.resolve_right (by decide)), fun h => cc3 (h.resolve_right (by decide)), fun h => cc4 (h.resolve_right (by decide)), fun h => cc5 (h.resolve_right (by decide)), fun h => cc6 (h.resolve_right (by decide)), fun h => cc7 (h.resolve_right (by decide)), fun h => cc12 (h.resolve_right (by decide)), ⟨fun _ => ⟨g, eg, hg, fun _ => (Blk.set (Blk.set hB 0 _) 1 _), fun h => absurd (.inr rfl) h⟩⟩, Loc.same (Loc.keep (Loc.keep ll9 (f := (fun h k => Ne.symm (f8_9 k h))) hdep.2 eg) (f := (fun h k => Ne.symm (f8_9 k h))) hdep.2 eg) ⟨fun h => h.resolve_right (by decide), .inl⟩ ⟨fun h => h.resolve_right (by decide), .inl⟩, Loc.same (Loc.keep (Loc.keep ll10 (f := (fun h k => Ne.symm (f8_10 k h))) hdep.2 eg) (f := (fun h k => Ne.symm (f8_10 k h))) hdep.2 eg) ⟨fun h => h.resolve_right (by decide), .inl⟩ ⟨fun h => h.resolve_right (by decide), .inl⟩, fun h h' => f8_9 (h.resolve_right (by decide)) (h'.resolve_right (by decide)), fun h h' => f8_10 (h.resolve_right (by decide)) (h'.resolve_right (by decide)), fun h h' => f9_10 (h.resolve_right (by decide)) (h'.resolve_right (by decide))⟩
      clear hK hX0 cc0 cc1 cc2 cc3 cc4 cc5 cc6 cc7 cc12 ll8 ll9 ll10 f8_9 f8_10 f9_10
      go_simp
      exact hfin
    · intro done us W hJ hdep haft hnot b hb hb' K hK Q'
      obtain ⟨hX0, cc0, cc1, cc2, cc3, cc4, cc5, cc6, cc7, cc12, ll8, ll9, ll10, f8_9, f8_10, f9_10⟩ := hJ
      simp only [List.getD_cons_succ, List.getD_cons_zero, List.mem_cons, List.not_mem_nil, or_false, forall_eq_or_imp, forall_eq] at hdep
      have e14 := hb 3 14 rfl
      rw [cc3 hdep] at e14
      clear hb hb'
      have hfin := hK (.int .i64 n) _ ⟨hX0, fun h => cc0 (h.resolve_right (by decide)), fun h => cc1 (h.resolve_right (by decide)), fun h => cc2 (h.resolve_right (by decide)), fun h => cc3 (h.resolve_right (by decide)), fun h => cc4 (h.resolve_right (by decide)), fun h => cc5 (h.resolve_right (by decide)), fun h => cc6 (h.resolve_right (by decide)), fun h => cc7 (h.resolve_right (by decide)), fun _ => rfl, Loc.same ll8 ⟨fun h => h.resolve_right (by decide), .inl⟩ ⟨fun h => h.resolve_right (by decide), .inl⟩, Loc.same ll9 ⟨fun h => h.resolve_right (by decide), .inl⟩ ⟨fun h => h.resolve_right (by decide), .inl⟩, Loc.same ll10 ⟨fun h => h.resolve_right (by decide), .inl⟩ ⟨fun h => h.resolve_right (by decide), .inl⟩, fun h h' => f8_9 (h.resolve_right (by decide)) (h'.resolve_right (by decide)), fun h h' => f8_10 (h.resolve_right (by decide)) (h'.resolve_right (by decide)), fun h h' => f9_10 (h.resolve_right (by decide)) (h'.resolve_right (by decide))⟩
      clear hK cc0 cc1 cc2 cc3 cc4 cc5 cc6 cc7 cc12 ll8 ll9 ll10 f8_9 f8_10 f9_10
      go_simp
      exact hfin
    · intro done us W hJ hdep haft hnot b hb hb' K hK Q'
      obtain ⟨hX0, cc0, cc1, cc2, cc3, cc4, cc5, cc6, cc7, cc12, ll8, ll9, ll10, f8_9, f8_10, f9_10⟩ := hJ
      simp only [List.getD_cons_succ, List.getD_cons_zero, List.mem_cons, List.not_mem_nil, or_false, forall_eq_or_imp, forall_eq] at hdep
      have e5 := hb 9 5 rfl
      have e16 := hb 5 16 rfl
      rw [cc5 hdep.1] at e16
      obtain ⟨g, eg, hg, hB⟩ := ll9.stored hdep.2 hnot
      rw [eg] at e5
      have q0 : W.cell? ⟨g, 0, none⟩ = some (.bool false) := hB.cell 0
      have z0 : W.frozen? ⟨g, 0, none⟩ = false := hB.free 0
      have q1 : W.cell? ⟨g, 1, none⟩ = some (.slice none 0 0) := hB.cell 1
      have z1 : W.frozen? ⟨g, 1, none⟩ = false := hB.free 1
      have q2 : W.cell? ⟨g, 2, none⟩ = some (.slice none 0 0) := hB.cell 2
      have z2 : W.frozen? ⟨g, 2, none⟩ = false := hB.free 2
      clear hb hb'
      have hfin := hK undef _ ⟨(((hX0.setCell hg _).setCell hg _).setCell hg _), fun h => cc0 (h.resolve_right (by decide)), fun h => cc1 (h.resolve_right (by decide)), fun h => cc2 (h.resolve_right (by decide)), fun h => cc3 (h.resolve_right (by decide)), fun h => cc4 (h.resolve_right (by decide)), fun h => cc5 (h.resolve_right (by decide)), fun h => cc6 (h.resolve_right (by decide)), fun h => cc7 (h.resolve_right (by decide)), fun h => cc12 (h.resolve_right (by decide)), Loc.same (Loc.keep (Loc.keep (Loc.keep ll8 (f := f8_9) hdep.2 eg) (f := f8_9) hdep.2 eg) (f := f8_9) hdep.2 eg) ⟨fun h => h.resolve_right (by decide), .inl⟩ ⟨fun h => h.resolve_right (by decide), .inl⟩, ⟨fun _ => ⟨g, eg, hg, fun _ => (Blk.set (Blk.set (Blk.set hB 0 _) 1 _) 2 _), fun h => absurd (.inr rfl) h⟩⟩, Loc.same (Loc.keep (Loc.keep (Loc.keep ll10 (f := (fun h k => Ne.symm (f9_10 k h))) hdep.2 eg) (f := (fun h k => Ne.symm (f9_10 k h))) hdep.2 eg) (f := (fun h k => Ne.symm (f9_10 k h))) hdep.2 eg) ⟨fun h => h.resolve_right (by decide), .inl⟩ ⟨fun h => h.resolve_right (by decide), .inl⟩, fun h h' => f8_9 (h.resolve_right (by decide)) (h'.resolve_right (by decide)), fun h h' => f8_10 (h.resolve_right (by decide)) (h'.resolve_right (by decide)), fun h h' => f9_10 (h.resolve_right (by decide)) (h'.resolve_right (by decide))⟩
      clear hK hX0 cc0 cc1 cc2 cc3 cc4 cc5 cc6 cc7 cc12 ll8 ll9 ll10 f8_9 f8_10 f9_10
      go_simp
      exact hfin
    · intro done us W hJ hdep haft hnot b hb hb' K hK Q'
      obtain ⟨hX0, cc0, cc1, cc2, cc3, cc4, cc5, cc6, cc7, cc12, ll8, ll9, ll10, f8_9, f8_10, f9_10⟩ := hJ
      simp only [List.getD_cons_succ, List.getD_cons_zero, List.mem_cons, List.not_mem_nil, or_false, forall_eq_or_imp, forall_eq] at hdep
      have e6 := hb 10 6 rfl
      have e18 := hb 7 18 rfl
      rw [cc7 hdep.1] at e18
      obtain ⟨g, eg, hg, hB⟩ := ll10.stored hdep.2 hnot
      rw [eg] at e6
      have q0 : W.cell? ⟨g, 0, none⟩ = some (.bool false) := hB.cell 0
      have z0 : W.frozen? ⟨g, 0, none⟩ = false := hB.free 0
      have q1 : W.cell? ⟨g, 1, none⟩ = some (.slice none 0 0) := hB.cell 1
      have z1 : W.frozen? ⟨g, 1, none⟩ = false := hB.free 1
      have q2 : W.cell? ⟨g, 2, none⟩ = some (.slice none 0 0) := hB.cell 2
      have z2 : W.frozen? ⟨g, 2, none⟩ = false := hB.free 2
      clear hb hb'
      have hfin := hK undef _ ⟨(((hX0.setCell hg _).setCell hg _).setCell hg _), fun h => cc0 (h.resolve_right (by decide)), fun h => cc1 (h.resolve_right (by decide)), fun h => cc2 (h.resolve_right (by decide)), fun h => cc3 (h.resolve_right (by decide)), fun h => cc4 (h.resolve_right (by decide)), fun h => cc5 (h.resolve_right (by decide)), fun h => cc6 (h.resolve_right (by decide)), fun h => cc7 (h.resolve_right (by decide)), fun h => cc12 (h.resolve_right (by decide)), Loc.same (Loc.keep (Loc.keep (Loc.keep ll8 (f := f8_10) hdep.2 eg) (f := f8_10) hdep.2 eg) (f := f8_10) hdep.2 eg) ⟨fun h => h.resolve_right (by decide), .inl⟩ ⟨fun h => h.resolve_right (by decide), .inl⟩, Loc.same (Loc.keep (Loc.keep (Loc.keep ll9 (f := f9_10) hdep.2 eg) (f := f9_10) hdep.2 eg) (f := f9_10) hdep.2 eg) ⟨fun h => h.resolve_right (by decide), .inl⟩ ⟨fun h => h.resolve_right (by decide), .inl⟩, ⟨fun _ => ⟨g, eg, hg, fun _ => (Blk.set (Blk.set (Blk.set hB 0 _) 1 _) 2 _), fun h => absurd (.inr rfl) h⟩⟩, fun h h' => f8_9 (h.resolve_right (by decide)) (h'.resolve_right (by decide)), fun h h' => f8_10 (h.resolve_right (by decide)) (h'.resolve_right (by decide)), fun h h' => f9_10 (h.resolve_right (by decide)) (h'.resolve_right (by decide))⟩
      clear hK hX0 cc0 cc1 cc2 cc3 cc4 cc5 cc6 cc7 cc12 ll8 ll9 ll10 f8_9 f8_10 f9_10
      go_simp
      exact hfin
  · intro us W hJ
    obtain ⟨hX0, cc0, cc1, cc2, cc3, cc4, cc5, cc6, cc7, cc12, ll8, ll9, ll10, f8_9, f8_10, f9_10⟩ := hJ
    rw [show (rops Try.f15 1).drop 15 = [] by kernel_rfl]
    exact hend (us 0) (us 1) (us 2) (us 3) (us 4) (us 5) (us 6) (us 7) (us 8) (us 9) (us 10) (us 11) (us 12) (us 13) (us 14) W (cc0 (show 0 < 15 by decide)) (cc1 (show 1 < 15 by decide)) (cc2 (show 2 < 15 by decide)) (cc3 (show 3 < 15 by decide)) (cc4 (show 4 < 15 by decide)) (cc5 (show 5 < 15 by decide)) (cc6 (show 6 < 15 by decide)) (cc7 (show 7 < 15 by decide)) (cc12 (show 12 < 15 by decide)) (ll8.done (show 8 < 15 by decide) (show 11 < 15 by decide)) (ll9.done (show 9 < 15 by decide) (show 13 < 15 by decide)) (ll10.done (show 10 < 15 by decide) (show 14 < 15 by decide)) (f8_9 (show 8 < 15 by decide) (show 9 < 15 by decide)) (f8_10 (show 8 < 15 by decide) (show 10 < 15 by decide)) (f9_10 (show 9 < 15 by decide) (show 10 < 15 by decide)) hX0
set_option maxRecDepth 100000 in
set_option maxHeartbeats 2000000 in
theorem covers_v (x y n : Int) (s21 : Bool) (A21 B21 : Option Addr) (l21 c21 m21 k21 : Nat) (s22 : Bool) (A22 B22 : Option Addr) (l22 c22 m22 k22 : Nat) (n0 n1 : Bool) (xs ys xs' ys' : List Int) (z1 z2 z3 y1 y2 y3 : Int) (w : World) (v0 : RatV w (.agg #[.bool s21, .slice A21 l21 c21, .slice B21 m21 k21]) n0 xs ys) (v1 : RatV w (.agg #[.bool s22, .slice A22 l22 c22, .slice B22 m22 k22]) n1 xs' ys') (ho : ∀ W, Calls Try.prog 57 #[.agg #[.int .i64 x, .int .i64 y], .int .i64 n] W (RetE W (.agg #[.int .i64 z1, .int .i64 z2]) z3)) (hr : ∀ W, Calls Try.prog 63 #[.agg #[.int .i64 x, .int .i64 y], .int .i64 n] W (RetE W (.agg #[.int .i64 z1, .int .i64 z2]) z3)) (hc : ∀ W, Ext w W → Calls Try.prog 64 #[.agg #[.bool s21, .slice A21 l21 c21, .slice B21 m21 k21], .agg #[.bool s22, .slice A22 l22 c22, .slice B22 m22 k22]] W (RetE W (.agg #[.int .i64 y1, .int .i64 y2]) y3) ∧ Calls Try.prog 65 #[.agg #[.bool s21, .slice A21 l21 c21, .slice B21 m21 k21], .agg #[.bool s22, .slice A22 l22 c22, .slice B22 m22 k22]] W (RetE W (.agg #[.int .i64 y1, .int .i64 y2]) y3)) :
    Calls Try.prog 15 #[.agg #[.int .i64 x, .int .i64 y, .int .i64 n, .bool s21, .slice A21 l21 c21, .slice B21 m21 k21, .bool s22, .slice A22 l22 c22, .slice B22 m22 k22]] w (fun e w' => e = .returned (.bool true) ∧ Ext w w') := by
  have HV0 := Lib.hid v0
  have HV1 := Lib.hid v1
  have HO := Lib.hid ho
  have HR := Lib.hid hr
  have HC := Lib.hid hc
  clear v0 v1 ho hr hc
  have hXe : Ext w (w.alloc (.cells #[.int .i64 x, .int .i64 y, .int .i64 n, .bool s21, .slice A21 l21 c21, .slice B21 m21 k21, .bool s22, .slice A22 l22 c22, .slice B22 m22 k22] 88)) := ((Ext.refl w).alloc _)
  have kV : Blk (w.alloc (.cells #[.int .i64 x, .int .i64 y, .int .i64 n, .bool s21, .slice A21 l21 c21, .slice B21 m21 k21, .bool s22, .slice A22 l22 c22, .slice B22 m22 k22] 88)) w.heap.size 88 #[.int .i64 x, .int .i64 y, .int .i64 n, .bool s21, .slice A21 l21 c21, .slice B21 m21 k21, .bool s22, .slice A22 l22 c22, .slice B22 m22 k22] := Blk.at_ (by simp)
  go_enter Try.func15, Try.ntmps15
  go_wp2_with fail
  generalize (w.alloc (.cells #[.int .i64 x, .int .i64 y, .int .i64 n, .bool s21, .slice A21 l21 c21, .slice B21 m21 k21, .bool s22, .slice A22 l22 c22, .slice B22 m22 k22] 88)) = w1 at hXe kV ⊢
  have HX := Lib.hid hXe
  clear hXe
  have KV := Lib.hid kV
  clear kV
  replace HV0 := Lib.hid (HV0.out.ext HX.out)
  replace HV1 := Lib.hid (HV1.out.ext HX.out)
  have zV := KV.out.lt
  go_upto_region 1 with (fail)
  refine open_ExactCovers w.heap.size x y n s21 A21 B21 l21 c21 m21 k21 s22 A22 B22 l22 c22 m22 k22 w1 (KV.out.cell 0) (KV.out.cell 1) (KV.out.cell 2) (KV.out.cell 3) (KV.out.cell 4) (KV.out.cell 5) (KV.out.cell 6) (KV.out.cell 7) (KV.out.cell 8) _ _ (by simp) rfl ?_
  rintro xv0 xv1 xv2 xv3 xv4 xv5 xv6 xv7 xv8 xv9 xv10 xv11 xv12 xv13 xv14 w2 rfl rfl rfl rfl rfl rfl rfl rfl rfl ⟨ga, rfl, hga, hBa⟩ ⟨gx, rfl, hgx, hBx⟩ ⟨gy, rfl, hgy, hBy⟩ hn1 hn2 hn3 hXW
  simp only [rops, Try.f15, regOf, Option.bind_some, Nat.reduceBEq, if_true, if_false, Bool.false_eq_true, Option.getD_some, List.drop_succ_cons, List.drop_zero]
  simp only [Act.put, List.setIfInBounds_toArray, List.set_cons_succ, List.set_cons_zero]
  replace HX := Lib.hid (HX.out.trans hXW)
  replace HV0 := Lib.hid (HV0.out.ext hXW)
  replace HV1 := Lib.hid (HV1.out.ext hXW)
  replace KV := Lib.hid (KV.out.ext hXW)
  clear hXW
  clear KV
  have hne1 : ga ≠ gx := by
    rintro rfl
    exact hn1 rfl
  have hne2 : ga ≠ gy := by
    rintro rfl
    exact hn2 rfl
  have hne3 : gx ≠ gy := by
    rintro rfl
    exact hn3 rfl
  have KA := Lib.hid hBa
  have KX := Lib.hid hBx
  have KY := Lib.hid hBy
  clear hn1 hn2 hn3 hBa hBx hBy
  have cA0 : w2.cell? ⟨ga, 0, none⟩ = some (.int .i64 x) := KA.out.cell 0
  have cA1 : w2.cell? ⟨ga, 1, none⟩ = some (.int .i64 y) := KA.out.cell 1
  go_wp2_with fail
  clear cA0 cA1
  refine (HO.out _).mono ?_
  unfold RetE
  rintro e w3 ⟨rfl, hX⟩
  replace hX : Ext w2 w3 := by with_reducible exact hX
  replace HX := Lib.hid (HX.out.trans hX)
  replace HV0 := Lib.hid (HV0.out.ext hX)
  replace HV1 := Lib.hid (HV1.out.ext hX)
  replace KA := Lib.hid (KA.out.ext hX)
  replace KX := Lib.hid (KX.out.ext hX)
  replace KY := Lib.hid (KY.out.ext hX)
  clear hX
  go_upto_region 3 with (fail)
  have hXa : Ext w3 (w3.alloc (.cells #[.int .i64 z1, .int .i64 z2] 62)) := (Ext.refl _).alloc _
  have kP := Blk.new w3 62 #[.int .i64 z1, .int .i64 z2]
  have zA := KA.out.lt
  have zX := KX.out.lt
  have zY := KY.out.lt
  have zg := HX.out.size
  replace HX := Lib.hid (HX.out.trans hXa)
  replace HV0 := Lib.hid (HV0.out.ext hXa)
  replace HV1 := Lib.hid (HV1.out.ext hXa)
  replace KA := Lib.hid (KA.out.ext hXa)
  replace KX := Lib.hid (KX.out.ext hXa)
  replace KY := Lib.hid (KY.out.ext hXa)
  generalize (w3.alloc (.cells #[.int .i64 z1, .int .i64 z2] 62)) = w4 at HX HV0 HV1 KA KX KY kP ⊢
  have KP := Lib.hid kP
  clear kP hXa
  have cA0 : w4.cell? ⟨ga, 0, none⟩ = some (.int .i64 x) := KA.out.cell 0
  have cA1 : w4.cell? ⟨ga, 1, none⟩ = some (.int .i64 y) := KA.out.cell 1
  go_wp2_with fail
  clear cA0 cA1
  refine (HR.out _).mono ?_
  unfold RetE
  rintro e w5 ⟨rfl, hX⟩
  replace hX : Ext w4 w5 := by with_reducible exact hX
  replace HX := Lib.hid (HX.out.trans hX)
  replace HV0 := Lib.hid (HV0.out.ext hX)
  replace HV1 := Lib.hid (HV1.out.ext hX)
  replace KA := Lib.hid (KA.out.ext hX)
  replace KX := Lib.hid (KX.out.ext hX)
  replace KY := Lib.hid (KY.out.ext hX)
  replace KP := Lib.hid (KP.out.ext hX)
  clear hX
  go_upto_region 4 with (fail)
  have hXa : Ext w5 (w5.alloc (.cells #[.int .i64 z1, .int .i64 z2] 62)) := (Ext.refl _).alloc _
  have kQ := Blk.new w5 62 #[.int .i64 z1, .int .i64 z2]
  have zA := KA.out.lt
  have zX := KX.out.lt
  have zY := KY.out.lt
  have zP := KP.out.lt
  have zg := HX.out.size
  replace HX := Lib.hid (HX.out.trans hXa)
  replace HV0 := Lib.hid (HV0.out.ext hXa)
  replace HV1 := Lib.hid (HV1.out.ext hXa)
  replace KA := Lib.hid (KA.out.ext hXa)
  replace KX := Lib.hid (KX.out.ext hXa)
  replace KY := Lib.hid (KY.out.ext hXa)
  replace KP := Lib.hid (KP.out.ext hXa)
  generalize (w5.alloc (.cells #[.int .i64 z1, .int .i64 z2] 62)) = w6 at HX HV0 HV1 KA KX KY KP kQ ⊢
  have KQ := Lib.hid kQ
  clear kQ hXa
  clear KA
  have cX0 : w6.cell? ⟨gx, 0, none⟩ = some (.bool s21) := KX.out.cell 0
  have cX1 : w6.cell? ⟨gx, 1, none⟩ = some (.slice A21 l21 c21) := KX.out.cell 1
  have cX2 : w6.cell? ⟨gx, 2, none⟩ = some (.slice B21 m21 k21) := KX.out.cell 2
  have cY0 : w6.cell? ⟨gy, 0, none⟩ = some (.bool s22) := KY.out.cell 0
  have cY1 : w6.cell? ⟨gy, 1, none⟩ = some (.slice A22 l22 c22) := KY.out.cell 1
  have cY2 : w6.cell? ⟨gy, 2, none⟩ = some (.slice B22 m22 k22) := KY.out.cell 2
  have cP0 : w6.cell? ⟨w3.heap.size, 0, none⟩ = some (.int .i64 z1) := KP.out.cell 0
  have cP1 : w6.cell? ⟨w3.heap.size, 1, none⟩ = some (.int .i64 z2) := KP.out.cell 1
  have cQ0 : w6.cell? ⟨w5.heap.size, 0, none⟩ = some (.int .i64 z1) := KQ.out.cell 0
  have cQ1 : w6.cell? ⟨w5.heap.size, 1, none⟩ = some (.int .i64 z2) := KQ.out.cell 1
  go_wp2_with fail
  clear cX0 cX1 cX2 cY0 cY1 cY2 cP0 cP1 cQ0 cQ1
  have hXa : Ext w6 (w6.alloc (.cells #[.bool s21, .slice A21 l21 c21, .slice B21 m21 k21, .bool s22, .slice A22 l22 c22, .slice B22 m22 k22] 33)) := (Ext.refl _).alloc _
  have kH := Blk.new w6 33 #[.bool s21, .slice A21 l21 c21, .slice B21 m21 k21, .bool s22, .slice A22 l22 c22, .slice B22 m22 k22]
  have zX := KX.out.lt
  have zY := KY.out.lt
  have zP := KP.out.lt
  have zQ := KQ.out.lt
  have zg := HX.out.size
  replace HX := Lib.hid (HX.out.trans hXa)
  replace HV0 := Lib.hid (HV0.out.ext hXa)
  replace HV1 := Lib.hid (HV1.out.ext hXa)
  replace KX := Lib.hid (KX.out.ext hXa)
  replace KY := Lib.hid (KY.out.ext hXa)
  replace KP := Lib.hid (KP.out.ext hXa)
  replace KQ := Lib.hid (KQ.out.ext hXa)
  generalize (w6.alloc (.cells #[.bool s21, .slice A21 l21 c21, .slice B21 m21 k21, .bool s22, .slice A22 l22 c22, .slice B22 m22 k22] 33)) = w7 at HX HV0 HV1 KX KY KP KQ kH ⊢
  have KH := Lib.hid kH
  clear kH hXa
  go_wp2_with fail
  refine (heavy_any _ 2 _ (ratsAt_two KH.out HV0.out HV1.out) (by omega)).mono ?_
  rintro e w8 ⟨b9, rfl, hX⟩
  replace hX : Ext w7 w8 := by with_reducible exact hX
  replace HX := Lib.hid (HX.out.trans hX)
  replace HV0 := Lib.hid (HV0.out.ext hX)
  replace HV1 := Lib.hid (HV1.out.ext hX)
  replace KX := Lib.hid (KX.out.ext hX)
  replace KY := Lib.hid (KY.out.ext hX)
  replace KP := Lib.hid (KP.out.ext hX)
  replace KQ := Lib.hid (KQ.out.ext hX)
  replace KH := Lib.hid (KH.out.ext hX)
  clear hX
  clear KH
  clear HV0
  clear HV1
  by_cases hb9 : b9 = true
  · subst hb9
    go_wp2_with fail
    refine (first_any _).mono ?_
    rintro e w9 ⟨rfl, hX⟩
    replace hX : Ext w8 w9 := by with_reducible exact hX
    replace HX := Lib.hid (HX.out.trans hX)
    replace KX := Lib.hid (KX.out.ext hX)
    replace KY := Lib.hid (KY.out.ext hX)
    replace KP := Lib.hid (KP.out.ext hX)
    replace KQ := Lib.hid (KQ.out.ext hX)
    clear hX
    go_wp2
    go_ret
    exact ⟨rfl, HX.out⟩
  · have hb8 : b9 = false := by simpa using hb9
    clear hb9
    subst hb8
    have cX0 : w8.cell? ⟨gx, 0, none⟩ = some (.bool s21) := KX.out.cell 0
    have cX1 : w8.cell? ⟨gx, 1, none⟩ = some (.slice A21 l21 c21) := KX.out.cell 1
    have cX2 : w8.cell? ⟨gx, 2, none⟩ = some (.slice B21 m21 k21) := KX.out.cell 2
    have cY0 : w8.cell? ⟨gy, 0, none⟩ = some (.bool s22) := KY.out.cell 0
    have cY1 : w8.cell? ⟨gy, 1, none⟩ = some (.slice A22 l22 c22) := KY.out.cell 1
    have cY2 : w8.cell? ⟨gy, 2, none⟩ = some (.slice B22 m22 k22) := KY.out.cell 2
    go_wp2_with fail
    clear cX0 cX1 cX2 cY0 cY1 cY2
    refine ((HC.out _ HX.out).1).mono ?_
    unfold RetE
    rintro e w9 ⟨rfl, hX⟩
    replace hX : Ext w8 w9 := by with_reducible exact hX
    replace HX := Lib.hid (HX.out.trans hX)
    replace KX := Lib.hid (KX.out.ext hX)
    replace KY := Lib.hid (KY.out.ext hX)
    replace KP := Lib.hid (KP.out.ext hX)
    replace KQ := Lib.hid (KQ.out.ext hX)
    clear hX
    have cP0 : w9.cell? ⟨w3.heap.size, 0, none⟩ = some (.int .i64 z1) := KP.out.cell 0
    have fP0 : w9.frozen? ⟨w3.heap.size, 0, none⟩ = false := KP.out.free 0
    have cP1 : w9.cell? ⟨w3.heap.size, 1, none⟩ = some (.int .i64 z2) := KP.out.cell 1
    have fP1 : w9.frozen? ⟨w3.heap.size, 1, none⟩ = false := KP.out.free 1
    go_upto_region 9 with (fail)
    clear cP0 fP0 cP1 fP1
    have hXs : Ext w ((w9.setCell ⟨w3.heap.size, 0, none⟩ (.int .i64 y1)).setCell ⟨w3.heap.size, 1, none⟩ (.int .i64 y2)) := ((HX.out.setCell (show w.heap.size ≤ w3.heap.size by omega) _).setCell (show w.heap.size ≤ w3.heap.size by omega) _)
    have kX : Blk ((w9.setCell ⟨w3.heap.size, 0, none⟩ (.int .i64 y1)).setCell ⟨w3.heap.size, 1, none⟩ (.int .i64 y2)) gx 33 #[.bool s21, .slice A21 l21 c21, .slice B21 m21 k21] := (Blk.far (Blk.far KX.out (show gx ≠ w3.heap.size by omega) _) (show gx ≠ w3.heap.size by omega) _)
    have kY : Blk ((w9.setCell ⟨w3.heap.size, 0, none⟩ (.int .i64 y1)).setCell ⟨w3.heap.size, 1, none⟩ (.int .i64 y2)) gy 33 #[.bool s22, .slice A22 l22 c22, .slice B22 m22 k22] := (Blk.far (Blk.far KY.out (show gy ≠ w3.heap.size by omega) _) (show gy ≠ w3.heap.size by omega) _)
    have kQ : Blk ((w9.setCell ⟨w3.heap.size, 0, none⟩ (.int .i64 y1)).setCell ⟨w3.heap.size, 1, none⟩ (.int .i64 y2)) w5.heap.size 62 #[.int .i64 z1, .int .i64 z2] := (Blk.far (Blk.far KQ.out (show w5.heap.size ≠ w3.heap.size by omega) _) (show w5.heap.size ≠ w3.heap.size by omega) _)
    have kP : Blk ((w9.setCell ⟨w3.heap.size, 0, none⟩ (.int .i64 y1)).setCell ⟨w3.heap.size, 1, none⟩ (.int .i64 y2)) w3.heap.size 62 #[.int .i64 y1, .int .i64 y2] := (Blk.set (Blk.set KP.out 0 _) 1 _)
    generalize ((w9.setCell ⟨w3.heap.size, 0, none⟩ (.int .i64 y1)).setCell ⟨w3.heap.size, 1, none⟩ (.int .i64 y2)) = w10 at hXs kX kY kP kQ ⊢
    clear HX KX KY KP KQ 
    have HX := Lib.hid hXs
    clear hXs
    have KX := Lib.hid kX
    clear kX
    have KY := Lib.hid kY
    clear kY
    have KP := Lib.hid kP
    clear kP
    have KQ := Lib.hid kQ
    clear kQ
    have cX0 : w10.cell? ⟨gx, 0, none⟩ = some (.bool s21) := KX.out.cell 0
    have cX1 : w10.cell? ⟨gx, 1, none⟩ = some (.slice A21 l21 c21) := KX.out.cell 1
    have cX2 : w10.cell? ⟨gx, 2, none⟩ = some (.slice B21 m21 k21) := KX.out.cell 2
    have cY0 : w10.cell? ⟨gy, 0, none⟩ = some (.bool s22) := KY.out.cell 0
    have cY1 : w10.cell? ⟨gy, 1, none⟩ = some (.slice A22 l22 c22) := KY.out.cell 1
    have cY2 : w10.cell? ⟨gy, 2, none⟩ = some (.slice B22 m22 k22) := KY.out.cell 2
    go_wp2_with fail
    clear cX0 cX1 cX2 cY0 cY1 cY2
    refine ((HC.out _ HX.out).2).mono ?_
    unfold RetE
    rintro e w11 ⟨rfl, hX⟩
    replace hX : Ext w10 w11 := by with_reducible exact hX
    replace HX := Lib.hid (HX.out.trans hX)
    replace KX := Lib.hid (KX.out.ext hX)
    replace KY := Lib.hid (KY.out.ext hX)
    replace KP := Lib.hid (KP.out.ext hX)
    replace KQ := Lib.hid (KQ.out.ext hX)
    clear hX
    have cQ0 : w11.cell? ⟨w5.heap.size, 0, none⟩ = some (.int .i64 z1) := KQ.out.cell 0
    have fQ0 : w11.frozen? ⟨w5.heap.size, 0, none⟩ = false := KQ.out.free 0
    have cQ1 : w11.cell? ⟨w5.heap.size, 1, none⟩ = some (.int .i64 z2) := KQ.out.cell 1
    have fQ1 : w11.frozen? ⟨w5.heap.size, 1, none⟩ = false := KQ.out.free 1
    go_upto_region 10 with (fail)
    clear cQ0 fQ0 cQ1 fQ1
    have hXs : Ext w ((w11.setCell ⟨w5.heap.size, 0, none⟩ (.int .i64 y1)).setCell ⟨w5.heap.size, 1, none⟩ (.int .i64 y2)) := ((HX.out.setCell (show w.heap.size ≤ w5.heap.size by omega) _).setCell (show w.heap.size ≤ w5.heap.size by omega) _)
    have kX : Blk ((w11.setCell ⟨w5.heap.size, 0, none⟩ (.int .i64 y1)).setCell ⟨w5.heap.size, 1, none⟩ (.int .i64 y2)) gx 33 #[.bool s21, .slice A21 l21 c21, .slice B21 m21 k21] := (Blk.far (Blk.far KX.out (show gx ≠ w5.heap.size by omega) _) (show gx ≠ w5.heap.size by omega) _)
    have kY : Blk ((w11.setCell ⟨w5.heap.size, 0, none⟩ (.int .i64 y1)).setCell ⟨w5.heap.size, 1, none⟩ (.int .i64 y2)) gy 33 #[.bool s22, .slice A22 l22 c22, .slice B22 m22 k22] := (Blk.far (Blk.far KY.out (show gy ≠ w5.heap.size by omega) _) (show gy ≠ w5.heap.size by omega) _)
    have kP : Blk ((w11.setCell ⟨w5.heap.size, 0, none⟩ (.int .i64 y1)).setCell ⟨w5.heap.size, 1, none⟩ (.int .i64 y2)) w3.heap.size 62 #[.int .i64 y1, .int .i64 y2] := (Blk.far (Blk.far KP.out (show w3.heap.size ≠ w5.heap.size by omega) _) (show w3.heap.size ≠ w5.heap.size by omega) _)
    have kQ : Blk ((w11.setCell ⟨w5.heap.size, 0, none⟩ (.int .i64 y1)).setCell ⟨w5.heap.size, 1, none⟩ (.int .i64 y2)) w5.heap.size 62 #[.int .i64 y1, .int .i64 y2] := (Blk.set (Blk.set KQ.out 0 _) 1 _)
    generalize ((w11.setCell ⟨w5.heap.size, 0, none⟩ (.int .i64 y1)).setCell ⟨w5.heap.size, 1, none⟩ (.int .i64 y2)) = w12 at hXs kX kY kP kQ ⊢
    clear HX KX KY KP KQ 
    have HX := Lib.hid hXs
    clear hXs
    have KX := Lib.hid kX
    clear kX
    have KY := Lib.hid kY
    clear kY
    have KP := Lib.hid kP
    clear kP
    have KQ := Lib.hid kQ
    clear kQ
    have cP0 : w12.cell? ⟨w3.heap.size, 0, none⟩ = some (.int .i64 y1) := KP.out.cell 0
    have cP1 : w12.cell? ⟨w3.heap.size, 1, none⟩ = some (.int .i64 y2) := KP.out.cell 1
    have cQ0 : w12.cell? ⟨w5.heap.size, 0, none⟩ = some (.int .i64 y1) := KQ.out.cell 0
    have cQ1 : w12.cell? ⟨w5.heap.size, 1, none⟩ = some (.int .i64 y2) := KQ.out.cell 1
    go_wp2_with fail
    clear cP0 cP1 cQ0 cQ1
    refine (first_any _).mono ?_
    rintro e w13 ⟨rfl, hX⟩
    replace hX : Ext w12 w13 := by with_reducible exact hX
    replace HX := Lib.hid (HX.out.trans hX)
    replace KX := Lib.hid (KX.out.ext hX)
    replace KY := Lib.hid (KY.out.ext hX)
    replace KP := Lib.hid (KP.out.ext hX)
    replace KQ := Lib.hid (KQ.out.ext hX)
    clear hX
    go_wp2
    go_ret
    exact ⟨rfl, HX.out⟩

theorem exactCovers_walk (v : Value) (f : Int × Int × Int × Bool × List Int × List Int × Bool × List Int × List Int) (w : World) (h : CovV_ w v f) :
    Calls Try.prog 15 #[v] w fun e w' => e = .returned (.bool true) ∧ Ext w w' := by
  obtain ⟨x, y, n, s0, xs0, ys0, s1, xs1, ys1⟩ := f
  obtain ⟨A0, l0, c0, B0, m0, k0, A1, l1, c1, B1, m1, k1, rfl, hb1, hb2, hb3, ⟨hA0, hl0, hc0⟩, ⟨hB0, hm0, hk0⟩, ⟨hA1, hl1, hc1⟩, ⟨hB1, hm1, hk1⟩⟩ := h
  have v0 : RatV w (.agg #[.bool s0, .slice A0 l0 c0, .slice B0 m0 k0]) s0 xs0 ys0 := ⟨A0, l0, c0, B0, m0, k0, rfl, hA0, hl0, hc0, hB0, hm0, hk0⟩
  have v1 : RatV w (.agg #[.bool s1, .slice A1 l1 c1, .slice B1 m1 k1]) s1 xs1 ys1 := ⟨A1, l1, c1, B1, m1, k1, rfl, hA1, hl1, hc1, hB1, hm1, hk1⟩
  obtain ⟨z1, z2, z3, ho, hr⟩ := overs x y n hb3.2
  obtain ⟨y1, y2, y3, hc⟩ := covers v0 v1
  exact covers_v x y n s0 A0 B0 l0 c0 m0 k0 s1 A1 B1 l1 c1 m1 k1 _ _ _ _ _ _ z1 z2 z3 y1 y2 y3 w v0 v1 ho hr hc
end Go.Proofs.Yteoijnaljkagfaa
