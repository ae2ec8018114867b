/- Lemmas of the proof that follows (Still, part 12): walks of functions by contract, and plain lemmas. Conditions: none. -/
import Derived.Test.YtikhlcgnlbinfaaStillK
namespace Go.Proofs.Ytikhlcgnlbinfaa
open Go.RowKit

theorem kindG : KindK 3 (Tri RatG) := ⟨fun w cs x h => by obtain ⟨s, A, l, c, B, m, k, rfl, _⟩ := h; rfl, fun w w' L cs x h hk hN => by obtain ⟨s, A, l, c, B, m, k, e, h⟩ := h; exact ⟨s, A, l, c, B, m, k, e, h.keepsNI hk hN⟩, fun h => by omega⟩
/-- The nine cells of a shift. -/
def Cs3 (w : World) (cs : List Value) (q0 q1 q2 : Rat) : Prop := ∃ c0 c1 c2, cs = c0 ++ c1 ++ c2 ∧ Tri RatG w c0 q0 ∧ Tri RatG w c1 q1 ∧ Tri RatG w c2 q2
theorem Cs3.ext {w w' : World} {cs : List Value} {q0 q1 q2 : Rat} (h : Cs3 w cs q0 q1 q2) (he : Ext w w') : Cs3 w' cs q0 q1 q2 := by
  obtain ⟨c0, c1, c2, e, h0, h1, h2⟩ := h
  exact ⟨c0, c1, c2, e, kindG.ext h0 he, kindG.ext h1 he, kindG.ext h2 he⟩
theorem Cs3.keepsNI {w w' : World} {cs : List Value} {q0 q1 q2 : Rat} {L : List Nat} (h : Cs3 w cs q0 q1 q2) (hk : Keeps L w w') (hN : ∀ g ∈ L, NoInts w g) : Cs3 w' cs q0 q1 q2 := by
  obtain ⟨c0, c1, c2, e, h0, h1, h2⟩ := h
  exact ⟨c0, c1, c2, e, kindG.keep _ _ L _ _ h0 hk hN, kindG.keep _ _ L _ _ h1 hk hN, kindG.keep _ _ L _ _ h2 hk hN⟩
theorem Cs3.vals {w : World} {cs : List Value} {q0 q1 q2 : Rat} (h : Cs3 w cs q0 q1 q2) : cs.length = 9 ∧ (∀ u ∈ cs, u.oneCell' = true) ∧ (∀ u ∈ cs, NoInt u) := by
  obtain ⟨c0, c1, c2, rfl, ⟨s0, A0, l0, d0, B0, m0, k0, rfl, _⟩, ⟨s1, A1, l1, d1, B1, m1, k1, rfl, _⟩, ⟨s2, A2, l2, d2, B2, m2, k2, rfl, _⟩⟩ := h
  refine ⟨rfl, fun u hu => ?_, fun u hu => ?_⟩
  · simp at hu
    rcases hu with rfl | rfl | rfl | rfl | rfl | rfl | rfl | rfl | rfl <;> rfl
  · simp at hu
    rcases hu with rfl | rfl | rfl | rfl | rfl | rfl | rfl | rfl | rfl
    all_goals first | exact noInt_bool _ | exact noInt_slice _ _ _
theorem zN9 : ∀ u ∈ (Value.agg #[.bool false, .slice none 0 0, .slice none 0 0, .bool false, .slice none 0 0, .slice none 0 0, .bool false, .slice none 0 0, .slice none 0 0]).cells, NoInt u := fun u hu => by
  simp [Value.cells] at hu
  rcases hu with rfl | rfl | rfl | rfl | rfl | rfl
  all_goals first | exact noInt_bool _ | exact noInt_slice _ _ _
theorem NumK.snoc9 {w : World} {vs cs : List Value} {k : Nat} {f : Nat → Rat} (h : NumK 3 (Tri RatG) w vs (3 * k) f) (hc : Cs3 w cs (f (3 * k)) (f (3 * k + 1)) (f (3 * k + 2))) : NumK 3 (Tri RatG) w (vs ++ cs) (3 * (k + 1)) f := by
  obtain ⟨c0, c1, c2, rfl, h0, h1, h2⟩ := hc
  have l0 := kindG.len _ _ _ h0
  have l1 := kindG.len _ _ _ h1
  have l2 := kindG.len _ _ _ h2
  have e1 := h.snoc l0 h0
  have e2 := e1.snoc l1 h1
  have e3 := e2.snoc l2 h2
  rw [show vs ++ (c0 ++ c1 ++ c2) = vs ++ c0 ++ c1 ++ c2 by simp]
  refine NumK.congr e3 (fun j hj => ?_)
  by_cases a2 : j = 3 * k + 1 + 1
  · rw [if_pos a2, a2]
  · rw [if_neg a2]
    by_cases a1 : j = 3 * k + 1
    · rw [if_pos a1, a1]
    · rw [if_neg a1]
      by_cases a0 : j = 3 * k
      · rw [if_pos a0, a0]
      · rw [if_neg a0]

set_option maxRecDepth 100000 in
set_option maxHeartbeats 2000000 in
theorem ints_r5 (gl ss kk co j0 j1 j2 : Nat) (Ao : Option Addr) (z0 z1 z2 : Int) (w : World) (hw0 : Hid (IntKind.i64.wrap (3 * (ss : Int)) = (j0 : Int))) (hw1 : Hid (IntKind.i64.wrap ((j0 : Int) + 1) = (j1 : Int))) (hw2 : Hid (IntKind.i64.wrap ((j0 : Int) + 2) = (j2 : Int))) (x0 : w.cell? ⟨gl, j0, none⟩ = some (.int .i16 z0)) (hz0 : Hid (IntKind.i64.wrap z0 = z0)) (hb0 : -32768 ≤ z0 ∧ z0 ≤ 32767) (_h90 : j0 < 9) (hi0 : (j0 : Int) < 9) (x1 : w.cell? ⟨gl, j1, none⟩ = some (.int .i16 z1)) (hz1 : Hid (IntKind.i64.wrap z1 = z1)) (hb1 : -32768 ≤ z1 ∧ z1 ≤ 32767) (_h91 : j1 < 9) (hi1 : (j1 : Int) < 9) (x2 : w.cell? ⟨gl, j2, none⟩ = some (.int .i16 z2)) (hz2 : Hid (IntKind.i64.wrap z2 = z2)) (hb2 : -32768 ≤ z2 ∧ z2 ≤ 32767) (_h92 : j2 < 9) (hi2 : (j2 : Int) < 9) (a : Act) (Q : Exit → Act → World → Prop) (hsize : 40 ≤ a.tmps.size)
    (s3 : a.tmps[3]? = some (.pointer (some ⟨gl, 0, none⟩)))
    (s5 : a.tmps[5]? = some (.slice Ao kk co))
    (s6 : a.tmps[6]? = some (.int .i64 (ss : Int)))
    (hend : ∀ (xv0 xv1 xv2 xv3 xv4 xv5 xv6 xv7 xv8 xv9 xv10 xv11 xv12 xv13 xv14 xv15 xv16 xv17 xv18 xv19 xv20 xv21 xv22 : Value) (W : World), (xv0 = .slice Ao kk co) → (xv1 = .int .i64 (ss : Int)) → (xv2 = .int .i64 (j0 : Int)) → (xv3 = .pointer (some ⟨gl, j0, none⟩)) → (xv4 = .int .i16 z0) → (xv5 = .int .i64 z0) → (RatG W xv6 ((z0 : Int) : Rat)) → (xv7 = .int .i64 (ss : Int)) → (xv8 = .int .i64 (j0 : Int)) → (xv9 = .int .i64 (j1 : Int)) → (xv10 = .pointer (some ⟨gl, j1, none⟩)) → (xv11 = .int .i16 z1) → (xv12 = .int .i64 z1) → (RatG W xv13 ((z1 : Int) : Rat)) → (xv14 = .int .i64 (ss : Int)) → (xv15 = .int .i64 (j0 : Int)) → (xv16 = .int .i64 (j2 : Int)) → (xv17 = .pointer (some ⟨gl, j2, none⟩)) → (xv18 = .int .i16 z2) → (xv19 = .int .i64 z2) → (RatG W xv20 ((z2 : Int) : Rat)) → (∃ cs : List Value, xv21 = .agg cs.toArray ∧ Cs3 W cs ((z0 : Int) : Rat) ((z1 : Int) : Rat) ((z2 : Int) : Rat)) → (∃ (g : Nat) (cs : List Value), xv22 = .slice (some ⟨g, 0, none⟩) 1 1 ∧ w.heap.size ≤ g ∧ Blk W g 98 cs.toArray ∧ Cs3 W cs ((z0 : Int) : Rat) ((z1 : Int) : Rat) ((z2 : Int) : Rat)) → Ext w W → wpList Try.prog (rops Try.f67 5).toArray Q ((rops Try.f67 5).drop 23) (((((((((((((((((((((((a.put (some 17) xv0).put (some 18) xv1).put (some 19) xv2).put (some 20) xv3).put (some 21) xv4).put (some 22) xv5).put (some 23) xv6).put (some 24) xv7).put (some 25) xv8).put (some 26) xv9).put (some 27) xv10).put (some 28) xv11).put (some 29) xv12).put (some 30) xv13).put (some 31) xv14).put (some 32) xv15).put (some 33) xv16).put (some 34) xv17).put (some 35) xv18).put (some 36) xv19).put (some 37) xv20).put (some 38) xv21).put (some 39) xv22) W) :
    (Code.region 5 (rops Try.f67 5).toArray true).wp Try.prog Q a w := by
  have hmono : ∀ (W W' : World) (j : Nat) (u : Value), Ext W W' → (fun (i : Nat) (v : Value) (W : World) => match i with
    | 0 => v = .slice Ao kk co
    | 1 => v = .int .i64 (ss : Int)
    | 2 => v = .int .i64 (j0 : Int)
    | 3 => v = .pointer (some ⟨gl, j0, none⟩)
    | 4 => v = .int .i16 z0
    | 5 => v = .int .i64 z0
    | 6 => RatG W v ((z0 : Int) : Rat)
    | 7 => v = .int .i64 (ss : Int)
    | 8 => v = .int .i64 (j0 : Int)
    | 9 => v = .int .i64 (j1 : Int)
    | 10 => v = .pointer (some ⟨gl, j1, none⟩)
    | 11 => v = .int .i16 z1
    | 12 => v = .int .i64 z1
    | 13 => RatG W v ((z1 : Int) : Rat)
    | 14 => v = .int .i64 (ss : Int)
    | 15 => v = .int .i64 (j0 : Int)
    | 16 => v = .int .i64 (j2 : Int)
    | 17 => v = .pointer (some ⟨gl, j2, none⟩)
    | 18 => v = .int .i16 z2
    | 19 => v = .int .i64 z2
    | 20 => RatG W v ((z2 : Int) : Rat)
    | 21 => ∃ cs : List Value, v = .agg cs.toArray ∧ Cs3 W cs ((z0 : Int) : Rat) ((z1 : Int) : Rat) ((z2 : Int) : Rat)
    | 22 => ∃ (g : Nat) (cs : List Value), v = .slice (some ⟨g, 0, none⟩) 1 1 ∧ w.heap.size ≤ g ∧ Blk W g 98 cs.toArray ∧ Cs3 W cs ((z0 : Int) : Rat) ((z1 : Int) : Rat) ((z2 : Int) : Rat)
    | _ => True) j u W → (fun (i : Nat) (v : Value) (W : World) => match i with
    | 0 => v = .slice Ao kk co
    | 1 => v = .int .i64 (ss : Int)
    | 2 => v = .int .i64 (j0 : Int)
    | 3 => v = .pointer (some ⟨gl, j0, none⟩)
    | 4 => v = .int .i16 z0
    | 5 => v = .int .i64 z0
    | 6 => RatG W v ((z0 : Int) : Rat)
    | 7 => v = .int .i64 (ss : Int)
    | 8 => v = .int .i64 (j0 : Int)
    | 9 => v = .int .i64 (j1 : Int)
    | 10 => v = .pointer (some ⟨gl, j1, none⟩)
    | 11 => v = .int .i16 z1
    | 12 => v = .int .i64 z1
    | 13 => RatG W v ((z1 : Int) : Rat)
    | 14 => v = .int .i64 (ss : Int)
    | 15 => v = .int .i64 (j0 : Int)
    | 16 => v = .int .i64 (j2 : Int)
    | 17 => v = .pointer (some ⟨gl, j2, none⟩)
    | 18 => v = .int .i16 z2
    | 19 => v = .int .i64 z2
    | 20 => RatG W v ((z2 : Int) : Rat)
    | 21 => ∃ cs : List Value, v = .agg cs.toArray ∧ Cs3 W cs ((z0 : Int) : Rat) ((z1 : Int) : Rat) ((z2 : Int) : Rat)
    | 22 => ∃ (g : Nat) (cs : List Value), v = .slice (some ⟨g, 0, none⟩) 1 1 ∧ w.heap.size ≤ g ∧ Blk W g 98 cs.toArray ∧ Cs3 W cs ((z0 : Int) : Rat) ((z1 : Int) : Rat) ((z2 : Int) : Rat)
    | _ => True) j u W' := by
    intro W W' j u hX h
    match j, h with
    | 0, h => exact h
    | 1, h => exact h
    | 2, h => exact h
    | 3, h => exact h
    | 4, h => exact h
    | 5, h => exact h
    | 6, h => exact RatG.ext h hX
    | 7, h => exact h
    | 8, h => exact h
    | 9, h => exact h
    | 10, h => exact h
    | 11, h => exact h
    | 12, h => exact h
    | 13, h => exact RatG.ext h hX
    | 14, h => exact h
    | 15, h => exact h
    | 16, h => exact h
    | 17, h => exact h
    | 18, h => exact h
    | 19, h => exact h
    | 20, h => exact RatG.ext h hX
    | 21, h => exact h.elim fun cs h => ⟨cs, h.1, h.2.ext hX⟩
    | 22, h => exact h.elim fun g h => h.elim fun cs h => ⟨g, cs, h.1, h.2.1, h.2.2.1.ext hX, h.2.2.2.ext hX⟩
    | _ + 23, h => exact h
  have hsz : ∀ d, some d ∈ ([some 17, some 18, some 19, some 20, some 21, some 22, some 23, some 24, some 25, some 26, some 27, some 28, some 29, some 30, some 31, some 32, some 33, some 34, some 35, some 36, some 37, some 38, some 39] : List (Option Tmp)) → d < a.tmps.size := slots_lt (by decide) hsize
  refine wp_region_j 23 [some 17, some 18, some 19, some 20, some 21, some 22, some 23, some 24, some 25, some 26, some 27, some 28, some 29, some 30, some 31, some 32, some 33, some 34, some 35, some 36, some 37, some 38, some 39] [[], [], [1], [2], [3], [4], [5], [], [7], [8], [9], [10], [11], [12], [], [14], [15], [16], [17], [18], [19], [6, 13, 20], [21]] [[], [], [], [], [], [], [], [], [], [], [], [], [], [], [], [], [], [], [], [], [], [], []] (fun (i : Nat) (v : Value) (W : World) => match i with
    | 0 => v = .slice Ao kk co
    | 1 => v = .int .i64 (ss : Int)
    | 2 => v = .int .i64 (j0 : Int)
    | 3 => v = .pointer (some ⟨gl, j0, none⟩)
    | 4 => v = .int .i16 z0
    | 5 => v = .int .i64 z0
    | 6 => RatG W v ((z0 : Int) : Rat)
    | 7 => v = .int .i64 (ss : Int)
    | 8 => v = .int .i64 (j0 : Int)
    | 9 => v = .int .i64 (j1 : Int)
    | 10 => v = .pointer (some ⟨gl, j1, none⟩)
    | 11 => v = .int .i16 z1
    | 12 => v = .int .i64 z1
    | 13 => RatG W v ((z1 : Int) : Rat)
    | 14 => v = .int .i64 (ss : Int)
    | 15 => v = .int .i64 (j0 : Int)
    | 16 => v = .int .i64 (j2 : Int)
    | 17 => v = .pointer (some ⟨gl, j2, none⟩)
    | 18 => v = .int .i16 z2
    | 19 => v = .int .i64 z2
    | 20 => RatG W v ((z2 : Int) : Rat)
    | 21 => ∃ cs : List Value, v = .agg cs.toArray ∧ Cs3 W cs ((z0 : Int) : Rat) ((z1 : Int) : Rat) ((z2 : Int) : Rat)
    | 22 => ∃ (g : Nat) (cs : List Value), v = .slice (some ⟨g, 0, none⟩) 1 1 ∧ w.heap.size ≤ g ∧ Blk W g 98 cs.toArray ∧ Cs3 W cs ((z0 : Int) : Rat) ((z1 : Int) : Rat) ((z2 : Int) : Rat)
    | _ => True) (fun _ W => Ext w W) (by kernel_rfl) (by kernel_rfl) hsz (fun _ _ _ _ h => h) ((Ext.refl w).drew) ?_ ?_
  · clear hend
    simp only [rops, Try.f67, regOf, Option.bind_some, Nat.reduceBEq, if_true, if_false, Bool.false_eq_true, Option.getD_some]
    simp only [List.take_succ_cons, List.take_zero]
    refine ⟨?_, ?_, ?_, ?_, ?_, ?_, ?_, ?_, ?_, ?_, ?_, ?_, ?_, ?_, ?_, ?_, ?_, ?_, ?_, ?_, ?_, ?_, ?_, trivial⟩
    · intro done us W hJ hdep haft hnot b hb hb' K hK Q'
      have e5 := (hb' 5 (by simp)).trans s5
      clear hb hb'
      go_simp
      exact hK _ _ rfl (fun _ _ _ h => h) hJ
    · intro done us W hJ hdep haft hnot b hb hb' K hK Q'
      have e6 := (hb' 6 (by simp)).trans s6
      clear hb hb'
      go_simp
      exact hK _ _ rfl (fun _ _ _ h => h) hJ
    · intro done us W hJ hdep haft hnot b hb hb' K hK Q'
      simp only [List.getD_cons_succ, List.getD_cons_zero, List.mem_cons, List.not_mem_nil, or_false, forall_eq] at hdep
      have e18 := hb 1 18 rfl
      have d1 := hdep
      rw [d1.1] at e18
      clear hb hb' hdep d1
      go_simp
      exact hK _ _ (congrArg (Value.int .i64) hw0.out) (fun _ _ _ h => h) hJ
    · intro done us W hJ hdep haft hnot b hb hb' K hK Q'
      simp only [List.getD_cons_succ, List.getD_cons_zero, List.mem_cons, List.not_mem_nil, or_false, forall_eq] at hdep
      have e3 := (hb' 3 (by simp)).trans s3
      have e19 := hb 2 19 rfl
      have d2 := hdep
      rw [d2.1] at e19
      clear hb hb' hdep d2
      go_simp
      exact hK _ _ rfl (fun _ _ _ h => h) hJ
    · intro done us W hJ hdep haft hnot b hb hb' K hK Q'
      simp only [List.getD_cons_succ, List.getD_cons_zero, List.mem_cons, List.not_mem_nil, or_false, forall_eq] at hdep
      have e20 := hb 3 20 rfl
      have d3 := hdep
      rw [d3.1] at e20
      clear hb hb' hdep d3
      have q := Ext.cell hJ x0
      go_simp
      exact hK _ _ rfl (fun _ _ _ h => h) hJ
    · intro done us W hJ hdep haft hnot b hb hb' K hK Q'
      simp only [List.getD_cons_succ, List.getD_cons_zero, List.mem_cons, List.not_mem_nil, or_false, forall_eq] at hdep
      have e21 := hb 4 21 rfl
      have d4 := hdep
      rw [d4.1] at e21
      clear hb hb' hdep d4
      go_simp
      exact hK _ _ (congrArg (Value.int .i64) hz0.out) (fun _ _ _ h => h) hJ
    · intro done us W hJ hdep haft hnot b hb hb' K hK Q'
      simp only [List.getD_cons_succ, List.getD_cons_zero, List.mem_cons, List.not_mem_nil, or_false, forall_eq] at hdep
      have e22 := hb 5 22 rfl
      have d5 := hdep
      rw [d5.1] at e22
      clear hb hb' hdep d5
      go_simp
      refine (fromIntG z0 W (by omega) (by omega)).mono ?_
      rintro e w' ⟨v, rfl, hv, hX⟩
      exact hK _ _ hv (fun j u _ h => hmono _ _ j u hX h) (Ext.trans hJ hX)
    · intro done us W hJ hdep haft hnot b hb hb' K hK Q'
      have e6 := (hb' 6 (by simp)).trans s6
      clear hb hb'
      go_simp
      exact hK _ _ rfl (fun _ _ _ h => h) hJ
    · intro done us W hJ hdep haft hnot b hb hb' K hK Q'
      simp only [List.getD_cons_succ, List.getD_cons_zero, List.mem_cons, List.not_mem_nil, or_false, forall_eq] at hdep
      have e24 := hb 7 24 rfl
      have d7 := hdep
      rw [d7.1] at e24
      clear hb hb' hdep d7
      go_simp
      exact hK _ _ (congrArg (Value.int .i64) hw0.out) (fun _ _ _ h => h) hJ
    · intro done us W hJ hdep haft hnot b hb hb' K hK Q'
      simp only [List.getD_cons_succ, List.getD_cons_zero, List.mem_cons, List.not_mem_nil, or_false, forall_eq] at hdep
      have e25 := hb 8 25 rfl
      have d8 := hdep
      rw [d8.1] at e25
      clear hb hb' hdep d8
      go_simp
      exact hK _ _ (congrArg (Value.int .i64) hw1.out) (fun _ _ _ h => h) hJ
    · intro done us W hJ hdep haft hnot b hb hb' K hK Q'
      simp only [List.getD_cons_succ, List.getD_cons_zero, List.mem_cons, List.not_mem_nil, or_false, forall_eq] at hdep
      have e3 := (hb' 3 (by simp)).trans s3
      have e26 := hb 9 26 rfl
      have d9 := hdep
      rw [d9.1] at e26
      clear hb hb' hdep d9
      go_simp
      exact hK _ _ rfl (fun _ _ _ h => h) hJ
    · intro done us W hJ hdep haft hnot b hb hb' K hK Q'
      simp only [List.getD_cons_succ, List.getD_cons_zero, List.mem_cons, List.not_mem_nil, or_false, forall_eq] at hdep
      have e27 := hb 10 27 rfl
      have d10 := hdep
      rw [d10.1] at e27
      clear hb hb' hdep d10
      have q := Ext.cell hJ x1
      go_simp
      exact hK _ _ rfl (fun _ _ _ h => h) hJ
    · intro done us W hJ hdep haft hnot b hb hb' K hK Q'
      simp only [List.getD_cons_succ, List.getD_cons_zero, List.mem_cons, List.not_mem_nil, or_false, forall_eq] at hdep
      have e28 := hb 11 28 rfl
      have d11 := hdep
      rw [d11.1] at e28
      clear hb hb' hdep d11
      go_simp
      exact hK _ _ (congrArg (Value.int .i64) hz1.out) (fun _ _ _ h => h) hJ
    · intro done us W hJ hdep haft hnot b hb hb' K hK Q'
      simp only [List.getD_cons_succ, List.getD_cons_zero, List.mem_cons, List.not_mem_nil, or_false, forall_eq] at hdep
      have e29 := hb 12 29 rfl
      have d12 := hdep
      rw [d12.1] at e29
      clear hb hb' hdep d12
      go_simp
      refine (fromIntG z1 W (by omega) (by omega)).mono ?_
      rintro e w' ⟨v, rfl, hv, hX⟩
      exact hK _ _ hv (fun j u _ h => hmono _ _ j u hX h) (Ext.trans hJ hX)
    · intro done us W hJ hdep haft hnot b hb hb' K hK Q'
      have e6 := (hb' 6 (by simp)).trans s6
      clear hb hb'
      go_simp
      exact hK _ _ rfl (fun _ _ _ h => h) hJ
    · intro done us W hJ hdep haft hnot b hb hb' K hK Q'
      simp only [List.getD_cons_succ, List.getD_cons_zero, List.mem_cons, List.not_mem_nil, or_false, forall_eq] at hdep
      have e31 := hb 14 31 rfl
      have d14 := hdep
      rw [d14.1] at e31
      clear hb hb' hdep d14
      go_simp
      exact hK _ _ (congrArg (Value.int .i64) hw0.out) (fun _ _ _ h => h) hJ
    · intro done us W hJ hdep haft hnot b hb hb' K hK Q'
      simp only [List.getD_cons_succ, List.getD_cons_zero, List.mem_cons, List.not_mem_nil, or_false, forall_eq] at hdep
      have e32 := hb 15 32 rfl
      have d15 := hdep
      rw [d15.1] at e32
      clear hb hb' hdep d15
      go_simp
      exact hK _ _ (congrArg (Value.int .i64) hw2.out) (fun _ _ _ h => h) hJ
    · intro done us W hJ hdep haft hnot b hb hb' K hK Q'
      simp only [List.getD_cons_succ, List.getD_cons_zero, List.mem_cons, List.not_mem_nil, or_false, forall_eq] at hdep
      have e3 := (hb' 3 (by simp)).trans s3
      have e33 := hb 16 33 rfl
      have d16 := hdep
      rw [d16.1] at e33
      clear hb hb' hdep d16
      go_simp
      exact hK _ _ rfl (fun _ _ _ h => h) hJ
    · intro done us W hJ hdep haft hnot b hb hb' K hK Q'
      simp only [List.getD_cons_succ, List.getD_cons_zero, List.mem_cons, List.not_mem_nil, or_false, forall_eq] at hdep
      have e34 := hb 17 34 rfl
      have d17 := hdep
      rw [d17.1] at e34
      clear hb hb' hdep d17
      have q := Ext.cell hJ x2
      go_simp
      exact hK _ _ rfl (fun _ _ _ h => h) hJ
    · intro done us W hJ hdep haft hnot b hb hb' K hK Q'
      simp only [List.getD_cons_succ, List.getD_cons_zero, List.mem_cons, List.not_mem_nil, or_false, forall_eq] at hdep
      have e35 := hb 18 35 rfl
      have d18 := hdep
      rw [d18.1] at e35
      clear hb hb' hdep d18
      go_simp
      exact hK _ _ (congrArg (Value.int .i64) hz2.out) (fun _ _ _ h => h) hJ
    · intro done us W hJ hdep haft hnot b hb hb' K hK Q'
      simp only [List.getD_cons_succ, List.getD_cons_zero, List.mem_cons, List.not_mem_nil, or_false, forall_eq] at hdep
      have e36 := hb 19 36 rfl
      have d19 := hdep
      rw [d19.1] at e36
      clear hb hb' hdep d19
      go_simp
      refine (fromIntG z2 W (by omega) (by omega)).mono ?_
      rintro e w' ⟨v, rfl, hv, hX⟩
      exact hK _ _ hv (fun j u _ h => hmono _ _ j u hX h) (Ext.trans hJ hX)
    · intro done us W hJ hdep haft hnot b hb hb' K hK Q'
      simp only [List.getD_cons_succ, List.getD_cons_zero, List.mem_cons, List.not_mem_nil, or_false, forall_eq_or_imp, forall_eq] at hdep
      have e23 := hb 6 23 rfl
      have e30 := hb 13 30 rfl
      have e37 := hb 20 37 rfl
      have d6 := hdep.1
      have d13 := hdep.2.1
      have d20 := hdep.2.2
      clear hb hb' hdep 
      obtain ⟨s1, A1, l1, c1, B1, m1, k1, h1⟩ := RatG.open d6.1
      obtain ⟨s2, A2, l2, c2, B2, m2, k2, h2⟩ := RatG.open d13.1
      obtain ⟨s3, A3, l3, c3, B3, m3, k3, h3⟩ := RatG.open d20.1
      have hcs : Cs3 W [.bool s1, .slice A1 l1 c1, .slice B1 m1 k1, .bool s2, .slice A2 l2 c2, .slice B2 m2 k2, .bool s3, .slice A3 l3 c3, .slice B3 m3 k3] ((z0 : Int) : Rat) ((z1 : Int) : Rat) ((z2 : Int) : Rat) := ⟨_, _, _, rfl, Tri.mk (h1 ▸ d6.1), Tri.mk (h2 ▸ d13.1), Tri.mk (h3 ▸ d20.1)⟩
      rw [h1] at e23
      rw [h2] at e30
      rw [h3] at e37
      clear d6 d13 d20 h1 h2 h3
      go_simp
      exact hK _ _ ⟨_, rfl, hcs⟩ (fun _ _ _ h => h) hJ
    · intro done us W hJ hdep haft hnot b hb hb' K hK Q'
      simp only [List.getD_cons_succ, List.getD_cons_zero, List.mem_cons, List.not_mem_nil, or_false, forall_eq] at hdep
      have e38 := hb 21 38 rfl
      have d21 := hdep
      clear hb hb' hdep 
      obtain ⟨⟨cs, hv, hc⟩, _⟩ := d21
      obtain ⟨c0, c1, c2, rfl, ⟨s1, A1, l1, c1, B1, m1, k1, rfl, h1⟩, ⟨s2, A2, l2, c2, B2, m2, k2, rfl, h2⟩, ⟨s3, A3, l3, c3, B3, m3, k3, rfl, h3⟩⟩ := hc
      have hcs : Cs3 W [.bool s1, .slice A1 l1 c1, .slice B1 m1 k1, .bool s2, .slice A2 l2 c2, .slice B2 m2 k2, .bool s3, .slice A3 l3 c3, .slice B3 m3 k3] ((z0 : Int) : Rat) ((z1 : Int) : Rat) ((z2 : Int) : Rat) := ⟨_, _, _, rfl, Tri.mk h1, Tri.mk h2, Tri.mk h3⟩
      have hX := (Ext.refl W).alloc (.cells #[.bool s1, .slice A1 l1 c1, .slice B1 m1 k1, .bool s2, .slice A2 l2 c2, .slice B2 m2 k2, .bool s3, .slice A3 l3 c3, .slice B3 m3 k3] 98)
      have hn := Blk.new W 98 #[.bool s1, .slice A1 l1 c1, .slice B1 m1 k1, .bool s2, .slice A2 l2 c2, .slice B2 m2 k2, .bool s3, .slice A3 l3 c3, .slice B3 m3 k3]
      have hlo := Ext.size hJ
      simp only [List.cons_append, List.nil_append] at hv
      rw [hv] at e38
      clear h1 h2 h3 hv
      go_simp
      exact hK _ _ ⟨_, _, rfl, hlo, hn, hcs.ext hX⟩ (fun j u _ h => hmono _ _ j u hX h) (Ext.trans hJ hX)
  · intro us W hV hJ
    exact hend (us 0) (us 1) (us 2) (us 3) (us 4) (us 5) (us 6) (us 7) (us 8) (us 9) (us 10) (us 11) (us 12) (us 13) (us 14) (us 15) (us 16) (us 17) (us 18) (us 19) (us 20) (us 21) (us 22) W (hV 0 (by omega)) (hV 1 (by omega)) (hV 2 (by omega)) (hV 3 (by omega)) (hV 4 (by omega)) (hV 5 (by omega)) (hV 6 (by omega)) (hV 7 (by omega)) (hV 8 (by omega)) (hV 9 (by omega)) (hV 10 (by omega)) (hV 11 (by omega)) (hV 12 (by omega)) (hV 13 (by omega)) (hV 14 (by omega)) (hV 15 (by omega)) (hV 16 (by omega)) (hV 17 (by omega)) (hV 18 (by omega)) (hV 19 (by omega)) (hV 20 (by omega)) (hV 21 (by omega)) (hV 22 (by omega)) hJ
theorem ls_cell {ls : Nat → Int} {j : Nat} (hj : j < 9) : (#[(.int .i16 (ls 0)), (.int .i16 (ls 1)), (.int .i16 (ls 2)), (.int .i16 (ls 3)), (.int .i16 (ls 4)), (.int .i16 (ls 5)), (.int .i16 (ls 6)), (.int .i16 (ls 7)), (.int .i16 (ls 8))] : Array Value)[j]? = some (.int .i16 (ls j)) := by
  match j, hj with
  | 0, _ => rfl
  | 1, _ => rfl
  | 2, _ => rfl
  | 3, _ => rfl
  | 4, _ => rfl
  | 5, _ => rfl
  | 6, _ => rfl
  | 7, _ => rfl
  | 8, _ => rfl
set_option maxRecDepth 100000 in
set_option maxHeartbeats 8000000 in
theorem integers_v (S : Nat) (A : Option Addr) (n c : Nat) (ls : Nat → Int) (w : World) (hS1 : 1 ≤ S) (hS3 : S ≤ 3) (hb : ∀ j, -32768 ≤ ls j ∧ ls j ≤ 32767) :
    Calls Try.prog 67 #[.agg #[.int .i64 (S : Int), .slice A n c], .agg #[(.int .i16 (ls 0)), (.int .i16 (ls 1)), (.int .i16 (ls 2)), (.int .i16 (ls 3)), (.int .i16 (ls 4)), (.int .i16 (ls 5)), (.int .i16 (ls 6)), (.int .i16 (ls 7)), (.int .i16 (ls 8))]] w (fun e w' => ∃ go co, e = .returned (.slice (some ⟨go, 0, none⟩) S co) ∧ ShP RatG w' go 0 S (fun j => ((ls j : Int) : Rat)) ∧ Ext w w') := by
  have HB := Lib.hid hb
  have hXe : Ext w ((w.alloc (.cells #[.int .i64 (S : Int), .slice A n c] 76)).alloc (.cells #[(.int .i16 (ls 0)), (.int .i16 (ls 1)), (.int .i16 (ls 2)), (.int .i16 (ls 3)), (.int .i16 (ls 4)), (.int .i16 (ls 5)), (.int .i16 (ls 6)), (.int .i16 (ls 7)), (.int .i16 (ls 8))] 135)) := ((Ext.refl w).alloc _).alloc _
  have kP : Blk ((w.alloc (.cells #[.int .i64 (S : Int), .slice A n c] 76)).alloc (.cells #[(.int .i16 (ls 0)), (.int .i16 (ls 1)), (.int .i16 (ls 2)), (.int .i16 (ls 3)), (.int .i16 (ls 4)), (.int .i16 (ls 5)), (.int .i16 (ls 6)), (.int .i16 (ls 7)), (.int .i16 (ls 8))] 135)) w.heap.size 76 #[.int .i64 (S : Int), .slice A n c] := Blk.alloc (Blk.new w _ _) _
  have kL : Blk ((w.alloc (.cells #[.int .i64 (S : Int), .slice A n c] 76)).alloc (.cells #[(.int .i16 (ls 0)), (.int .i16 (ls 1)), (.int .i16 (ls 2)), (.int .i16 (ls 3)), (.int .i16 (ls 4)), (.int .i16 (ls 5)), (.int .i16 (ls 6)), (.int .i16 (ls 7)), (.int .i16 (ls 8))] 135)) (w.heap.size + 1) 135 #[(.int .i16 (ls 0)), (.int .i16 (ls 1)), (.int .i16 (ls 2)), (.int .i16 (ls 3)), (.int .i16 (ls 4)), (.int .i16 (ls 5)), (.int .i16 (ls 6)), (.int .i16 (ls 7)), (.int .i16 (ls 8))] := Blk.at_ (by simp)
  clear hb
  go_enter Try.func67, Try.ntmps67
  go_upto_region 1 with (fail)
  generalize (w.alloc (.cells #[.int .i64 (S : Int), .slice A n c] 76)).alloc (.cells #[(.int .i16 (ls 0)), (.int .i16 (ls 1)), (.int .i16 (ls 2)), (.int .i16 (ls 3)), (.int .i16 (ls 4)), (.int .i16 (ls 5)), (.int .i16 (ls 6)), (.int .i16 (ls 7)), (.int .i16 (ls 8))] 135) = w1 at hXe kP kL ⊢
  have HX := Lib.hid hXe
  have HP := Lib.hid kP
  have HL := Lib.hid kL
  clear hXe kP kL
  go_wp2_with fail
  go_loopg [5, 6] S (fun fu ov iv wr => ∃ (k : Nat) (r : List Value), fu = S - k ∧ k ≤ S ∧ iv = .int .i64 (k : Int) ∧ Hid (wr.ownsRow w.heap.size 98 9 ov k r) ∧ Hid (NumK 3 (Tri RatG) wr r (3 * k) (fun j => ((ls j : Int) : Rat))) ∧ Hid (RowNI wr ov) ∧ Hid (Blk wr w.heap.size 76 #[.int .i64 (S : Int), .slice A n c]) ∧ Hid (Blk wr (w.heap.size + 1) 135 #[(.int .i16 (ls 0)), (.int .i16 (ls 1)), (.int .i16 (ls 2)), (.int .i16 (ls 3)), (.int .i16 (ls 4)), (.int .i16 (ls 5)), (.int .i16 (ls 6)), (.int .i16 (ls 7)), (.int .i16 (ls 8))]) ∧ Hid (Ext w wr))
  case atStart => exact ⟨0, [], rfl, by omega, rfl, Lib.hid (World.ownsRow_nil _ _ _ _), Lib.hid (NumK.nil _ _ _ _), Lib.hid (RowNI.nil _), HP, HL, HX⟩
  case round =>
    clear HP HL HX
    obtain ⟨k, r, rfl, hk, rfl, HO, HK, HI, HP, HL, HX⟩ := hrel
    obtain ⟨Ao, co, rfl⟩ := own_slice HO.out
    have p0 := HP.out.cell 0
    simp only [List.getElem?_toArray, List.getElem?_cons_zero] at p0
    by_cases hlt : k < S
    · have q1 : decide (k < S) = true := decide_eq_true hlt
      have q2 : decide ((k : Int) < 3) = true := decide_eq_true (by omega)
      go_upto_region 5 with (fail)
      refine ints_r5 (w.heap.size + 1) k k co (3 * k) (3 * k + 1) (3 * k + 2) Ao (ls (3 * k)) (ls (3 * k + 1)) (ls (3 * k + 2)) wr (Lib.hid (by rw [IntWalk.i64_in _ (by omega)]; omega)) (Lib.hid (by rw [IntWalk.i64_in _ (by omega)]; omega)) (Lib.hid (by rw [IntWalk.i64_in _ (by omega)]; omega)) ((HL.out.cell _).trans (ls_cell (by omega))) (Lib.hid (IntWalk.i64_in _ (by have := HB.out (3 * k); omega))) (HB.out _) (by omega) (by omega) ((HL.out.cell _).trans (ls_cell (by omega))) (Lib.hid (IntWalk.i64_in _ (by have := HB.out (3 * k + 1); omega))) (HB.out _) (by omega) (by omega) ((HL.out.cell _).trans (ls_cell (by omega))) (Lib.hid (IntWalk.i64_in _ (by have := HB.out (3 * k + 2); omega))) (HB.out _) (by omega) (by omega) _ _ (by simp) rfl rfl rfl ?_
      rintro xv0 xv1 xv2 xv3 xv4 xv5 xv6 xv7 xv8 xv9 xv10 xv11 xv12 xv13 xv14 xv15 xv16 xv17 xv18 xv19 xv20 xv21 xv22 W rfl rfl rfl rfl rfl rfl _ rfl rfl rfl rfl rfl rfl _ rfl rfl rfl rfl rfl rfl _ _ ⟨gx, cs, rfl, hgx, hB, hcs⟩ hX
      simp only [rops, Try.f67, regOf, Option.bind_some, Nat.reduceBEq, if_true, if_false, Bool.false_eq_true, Option.getD_some, List.drop_succ_cons, List.drop_zero]
      simp only [Act.put, List.setIfInBounds_toArray, List.set_cons_succ, List.set_cons_zero]
      have HCS := Lib.hid hcs
      have HB9 := Lib.hid hB
      replace HX := Lib.hid (HX.out.trans hX)
      replace HO := Lib.hid (World.ownsRow.ext' HO.out hX)
      replace HK := Lib.hid (HK.out.ext kindG hX)
      replace HI := Lib.hid (HI.out.ext hX)
      replace HP := Lib.hid (HP.out.ext hX)
      replace HL := Lib.hid (HL.out.ext hX)
      have hsz := HX.out.size
      obtain ⟨hc1, hc2, hc3⟩ := hcs.vals
      have hPl := HP.out
      have hLl := HL.out
      clear hX hcs p0 hB
      go_wp2_with (at_builtin; refine wpList_appN _ elR9 zN9 rfl _ _ rfl w.heap.size (.slice Ao k co) k r rfl HO.out HI.out _ 1 1 cs rfl hc1 (fun _ => ⟨gx, 0, rfl, fun j y hy => by rw [Nat.zero_add]; exact (HB9.out.cell j).trans (by rw [List.getElem?_toArray]; exact hy)⟩) hc2 hc3 (by omega) (by omega) (by unfold maxLen; omega) (by omega) ?_; intro v8 w8 hown8 hgr8 hni8; have HG8 := Lib.hid hgr8; have HO8 := Lib.hid hown8; have HI8 := Lib.hid hni8; clear hgr8 hown8 hni8)
      go_roundg (S - (k + 1))
      case rel =>
        have hk8 := keeps_own HG8.out
        refine ⟨k + 1, _, rfl, by omega, by go_num, HO8, Lib.hid ?_, HI8, Lib.hid (hPl.keeps hk8 (fun hg => own_blk_ne HO.out hPl (by decide) (by simpa using hg))), Lib.hid (hLl.keeps hk8 (fun hg => own_blk_ne HO.out hLl (by decide) (by simpa using hg))), Lib.hid (HX.out.grown HG8.out (fun b hb => (HO.out.lt b hb).1))⟩
        exact NumK.snoc9 (HK.out.keep kindG hk8 (rowNI_L HI.out)) (HCS.out.keepsNI hk8 (rowNI_L HI.out))
      case measure => omega
    · obtain rfl : S = k := by omega
      have q1 : decide (S < S) = false := by simp
      obtain ⟨go, rfl, _, _⟩ := own_blockS HO.out (by omega)
      go_wp2
      go_ret
      exact ⟨go, co, rfl, ShP.of_row HO.out HK.out, HX.out⟩

end Go.Proofs.Ytikhlcgnlbinfaa
namespace Go.Proofs.Ytikhlcgnlbinfaa
open Go.RowKit

theorem RatR.blk {base n : Nat} {w : World} {v : Value} {f : Nat → Rat} (h : RatR base w v n f) (hn : 0 < n) : ∃ g c, v = .slice (some ⟨g, 0, none⟩) n c := by
  obtain ⟨us, h1, _⟩ := h
  obtain ⟨A, c, rfl⟩ := own_slice h1
  obtain ⟨g, rfl, _, _⟩ := own_blockS h1 hn
  exact ⟨g, c, rfl⟩
theorem RatR.cells {base n c g : Nat} {w : World} {f : Nat → Rat} (h : RatR base w (.slice (some ⟨g, 0, none⟩) n c) n f) {j : Nat} (hj : j < n) : ∃ s A0 l c0 B m k, w.cell? ⟨g, j * 3, none⟩ = some (.bool s) ∧ w.cell? ⟨g, j * 3 + 1, none⟩ = some (.slice A0 l c0) ∧ w.cell? ⟨g, j * 3 + 2, none⟩ = some (.slice B m k) ∧ RatC w (.agg #[.bool s, .slice A0 l c0, .slice B m k]) (f j) := by
  obtain ⟨g', s, A0, l, c0, B, m, k, e, h0, h1, h2, h3⟩ := h.get hj
  injection e with e
  injection e with e
  subst e
  exact ⟨s, A0, l, c0, B, m, k, h0, h1, h2, h3⟩
theorem tame_ints {n : Nat} (hn : n ≤ 12) {ls : Nat → Int} (hb : ∀ j, -1000000 ≤ ls j ∧ ls j ≤ 1000000) : Tame n (fun j => ((ls j : Int) : Rat)) := by
  refine tame_any hn fun j hj => ?_
  have h1 := hb j
  have h2 : (1000000 : Nat) ≤ BB 4 := by decide
  rw [Rat.num_intCast, Rat.den_intCast]
  have h3 := BB_pos 4
  omega
/-- The first j slopes are 0. -/
def minK (nn : Nat) (ms : List Mt) (u : Nat → Rat) (j : Nat) : Bool := (List.range j).all fun i => decide (slope nn ms u i = 0)
theorem minK_succ (nn : Nat) (ms : List Mt) (u : Nat → Rat) (j : Nat) : minK nn ms u (j + 1) = (minK nn ms u j && decide (slope nn ms u j = 0)) := by
  unfold minK
  rw [List.range_succ, List.all_append]
  simp

set_option maxRecDepth 100000 in
set_option maxHeartbeats 4000000 in
theorem still_no (S : Int) (A : Option Addr) (n c : Nat) (ms : List Mt) (ls : Nat → Int) (w : World) (h : MsAt w A n ms) (hsm : smB S ms = false) :
    Calls Try.prog 12 #[.agg #[.int .i64 S, .slice A n c], .agg #[(.int .i16 (ls 0)), (.int .i16 (ls 1)), (.int .i16 (ls 2)), (.int .i16 (ls 3)), (.int .i16 (ls 4)), (.int .i16 (ls 5)), (.int .i16 (ls 6)), (.int .i16 (ls 7)), (.int .i16 (ls 8))]] w (fun e w' => e = .returned (.bool true) ∧ Ext w w') := by
  have H := Lib.hid h
  have HSM := Lib.hid hsm
  have hXe : Ext w ((w.alloc (.cells #[.int .i64 S, .slice A n c] 76)).alloc (.cells #[(.int .i16 (ls 0)), (.int .i16 (ls 1)), (.int .i16 (ls 2)), (.int .i16 (ls 3)), (.int .i16 (ls 4)), (.int .i16 (ls 5)), (.int .i16 (ls 6)), (.int .i16 (ls 7)), (.int .i16 (ls 8))] 135)) := ((Ext.refl w).alloc _).alloc _
  have kP : Blk ((w.alloc (.cells #[.int .i64 S, .slice A n c] 76)).alloc (.cells #[(.int .i16 (ls 0)), (.int .i16 (ls 1)), (.int .i16 (ls 2)), (.int .i16 (ls 3)), (.int .i16 (ls 4)), (.int .i16 (ls 5)), (.int .i16 (ls 6)), (.int .i16 (ls 7)), (.int .i16 (ls 8))] 135)) w.heap.size 76 #[.int .i64 S, .slice A n c] := Blk.alloc (Blk.new w _ _) _
  have kL : Blk ((w.alloc (.cells #[.int .i64 S, .slice A n c] 76)).alloc (.cells #[(.int .i16 (ls 0)), (.int .i16 (ls 1)), (.int .i16 (ls 2)), (.int .i16 (ls 3)), (.int .i16 (ls 4)), (.int .i16 (ls 5)), (.int .i16 (ls 6)), (.int .i16 (ls 7)), (.int .i16 (ls 8))] 135)) (w.heap.size + 1) 135 #[(.int .i16 (ls 0)), (.int .i16 (ls 1)), (.int .i16 (ls 2)), (.int .i16 (ls 3)), (.int .i16 (ls 4)), (.int .i16 (ls 5)), (.int .i16 (ls 6)), (.int .i16 (ls 7)), (.int .i16 (ls 8))] := Blk.at_ (by simp)
  clear h hsm
  go_enter Try.func12, Try.ntmps12
  go_upto_region 1 with (fail)
  generalize (w.alloc (.cells #[.int .i64 S, .slice A n c] 76)).alloc (.cells #[(.int .i16 (ls 0)), (.int .i16 (ls 1)), (.int .i16 (ls 2)), (.int .i16 (ls 3)), (.int .i16 (ls 4)), (.int .i16 (ls 5)), (.int .i16 (ls 6)), (.int .i16 (ls 7)), (.int .i16 (ls 8))] 135) = w1 at hXe kP kL ⊢
  have HX := Lib.hid hXe
  have HP := Lib.hid kP
  have HL := Lib.hid kL
  clear hXe kP kL
  have p0 := HP.out.cell 0
  have p1 := HP.out.cell 1
  simp only [List.getElem?_toArray, List.getElem?_cons_zero, List.getElem?_cons_succ] at p0 p1
  go_wp2_with fail
  refine (small_any5 S A n c ms _ (H.out.ext HX.out)).mono ?_
  rw [HSM.out]
  rintro e w2 ⟨rfl, hX⟩
  replace HX := Lib.hid (HX.out.trans hX)
  clear hX p0 p1
  go_wp2_with fail
  refine (first_any _).mono ?_
  rintro e w19 ⟨rfl, hX⟩
  replace HX := Lib.hid (HX.out.trans hX)
  clear hX
  go_wp2
  go_ret
  exact ⟨rfl, HX.out⟩

set_option maxRecDepth 100000 in
set_option maxHeartbeats 16000000 in
theorem still_walk (S : Nat) (A : Option Addr) (n c : Nat) (ms : List Mt) (ls : Nat → Int) (w : World) (h : MsAt w A n ms) (hv : VP (S : Int) ms) (hb : ∀ j, -32768 ≤ ls j ∧ ls j ≤ 32767) (hsm : smB (S : Int) ms = true) :
    Calls Try.prog 12 #[.agg #[.int .i64 (S : Int), .slice A n c], .agg #[(.int .i16 (ls 0)), (.int .i16 (ls 1)), (.int .i16 (ls 2)), (.int .i16 (ls 3)), (.int .i16 (ls 4)), (.int .i16 (ls 5)), (.int .i16 (ls 6)), (.int .i16 (ls 7)), (.int .i16 (ls 8))]] w (fun e w' => e = .returned (.bool true) ∧ Ext w w') := by
  have HV := Lib.hid hv
  have HB := Lib.hid hb
  have hS1 : 1 ≤ S := by have := hv.1; omega
  have hS3 : S ≤ 3 := by have := (smB_iff.1 hsm).1.2; omega
  obtain ⟨nn, hnn⟩ : ∃ nn, nn = 3 * S := ⟨_, rfl⟩
  have hnw : IntKind.i64.wrap (3 * (S : Int)) = (nn : Int) := by rw [IntWalk.i64_in _ (by omega)]; omega
  have hn9 : nn ≤ 9 := by omega
  have hn1 : 0 < nn := by omega
  have HNN := Lib.hid hnn
  have HFS : Hid (∀ j, FitQW (solP (3 * S) ms j)) := Lib.hid (fun j => FitQW.of4 (solP_fit hv.2.2.2 hv.2.2.1 (by omega) j) (by omega))
  have HT1 : Hid (Tame nn (solP (3 * S) ms)) := Lib.hid (by rw [hnn]; exact solP_tame hv.2.2.2 hv.2.2.1 (by omega))
  have HT2 : Hid (Tame nn (fun j => ((ls j : Int) : Rat))) := Lib.hid (tame_ints (by omega) (fun j => by have := hb j; omega))
  have HFL : Hid (∀ i, i < nn → slope nn ms (solP (3 * S) ms) i = 0) := Lib.hid (by rw [hnn]; exact solP_flat hv.2.2.2 (3 * S))
  clear hv hb hnn
  have H := Lib.hid h
  have HSM := Lib.hid hsm
  have hXe : Ext w ((w.alloc (.cells #[.int .i64 (S : Int), .slice A n c] 76)).alloc (.cells #[(.int .i16 (ls 0)), (.int .i16 (ls 1)), (.int .i16 (ls 2)), (.int .i16 (ls 3)), (.int .i16 (ls 4)), (.int .i16 (ls 5)), (.int .i16 (ls 6)), (.int .i16 (ls 7)), (.int .i16 (ls 8))] 135)) := ((Ext.refl w).alloc _).alloc _
  have kP : Blk ((w.alloc (.cells #[.int .i64 (S : Int), .slice A n c] 76)).alloc (.cells #[(.int .i16 (ls 0)), (.int .i16 (ls 1)), (.int .i16 (ls 2)), (.int .i16 (ls 3)), (.int .i16 (ls 4)), (.int .i16 (ls 5)), (.int .i16 (ls 6)), (.int .i16 (ls 7)), (.int .i16 (ls 8))] 135)) w.heap.size 76 #[.int .i64 (S : Int), .slice A n c] := Blk.alloc (Blk.new w _ _) _
  have kL : Blk ((w.alloc (.cells #[.int .i64 (S : Int), .slice A n c] 76)).alloc (.cells #[(.int .i16 (ls 0)), (.int .i16 (ls 1)), (.int .i16 (ls 2)), (.int .i16 (ls 3)), (.int .i16 (ls 4)), (.int .i16 (ls 5)), (.int .i16 (ls 6)), (.int .i16 (ls 7)), (.int .i16 (ls 8))] 135)) (w.heap.size + 1) 135 #[(.int .i16 (ls 0)), (.int .i16 (ls 1)), (.int .i16 (ls 2)), (.int .i16 (ls 3)), (.int .i16 (ls 4)), (.int .i16 (ls 5)), (.int .i16 (ls 6)), (.int .i16 (ls 7)), (.int .i16 (ls 8))] := Blk.at_ (by simp)
  clear h hsm
  go_enter Try.func12, Try.ntmps12
  go_upto_region 1 with (fail)
  generalize (w.alloc (.cells #[.int .i64 (S : Int), .slice A n c] 76)).alloc (.cells #[(.int .i16 (ls 0)), (.int .i16 (ls 1)), (.int .i16 (ls 2)), (.int .i16 (ls 3)), (.int .i16 (ls 4)), (.int .i16 (ls 5)), (.int .i16 (ls 6)), (.int .i16 (ls 7)), (.int .i16 (ls 8))] 135) = w1 at hXe kP kL ⊢
  have HX := Lib.hid hXe
  have HP := Lib.hid kP
  have HL := Lib.hid kL
  clear hXe kP kL
  have p0 := HP.out.cell 0
  have p1 := HP.out.cell 1
  simp only [List.getElem?_toArray, List.getElem?_cons_zero, List.getElem?_cons_succ] at p0 p1
  go_wp2_with fail
  refine (small_any5 (S : Int) A n c ms _ (H.out.ext HX.out)).mono ?_
  rw [HSM.out]
  rintro e w2 ⟨rfl, hX⟩
  replace HX := Lib.hid (HX.out.trans hX)
  replace HP := Lib.hid (HP.out.ext hX)
  replace HL := Lib.hid (HL.out.ext hX)
  clear hX p0 p1
  have p0 := HP.out.cell 0
  have p1 := HP.out.cell 1
  simp only [List.getElem?_toArray, List.getElem?_cons_zero, List.getElem?_cons_succ] at p0 p1
  go_wp2_with fail
  refine (solveP_ok S A n c ms _ (H.out.ext HX.out) HV.out).mono ?_
  rintro e w4 ⟨ga, rfl, _, hS, hX⟩
  replace HX := Lib.hid (HX.out.trans hX)
  replace HP := Lib.hid (HP.out.ext hX)
  replace HL := Lib.hid (HL.out.ext hX)
  have HSP : Hid (ShP RatG w4 ga 0 S (solP (3 * S) ms)) := Lib.hid (hS.imp2 (fun j x _ h => h.good (HFS.out j)))
  clear hS hX p0 p1
  have p0 := HP.out.cell 0
  have p1 := HP.out.cell 1
  simp only [List.getElem?_toArray, List.getElem?_cons_zero, List.getElem?_cons_succ] at p0 p1
  go_wp2_with fail
  refine (slopesP_ok S A n c ms nn ga 0 S (solP (3 * S) ms) _ (H.out.ext HX.out) HV.out HNN.out HSP.out HT1.out).mono ?_
  rintro e w5 ⟨vz, rfl, hZ, hX⟩
  replace HX := Lib.hid (HX.out.trans hX)
  replace HP := Lib.hid (HP.out.ext hX)
  replace HL := Lib.hid (HL.out.ext hX)
  replace HSP := Lib.hid (HSP.out.ext growsG hX)
  obtain ⟨gz, cz, rfl⟩ := hZ.blk hn1
  have HZ := Lib.hid (hZ.congr (g := fun _ => 0) (fun j hj => HFL.out j hj))
  have hw5 := HX.out.size
  clear hZ hX p0 p1
  have p0 := HP.out.cell 0
  have p1 := HP.out.cell 1
  simp only [List.getElem?_toArray, List.getElem?_cons_zero, List.getElem?_cons_succ] at p0 p1
  go_wp2_with fail
  refine (minimalP_ok S A n c ms nn ga 0 S (solP (3 * S) ms) _ (H.out.ext HX.out) HV.out HNN.out HSP.out HT1.out).mono ?_
  rw [minB_iff.2 HFL.out]
  rintro e w6 ⟨rfl, hX⟩
  replace HX := Lib.hid (HX.out.trans hX)
  replace HP := Lib.hid (HP.out.ext hX)
  replace HL := Lib.hid (HL.out.ext hX)
  replace HZ := Lib.hid (HZ.out.ext hX)
  clear hX p0 p1
  have p0 := HP.out.cell 0
  simp only [List.getElem?_toArray, List.getElem?_cons_zero] at p0
  go_wp2_with fail
  clear p0
  go_loopg [11] nn (fun fu iv wr => ∃ u : Nat, fu = nn - u ∧ u ≤ nn ∧ iv = .int .i64 (u : Int) ∧ Hid (Ext w6 wr))
  case atStart => exact ⟨0, by omega, by omega, rfl, Lib.hid (Ext.refl _)⟩
  case round =>
    obtain ⟨u, rfl, hu, rfl, HXL⟩ := hrel
    by_cases hun : u < nn
    · have q1 : decide (u < nn) = true := decide_eq_true hun
      obtain ⟨s1, A1, l1, c1, B1, m1, k1, x0, x1, x2, hx⟩ := (HZ.out.ext HXL.out).cells hun
      have HC := Lib.hid (hx.good (q := 0) (FitQW.of4 (fitQ_zero 3) (by omega)))
      clear hx
      go_wp2_with fail
      refine (signG HC.out).mono ?_
      unfold RetE
      rintro e w7 ⟨rfl, hX⟩
      replace HXL := Lib.hid (HXL.out.trans hX)
      have hs0 : sgnQ 0 = 0 := rfl
      rw [hs0]
      clear hX x0 x1 x2 HC hs0
      go_wp2
      go_roundg (nn - (u + 1))
      case rel => exact ⟨u + 1, rfl, by omega, by go_num, HXL⟩
      case measure => omega
    · obtain rfl : nn = u := by omega
      have q1 : decide (nn < nn) = false := by simp
      replace HX := Lib.hid (HX.out.trans HXL.out)
      replace HP := Lib.hid (HP.out.ext HXL.out)
      replace HL := Lib.hid (HL.out.ext HXL.out)
      clear HXL HZ HSP
      have p0 := HP.out.cell 0
      have p1 := HP.out.cell 1
      simp only [List.getElem?_toArray, List.getElem?_cons_zero, List.getElem?_cons_succ] at p0 p1
      have l0 := HL.out.cell 0
      have l1 := HL.out.cell 1
      have l2 := HL.out.cell 2
      have l3 := HL.out.cell 3
      have l4 := HL.out.cell 4
      have l5 := HL.out.cell 5
      have l6 := HL.out.cell 6
      have l7 := HL.out.cell 7
      have l8 := HL.out.cell 8
      simp only [List.getElem?_toArray, List.getElem?_cons_zero, List.getElem?_cons_succ] at l0 l1 l2 l3 l4 l5 l6 l7 l8
      go_wp2_with fail
      refine (integers_v S A n c ls _ hS1 hS3 HB.out).mono ?_
      rintro e w8 ⟨gi, ci, rfl, hS, hX⟩
      replace HX := Lib.hid (HX.out.trans hX)
      replace HP := Lib.hid (HP.out.ext hX)
      replace HL := Lib.hid (HL.out.ext hX)
      have HSI := Lib.hid hS
      clear hS hX p0 p1 l0 l1 l2 l3 l4 l5 l6 l7 l8
      have p0 := HP.out.cell 0
      have p1 := HP.out.cell 1
      simp only [List.getElem?_toArray, List.getElem?_cons_zero, List.getElem?_cons_succ] at p0 p1
      go_wp2_with fail
      refine (slopesP_ok S A n c ms nn gi 0 ci (fun j => ((ls j : Int) : Rat)) _ (H.out.ext HX.out) HV.out HNN.out HSI.out HT2.out).mono ?_
      rintro e w9 ⟨vz, rfl, hZ, hX⟩
      replace HX := Lib.hid (HX.out.trans hX)
      replace HP := Lib.hid (HP.out.ext hX)
      replace HL := Lib.hid (HL.out.ext hX)
      replace HSI := Lib.hid (HSI.out.ext growsG hX)
      obtain ⟨gy, cy, rfl⟩ := hZ.blk hn1
      have HZ := Lib.hid hZ
      clear hZ hX p0 p1
      have p0 := HP.out.cell 0
      have p1 := HP.out.cell 1
      simp only [List.getElem?_toArray, List.getElem?_cons_zero, List.getElem?_cons_succ] at p0 p1
      go_wp2_with fail
      refine (minimalP_ok S A n c ms nn gi 0 ci (fun j => ((ls j : Int) : Rat)) _ (H.out.ext HX.out) HV.out HNN.out HSI.out HT2.out).mono ?_
      obtain ⟨mb, hmb⟩ : ∃ mb, minB nn ms (fun j => ((ls j : Int) : Rat)) = mb := ⟨_, rfl⟩
      rw [hmb]
      have HMB := Lib.hid hmb
      clear hmb
      rintro e w10 ⟨rfl, hX⟩
      replace HX := Lib.hid (HX.out.trans hX)
      replace HP := Lib.hid (HP.out.ext hX)
      replace HL := Lib.hid (HL.out.ext hX)
      replace HZ := Lib.hid (HZ.out.ext hX)
      clear hX p0 p1
      have p0 := HP.out.cell 0
      simp only [List.getElem?_toArray, List.getElem?_cons_zero] at p0
      go_wp2_with fail
      clear p0
      have HFS2 : Hid (∀ j, FitQW (slope nn ms (fun j => ((ls j : Int) : Rat)) j)) := Lib.hid (fun j => slope_fit HV.out.2.2.2 HV.out.2.2.1 (by omega) HT2.out j)
      go_loopg [15, 16] nn (fun fu fv iv wr => ∃ (u : Nat) (fl : Bool), fu = nn - u ∧ u ≤ nn ∧ iv = .int .i64 (u : Int) ∧ fv = .bool fl ∧ Hid (minK nn ms (fun j => ((ls j : Int) : Rat)) u = fl) ∧ Hid (Ext w10 wr))
      case atStart => exact ⟨0, true, by omega, by omega, rfl, rfl, Lib.hid rfl, Lib.hid (Ext.refl _)⟩
      case round =>
        obtain ⟨u, fl, rfl, hu, rfl, rfl, HFK, HXL⟩ := hrel
        by_cases hun : u < nn
        · have q1 : decide (u < nn) = true := decide_eq_true hun
          obtain ⟨s1, A1, l1, c1, B1, m1, k1, x0, x1, x2, hx⟩ := (HZ.out.ext HXL.out).cells hun
          have HC := Lib.hid (hx.good (HFS2.out u))
          clear hx
          go_wp2_with fail
          refine (signG HC.out).mono ?_
          unfold RetE
          obtain ⟨sg, hsg⟩ : ∃ sg, sgnQ (slope nn ms (fun j => ((ls j : Int) : Rat)) u) = sg := ⟨_, rfl⟩
          rw [hsg]
          have HSG : Hid (decide (slope nn ms (fun j => ((ls j : Int) : Rat)) u = 0) = (sg == 0)) := Lib.hid (by rw [← hsg]; by_cases e : slope nn ms (fun j => ((ls j : Int) : Rat)) u = 0; (rw [decide_eq_true e, sgnQ_iff.2 e]; rfl); (rw [decide_eq_false e]; exact (beq_eq_false_iff_ne.2 (fun k => e (sgnQ_iff.1 k))).symm))
          rintro e w11 ⟨rfl, hX⟩
          replace HXL := Lib.hid (HXL.out.trans hX)
          clear hX x0 x1 x2 HC hsg
          by_cases hfl : fl = true
          · subst hfl
            obtain ⟨sb, hsb⟩ : ∃ sb, (sg == 0) = sb := ⟨_, rfl⟩
            have HSB := Lib.hid hsb
            go_wp2
            go_roundg (nn - (u + 1))
            case rel => exact ⟨u + 1, sb, rfl, by omega, by go_num, by first | rfl | rw [hsb], Lib.hid (by rw [minK_succ, HFK.out, HSG.out, HSB.out]; rfl), HXL⟩
            case measure => omega
          · obtain rfl : fl = false := by simpa using hfl
            clear hfl
            go_wp2
            go_roundg (nn - (u + 1))
            case rel => exact ⟨u + 1, false, rfl, by omega, by go_num, rfl, Lib.hid (by rw [minK_succ, HFK.out]; rfl), HXL⟩
            case measure => omega
        · obtain rfl : nn = u := by omega
          have q1 : decide (nn < nn) = false := by simp
          obtain rfl : mb = fl := by rw [← HMB.out, ← HFK.out]; rfl
          have q2 : (mb == mb) = true := by simp
          replace HX := Lib.hid (HX.out.trans HXL.out)
          go_wp2_with fail
          refine (first_any _).mono ?_
          rintro e w19 ⟨rfl, hX⟩
          replace HX := Lib.hid (HX.out.trans hX)
          clear hX
          go_wp2
          go_ret
          exact ⟨rfl, HX.out⟩

theorem stripStill_walk (S : Int) (A : Option Addr) (n c : Nat) (ms : List Mt) (f0 f1 f2 f3 f4 f5 f6 f7 f8 : Int) (w : World) (h : MsAt w A n ms) (b0 : -32768 ≤ f0 ∧ f0 ≤ 32767) (b1 : -32768 ≤ f1 ∧ f1 ≤ 32767) (b2 : -32768 ≤ f2 ∧ f2 ≤ 32767) (b3 : -32768 ≤ f3 ∧ f3 ≤ 32767) (b4 : -32768 ≤ f4 ∧ f4 ≤ 32767) (b5 : -32768 ≤ f5 ∧ f5 ≤ 32767) (b6 : -32768 ≤ f6 ∧ f6 ≤ 32767) (b7 : -32768 ≤ f7 ∧ f7 ≤ 32767) (b8 : -32768 ≤ f8 ∧ f8 ≤ 32767) :
    Calls Try.prog 12 #[.agg #[.int .i64 S, .slice A n c], .agg #[.int .i16 f0, .int .i16 f1, .int .i16 f2, .int .i16 f3, .int .i16 f4, .int .i16 f5, .int .i16 f6, .int .i16 f7, .int .i16 f8]] w (fun e w' => e = .returned (.bool true) ∧ Ext w w') := by
  obtain ⟨ls, hls⟩ : ∃ ls : Nat → Int, ls = fun j => match j with
    | 0 => f0
    | 1 => f1
    | 2 => f2
    | 3 => f3
    | 4 => f4
    | 5 => f5
    | 6 => f6
    | 7 => f7
    | 8 => f8
    | _ => 0 := ⟨_, rfl⟩
  have hb : ∀ j, -32768 ≤ ls j ∧ ls j ≤ 32767 := fun j => by
    subst hls
    match j with
    | 0 => exact b0
    | 1 => exact b1
    | 2 => exact b2
    | 3 => exact b3
    | 4 => exact b4
    | 5 => exact b5
    | 6 => exact b6
    | 7 => exact b7
    | 8 => exact b8
    | _ + 9 => simp
  have e : (#[.int .i16 f0, .int .i16 f1, .int .i16 f2, .int .i16 f3, .int .i16 f4, .int .i16 f5, .int .i16 f6, .int .i16 f7, .int .i16 f8] : Array Value) = #[(.int .i16 (ls 0)), (.int .i16 (ls 1)), (.int .i16 (ls 2)), (.int .i16 (ls 3)), (.int .i16 (ls 4)), (.int .i16 (ls 5)), (.int .i16 (ls 6)), (.int .i16 (ls 7)), (.int .i16 (ls 8))] := by subst hls; rfl
  rw [e]
  by_cases hs : smB S ms = true
  · obtain ⟨⟨h1, h2⟩, hv⟩ := smB_iff.1 hs
    obtain ⟨s, rfl⟩ : ∃ s : Nat, S = s := ⟨S.toNat, by have := hv.1; omega⟩
    exact still_walk s A n c ms ls w h hv hb hs
  · exact still_no S A n c ms ls w h (by simpa using hs)
end Go.Proofs.Ytikhlcgnlbinfaa
