/- Walks: lift and Circle of package exact (program). -/
import Derived.Test.YteoijnaljkagfaaL5
namespace Go.Proofs.Yteoijnaljkagfaa
open Go.RowKit

/-- The square of the distance of two places. -/
def liftI (p d : Int × Int) : Int := (p.1 - d.1) * (p.1 - d.1) + (p.2 - d.2) * (p.2 - d.2)
/-- What Circle computes. -/
def detI (a b c d : Int × Int) : Int := liftI a d * crossI d b c + liftI b d * crossI d c a + liftI c d * crossI d a b
def circI (a b c d : Int × Int) : Int := sgI (crossI a b c) * sgI (detI a b c d)
theorem sgnQ_int (n : Int) : sgnQ ((n : Int) : Rat) = sgI n := by
  unfold sgnQ sgI
  simp only [Rat.num_intCast]
  by_cases h : n < 0
  · simp [h]
  · by_cases h2 : n = 0
    · simp [h2]
    · have : 0 < n := by omega
      simp [h, h2, this]
theorem detI_rat (a b c d : Int × Int) : ((liftI a d : Int) : Rat) * ((crossI d b c : Int) : Rat) + ((liftI b d : Int) : Rat) * ((crossI d c a : Int) : Rat) + ((liftI c d : Int) : Rat) * ((crossI d a b : Int) : Rat) = ((detI a b c d : Int) : Rat) := by
  unfold detI
  simp only [Rat.intCast_add, Rat.intCast_mul]
theorem lift_in {p1 p2 d1 d2 : Int} (hp : okP (p1, p2) = true) (hd : okP (d1, d2) = true) : -9223372036854775808 ≤ liftI (p1, p2) (d1, d2) ∧ liftI (p1, p2) (d1, d2) ≤ 9223372036854775807 := by
  obtain ⟨ha1, ha2⟩ := okP_in hp
  obtain ⟨hb1, hb2⟩ := okP_in hd
  obtain ⟨p1, p2⟩ := mul_in (diff_in ha1 hb1) (diff_in ha1 hb1)
  obtain ⟨q1, q2⟩ := mul_in (diff_in ha2 hb2) (diff_in ha2 hb2)
  rw [show (536870912 : Int) * 536870912 = 288230376151711744 by decide] at p1 p2 q1 q2
  unfold liftI
  simp only
  omega
theorem cross_in {a1 a2 b1 b2 c1 c2 : Int} (ha : okP (a1, a2) = true) (hb : okP (b1, b2) = true) (hc : okP (c1, c2) = true) : -9223372036854775808 ≤ crossI (a1, a2) (b1, b2) (c1, c2) ∧ crossI (a1, a2) (b1, b2) (c1, c2) ≤ 9223372036854775807 := by
  obtain ⟨ha1, ha2⟩ := okP_in ha
  obtain ⟨hb1, hb2⟩ := okP_in hb
  obtain ⟨hc1, hc2⟩ := okP_in hc
  obtain ⟨p1, p2⟩ := mul_in (diff_in hb1 ha1) (diff_in hc2 ha2)
  obtain ⟨q1, q2⟩ := mul_in (diff_in hb2 ha2) (diff_in hc1 ha1)
  rw [show (536870912 : Int) * 536870912 = 288230376151711744 by decide] at p1 p2 q1 q2
  unfold crossI
  simp only
  omega
theorem okPs4 (a b c d : Int × Int) : okPs [a, b, c, d] = true ↔ okP a = true ∧ okP b = true ∧ okP c = true ∧ okP d = true := by simp [okPs]
theorem pts4 {w : World} {g : Nat} {t : TypeId} {a1 a2 b1 b2 c1 c2 d1 d2 : Int} (h : Blk w g t #[.int .i64 a1, .int .i64 a2, .int .i64 b1, .int .i64 b2, .int .i64 c1, .int .i64 c2, .int .i64 d1, .int .i64 d2]) : Pts w g [(a1, a2), (b1, b2), (c1, c2), (d1, d2)] := by
  intro j p hp
  rcases j with _ | _ | _ | _ | j
  · obtain rfl : (a1, a2) = p := by simpa using hp
    exact ⟨h.cell 0, h.cell 1⟩
  · obtain rfl : (b1, b2) = p := by simpa using hp
    exact ⟨h.cell 2, h.cell 3⟩
  · obtain rfl : (c1, c2) = p := by simpa using hp
    exact ⟨h.cell 4, h.cell 5⟩
  · obtain rfl : (d1, d2) = p := by simpa using hp
    exact ⟨h.cell 6, h.cell 7⟩
  · simp at hp

set_option maxRecDepth 100000 in
set_option maxHeartbeats 2000000 in
theorem lift_any (p1 p2 d1 d2 : Int) (w : World) (hp : okP (p1, p2) = true) (hd : okP (d1, d2) = true) :
    Calls Try.prog 97 #[.agg #[.int .i64 p1, .int .i64 p2], .agg #[.int .i64 d1, .int .i64 d2]] w (fun e w' => e = .returned (.int .i64 (liftI (p1, p2) (d1, d2))) ∧ Ext w w') := by
  obtain ⟨ha1, ha2⟩ := okP_in hp
  obtain ⟨hb1, hb2⟩ := okP_in hd
  obtain ⟨x1, x2⟩ := mul_in (diff_in ha1 hb1) (diff_in ha1 hb1)
  obtain ⟨q1, q2⟩ := mul_in (diff_in ha2 hb2) (diff_in ha2 hb2)
  rw [show (536870912 : Int) * 536870912 = 288230376151711744 by decide] at x1 x2 q1 q2
  obtain ⟨e1, e2⟩ := diff_in ha1 hb1
  obtain ⟨e3, e4⟩ := diff_in ha2 hb2
  clear ha1 ha2 hb1 hb2 hp hd
  have hXe : Ext w ((w.alloc (.cells #[.int .i64 p1, .int .i64 p2] 23)).alloc (.cells #[.int .i64 d1, .int .i64 d2] 23)) := (((Ext.refl w).alloc _).alloc _)
  have kP : Blk ((w.alloc (.cells #[.int .i64 p1, .int .i64 p2] 23)).alloc (.cells #[.int .i64 d1, .int .i64 d2] 23)) w.heap.size 23 #[.int .i64 p1, .int .i64 p2] := Blk.alloc (Blk.at_ (by simp)) _
  have kD : Blk ((w.alloc (.cells #[.int .i64 p1, .int .i64 p2] 23)).alloc (.cells #[.int .i64 d1, .int .i64 d2] 23)) (w.heap.size + 1) 23 #[.int .i64 d1, .int .i64 d2] := Blk.at_ (by simp)
  go_enter Try.func97, Try.ntmps97
  go_wp2_with fail
  generalize ((w.alloc (.cells #[.int .i64 p1, .int .i64 p2] 23)).alloc (.cells #[.int .i64 d1, .int .i64 d2] 23)) = w1 at hXe kP kD ⊢
  have HX := Lib.hid hXe
  clear hXe
  have KP := Lib.hid kP
  clear kP
  have KD := Lib.hid kD
  clear kD
  have cP0 : w1.cell? ⟨w.heap.size, 0, none⟩ = some (.int .i64 p1) := KP.out.cell 0
  have cP1 : w1.cell? ⟨w.heap.size, 1, none⟩ = some (.int .i64 p2) := KP.out.cell 1
  have cD0 : w1.cell? ⟨(w.heap.size + 1), 0, none⟩ = some (.int .i64 d1) := KD.out.cell 0
  have cD1 : w1.cell? ⟨(w.heap.size + 1), 1, none⟩ = some (.int .i64 d2) := KD.out.cell 1
  go_quiet (fail)
  go_wp2
  go_ret
  exact ⟨rfl, HX.out.drewN _⟩

set_option maxRecDepth 100000 in
set_option maxHeartbeats 2000000 in
theorem circ_r6 (ga gb gc gd : Nat) (a1 a2 b1 b2 c1 c2 d1 d2 : Int) (w : World) (a0 : w.cell? ⟨ga, 0, none⟩ = some (.int .i64 a1)) (a1' : w.cell? ⟨ga, 1, none⟩ = some (.int .i64 a2)) (oa : okP (a1, a2) = true) (b0 : w.cell? ⟨gb, 0, none⟩ = some (.int .i64 b1)) (b1' : w.cell? ⟨gb, 1, none⟩ = some (.int .i64 b2)) (ob : okP (b1, b2) = true) (c0 : w.cell? ⟨gc, 0, none⟩ = some (.int .i64 c1)) (c1' : w.cell? ⟨gc, 1, none⟩ = some (.int .i64 c2)) (oc : okP (c1, c2) = true) (d0 : w.cell? ⟨gd, 0, none⟩ = some (.int .i64 d1)) (d1' : w.cell? ⟨gd, 1, none⟩ = some (.int .i64 d2)) (od : okP (d1, d2) = true) (a : Act) (Q : Exit → Act → World → Prop) (hsize : 36 ≤ a.tmps.size)
    (s4 : a.tmps[4]? = some (.pointer (some ⟨ga, 0, none⟩)))
    (s5 : a.tmps[5]? = some (.pointer (some ⟨gb, 0, none⟩)))
    (s6 : a.tmps[6]? = some (.pointer (some ⟨gc, 0, none⟩)))
    (s7 : a.tmps[7]? = some (.pointer (some ⟨gd, 0, none⟩)))
    (hend : ∀ (xv0 xv1 xv2 xv3 xv4 xv5 xv6 xv7 xv8 xv9 xv10 : Value) (W : World), (xv0 = .agg #[.int .i64 a1, .int .i64 a2]) → (xv1 = .agg #[.int .i64 d1, .int .i64 d2]) → (xv2 = .int .i64 (liftI (a1, a2) (d1, d2))) → (NumX W xv3 (((liftI (a1, a2) (d1, d2)) : Int) : Rat) 2) → (xv4 = .agg #[.int .i64 d1, .int .i64 d2]) → (xv5 = .agg #[.int .i64 b1, .int .i64 b2]) → (xv6 = .agg #[.int .i64 c1, .int .i64 c2]) → (xv7 = .int .i64 (crossI (d1, d2) (b1, b2) (c1, c2))) → (NumX W xv8 (((crossI (d1, d2) (b1, b2) (c1, c2)) : Int) : Rat) 2) → (NumX W xv9 ((((liftI (a1, a2) (d1, d2)) : Int) : Rat) * (((crossI (d1, d2) (b1, b2) (c1, c2)) : Int) : Rat)) (2 + 2)) → (∃ g, xv10 = .pointer (some ⟨g, 0, none⟩) ∧ w.heap.size ≤ g ∧ Blk W g 96 #[.bool false, .slice none 0 0, .slice none 0 0]) → Ext w W → wpList Try.prog (rops Try.f46 6).toArray Q ((rops Try.f46 6).drop 11) (((((((((((a.put (some 26) xv0).put (some 27) xv1).put (some 28) xv2).put (some 29) xv3).put (some 30) xv4).put (some 31) xv5).put (some 32) xv6).put (some 33) xv7).put (some 34) xv8).put (some 35) xv9).put (some 11) xv10) W) :
    (Code.region 6 (rops Try.f46 6).toArray true).wp Try.prog Q a w := by
  have hmono : ∀ (W W' : World) (j : Nat) (u : Value), Ext W W' → (fun (i : Nat) (v : Value) (W : World) => match i with
    | 0 => v = .agg #[.int .i64 a1, .int .i64 a2]
    | 1 => v = .agg #[.int .i64 d1, .int .i64 d2]
    | 2 => v = .int .i64 (liftI (a1, a2) (d1, d2))
    | 3 => NumX W v (((liftI (a1, a2) (d1, d2)) : Int) : Rat) 2
    | 4 => v = .agg #[.int .i64 d1, .int .i64 d2]
    | 5 => v = .agg #[.int .i64 b1, .int .i64 b2]
    | 6 => v = .agg #[.int .i64 c1, .int .i64 c2]
    | 7 => v = .int .i64 (crossI (d1, d2) (b1, b2) (c1, c2))
    | 8 => NumX W v (((crossI (d1, d2) (b1, b2) (c1, c2)) : Int) : Rat) 2
    | 9 => NumX W v ((((liftI (a1, a2) (d1, d2)) : Int) : Rat) * (((crossI (d1, d2) (b1, b2) (c1, c2)) : Int) : Rat)) (2 + 2)
    | 10 => ∃ g, v = .pointer (some ⟨g, 0, none⟩) ∧ w.heap.size ≤ g ∧ Blk W g 96 #[.bool false, .slice none 0 0, .slice none 0 0]
    | _ => True) j u W → (fun (i : Nat) (v : Value) (W : World) => match i with
    | 0 => v = .agg #[.int .i64 a1, .int .i64 a2]
    | 1 => v = .agg #[.int .i64 d1, .int .i64 d2]
    | 2 => v = .int .i64 (liftI (a1, a2) (d1, d2))
    | 3 => NumX W v (((liftI (a1, a2) (d1, d2)) : Int) : Rat) 2
    | 4 => v = .agg #[.int .i64 d1, .int .i64 d2]
    | 5 => v = .agg #[.int .i64 b1, .int .i64 b2]
    | 6 => v = .agg #[.int .i64 c1, .int .i64 c2]
    | 7 => v = .int .i64 (crossI (d1, d2) (b1, b2) (c1, c2))
    | 8 => NumX W v (((crossI (d1, d2) (b1, b2) (c1, c2)) : Int) : Rat) 2
    | 9 => NumX W v ((((liftI (a1, a2) (d1, d2)) : Int) : Rat) * (((crossI (d1, d2) (b1, b2) (c1, c2)) : Int) : Rat)) (2 + 2)
    | 10 => ∃ g, v = .pointer (some ⟨g, 0, none⟩) ∧ w.heap.size ≤ g ∧ Blk W g 96 #[.bool false, .slice none 0 0, .slice none 0 0]
    | _ => True) j u W' := by
    intro W W' j u hX h
    match j, h with
    | 0, h => exact h
    | 1, h => exact h
    | 2, h => exact h
    | 3, h => exact NumX.ext h hX
    | 4, h => exact h
    | 5, h => exact h
    | 6, h => exact h
    | 7, h => exact h
    | 8, h => exact NumX.ext h hX
    | 9, h => exact NumX.ext h hX
    | 10, h => obtain ⟨g, h1, h2, h3⟩ := h; exact ⟨g, h1, h2, h3.ext hX⟩
    | _ + 11, h => exact h
  have hsz : ∀ d, some d ∈ ([some 26, some 27, some 28, some 29, some 30, some 31, some 32, some 33, some 34, some 35, some 11] : List (Option Tmp)) → d < a.tmps.size := slots_lt (by decide) hsize
  refine wp_region_j 11 [some 26, some 27, some 28, some 29, some 30, some 31, some 32, some 33, some 34, some 35, some 11] [[], [], [0, 1], [2], [], [], [], [4, 5, 6], [7], [3, 8], []] [[], [], [], [], [], [], [], [], [], [], []] (fun (i : Nat) (v : Value) (W : World) => match i with
    | 0 => v = .agg #[.int .i64 a1, .int .i64 a2]
    | 1 => v = .agg #[.int .i64 d1, .int .i64 d2]
    | 2 => v = .int .i64 (liftI (a1, a2) (d1, d2))
    | 3 => NumX W v (((liftI (a1, a2) (d1, d2)) : Int) : Rat) 2
    | 4 => v = .agg #[.int .i64 d1, .int .i64 d2]
    | 5 => v = .agg #[.int .i64 b1, .int .i64 b2]
    | 6 => v = .agg #[.int .i64 c1, .int .i64 c2]
    | 7 => v = .int .i64 (crossI (d1, d2) (b1, b2) (c1, c2))
    | 8 => NumX W v (((crossI (d1, d2) (b1, b2) (c1, c2)) : Int) : Rat) 2
    | 9 => NumX W v ((((liftI (a1, a2) (d1, d2)) : Int) : Rat) * (((crossI (d1, d2) (b1, b2) (c1, c2)) : Int) : Rat)) (2 + 2)
    | 10 => ∃ g, v = .pointer (some ⟨g, 0, none⟩) ∧ w.heap.size ≤ g ∧ Blk W g 96 #[.bool false, .slice none 0 0, .slice none 0 0]
    | _ => True) (fun _ W => Ext w W) (by kernel_rfl) (by kernel_rfl) hsz (fun _ _ _ _ h => h) ((Ext.refl w).drew) ?_ ?_
  · clear hend
    simp only [rops, Try.f46, regOf, Option.bind_some, Nat.reduceBEq, if_true, if_false, Bool.false_eq_true, Option.getD_some]
    simp only [List.take_succ_cons, List.take_zero]
    refine ⟨?_, ?_, ?_, ?_, ?_, ?_, ?_, ?_, ?_, ?_, ?_, trivial⟩
    · intro done us W hJ hdep haft hnot b hb hb' K hK Q'
      have e4 := (hb' 4 (by simp)).trans s4
      clear hb hb'
      have q0 := Ext.cell hJ a0
      have q1 := Ext.cell hJ a1'
      go_simp
      exact hK _ _ rfl (fun _ _ _ h => h) hJ
    · intro done us W hJ hdep haft hnot b hb hb' K hK Q'
      have e7 := (hb' 7 (by simp)).trans s7
      clear hb hb'
      have q0 := Ext.cell hJ d0
      have q1 := Ext.cell hJ d1'
      go_simp
      exact hK _ _ rfl (fun _ _ _ h => h) hJ
    · intro done us W hJ hdep haft hnot b hb hb' K hK Q'
      simp only [List.getD_cons_succ, List.getD_cons_zero, List.mem_cons, List.not_mem_nil, or_false, forall_eq_or_imp, forall_eq] at hdep
      have e26 := hb 0 26 rfl
      have e27 := hb 1 27 rfl
      have d0 := hdep.1
      have d1 := hdep.2
      rw [d0.1] at e26
      rw [d1.1] at e27
      clear hb hb' hdep d0 d1
      go_simp
      refine (lift_any _ _ _ _ _ oa od).mono ?_
      rintro e w' ⟨rfl, hX⟩
      exact hK _ _ rfl (fun j u _ h => hmono _ _ j u hX h) (Ext.trans hJ hX)
    · intro done us W hJ hdep haft hnot b hb hb' K hK Q'
      simp only [List.getD_cons_succ, List.getD_cons_zero, List.mem_cons, List.not_mem_nil, or_false, forall_eq] at hdep
      have e28 := hb 2 28 rfl
      have d2 := hdep
      rw [d2.1] at e28
      clear hb hb' hdep d2
      go_simp
      refine (intX _ _ (lift_in oa od).1 (lift_in oa od).2).mono ?_
      rintro e w' ⟨v, rfl, hv, hX⟩
      exact hK _ _ hv (fun j u _ h => hmono _ _ j u hX h) (Ext.trans hJ hX)
    · intro done us W hJ hdep haft hnot b hb hb' K hK Q'
      have e7 := (hb' 7 (by simp)).trans s7
      clear hb hb'
      have q0 := Ext.cell hJ d0
      have q1 := Ext.cell hJ d1'
      go_simp
      exact hK _ _ rfl (fun _ _ _ h => h) hJ
    · intro done us W hJ hdep haft hnot b hb hb' K hK Q'
      have e5 := (hb' 5 (by simp)).trans s5
      clear hb hb'
      have q0 := Ext.cell hJ b0
      have q1 := Ext.cell hJ b1'
      go_simp
      exact hK _ _ rfl (fun _ _ _ h => h) hJ
    · intro done us W hJ hdep haft hnot b hb hb' K hK Q'
      have e6 := (hb' 6 (by simp)).trans s6
      clear hb hb'
      have q0 := Ext.cell hJ c0
      have q1 := Ext.cell hJ c1'
      go_simp
      exact hK _ _ rfl (fun _ _ _ h => h) hJ
    · intro done us W hJ hdep haft hnot b hb hb' K hK Q'
      simp only [List.getD_cons_succ, List.getD_cons_zero, List.mem_cons, List.not_mem_nil, or_false, forall_eq_or_imp, forall_eq] at hdep
      have e30 := hb 4 30 rfl
      have e31 := hb 5 31 rfl
      have e32 := hb 6 32 rfl
      have d4 := hdep.1
      have d5 := hdep.2.1
      have d6 := hdep.2.2
      rw [d4.1] at e30
      rw [d5.1] at e31
      rw [d6.1] at e32
      clear hb hb' hdep d4 d5 d6
      go_simp
      refine (cross_any _ _ _ _ _ _ _ od ob oc).mono ?_
      rintro e w' ⟨rfl, hX⟩
      exact hK _ _ rfl (fun j u _ h => hmono _ _ j u hX h) (Ext.trans hJ hX)
    · intro done us W hJ hdep haft hnot b hb hb' K hK Q'
      simp only [List.getD_cons_succ, List.getD_cons_zero, List.mem_cons, List.not_mem_nil, or_false, forall_eq] at hdep
      have e33 := hb 7 33 rfl
      have d7 := hdep
      rw [d7.1] at e33
      clear hb hb' hdep d7
      go_simp
      refine (intX _ _ (cross_in od ob oc).1 (cross_in od ob oc).2).mono ?_
      rintro e w' ⟨v, rfl, hv, hX⟩
      exact hK _ _ hv (fun j u _ h => hmono _ _ j u hX h) (Ext.trans hJ hX)
    · intro done us W hJ hdep haft hnot b hb hb' K hK Q'
      simp only [List.getD_cons_succ, List.getD_cons_zero, List.mem_cons, List.not_mem_nil, or_false, forall_eq_or_imp, forall_eq] at hdep
      have e29 := hb 3 29 rfl
      have e34 := hb 8 34 rfl
      have d3 := hdep.1
      have d8 := hdep.2
      clear hb hb' hdep 
      go_simp
      refine (mulX d3.1 d8.1 (by omega) (by omega)).mono ?_
      rintro e w' ⟨v, rfl, hv, hX⟩
      exact hK _ _ hv (fun j u _ h => hmono _ _ j u hX h) (Ext.trans hJ hX)
    · intro done us W hJ hdep haft hnot b hb hb' K hK Q'
      clear hb hb'
      go_simp
      exact hK _ _ ⟨W.heap.size, rfl, Ext.size hJ, Blk.new _ _ _⟩ (fun j u _ h => hmono _ _ j u ((Ext.refl _).alloc _) h) (Ext.alloc hJ _)
  · intro us W hV hJ
    exact hend (us 0) (us 1) (us 2) (us 3) (us 4) (us 5) (us 6) (us 7) (us 8) (us 9) (us 10) W (hV 0 (by omega)) (hV 1 (by omega)) (hV 2 (by omega)) (hV 3 (by omega)) (hV 4 (by omega)) (hV 5 (by omega)) (hV 6 (by omega)) (hV 7 (by omega)) (hV 8 (by omega)) (hV 9 (by omega)) (hV 10 (by omega)) hJ
set_option maxRecDepth 100000 in
set_option maxHeartbeats 2000000 in
theorem circ_r7 (gz : Nat) (s : Bool) (A1 A2 : Option Addr) (l1 n1 l2 n2 : Nat) (q : Rat) (ga gb gc gd : Nat) (a1 a2 b1 b2 c1 c2 d1 d2 : Int) (w : World) (z0 : w.cell? ⟨gz, 0, none⟩ = some (.bool s)) (z1 : w.cell? ⟨gz, 1, none⟩ = some (.slice A1 l1 n1)) (z2 : w.cell? ⟨gz, 2, none⟩ = some (.slice A2 l2 n2)) (hq : NumX w (.agg #[.bool s, .slice A1 l1 n1, .slice A2 l2 n2]) q 4) (a0 : w.cell? ⟨ga, 0, none⟩ = some (.int .i64 a1)) (a1' : w.cell? ⟨ga, 1, none⟩ = some (.int .i64 a2)) (oa : okP (a1, a2) = true) (b0 : w.cell? ⟨gb, 0, none⟩ = some (.int .i64 b1)) (b1' : w.cell? ⟨gb, 1, none⟩ = some (.int .i64 b2)) (ob : okP (b1, b2) = true) (c0 : w.cell? ⟨gc, 0, none⟩ = some (.int .i64 c1)) (c1' : w.cell? ⟨gc, 1, none⟩ = some (.int .i64 c2)) (oc : okP (c1, c2) = true) (d0 : w.cell? ⟨gd, 0, none⟩ = some (.int .i64 d1)) (d1' : w.cell? ⟨gd, 1, none⟩ = some (.int .i64 d2)) (od : okP (d1, d2) = true) (a : Act) (Q : Exit → Act → World → Prop) (hsize : 48 ≤ a.tmps.size)
    (s4 : a.tmps[4]? = some (.pointer (some ⟨ga, 0, none⟩)))
    (s5 : a.tmps[5]? = some (.pointer (some ⟨gb, 0, none⟩)))
    (s6 : a.tmps[6]? = some (.pointer (some ⟨gc, 0, none⟩)))
    (s7 : a.tmps[7]? = some (.pointer (some ⟨gd, 0, none⟩)))
    (s11 : a.tmps[11]? = some (.pointer (some ⟨gz, 0, none⟩)))
    (hend : ∀ (xv0 xv1 xv2 xv3 xv4 xv5 xv6 xv7 xv8 xv9 xv10 xv11 : Value) (W : World), (xv0 = .agg #[.bool s, .slice A1 l1 n1, .slice A2 l2 n2]) → (xv1 = .agg #[.int .i64 b1, .int .i64 b2]) → (xv2 = .agg #[.int .i64 d1, .int .i64 d2]) → (xv3 = .int .i64 (liftI (b1, b2) (d1, d2))) → (NumX W xv4 (((liftI (b1, b2) (d1, d2)) : Int) : Rat) 2) → (xv5 = .agg #[.int .i64 d1, .int .i64 d2]) → (xv6 = .agg #[.int .i64 c1, .int .i64 c2]) → (xv7 = .agg #[.int .i64 a1, .int .i64 a2]) → (xv8 = .int .i64 (crossI (d1, d2) (c1, c2) (a1, a2))) → (NumX W xv9 (((crossI (d1, d2) (c1, c2) (a1, a2)) : Int) : Rat) 2) → (NumX W xv10 ((((liftI (b1, b2) (d1, d2)) : Int) : Rat) * (((crossI (d1, d2) (c1, c2) (a1, a2)) : Int) : Rat)) (2 + 2)) → (NumX W xv11 (q + (((liftI (b1, b2) (d1, d2)) : Int) : Rat) * (((crossI (d1, d2) (c1, c2) (a1, a2)) : Int) : Rat)) (4 + 4 + 1)) → Ext w W → wpList Try.prog (rops Try.f46 7).toArray Q ((rops Try.f46 7).drop 12) ((((((((((((a.put (some 36) xv0).put (some 37) xv1).put (some 38) xv2).put (some 39) xv3).put (some 40) xv4).put (some 41) xv5).put (some 42) xv6).put (some 43) xv7).put (some 44) xv8).put (some 45) xv9).put (some 46) xv10).put (some 47) xv11) W) :
    (Code.region 7 (rops Try.f46 7).toArray true).wp Try.prog Q a w := by
  have hmono : ∀ (W W' : World) (j : Nat) (u : Value), Ext W W' → (fun (i : Nat) (v : Value) (W : World) => match i with
    | 0 => v = .agg #[.bool s, .slice A1 l1 n1, .slice A2 l2 n2]
    | 1 => v = .agg #[.int .i64 b1, .int .i64 b2]
    | 2 => v = .agg #[.int .i64 d1, .int .i64 d2]
    | 3 => v = .int .i64 (liftI (b1, b2) (d1, d2))
    | 4 => NumX W v (((liftI (b1, b2) (d1, d2)) : Int) : Rat) 2
    | 5 => v = .agg #[.int .i64 d1, .int .i64 d2]
    | 6 => v = .agg #[.int .i64 c1, .int .i64 c2]
    | 7 => v = .agg #[.int .i64 a1, .int .i64 a2]
    | 8 => v = .int .i64 (crossI (d1, d2) (c1, c2) (a1, a2))
    | 9 => NumX W v (((crossI (d1, d2) (c1, c2) (a1, a2)) : Int) : Rat) 2
    | 10 => NumX W v ((((liftI (b1, b2) (d1, d2)) : Int) : Rat) * (((crossI (d1, d2) (c1, c2) (a1, a2)) : Int) : Rat)) (2 + 2)
    | 11 => NumX W v (q + (((liftI (b1, b2) (d1, d2)) : Int) : Rat) * (((crossI (d1, d2) (c1, c2) (a1, a2)) : Int) : Rat)) (4 + 4 + 1)
    | _ => True) j u W → (fun (i : Nat) (v : Value) (W : World) => match i with
    | 0 => v = .agg #[.bool s, .slice A1 l1 n1, .slice A2 l2 n2]
    | 1 => v = .agg #[.int .i64 b1, .int .i64 b2]
    | 2 => v = .agg #[.int .i64 d1, .int .i64 d2]
    | 3 => v = .int .i64 (liftI (b1, b2) (d1, d2))
    | 4 => NumX W v (((liftI (b1, b2) (d1, d2)) : Int) : Rat) 2
    | 5 => v = .agg #[.int .i64 d1, .int .i64 d2]
    | 6 => v = .agg #[.int .i64 c1, .int .i64 c2]
    | 7 => v = .agg #[.int .i64 a1, .int .i64 a2]
    | 8 => v = .int .i64 (crossI (d1, d2) (c1, c2) (a1, a2))
    | 9 => NumX W v (((crossI (d1, d2) (c1, c2) (a1, a2)) : Int) : Rat) 2
    | 10 => NumX W v ((((liftI (b1, b2) (d1, d2)) : Int) : Rat) * (((crossI (d1, d2) (c1, c2) (a1, a2)) : Int) : Rat)) (2 + 2)
    | 11 => NumX W v (q + (((liftI (b1, b2) (d1, d2)) : Int) : Rat) * (((crossI (d1, d2) (c1, c2) (a1, a2)) : Int) : Rat)) (4 + 4 + 1)
    | _ => True) j u W' := by
    intro W W' j u hX h
    match j, h with
    | 0, h => exact h
    | 1, h => exact h
    | 2, h => exact h
    | 3, h => exact h
    | 4, h => exact NumX.ext h hX
    | 5, h => exact h
    | 6, h => exact h
    | 7, h => exact h
    | 8, h => exact h
    | 9, h => exact NumX.ext h hX
    | 10, h => exact NumX.ext h hX
    | 11, h => exact NumX.ext h hX
    | _ + 12, h => exact h
  have hsz : ∀ d, some d ∈ ([some 36, some 37, some 38, some 39, some 40, some 41, some 42, some 43, some 44, some 45, some 46, some 47] : List (Option Tmp)) → d < a.tmps.size := slots_lt (by decide) hsize
  refine wp_region_j 12 [some 36, some 37, some 38, some 39, some 40, some 41, some 42, some 43, some 44, some 45, some 46, some 47] [[], [], [], [1, 2], [3], [], [], [], [5, 6, 7], [8], [4, 9], [0, 10]] [[], [], [], [], [], [], [], [], [], [], [], []] (fun (i : Nat) (v : Value) (W : World) => match i with
    | 0 => v = .agg #[.bool s, .slice A1 l1 n1, .slice A2 l2 n2]
    | 1 => v = .agg #[.int .i64 b1, .int .i64 b2]
    | 2 => v = .agg #[.int .i64 d1, .int .i64 d2]
    | 3 => v = .int .i64 (liftI (b1, b2) (d1, d2))
    | 4 => NumX W v (((liftI (b1, b2) (d1, d2)) : Int) : Rat) 2
    | 5 => v = .agg #[.int .i64 d1, .int .i64 d2]
    | 6 => v = .agg #[.int .i64 c1, .int .i64 c2]
    | 7 => v = .agg #[.int .i64 a1, .int .i64 a2]
    | 8 => v = .int .i64 (crossI (d1, d2) (c1, c2) (a1, a2))
    | 9 => NumX W v (((crossI (d1, d2) (c1, c2) (a1, a2)) : Int) : Rat) 2
    | 10 => NumX W v ((((liftI (b1, b2) (d1, d2)) : Int) : Rat) * (((crossI (d1, d2) (c1, c2) (a1, a2)) : Int) : Rat)) (2 + 2)
    | 11 => NumX W v (q + (((liftI (b1, b2) (d1, d2)) : Int) : Rat) * (((crossI (d1, d2) (c1, c2) (a1, a2)) : Int) : Rat)) (4 + 4 + 1)
    | _ => True) (fun _ W => Ext w W) (by kernel_rfl) (by kernel_rfl) hsz (fun _ _ _ _ h => h) ((Ext.refl w).drew) ?_ ?_
  · clear hend
    simp only [rops, Try.f46, regOf, Option.bind_some, Nat.reduceBEq, if_true, if_false, Bool.false_eq_true, Option.getD_some]
    simp only [List.take_succ_cons, List.take_zero]
    refine ⟨?_, ?_, ?_, ?_, ?_, ?_, ?_, ?_, ?_, ?_, ?_, ?_, trivial⟩
    · intro done us W hJ hdep haft hnot b hb hb' K hK Q'
      have e11 := (hb' 11 (by simp)).trans s11
      clear hb hb'
      have q0 := Ext.cell hJ z0
      have q1 := Ext.cell hJ z1
      have q2 := Ext.cell hJ z2
      go_simp
      exact hK _ _ rfl (fun _ _ _ h => h) hJ
    · intro done us W hJ hdep haft hnot b hb hb' K hK Q'
      have e5 := (hb' 5 (by simp)).trans s5
      clear hb hb'
      have q0 := Ext.cell hJ b0
      have q1 := Ext.cell hJ b1'
      go_simp
      exact hK _ _ rfl (fun _ _ _ h => h) hJ
    · intro done us W hJ hdep haft hnot b hb hb' K hK Q'
      have e7 := (hb' 7 (by simp)).trans s7
      clear hb hb'
      have q0 := Ext.cell hJ d0
      have q1 := Ext.cell hJ d1'
      go_simp
      exact hK _ _ rfl (fun _ _ _ h => h) hJ
    · intro done us W hJ hdep haft hnot b hb hb' K hK Q'
      simp only [List.getD_cons_succ, List.getD_cons_zero, List.mem_cons, List.not_mem_nil, or_false, forall_eq_or_imp, forall_eq] at hdep
      have e37 := hb 1 37 rfl
      have e38 := hb 2 38 rfl
      have d1 := hdep.1
      have d2 := hdep.2
      rw [d1.1] at e37
      rw [d2.1] at e38
      clear hb hb' hdep d1 d2
      go_simp
      refine (lift_any _ _ _ _ _ ob od).mono ?_
      rintro e w' ⟨rfl, hX⟩
      exact hK _ _ rfl (fun j u _ h => hmono _ _ j u hX h) (Ext.trans hJ hX)
    · intro done us W hJ hdep haft hnot b hb hb' K hK Q'
      simp only [List.getD_cons_succ, List.getD_cons_zero, List.mem_cons, List.not_mem_nil, or_false, forall_eq] at hdep
      have e39 := hb 3 39 rfl
      have d3 := hdep
      rw [d3.1] at e39
      clear hb hb' hdep d3
      go_simp
      refine (intX _ _ (lift_in ob od).1 (lift_in ob od).2).mono ?_
      rintro e w' ⟨v, rfl, hv, hX⟩
      exact hK _ _ hv (fun j u _ h => hmono _ _ j u hX h) (Ext.trans hJ hX)
    · intro done us W hJ hdep haft hnot b hb hb' K hK Q'
      have e7 := (hb' 7 (by simp)).trans s7
      clear hb hb'
      have q0 := Ext.cell hJ d0
      have q1 := Ext.cell hJ d1'
      go_simp
      exact hK _ _ rfl (fun _ _ _ h => h) hJ
    · intro done us W hJ hdep haft hnot b hb hb' K hK Q'
      have e6 := (hb' 6 (by simp)).trans s6
      clear hb hb'
      have q0 := Ext.cell hJ c0
      have q1 := Ext.cell hJ c1'
      go_simp
      exact hK _ _ rfl (fun _ _ _ h => h) hJ
    · intro done us W hJ hdep haft hnot b hb hb' K hK Q'
      have e4 := (hb' 4 (by simp)).trans s4
      clear hb hb'
      have q0 := Ext.cell hJ a0
      have q1 := Ext.cell hJ a1'
      go_simp
      exact hK _ _ rfl (fun _ _ _ h => h) hJ
    · intro done us W hJ hdep haft hnot b hb hb' K hK Q'
      simp only [List.getD_cons_succ, List.getD_cons_zero, List.mem_cons, List.not_mem_nil, or_false, forall_eq_or_imp, forall_eq] at hdep
      have e41 := hb 5 41 rfl
      have e42 := hb 6 42 rfl
      have e43 := hb 7 43 rfl
      have d5 := hdep.1
      have d6 := hdep.2.1
      have d7 := hdep.2.2
      rw [d5.1] at e41
      rw [d6.1] at e42
      rw [d7.1] at e43
      clear hb hb' hdep d5 d6 d7
      go_simp
      refine (cross_any _ _ _ _ _ _ _ od oc oa).mono ?_
      rintro e w' ⟨rfl, hX⟩
      exact hK _ _ rfl (fun j u _ h => hmono _ _ j u hX h) (Ext.trans hJ hX)
    · intro done us W hJ hdep haft hnot b hb hb' K hK Q'
      simp only [List.getD_cons_succ, List.getD_cons_zero, List.mem_cons, List.not_mem_nil, or_false, forall_eq] at hdep
      have e44 := hb 8 44 rfl
      have d8 := hdep
      rw [d8.1] at e44
      clear hb hb' hdep d8
      go_simp
      refine (intX _ _ (cross_in od oc oa).1 (cross_in od oc oa).2).mono ?_
      rintro e w' ⟨v, rfl, hv, hX⟩
      exact hK _ _ hv (fun j u _ h => hmono _ _ j u hX h) (Ext.trans hJ hX)
    · intro done us W hJ hdep haft hnot b hb hb' K hK Q'
      simp only [List.getD_cons_succ, List.getD_cons_zero, List.mem_cons, List.not_mem_nil, or_false, forall_eq_or_imp, forall_eq] at hdep
      have e40 := hb 4 40 rfl
      have e45 := hb 9 45 rfl
      have d4 := hdep.1
      have d9 := hdep.2
      clear hb hb' hdep 
      go_simp
      refine (mulX d4.1 d9.1 (by omega) (by omega)).mono ?_
      rintro e w' ⟨v, rfl, hv, hX⟩
      exact hK _ _ hv (fun j u _ h => hmono _ _ j u hX h) (Ext.trans hJ hX)
    · intro done us W hJ hdep haft hnot b hb hb' K hK Q'
      simp only [List.getD_cons_succ, List.getD_cons_zero, List.mem_cons, List.not_mem_nil, or_false, forall_eq_or_imp, forall_eq] at hdep
      have e36 := hb 0 36 rfl
      have e46 := hb 10 46 rfl
      have d0 := hdep.1
      have d10 := hdep.2
      rw [d0.1] at e36
      clear hb hb' hdep d0
      go_simp
      refine (addX (NumX.ext hq hJ) d10.1 (by omega)).mono ?_
      rintro e w' ⟨v, rfl, hv, hX⟩
      exact hK _ _ hv (fun j u _ h => hmono _ _ j u hX h) (Ext.trans hJ hX)
  · intro us W hV hJ
    exact hend (us 0) (us 1) (us 2) (us 3) (us 4) (us 5) (us 6) (us 7) (us 8) (us 9) (us 10) (us 11) W (hV 0 (by omega)) (hV 1 (by omega)) (hV 2 (by omega)) (hV 3 (by omega)) (hV 4 (by omega)) (hV 5 (by omega)) (hV 6 (by omega)) (hV 7 (by omega)) (hV 8 (by omega)) (hV 9 (by omega)) (hV 10 (by omega)) (hV 11 (by omega)) hJ
set_option maxRecDepth 100000 in
set_option maxHeartbeats 2000000 in
theorem circ_r8 (gz : Nat) (s : Bool) (A1 A2 : Option Addr) (l1 n1 l2 n2 : Nat) (q : Rat) (ga gb gc gd : Nat) (a1 a2 b1 b2 c1 c2 d1 d2 : Int) (w : World) (z0 : w.cell? ⟨gz, 0, none⟩ = some (.bool s)) (z1 : w.cell? ⟨gz, 1, none⟩ = some (.slice A1 l1 n1)) (z2 : w.cell? ⟨gz, 2, none⟩ = some (.slice A2 l2 n2)) (hq : NumX w (.agg #[.bool s, .slice A1 l1 n1, .slice A2 l2 n2]) q 9) (a0 : w.cell? ⟨ga, 0, none⟩ = some (.int .i64 a1)) (a1' : w.cell? ⟨ga, 1, none⟩ = some (.int .i64 a2)) (oa : okP (a1, a2) = true) (b0 : w.cell? ⟨gb, 0, none⟩ = some (.int .i64 b1)) (b1' : w.cell? ⟨gb, 1, none⟩ = some (.int .i64 b2)) (ob : okP (b1, b2) = true) (c0 : w.cell? ⟨gc, 0, none⟩ = some (.int .i64 c1)) (c1' : w.cell? ⟨gc, 1, none⟩ = some (.int .i64 c2)) (oc : okP (c1, c2) = true) (d0 : w.cell? ⟨gd, 0, none⟩ = some (.int .i64 d1)) (d1' : w.cell? ⟨gd, 1, none⟩ = some (.int .i64 d2)) (od : okP (d1, d2) = true) (a : Act) (Q : Exit → Act → World → Prop) (hsize : 60 ≤ a.tmps.size)
    (s4 : a.tmps[4]? = some (.pointer (some ⟨ga, 0, none⟩)))
    (s5 : a.tmps[5]? = some (.pointer (some ⟨gb, 0, none⟩)))
    (s6 : a.tmps[6]? = some (.pointer (some ⟨gc, 0, none⟩)))
    (s7 : a.tmps[7]? = some (.pointer (some ⟨gd, 0, none⟩)))
    (s11 : a.tmps[11]? = some (.pointer (some ⟨gz, 0, none⟩)))
    (hend : ∀ (xv0 xv1 xv2 xv3 xv4 xv5 xv6 xv7 xv8 xv9 xv10 xv11 : Value) (W : World), (xv0 = .agg #[.bool s, .slice A1 l1 n1, .slice A2 l2 n2]) → (xv1 = .agg #[.int .i64 c1, .int .i64 c2]) → (xv2 = .agg #[.int .i64 d1, .int .i64 d2]) → (xv3 = .int .i64 (liftI (c1, c2) (d1, d2))) → (NumX W xv4 (((liftI (c1, c2) (d1, d2)) : Int) : Rat) 2) → (xv5 = .agg #[.int .i64 d1, .int .i64 d2]) → (xv6 = .agg #[.int .i64 a1, .int .i64 a2]) → (xv7 = .agg #[.int .i64 b1, .int .i64 b2]) → (xv8 = .int .i64 (crossI (d1, d2) (a1, a2) (b1, b2))) → (NumX W xv9 (((crossI (d1, d2) (a1, a2) (b1, b2)) : Int) : Rat) 2) → (NumX W xv10 ((((liftI (c1, c2) (d1, d2)) : Int) : Rat) * (((crossI (d1, d2) (a1, a2) (b1, b2)) : Int) : Rat)) (2 + 2)) → (NumX W xv11 (q + (((liftI (c1, c2) (d1, d2)) : Int) : Rat) * (((crossI (d1, d2) (a1, a2) (b1, b2)) : Int) : Rat)) (9 + 4 + 1)) → Ext w W → wpList Try.prog (rops Try.f46 8).toArray Q ((rops Try.f46 8).drop 12) ((((((((((((a.put (some 48) xv0).put (some 49) xv1).put (some 50) xv2).put (some 51) xv3).put (some 52) xv4).put (some 53) xv5).put (some 54) xv6).put (some 55) xv7).put (some 56) xv8).put (some 57) xv9).put (some 58) xv10).put (some 59) xv11) W) :
    (Code.region 8 (rops Try.f46 8).toArray true).wp Try.prog Q a w := by
  have hmono : ∀ (W W' : World) (j : Nat) (u : Value), Ext W W' → (fun (i : Nat) (v : Value) (W : World) => match i with
    | 0 => v = .agg #[.bool s, .slice A1 l1 n1, .slice A2 l2 n2]
    | 1 => v = .agg #[.int .i64 c1, .int .i64 c2]
    | 2 => v = .agg #[.int .i64 d1, .int .i64 d2]
    | 3 => v = .int .i64 (liftI (c1, c2) (d1, d2))
    | 4 => NumX W v (((liftI (c1, c2) (d1, d2)) : Int) : Rat) 2
    | 5 => v = .agg #[.int .i64 d1, .int .i64 d2]
    | 6 => v = .agg #[.int .i64 a1, .int .i64 a2]
    | 7 => v = .agg #[.int .i64 b1, .int .i64 b2]
    | 8 => v = .int .i64 (crossI (d1, d2) (a1, a2) (b1, b2))
    | 9 => NumX W v (((crossI (d1, d2) (a1, a2) (b1, b2)) : Int) : Rat) 2
    | 10 => NumX W v ((((liftI (c1, c2) (d1, d2)) : Int) : Rat) * (((crossI (d1, d2) (a1, a2) (b1, b2)) : Int) : Rat)) (2 + 2)
    | 11 => NumX W v (q + (((liftI (c1, c2) (d1, d2)) : Int) : Rat) * (((crossI (d1, d2) (a1, a2) (b1, b2)) : Int) : Rat)) (9 + 4 + 1)
    | _ => True) j u W → (fun (i : Nat) (v : Value) (W : World) => match i with
    | 0 => v = .agg #[.bool s, .slice A1 l1 n1, .slice A2 l2 n2]
    | 1 => v = .agg #[.int .i64 c1, .int .i64 c2]
    | 2 => v = .agg #[.int .i64 d1, .int .i64 d2]
    | 3 => v = .int .i64 (liftI (c1, c2) (d1, d2))
    | 4 => NumX W v (((liftI (c1, c2) (d1, d2)) : Int) : Rat) 2
    | 5 => v = .agg #[.int .i64 d1, .int .i64 d2]
    | 6 => v = .agg #[.int .i64 a1, .int .i64 a2]
    | 7 => v = .agg #[.int .i64 b1, .int .i64 b2]
    | 8 => v = .int .i64 (crossI (d1, d2) (a1, a2) (b1, b2))
    | 9 => NumX W v (((crossI (d1, d2) (a1, a2) (b1, b2)) : Int) : Rat) 2
    | 10 => NumX W v ((((liftI (c1, c2) (d1, d2)) : Int) : Rat) * (((crossI (d1, d2) (a1, a2) (b1, b2)) : Int) : Rat)) (2 + 2)
    | 11 => NumX W v (q + (((liftI (c1, c2) (d1, d2)) : Int) : Rat) * (((crossI (d1, d2) (a1, a2) (b1, b2)) : Int) : Rat)) (9 + 4 + 1)
    | _ => True) j u W' := by
    intro W W' j u hX h
    match j, h with
    | 0, h => exact h
    | 1, h => exact h
    | 2, h => exact h
    | 3, h => exact h
    | 4, h => exact NumX.ext h hX
    | 5, h => exact h
    | 6, h => exact h
    | 7, h => exact h
    | 8, h => exact h
    | 9, h => exact NumX.ext h hX
    | 10, h => exact NumX.ext h hX
    | 11, h => exact NumX.ext h hX
    | _ + 12, h => exact h
  have hsz : ∀ d, some d ∈ ([some 48, some 49, some 50, some 51, some 52, some 53, some 54, some 55, some 56, some 57, some 58, some 59] : List (Option Tmp)) → d < a.tmps.size := slots_lt (by decide) hsize
  refine wp_region_j 12 [some 48, some 49, some 50, some 51, some 52, some 53, some 54, some 55, some 56, some 57, some 58, some 59] [[], [], [], [1, 2], [3], [], [], [], [5, 6, 7], [8], [4, 9], [0, 10]] [[], [], [], [], [], [], [], [], [], [], [], []] (fun (i : Nat) (v : Value) (W : World) => match i with
    | 0 => v = .agg #[.bool s, .slice A1 l1 n1, .slice A2 l2 n2]
    | 1 => v = .agg #[.int .i64 c1, .int .i64 c2]
    | 2 => v = .agg #[.int .i64 d1, .int .i64 d2]
    | 3 => v = .int .i64 (liftI (c1, c2) (d1, d2))
    | 4 => NumX W v (((liftI (c1, c2) (d1, d2)) : Int) : Rat) 2
    | 5 => v = .agg #[.int .i64 d1, .int .i64 d2]
    | 6 => v = .agg #[.int .i64 a1, .int .i64 a2]
    | 7 => v = .agg #[.int .i64 b1, .int .i64 b2]
    | 8 => v = .int .i64 (crossI (d1, d2) (a1, a2) (b1, b2))
    | 9 => NumX W v (((crossI (d1, d2) (a1, a2) (b1, b2)) : Int) : Rat) 2
    | 10 => NumX W v ((((liftI (c1, c2) (d1, d2)) : Int) : Rat) * (((crossI (d1, d2) (a1, a2) (b1, b2)) : Int) : Rat)) (2 + 2)
    | 11 => NumX W v (q + (((liftI (c1, c2) (d1, d2)) : Int) : Rat) * (((crossI (d1, d2) (a1, a2) (b1, b2)) : Int) : Rat)) (9 + 4 + 1)
    | _ => True) (fun _ W => Ext w W) (by kernel_rfl) (by kernel_rfl) hsz (fun _ _ _ _ h => h) ((Ext.refl w).drew) ?_ ?_
  · clear hend
    simp only [rops, Try.f46, regOf, Option.bind_some, Nat.reduceBEq, if_true, if_false, Bool.false_eq_true, Option.getD_some]
    simp only [List.take_succ_cons, List.take_zero]
    refine ⟨?_, ?_, ?_, ?_, ?_, ?_, ?_, ?_, ?_, ?_, ?_, ?_, trivial⟩
    · intro done us W hJ hdep haft hnot b hb hb' K hK Q'
      have e11 := (hb' 11 (by simp)).trans s11
      clear hb hb'
      have q0 := Ext.cell hJ z0
      have q1 := Ext.cell hJ z1
      have q2 := Ext.cell hJ z2
      go_simp
      exact hK _ _ rfl (fun _ _ _ h => h) hJ
    · intro done us W hJ hdep haft hnot b hb hb' K hK Q'
      have e6 := (hb' 6 (by simp)).trans s6
      clear hb hb'
      have q0 := Ext.cell hJ c0
      have q1 := Ext.cell hJ c1'
      go_simp
      exact hK _ _ rfl (fun _ _ _ h => h) hJ
    · intro done us W hJ hdep haft hnot b hb hb' K hK Q'
      have e7 := (hb' 7 (by simp)).trans s7
      clear hb hb'
      have q0 := Ext.cell hJ d0
      have q1 := Ext.cell hJ d1'
      go_simp
      exact hK _ _ rfl (fun _ _ _ h => h) hJ
    · intro done us W hJ hdep haft hnot b hb hb' K hK Q'
      simp only [List.getD_cons_succ, List.getD_cons_zero, List.mem_cons, List.not_mem_nil, or_false, forall_eq_or_imp, forall_eq] at hdep
      have e49 := hb 1 49 rfl
      have e50 := hb 2 50 rfl
      have d1 := hdep.1
      have d2 := hdep.2
      rw [d1.1] at e49
      rw [d2.1] at e50
      clear hb hb' hdep d1 d2
      go_simp
      refine (lift_any _ _ _ _ _ oc od).mono ?_
      rintro e w' ⟨rfl, hX⟩
      exact hK _ _ rfl (fun j u _ h => hmono _ _ j u hX h) (Ext.trans hJ hX)
    · intro done us W hJ hdep haft hnot b hb hb' K hK Q'
      simp only [List.getD_cons_succ, List.getD_cons_zero, List.mem_cons, List.not_mem_nil, or_false, forall_eq] at hdep
      have e51 := hb 3 51 rfl
      have d3 := hdep
      rw [d3.1] at e51
      clear hb hb' hdep d3
      go_simp
      refine (intX _ _ (lift_in oc od).1 (lift_in oc od).2).mono ?_
      rintro e w' ⟨v, rfl, hv, hX⟩
      exact hK _ _ hv (fun j u _ h => hmono _ _ j u hX h) (Ext.trans hJ hX)
    · intro done us W hJ hdep haft hnot b hb hb' K hK Q'
      have e7 := (hb' 7 (by simp)).trans s7
      clear hb hb'
      have q0 := Ext.cell hJ d0
      have q1 := Ext.cell hJ d1'
      go_simp
      exact hK _ _ rfl (fun _ _ _ h => h) hJ
    · intro done us W hJ hdep haft hnot b hb hb' K hK Q'
      have e4 := (hb' 4 (by simp)).trans s4
      clear hb hb'
      have q0 := Ext.cell hJ a0
      have q1 := Ext.cell hJ a1'
      go_simp
      exact hK _ _ rfl (fun _ _ _ h => h) hJ
    · intro done us W hJ hdep haft hnot b hb hb' K hK Q'
      have e5 := (hb' 5 (by simp)).trans s5
      clear hb hb'
      have q0 := Ext.cell hJ b0
      have q1 := Ext.cell hJ b1'
      go_simp
      exact hK _ _ rfl (fun _ _ _ h => h) hJ
    · intro done us W hJ hdep haft hnot b hb hb' K hK Q'
      simp only [List.getD_cons_succ, List.getD_cons_zero, List.mem_cons, List.not_mem_nil, or_false, forall_eq_or_imp, forall_eq] at hdep
      have e53 := hb 5 53 rfl
      have e54 := hb 6 54 rfl
      have e55 := hb 7 55 rfl
      have d5 := hdep.1
      have d6 := hdep.2.1
      have d7 := hdep.2.2
      rw [d5.1] at e53
      rw [d6.1] at e54
      rw [d7.1] at e55
      clear hb hb' hdep d5 d6 d7
      go_simp
      refine (cross_any _ _ _ _ _ _ _ od oa ob).mono ?_
      rintro e w' ⟨rfl, hX⟩
      exact hK _ _ rfl (fun j u _ h => hmono _ _ j u hX h) (Ext.trans hJ hX)
    · intro done us W hJ hdep haft hnot b hb hb' K hK Q'
      simp only [List.getD_cons_succ, List.getD_cons_zero, List.mem_cons, List.not_mem_nil, or_false, forall_eq] at hdep
      have e56 := hb 8 56 rfl
      have d8 := hdep
      rw [d8.1] at e56
      clear hb hb' hdep d8
      go_simp
      refine (intX _ _ (cross_in od oa ob).1 (cross_in od oa ob).2).mono ?_
      rintro e w' ⟨v, rfl, hv, hX⟩
      exact hK _ _ hv (fun j u _ h => hmono _ _ j u hX h) (Ext.trans hJ hX)
    · intro done us W hJ hdep haft hnot b hb hb' K hK Q'
      simp only [List.getD_cons_succ, List.getD_cons_zero, List.mem_cons, List.not_mem_nil, or_false, forall_eq_or_imp, forall_eq] at hdep
      have e52 := hb 4 52 rfl
      have e57 := hb 9 57 rfl
      have d4 := hdep.1
      have d9 := hdep.2
      clear hb hb' hdep 
      go_simp
      refine (mulX d4.1 d9.1 (by omega) (by omega)).mono ?_
      rintro e w' ⟨v, rfl, hv, hX⟩
      exact hK _ _ hv (fun j u _ h => hmono _ _ j u hX h) (Ext.trans hJ hX)
    · intro done us W hJ hdep haft hnot b hb hb' K hK Q'
      simp only [List.getD_cons_succ, List.getD_cons_zero, List.mem_cons, List.not_mem_nil, or_false, forall_eq_or_imp, forall_eq] at hdep
      have e48 := hb 0 48 rfl
      have e58 := hb 10 58 rfl
      have d0 := hdep.1
      have d10 := hdep.2
      rw [d0.1] at e48
      clear hb hb' hdep d0
      go_simp
      refine (addX (NumX.ext hq hJ) d10.1 (by omega)).mono ?_
      rintro e w' ⟨v, rfl, hv, hX⟩
      exact hK _ _ hv (fun j u _ h => hmono _ _ j u hX h) (Ext.trans hJ hX)
  · intro us W hV hJ
    exact hend (us 0) (us 1) (us 2) (us 3) (us 4) (us 5) (us 6) (us 7) (us 8) (us 9) (us 10) (us 11) W (hV 0 (by omega)) (hV 1 (by omega)) (hV 2 (by omega)) (hV 3 (by omega)) (hV 4 (by omega)) (hV 5 (by omega)) (hV 6 (by omega)) (hV 7 (by omega)) (hV 8 (by omega)) (hV 9 (by omega)) (hV 10 (by omega)) (hV 11 (by omega)) hJ
end Go.Proofs.Yteoijnaljkagfaa
