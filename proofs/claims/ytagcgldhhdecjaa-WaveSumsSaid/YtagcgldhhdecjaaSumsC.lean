/- Lemmas of the proof that follows (Sums, part 3): walks of functions by contract, and plain lemmas. Conditions: none. -/
import Derived.Test.YtagcgldhhdecjaaSumsB
namespace Go.Proofs.Ytagcgldhhdecjaa
open Go.RowKit

def Ret.cells (r : Ret) : List Value := [.int .i64 r.num, .int .i64 r.of, .int .i64 r.lo, .int .i64 r.hi, .int .i64 r.top, .int .i64 r.energy]
/-- Returns as cells. -/
def rtV (rs : List Ret) : List Value := rs.flatMap Ret.cells
theorem rtV_get {rs : List Ret} {j : Nat} {r : Ret} (h : rs[j]? = some r) : ∀ i u, r.cells[i]? = some u → (rtV rs)[j * 6 + i]? = some u := by
  induction rs generalizing j with
  | nil => simp at h
  | cons x rs ih =>
    intro i u hi
    have e1 : rtV (x :: rs) = x.cells ++ rtV rs := rfl
    have hl : x.cells.length = 6 := rfl
    rw [e1]
    cases j with
    | zero =>
      simp at h; subst h
      have : i < 6 := by have := (List.getElem?_eq_some_iff.1 hi).1; simpa [Ret.cells] using this
      rw [List.getElem?_append_left (by omega)]
      simpa using hi
    | succ j =>
      rw [List.getElem?_append_right (by omega), hl, show (j + 1) * 6 + i - 6 = j * 6 + i by omega]
      exact ih (by simpa using h) i u hi
/-- A slice of returns reads as rs. -/
def RtR (w : World) (A : Option Addr) (n : Nat) (rs : List Ret) : Prop := rs.length = n ∧ At w A (rtV rs)
theorem RtR.ext {w w' : World} {A : Option Addr} {n : Nat} {rs : List Ret} (h : RtR w A n rs) (he : Ext w w') : RtR w' A n rs := ⟨h.1, h.2.ext he⟩
theorem RtR.get {w : World} {A : Option Addr} {n : Nat} {rs : List Ret} (h : RtR w A n rs) {j : Nat} (hj : j < n) : ∃ b off r, A = some ⟨b, off, none⟩ ∧ rs[j]? = some r ∧ ∀ i u, r.cells[i]? = some u → w.cell? ⟨b, off + j * 6 + i, none⟩ = some u := by
  obtain ⟨h1, h2⟩ := h
  have hr : rs[j]? = some rs[j] := List.getElem?_eq_getElem (by omega)
  have g0 := rtV_get hr 0 _ rfl
  obtain ⟨b, off, hA, hc⟩ := h2 (by intro e; rw [e] at g0; simp at g0)
  exact ⟨b, off, _, hA, hr, fun i u hi => by rw [Nat.add_assoc]; exact hc _ _ (rtV_get hr i u hi)⟩
theorem sumF_take {rs : List Ret} {k : Nat} {r : Ret} (h : rs[k]? = some r) : sumF (rs.take (k + 1)) = talS (sumF (rs.take k)) r := by
  rw [List.take_add_one, h]
  exact sumF_snoc _ _
set_option maxRecDepth 100000 in
set_option maxHeartbeats 8000000 in
theorem sum_any (A : Option Addr) (n c : Nat) (rs : List Ret) (w : World) (h : RtR w A n rs) (hn : n ≤ 1000) (he : ∀ r ∈ rs, -1099511627776 ≤ r.energy ∧ r.energy ≤ 1099511627776) :
    Calls Try.prog 42 #[.slice A n c] w (fun e w' => e = .returned (.agg #[.int .i64 (sumF rs).count, .int .i64 (sumF rs).first, .int .i64 (sumF rs).last, .int .i64 (sumF rs).energy]) ∧ Ext w w') := by
  have H := Lib.hid h
  have HL := Lib.hid h.1
  have HE := Lib.hid he
  clear h he
  have hX0 := ((Ext.refl w).alloc (.cells #[.int .i64 0, .int .i64 0, .int .i64 0, .int .i64 0] 60)).alloc (.cells #[.int .i64 0, .int .i64 0, .int .i64 0, .int .i64 0] 60)
  have hR0 := (Blk.new w 60 #[.int .i64 0, .int .i64 0, .int .i64 0, .int .i64 0]).alloc (.cells #[.int .i64 0, .int .i64 0, .int .i64 0, .int .i64 0] 60)
  have hB0 := Blk.new (w.alloc (.cells #[.int .i64 0, .int .i64 0, .int .i64 0, .int .i64 0] 60)) 60 #[.int .i64 0, .int .i64 0, .int .i64 0, .int .i64 0]
  have es : (w.alloc (.cells #[.int .i64 0, .int .i64 0, .int .i64 0, .int .i64 0] 60)).heap.size = w.heap.size + 1 := by simp
  rw [es] at hB0
  clear es
  go_enter Try.func42, Try.ntmps42
  go_wp2_with fail
  generalize (w.alloc (.cells #[.int .i64 0, .int .i64 0, .int .i64 0, .int .i64 0] 60)).alloc (.cells #[.int .i64 0, .int .i64 0, .int .i64 0, .int .i64 0] 60) = w1 at hX0 hR0 hB0 ⊢
  obtain ⟨g, hgg⟩ : ∃ g, w.heap.size + 1 = g := ⟨_, rfl⟩
  rw [hgg] at hB0 ⊢
  have hg : w.heap.size ≤ g := by omega
  have HB := Lib.hid hB0
  have HR := Lib.hid hR0
  have HX := Lib.hid hX0
  have hgw : w.heap.size ≠ g := by omega
  clear hB0 hX0 hR0
  go_loopg [8] n (fun f iv wr => ∃ (k : Nat) (cn fi la en : Int), f = n - k ∧ k ≤ n ∧ iv = .int .i64 (k : Int) ∧ 0 ≤ cn ∧ cn ≤ k ∧ 0 ≤ fi ∧ fi ≤ k ∧ 0 ≤ la ∧ la ≤ k ∧ -(1099511627776 * (k : Int)) ≤ en ∧ en ≤ 1099511627776 * (k : Int) ∧ Hid (sumF (rs.take k) = ⟨cn, fi, la, en⟩) ∧ Hid (Blk wr g 60 #[.int .i64 cn, .int .i64 fi, .int .i64 la, .int .i64 en]) ∧ Hid (Ext w wr) ∧ Hid (Blk wr w.heap.size 60 #[.int .i64 0, .int .i64 0, .int .i64 0, .int .i64 0]))
  case atStart => exact ⟨0, 0, 0, 0, 0, rfl, by omega, rfl, by omega, by omega, by omega, by omega, by omega, by omega, by omega, by omega, Lib.hid rfl, HB, HX, HR⟩
  case round =>
    clear HB HX HR
    obtain ⟨k, cn, fi, la, en, rfl, hk, rfl, b1, b2, b3, b4, b5, b6, b7, b8, HS, HB, HX, HR⟩ := hrel
    by_cases hlt : k < n
    · obtain ⟨b, off, r, rfl, hr, hc⟩ := (H.out.ext HX.out).get hlt
      obtain ⟨he1, he2⟩ := HE.out r (List.mem_of_getElem? hr)
      have HS2 := Lib.hid (sumF_take hr)
      rw [HS.out] at HS2
      obtain ⟨r0, r1, r2, r3, r4, r5⟩ := r
      have a0 := hc 0 _ rfl
      have a1 := hc 1 _ rfl
      have a2 := hc 2 _ rfl
      have a3 := hc 3 _ rfl
      have a4 := hc 4 _ rfl
      have a5 := hc 5 _ rfl
      simp only [Nat.add_zero] at a0
      simp only at a0 a1 a2 a3 a4 a5 he1 he2
      clear hc hr
      go_upto_region 5 with (fail)
      have zg := HB.out.lt
      have hB5 := Blk.new wr 62 #[.int .i64 r0, .int .i64 r1, .int .i64 r2, .int .i64 r3, .int .i64 r4, .int .i64 r5]
      replace HB := Lib.hid (HB.out.alloc (.cells #[.int .i64 r0, .int .i64 r1, .int .i64 r2, .int .i64 r3, .int .i64 r4, .int .i64 r5] 62))
      replace HR := Lib.hid (HR.out.alloc (.cells #[.int .i64 r0, .int .i64 r1, .int .i64 r2, .int .i64 r3, .int .i64 r4, .int .i64 r5] 62))
      replace HX := Lib.hid (HX.out.alloc (.cells #[.int .i64 r0, .int .i64 r1, .int .i64 r2, .int .i64 r3, .int .i64 r4, .int .i64 r5] 62))
      generalize wr.alloc (.cells #[.int .i64 r0, .int .i64 r1, .int .i64 r2, .int .i64 r3, .int .i64 r4, .int .i64 r5] 62) = w5 at hB5 HB HX HR ⊢
      generalize wr.heap.size = gb at hB5 zg ⊢
      clear a0 a1 a2 a3 a4 a5
      have hne1 : gb ≠ g := by omega
      have hne2 : g ≠ gb := by omega
      have hne3 : (gb == g) = false := by simpa using hne1
      have a0 := hB5.cell 0
      have a1 := hB5.cell 1
      have a5 := hB5.cell 5
      simp only [List.getElem?_toArray, List.getElem?_cons_zero, List.getElem?_cons_succ] at a0 a1 a5
      have s0 := HB.out.cell 0
      have s1 := HB.out.cell 1
      have s2 := HB.out.cell 2
      have s3 := HB.out.cell 3
      have z0 := HB.out.free 0
      have z1 := HB.out.free 1
      have z2 := HB.out.free 2
      have z3 := HB.out.free 3
      simp only [List.getElem?_toArray, List.getElem?_cons_zero, List.getElem?_cons_succ] at s0 s1 s2 s3
      have HB5 := HB
      have HX5 := HX
      have HR5 := HR
      clear hB5 HB HX HR
      by_cases hn1 : r0 = 1
      · have q1 : (r0 == 1) = true := by simpa using hn1
        by_cases hn2 : r0 = r1
        · have q2 : (r0 == r1) = true := by simpa using hn2
          have HS3 : Hid (sumF (rs.take (k + 1)) = ⟨cn + 1, fi + 1, la + 1, en + r5⟩) := Lib.hid (by rw [HS2.out]; unfold talS; simp only; rw [if_pos hn1, if_pos hn2])
          clear hn1 hn2
          go_wp2
          go_roundg (n - (k + 1))
          case rel =>
            refine ⟨k + 1, cn + 1, fi + 1, la + 1, en + r5, rfl, by omega, by go_num, by omega, by omega, by omega, by omega, by omega, by omega, by omega, by omega, HS3, Lib.hid ?_, Lib.hid ((((HX5.out.setCell hg _).setCell hg _).setCell hg _).setCell hg _), Lib.hid ((((HR5.out.far hgw _).far hgw _).far hgw _).far hgw _)⟩
            simpa using ((((HB5.out.set 0 (.int .i64 (cn + 1))).set 1 (.int .i64 (fi + 1))).set 2 (.int .i64 (la + 1))).set 3 (.int .i64 (en + r5)))
          case measure => omega
        · have q2 : (r0 == r1) = false := by simpa using hn2
          have HS3 : Hid (sumF (rs.take (k + 1)) = ⟨cn + 1, fi + 1, la, en + r5⟩) := Lib.hid (by rw [HS2.out]; unfold talS; simp only; rw [if_pos hn1, if_neg hn2])
          clear hn1 hn2
          go_wp2
          go_roundg (n - (k + 1))
          case rel =>
            refine ⟨k + 1, cn + 1, fi + 1, la, en + r5, rfl, by omega, by go_num, by omega, by omega, by omega, by omega, by omega, by omega, by omega, by omega, HS3, Lib.hid ?_, Lib.hid (((HX5.out.setCell hg _).setCell hg _).setCell hg _), Lib.hid (((HR5.out.far hgw _).far hgw _).far hgw _)⟩
            simpa using (((HB5.out.set 0 (.int .i64 (cn + 1))).set 1 (.int .i64 (fi + 1))).set 3 (.int .i64 (en + r5)))
          case measure => omega
      · have q1 : (r0 == 1) = false := by simpa using hn1
        by_cases hn2 : r0 = r1
        · have q2 : (r0 == r1) = true := by simpa using hn2
          have HS3 : Hid (sumF (rs.take (k + 1)) = ⟨cn + 1, fi, la + 1, en + r5⟩) := Lib.hid (by rw [HS2.out]; unfold talS; simp only; rw [if_neg hn1, if_pos hn2])
          clear hn1 hn2
          go_wp2
          go_roundg (n - (k + 1))
          case rel =>
            refine ⟨k + 1, cn + 1, fi, la + 1, en + r5, rfl, by omega, by go_num, by omega, by omega, by omega, by omega, by omega, by omega, by omega, by omega, HS3, Lib.hid ?_, Lib.hid (((HX5.out.setCell hg _).setCell hg _).setCell hg _), Lib.hid (((HR5.out.far hgw _).far hgw _).far hgw _)⟩
            simpa using (((HB5.out.set 0 (.int .i64 (cn + 1))).set 2 (.int .i64 (la + 1))).set 3 (.int .i64 (en + r5)))
          case measure => omega
        · have q2 : (r0 == r1) = false := by simpa using hn2
          have HS3 : Hid (sumF (rs.take (k + 1)) = ⟨cn + 1, fi, la, en + r5⟩) := Lib.hid (by rw [HS2.out]; unfold talS; simp only; rw [if_neg hn1, if_neg hn2])
          clear hn1 hn2
          go_wp2
          go_roundg (n - (k + 1))
          case rel =>
            refine ⟨k + 1, cn + 1, fi, la, en + r5, rfl, by omega, by go_num, by omega, by omega, by omega, by omega, by omega, by omega, by omega, by omega, HS3, Lib.hid ?_, Lib.hid ((HX5.out.setCell hg _).setCell hg _), Lib.hid ((HR5.out.far hgw _).far hgw _)⟩
            simpa using ((HB5.out.set 0 (.int .i64 (cn + 1))).set 3 (.int .i64 (en + r5)))
          case measure => omega

    · obtain rfl : k = n := by omega
      have HE2 : Hid (sumF rs = ⟨cn, fi, la, en⟩) := Lib.hid (by have := HS.out; rwa [List.take_of_length_le (by have := HL.out; omega)] at this)
      have s0 := HB.out.cell 0
      have s1 := HB.out.cell 1
      have s2 := HB.out.cell 2
      have s3 := HB.out.cell 3
      have z0 := HB.out.free 0
      have z1 := HB.out.free 1
      have z2 := HB.out.free 2
      have z3 := HB.out.free 3
      simp only [List.getElem?_toArray, List.getElem?_cons_zero, List.getElem?_cons_succ] at s0 s1 s2 s3
      have t0 := HR.out.cell 0
      have t1 := HR.out.cell 1
      have t2 := HR.out.cell 2
      have t3 := HR.out.cell 3
      have y0 := HR.out.free 0
      have y1 := HR.out.free 1
      have y2 := HR.out.free 2
      have y3 := HR.out.free 3
      simp only [List.getElem?_toArray, List.getElem?_cons_zero, List.getElem?_cons_succ] at t0 t1 t2 t3
      go_wp2
      refine bodyPost_ret (v := .agg #[.int .i64 cn, .int .i64 fi, .int .i64 la, .int .i64 en]) (by simp [results, Try.results42, go_sem, *]) rfl ?_
      exact ⟨by rw [HE2.out], (((HX.out.setCell (Nat.le_refl _) _).setCell (Nat.le_refl _) _).setCell (Nat.le_refl _) _).setCell (Nat.le_refl _) _⟩
end Go.Proofs.Ytagcgldhhdecjaa
namespace Go.Proofs.Ytagcgldhhdecjaa
open Go.RowKit

set_option maxRecDepth 100000 in
set_option maxHeartbeats 2000000 in
theorem lawS_r15 (A : Option Addr) (n cc g : Nat) (rs : List Ret) (cn fi la en : Int) (w : World) (c0 : w.cell? ⟨g, 0, none⟩ = some (.int .i64 cn)) (c1 : w.cell? ⟨g, 1, none⟩ = some (.int .i64 fi)) (c2 : w.cell? ⟨g, 2, none⟩ = some (.int .i64 la)) (c3 : w.cell? ⟨g, 3, none⟩ = some (.int .i64 en)) (hR : RtR w A n rs) (hn : n ≤ 1000) (he : ∀ r ∈ rs, -1099511627776 ≤ r.energy ∧ r.energy ≤ 1099511627776) (hS : Hid (sumF rs = ⟨cn, fi, la, en⟩)) (a : Act) (Q : Exit → Act → World → Prop) (hsize : 75 ≤ a.tmps.size)
    (s0 : a.tmps[0]? = some (.slice A n cc))
    (s3 : a.tmps[3]? = some (.pointer (some ⟨g, 0, none⟩)))
    (hend : ∀ (xv0 xv1 xv2 xv3 xv4 xv5 xv6 xv7 : Value) (W : World), (xv0 = .slice A n cc) → (xv1 = .agg #[.int .i64 cn, .int .i64 fi, .int .i64 la, .int .i64 en]) → (xv2 = .agg #[.int .i64 cn, .int .i64 fi, .int .i64 la, .int .i64 en]) → (xv3 = .bool true) → (xv4 = .bool true) → (xv5 = .bool true) → (xv6 = .bool true) → (xv7 = .bool true) → Ext w W → wpList Try.prog (rops Try.f12 15).toArray Q ((rops Try.f12 15).drop 8) ((((((((a.put (some 68) xv0).put (some 69) xv1).put (some 70) xv2).put (some 71) xv3).put (some 72) xv4).put (some 73) xv5).put (some 74) xv6).put (some 2) xv7) W) :
    (Code.region 15 (rops Try.f12 15).toArray true).wp Try.prog Q a w := by
  have hmono : ∀ (W W' : World) (j : Nat) (u : Value), Ext W W' → (fun (i : Nat) (v : Value) (W : World) => match i with
    | 0 => v = .slice A n cc
    | 1 => v = .agg #[.int .i64 cn, .int .i64 fi, .int .i64 la, .int .i64 en]
    | 2 => v = .agg #[.int .i64 cn, .int .i64 fi, .int .i64 la, .int .i64 en]
    | 3 => v = .bool true
    | 4 => v = .bool true
    | 5 => v = .bool true
    | 6 => v = .bool true
    | 7 => v = .bool true
    | _ => True) j u W → (fun (i : Nat) (v : Value) (W : World) => match i with
    | 0 => v = .slice A n cc
    | 1 => v = .agg #[.int .i64 cn, .int .i64 fi, .int .i64 la, .int .i64 en]
    | 2 => v = .agg #[.int .i64 cn, .int .i64 fi, .int .i64 la, .int .i64 en]
    | 3 => v = .bool true
    | 4 => v = .bool true
    | 5 => v = .bool true
    | 6 => v = .bool true
    | 7 => v = .bool true
    | _ => True) j u W' := by
    intro W W' j u hX h
    match j, h with
    | 0, h => exact h
    | 1, h => exact h
    | 2, h => exact h
    | 3, h => exact h
    | 4, h => exact h
    | 5, h => exact h
    | 6, h => exact h
    | 7, h => exact h
    | _ + 8, h => exact h
  have hsz : ∀ d, some d ∈ ([some 68, some 69, some 70, some 71, some 72, some 73, some 74, some 2] : List (Option Tmp)) → d < a.tmps.size := slots_lt (by decide) hsize
  refine wp_region_j 8 [some 68, some 69, some 70, some 71, some 72, some 73, some 74, some 2] [[], [0], [], [1, 2], [3], [4], [4, 5], [6]] [[], [], [], [], [], [], [], []] (fun (i : Nat) (v : Value) (W : World) => match i with
    | 0 => v = .slice A n cc
    | 1 => v = .agg #[.int .i64 cn, .int .i64 fi, .int .i64 la, .int .i64 en]
    | 2 => v = .agg #[.int .i64 cn, .int .i64 fi, .int .i64 la, .int .i64 en]
    | 3 => v = .bool true
    | 4 => v = .bool true
    | 5 => v = .bool true
    | 6 => v = .bool true
    | 7 => v = .bool true
    | _ => True) (fun _ W => Ext w W) (by kernel_rfl) (by kernel_rfl) hsz (fun _ _ _ _ h => h) ((Ext.refl w).drew) ?_ ?_
  · clear hend
    simp only [rops, Try.f12, regOf, Option.bind_some, Nat.reduceBEq, if_true, if_false, Bool.false_eq_true, Option.getD_some]
    simp only [List.take_succ_cons, List.take_zero]
    refine ⟨?_, ?_, ?_, ?_, ?_, ?_, ?_, ?_, trivial⟩
    · intro done us W hJ hdep haft hnot b hb hb' K hK Q'
      have e0 := (hb' 0 (by simp)).trans s0
      clear hb hb'
      go_simp
      exact hK _ _ rfl (fun _ _ _ h => h) hJ
    · intro done us W hJ hdep haft hnot b hb hb' K hK Q'
      simp only [List.getD_cons_succ, List.getD_cons_zero, List.mem_cons, List.not_mem_nil, or_false, forall_eq] at hdep
      have e68 := hb 0 68 rfl
      have d0 := hdep
      rw [d0.1] at e68
      clear hb hb' hdep d0
      go_simp
      refine (sum_any A n cc rs W (hR.ext hJ) hn he).mono ?_
      rw [hS.out]
      rintro e w' ⟨rfl, hX⟩
      exact hK _ _ rfl (fun j u _ h => hmono _ _ j u hX h) (Ext.trans hJ hX)
    · intro done us W hJ hdep haft hnot b hb hb' K hK Q'
      have e3 := (hb' 3 (by simp)).trans s3
      clear hb hb'
      have q0 := Ext.cell hJ c0
      have q1 := Ext.cell hJ c1
      have q2 := Ext.cell hJ c2
      have q3 := Ext.cell hJ c3
      go_simp
      exact hK _ _ rfl (fun _ _ _ h => h) hJ
    · intro done us W hJ hdep haft hnot b hb hb' K hK Q'
      simp only [List.getD_cons_succ, List.getD_cons_zero, List.mem_cons, List.not_mem_nil, or_false, forall_eq_or_imp, forall_eq] at hdep
      have e69 := hb 1 69 rfl
      have e70 := hb 2 70 rfl
      have d1 := hdep.1
      have d2 := hdep.2
      rw [d1.1] at e69
      rw [d2.1] at e70
      clear hb hb' hdep d1 d2
      have p0 : (cn == cn) = true := by simp
      have p1 : (fi == fi) = true := by simp
      have p2 : (la == la) = true := by simp
      have p3 : (en == en) = true := by simp
      go_simp
      exact hK _ _ rfl (fun _ _ _ h => h) hJ
    · intro done us W hJ hdep haft hnot b hb hb' K hK Q'
      simp only [List.getD_cons_succ, List.getD_cons_zero, List.mem_cons, List.not_mem_nil, or_false, forall_eq] at hdep
      have e71 := hb 3 71 rfl
      have d3 := hdep
      rw [d3.1] at e71
      clear hb hb' hdep d3
      go_simp
      exact hK _ _ rfl (fun _ _ _ h => h) hJ
    · intro done us W hJ hdep haft hnot b hb hb' K hK Q'
      simp only [List.getD_cons_succ, List.getD_cons_zero, List.mem_cons, List.not_mem_nil, or_false, forall_eq] at hdep
      have e72 := hb 4 72 rfl
      have d4 := hdep
      rw [d4.1] at e72
      clear hb hb' hdep d4
      go_simp
      refine (firstW_any W).mono ?_
      rintro e w' ⟨rfl, hX⟩
      exact hK _ _ rfl (fun j u _ h => hmono _ _ j u hX h) (Ext.trans hJ hX)
    · intro done us W hJ hdep haft hnot b hb hb' K hK Q'
      simp only [List.getD_cons_succ, List.getD_cons_zero, List.mem_cons, List.not_mem_nil, or_false, forall_eq_or_imp, forall_eq] at hdep
      have e72 := hb 4 72 rfl
      have e73 := hb 5 73 rfl
      have d4 := hdep.1
      have d5 := hdep.2
      rw [d4.1] at e72
      rw [d5.1] at e73
      clear hb hb' hdep d4 d5
      go_simp
      exact hK _ _ rfl (fun _ _ _ h => h) hJ
    · intro done us W hJ hdep haft hnot b hb hb' K hK Q'
      simp only [List.getD_cons_succ, List.getD_cons_zero, List.mem_cons, List.not_mem_nil, or_false, forall_eq] at hdep
      have e74 := hb 6 74 rfl
      have d6 := hdep
      rw [d6.1] at e74
      clear hb hb' hdep d6
      go_simp
      exact hK _ _ rfl (fun _ _ _ h => h) hJ
  · intro us W hV hJ
    exact hend (us 0) (us 1) (us 2) (us 3) (us 4) (us 5) (us 6) (us 7) W (hV 0 (by omega)) (hV 1 (by omega)) (hV 2 (by omega)) (hV 3 (by omega)) (hV 4 (by omega)) (hV 5 (by omega)) (hV 6 (by omega)) (hV 7 (by omega)) hJ
end Go.Proofs.Ytagcgldhhdecjaa
namespace Go.Proofs.Ytagcgldhhdecjaa
open Go.RowKit

def toRet (f : Int × Int × Int × Int × Int × Int) : Ret := ⟨f.1, f.2.1, f.2.2.1, f.2.2.2.1, f.2.2.2.2.1, f.2.2.2.2.2⟩
theorem rtR_of {w : World} {A : Option Addr} {n : Nat} {xs : List (Int × Int × Int × Int × Int × Int)} (h : ElsW RtnW w A n xs) : RtR w A n (xs.map toRet) := by
  obtain ⟨h1, vs, h2, h3⟩ := h
  refine ⟨by simpa using h1, ?_⟩
  have e : vs = rtV (xs.map toRet) := by
    clear h1 h3
    induction xs generalizing vs with
    | nil => exact h2
    | cons x xs ih =>
      obtain ⟨cs, rest, rfl, ⟨hc, _⟩, hr⟩ := h2
      rw [ih rest hr, hc]
      rfl
  rw [← e]
  exact h3
set_option maxRecDepth 100000 in
set_option maxHeartbeats 8000000 in
theorem waveSums_walk (A : Option Addr) (n c : Nat) (xs : List (Int × Int × Int × Int × Int × Int)) (w : World) (hE : ElsW RtnW w A n xs) :
    Calls Try.prog 12 #[.slice A n c] w (fun e w' => e = .returned (.bool true) ∧ Ext w w') := by
  have h := rtR_of hE
  generalize xs.map toRet = rs at h
  clear hE
  have H := Lib.hid h
  have HL := Lib.hid h.1
  clear h
  by_cases hn : 1000 < n
  · have HX := Lib.hid (Ext.refl w)
    go_enter Try.func12, Try.ntmps12
    go_wp2_with fail
    refine (firstW_any _).mono ?_
    rintro e w9 ⟨rfl, hX⟩
    replace HX := Lib.hid (HX.out.trans hX)
    clear hX
    go_wp2
    go_ret
    exact ⟨rfl, HX.out⟩
  have hX0 := (Ext.refl w).alloc (.cells #[.int .i64 0, .int .i64 0, .int .i64 0, .int .i64 0] 60)
  have hB0 := Blk.new w 60 #[.int .i64 0, .int .i64 0, .int .i64 0, .int .i64 0]
  go_enter Try.func12, Try.ntmps12
  go_wp2_with fail
  generalize w.alloc (.cells #[.int .i64 0, .int .i64 0, .int .i64 0, .int .i64 0] 60) = w1 at hX0 hB0 ⊢
  obtain ⟨g, hgg⟩ : ∃ g, w.heap.size = g := ⟨_, rfl⟩
  rw [hgg] at hB0 ⊢
  have hg : w.heap.size ≤ g := by omega
  have HB := Lib.hid hB0
  have HX := Lib.hid hX0
  clear hB0 hX0
  go_loopg [4] n (fun f iv wr => ∃ (k : Nat) (cn fi la en : Int), f = n - k ∧ k ≤ n ∧ iv = .int .i64 (k : Int) ∧ 0 ≤ cn ∧ cn ≤ k ∧ 0 ≤ fi ∧ fi ≤ k ∧ 0 ≤ la ∧ la ≤ k ∧ -(1099511627776 * (k : Int)) ≤ en ∧ en ≤ 1099511627776 * (k : Int) ∧ Hid (sumF (rs.take k) = ⟨cn, fi, la, en⟩) ∧ Hid (∀ r ∈ rs.take k, -1099511627776 ≤ r.energy ∧ r.energy ≤ 1099511627776) ∧ Hid (Blk wr g 60 #[.int .i64 cn, .int .i64 fi, .int .i64 la, .int .i64 en]) ∧ Hid (Ext w wr))
  case atStart => exact ⟨0, 0, 0, 0, 0, rfl, by omega, rfl, by omega, by omega, by omega, by omega, by omega, by omega, by omega, by omega, Lib.hid rfl, Lib.hid (by simp), HB, HX⟩
  case round =>
    clear HB HX
    obtain ⟨k, cn, fi, la, en, rfl, hk, rfl, b1, b2, b3, b4, b5, b6, b7, b8, HS, HA, HB, HX⟩ := hrel
    by_cases hlt : k < n
    · obtain ⟨b, off, r, rfl, hr, hc⟩ := (H.out.ext HX.out).get hlt
      have hbw : b < w.heap.size := by
        obtain ⟨b', off', r', e, hr', hc'⟩ := H.out.get hlt
        injection e with e
        injection e with e1 e2
        subst e1 e2
        exact World.block_lt_of_cell? _ _ (hc' 0 _ rfl)
      have HXr := Lib.hid hr
      have HS2 := Lib.hid (sumF_take hr)
      rw [HS.out] at HS2
      obtain ⟨r0, r1, r2, r3, r4, r5⟩ := r
      have a0 := hc 0 _ rfl
      have a1 := hc 1 _ rfl
      have a5 := hc 5 _ rfl
      simp only [Nat.add_zero] at a0
      simp only at a0 a1 a5
      have hne1 : b ≠ g := by omega
      have hne2 : g ≠ b := by omega
      have hne3 : (b == g) = false := by simpa using hne1
      have s0 := HB.out.cell 0
      have s1 := HB.out.cell 1
      have s2 := HB.out.cell 2
      have s3 := HB.out.cell 3
      have z0 := HB.out.free 0
      have z1 := HB.out.free 1
      have z2 := HB.out.free 2
      have z3 := HB.out.free 3
      simp only [List.getElem?_toArray, List.getElem?_cons_zero, List.getElem?_cons_succ] at s0 s1 s2 s3
      clear hc hr
      by_cases he0 : r5 < -1099511627776
      · go_wp2_with fail
        refine (firstW_any _).mono ?_
        rintro e w9 ⟨rfl, hX⟩
        replace HX := Lib.hid (HX.out.trans hX)
        clear hX
        go_wp2
        go_ret
        exact ⟨rfl, HX.out⟩
      by_cases he00 : 1099511627776 < r5
      · go_wp2_with fail
        refine (firstW_any _).mono ?_
        rintro e w9 ⟨rfl, hX⟩
        replace HX := Lib.hid (HX.out.trans hX)
        clear hX
        go_wp2
        go_ret
        exact ⟨rfl, HX.out⟩
      have he1 : -1099511627776 ≤ r5 := by omega
      have he2 : r5 ≤ 1099511627776 := by omega
      clear he0 he00
      by_cases hn1 : r0 = 1
      · have q1 : (r0 == 1) = true := by simpa using hn1
        by_cases hn2 : r0 = r1
        · have q2 : (r0 == r1) = true := by simpa using hn2
          have HS3 : Hid (sumF (rs.take (k + 1)) = ⟨cn + 1, fi + 1, la + 1, en + r5⟩) := Lib.hid (by rw [HS2.out]; unfold talS; simp only; rw [if_pos hn1, if_pos hn2])
          clear hn1 hn2
          go_wp2_with fail
          go_region
          go_wp2_with fail
          go_region
          go_wp2
          go_roundg (n - (k + 1))
          case rel =>
            refine ⟨k + 1, cn + 1, fi + 1, la + 1, en + r5, rfl, by omega, by go_num, by omega, by omega, by omega, by omega, by omega, by omega, by omega, by omega, HS3, Lib.hid ?_, Lib.hid ?_, Lib.hid ?_⟩
            · rw [List.take_add_one, HXr.out]
              intro q hq
              rcases List.mem_append.1 hq with hq | hq
              · exact HA.out q hq
              · simp at hq; subst hq; exact ⟨he1, he2⟩
            · simpa using ((((HB.out.set 0 (.int .i64 (cn + 1))).set 3 (.int .i64 (en + r5))).set 1 (.int .i64 (fi + 1))).set 2 (.int .i64 (la + 1))).drew.drew
            · exact ((((HX.out.setCell hg _).setCell hg _).setCell hg _).setCell hg _).drew.drew
          case measure => omega
        · have q2 : (r0 == r1) = false := by simpa using hn2
          have HS3 : Hid (sumF (rs.take (k + 1)) = ⟨cn + 1, fi + 1, la, en + r5⟩) := Lib.hid (by rw [HS2.out]; unfold talS; simp only; rw [if_pos hn1, if_neg hn2])
          clear hn1 hn2
          go_wp2_with fail
          go_region
          go_wp2_with fail
          go_region
          go_wp2
          go_roundg (n - (k + 1))
          case rel =>
            refine ⟨k + 1, cn + 1, fi + 1, la, en + r5, rfl, by omega, by go_num, by omega, by omega, by omega, by omega, by omega, by omega, by omega, by omega, HS3, Lib.hid ?_, Lib.hid ?_, Lib.hid ?_⟩
            · rw [List.take_add_one, HXr.out]
              intro q hq
              rcases List.mem_append.1 hq with hq | hq
              · exact HA.out q hq
              · simp at hq; subst hq; exact ⟨he1, he2⟩
            · simpa using (((HB.out.set 0 (.int .i64 (cn + 1))).set 3 (.int .i64 (en + r5))).set 1 (.int .i64 (fi + 1))).drew.drew
            · exact (((HX.out.setCell hg _).setCell hg _).setCell hg _).drew.drew
          case measure => omega
      · have q1 : (r0 == 1) = false := by simpa using hn1
        by_cases hn2 : r0 = r1
        · have q2 : (r0 == r1) = true := by simpa using hn2
          have HS3 : Hid (sumF (rs.take (k + 1)) = ⟨cn + 1, fi, la + 1, en + r5⟩) := Lib.hid (by rw [HS2.out]; unfold talS; simp only; rw [if_neg hn1, if_pos hn2])
          clear hn1 hn2
          go_wp2_with fail
          go_region
          go_wp2_with fail
          go_region
          go_wp2
          go_roundg (n - (k + 1))
          case rel =>
            refine ⟨k + 1, cn + 1, fi, la + 1, en + r5, rfl, by omega, by go_num, by omega, by omega, by omega, by omega, by omega, by omega, by omega, by omega, HS3, Lib.hid ?_, Lib.hid ?_, Lib.hid ?_⟩
            · rw [List.take_add_one, HXr.out]
              intro q hq
              rcases List.mem_append.1 hq with hq | hq
              · exact HA.out q hq
              · simp at hq; subst hq; exact ⟨he1, he2⟩
            · simpa using (((HB.out.set 0 (.int .i64 (cn + 1))).set 3 (.int .i64 (en + r5))).set 2 (.int .i64 (la + 1))).drew.drew
            · exact (((HX.out.setCell hg _).setCell hg _).setCell hg _).drew.drew
          case measure => omega
        · have q2 : (r0 == r1) = false := by simpa using hn2
          have HS3 : Hid (sumF (rs.take (k + 1)) = ⟨cn + 1, fi, la, en + r5⟩) := Lib.hid (by rw [HS2.out]; unfold talS; simp only; rw [if_neg hn1, if_neg hn2])
          clear hn1 hn2
          go_wp2_with fail
          go_region
          go_wp2_with fail
          go_region
          go_wp2
          go_roundg (n - (k + 1))
          case rel =>
            refine ⟨k + 1, cn + 1, fi, la, en + r5, rfl, by omega, by go_num, by omega, by omega, by omega, by omega, by omega, by omega, by omega, by omega, HS3, Lib.hid ?_, Lib.hid ?_, Lib.hid ?_⟩
            · rw [List.take_add_one, HXr.out]
              intro q hq
              rcases List.mem_append.1 hq with hq | hq
              · exact HA.out q hq
              · simp at hq; subst hq; exact ⟨he1, he2⟩
            · simpa using ((HB.out.set 0 (.int .i64 (cn + 1))).set 3 (.int .i64 (en + r5))).drew.drew
            · exact ((HX.out.setCell hg _).setCell hg _).drew.drew
          case measure => omega

    · obtain rfl : k = n := by omega
      have e : rs.take k = rs := List.take_of_length_le (by have := HL.out; omega)
      have HE2 : Hid (sumF rs = ⟨cn, fi, la, en⟩) := Lib.hid (by have := HS.out; rwa [e] at this)
      have HA2 : Hid (∀ r ∈ rs, -1099511627776 ≤ r.energy ∧ r.energy ≤ 1099511627776) := Lib.hid (by have := HA.out; rwa [e] at this)
      clear e
      have c0 := HB.out.cell 0
      have c1 := HB.out.cell 1
      have c2 := HB.out.cell 2
      have c3 := HB.out.cell 3
      simp only [List.getElem?_toArray, List.getElem?_cons_zero, List.getElem?_cons_succ] at c0 c1 c2 c3
      go_upto_region 15 with (fail)
      refine lawS_r15 A k c g rs cn fi la en wr c0 c1 c2 c3 (H.out.ext HX.out) (by omega) HA2.out HE2 _ _ (by simp) rfl rfl ?_
      rintro xv0 xv1 xv2 xv3 xv4 xv5 xv6 xv7 W rfl rfl rfl rfl rfl rfl rfl rfl hXW
      simp only [rops, Try.f12, regOf, Option.bind_some, Nat.reduceBEq, if_true, if_false, Bool.false_eq_true, Option.getD_some, List.drop_succ_cons, List.drop_zero]
      simp only [Act.put, List.setIfInBounds_toArray, List.set_cons_succ, List.set_cons_zero]
      replace HX := Lib.hid (HX.out.trans hXW)
      clear hXW c0 c1 c2 c3
      go_wp2
      go_ret
      exact ⟨rfl, HX.out⟩
end Go.Proofs.Ytagcgldhhdecjaa
