/- Walk: Done of a rational number (program): the canonical value, or the error of a large one. -/
import Derived.Test.YteoijnaljkagfaaR7
namespace Go.Proofs.Yteoijnaljkagfaa
open Go.RowKit

theorem elU : Elem Try.prog 31 79 1 4 (.int .u32 0) := Elem.mk' (by kernel_rfl) (by kernel_rfl) rfl (by decide)

/-- A number that is not large. -/
structure FitQW (q : Rat) : Prop where
  num : FitW q.num.natAbs
  den : FitW q.den
/-- The canonical words of a denominator. -/
def CanD (ys : List Int) (d : Nat) : Prop := (d = 1 ∧ ys = []) ∨ (d ≠ 1 ∧ Rep 4294967296 ys d)
/-- The canonical value of a number. -/
def RatC (w : World) (v : Value) (q : Rat) : Prop := ∃ xs ys, RatV w v (decide (q.num < 0)) xs ys ∧ Rep 4294967296 xs q.num.natAbs ∧ CanD ys q.den
theorem RatC.ext {w w' : World} {v : Value} {q : Rat} (h : RatC w v q) (he : Ext w w') : RatC w' v q := by
  obtain ⟨xs, ys, h1, h2⟩ := h
  exact ⟨xs, ys, h1.ext he, h2⟩

/-- What Done leaves. -/
def RetC (w : World) (q : Rat) (e : Ending) (w' : World) : Prop := ∃ v', e = .returned (.tuple #[v', .int .i64 0]) ∧ RatC w' v' q ∧ Ext w w'
/-- A row of integers and a block of another type. -/
theorem OwnS.apart {k : IntKind} {e t : TypeId} {base g gv n c : Nat} {w : World} {xs : List Int} {cs : Array Value} (h : OwnS k e base w (some ⟨gv, 0, none⟩) n c xs) (hB : Blk w g t cs) (hne : e ≠ t) : g ≠ gv := by
  intro he
  subst he
  rcases h.own.2 with ⟨hv, _⟩ | ⟨g', cap, cur, hv, _, hg, _⟩
  · cases hv
  · injection hv with hA _ _
    injection hA with hA
    injection hA with hA
    subst hA
    unfold Blk at hB
    rw [hB] at hg
    injection hg with hg
    injection hg with _ h2
    exact hne h2.symm
/-- The block of a row lies in memory. -/
theorem OwnS.inMem {k : IntKind} {e : TypeId} {base gv n c : Nat} {w : World} {xs : List Int} (h : OwnS k e base w (some ⟨gv, 0, none⟩) n c xs) : gv < w.heap.size := by
  rcases h.own.2 with ⟨hv, _⟩ | ⟨g', cap, cur, hv, _, hg, _⟩
  · cases hv
  · injection hv with hA _ _
    injection hA with hA
    injection hA with hA
    subst hA
    exact (Array.getElem?_eq_some_iff.1 hg).1
theorem grownBy_set (w : World) (g i : Nat) (u : Value) : w.grownBy (w.setCell ⟨g, i, none⟩ u) (some g) :=
  ⟨rfl, rfl, rfl, by simp, fun k _ hk => heap_setCell_other w ⟨g, i, none⟩ k u (fun e => hk (by simp [e]))⟩

set_option maxRecDepth 100000 in
set_option maxHeartbeats 2000000 in
theorem done_r4 (g : Nat) (s : Bool) (A _B : Option Addr) (l c _m _k : Nat) (w : World) (a0 : w.cell? ⟨g, 0, none⟩ = some (.bool s)) (a1 : w.cell? ⟨g, 1, none⟩ = some (.slice A l c)) (hl : l ≤ 256) (a : Act) (Q : Exit → Act → World → Prop) (hsize : 25 ≤ a.tmps.size)
    (s1 : a.tmps[1]? = some (.pointer (some ⟨g, 0, none⟩)))
    (hend : ∀ (xv0 xv1 xv2 xv3 xv4 xv5 xv6 xv7 : Value) (W : World), (xv0 = .pointer (some ⟨g, 0, none⟩)) → (xv1 = .bool s) → (xv2 = .pointer (some ⟨g, 1, none⟩)) → (xv3 = .slice A l c) → (xv4 = .int .i64 (l : Int)) → (∃ g', xv5 = .slice (some ⟨g', 0, none⟩) l l ∧ w.heap.size ≤ g' ∧ OwnS .u32 79 w.heap.size W (some ⟨g', 0, none⟩) l l (List.replicate l 0)) → (∃ g', xv6 = .agg #[.bool s, .slice (some ⟨g', 0, none⟩) l l, .slice none 0 0] ∧ w.heap.size ≤ g' ∧ OwnS .u32 79 w.heap.size W (some ⟨g', 0, none⟩) l l (List.replicate l 0)) → (∃ g', xv7 = .pointer (some ⟨g', 0, none⟩) ∧ w.heap.size ≤ g' ∧ Blk W g' 33 #[.bool false, .slice none 0 0, .slice none 0 0]) → Ext w W → wpList Try.prog (rops Try.f77 4).toArray Q ((rops Try.f77 4).drop 8) ((((((((a.put (some 18) xv0).put (some 19) xv1).put (some 20) xv2).put (some 21) xv3).put (some 22) xv4).put (some 23) xv5).put (some 24) xv6).put (some 4) xv7) W) :
    (Code.region 4 (rops Try.f77 4).toArray true).wp Try.prog Q a w := by
  have hmono : ∀ (W W' : World) (j : Nat) (u : Value), Ext W W' → (fun (i : Nat) (v : Value) (W : World) => match i with
    | 0 => v = .pointer (some ⟨g, 0, none⟩)
    | 1 => v = .bool s
    | 2 => v = .pointer (some ⟨g, 1, none⟩)
    | 3 => v = .slice A l c
    | 4 => v = .int .i64 (l : Int)
    | 5 => ∃ g', v = .slice (some ⟨g', 0, none⟩) l l ∧ w.heap.size ≤ g' ∧ OwnS .u32 79 w.heap.size W (some ⟨g', 0, none⟩) l l (List.replicate l 0)
    | 6 => ∃ g', v = .agg #[.bool s, .slice (some ⟨g', 0, none⟩) l l, .slice none 0 0] ∧ w.heap.size ≤ g' ∧ OwnS .u32 79 w.heap.size W (some ⟨g', 0, none⟩) l l (List.replicate l 0)
    | 7 => ∃ g', v = .pointer (some ⟨g', 0, none⟩) ∧ w.heap.size ≤ g' ∧ Blk W g' 33 #[.bool false, .slice none 0 0, .slice none 0 0]
    | _ => True) j u W → (fun (i : Nat) (v : Value) (W : World) => match i with
    | 0 => v = .pointer (some ⟨g, 0, none⟩)
    | 1 => v = .bool s
    | 2 => v = .pointer (some ⟨g, 1, none⟩)
    | 3 => v = .slice A l c
    | 4 => v = .int .i64 (l : Int)
    | 5 => ∃ g', v = .slice (some ⟨g', 0, none⟩) l l ∧ w.heap.size ≤ g' ∧ OwnS .u32 79 w.heap.size W (some ⟨g', 0, none⟩) l l (List.replicate l 0)
    | 6 => ∃ g', v = .agg #[.bool s, .slice (some ⟨g', 0, none⟩) l l, .slice none 0 0] ∧ w.heap.size ≤ g' ∧ OwnS .u32 79 w.heap.size W (some ⟨g', 0, none⟩) l l (List.replicate l 0)
    | 7 => ∃ g', v = .pointer (some ⟨g', 0, none⟩) ∧ w.heap.size ≤ g' ∧ Blk W g' 33 #[.bool false, .slice none 0 0, .slice none 0 0]
    | _ => True) j u W' := by
    intro W W' j u hX h
    match j, h with
    | 0, h => exact h
    | 1, h => exact h
    | 2, h => exact h
    | 3, h => exact h
    | 4, h => exact h
    | 5, h => obtain ⟨g', h1, h2, h3⟩ := h; exact ⟨g', h1, h2, h3.ext hX⟩
    | 6, h => obtain ⟨g', h1, h2, h3⟩ := h; exact ⟨g', h1, h2, h3.ext hX⟩
    | 7, h => obtain ⟨g', h1, h2, h3⟩ := h; exact ⟨g', h1, h2, h3.ext hX⟩
    | _ + 8, h => exact h
  have hsz : ∀ d, some d ∈ ([some 18, some 19, some 20, some 21, some 22, some 23, some 24, some 4] : List (Option Tmp)) → d < a.tmps.size := slots_lt (by decide) hsize
  refine wp_region_j 8 [some 18, some 19, some 20, some 21, some 22, some 23, some 24, some 4] [[], [0], [], [2], [3], [4], [1, 5], []] [[], [], [], [], [], [], [], []] (fun (i : Nat) (v : Value) (W : World) => match i with
    | 0 => v = .pointer (some ⟨g, 0, none⟩)
    | 1 => v = .bool s
    | 2 => v = .pointer (some ⟨g, 1, none⟩)
    | 3 => v = .slice A l c
    | 4 => v = .int .i64 (l : Int)
    | 5 => ∃ g', v = .slice (some ⟨g', 0, none⟩) l l ∧ w.heap.size ≤ g' ∧ OwnS .u32 79 w.heap.size W (some ⟨g', 0, none⟩) l l (List.replicate l 0)
    | 6 => ∃ g', v = .agg #[.bool s, .slice (some ⟨g', 0, none⟩) l l, .slice none 0 0] ∧ w.heap.size ≤ g' ∧ OwnS .u32 79 w.heap.size W (some ⟨g', 0, none⟩) l l (List.replicate l 0)
    | 7 => ∃ g', v = .pointer (some ⟨g', 0, none⟩) ∧ w.heap.size ≤ g' ∧ Blk W g' 33 #[.bool false, .slice none 0 0, .slice none 0 0]
    | _ => True) (fun _ W => Ext w W) (by kernel_rfl) (by kernel_rfl) hsz (fun _ _ _ _ h => h) ((Ext.refl w).drew) ?_ ?_
  · clear hend
    simp only [rops, Try.f77, regOf, Option.bind_some, Nat.reduceBEq, if_true, if_false, Bool.false_eq_true, Option.getD_some]
    simp only [List.take_succ_cons, List.take_zero]
    refine ⟨?_, ?_, ?_, ?_, ?_, ?_, ?_, ?_, trivial⟩
    · intro done us W hJ hdep haft hnot b hb hb' K hK Q'
      have e1 := (hb' 1 (by simp)).trans s1
      clear hb hb'
      go_simp
      exact hK _ _ rfl (fun _ _ _ h => h) hJ
    · intro done us W hJ hdep haft hnot b hb hb' K hK Q'
      simp only [List.getD_cons_succ, List.getD_cons_zero, List.mem_cons, List.not_mem_nil, or_false, forall_eq] at hdep
      have e18 := hb 0 18 rfl
      have d0 := hdep
      rw [d0.1] at e18
      clear hb hb' hdep d0
      have q := Ext.cell hJ a0
      go_simp
      exact hK _ _ rfl (fun _ _ _ h => h) hJ
    · intro done us W hJ hdep haft hnot b hb hb' K hK Q'
      have e1 := (hb' 1 (by simp)).trans s1
      clear hb hb'
      go_simp
      exact hK _ _ rfl (fun _ _ _ h => h) hJ
    · intro done us W hJ hdep haft hnot b hb hb' K hK Q'
      simp only [List.getD_cons_succ, List.getD_cons_zero, List.mem_cons, List.not_mem_nil, or_false, forall_eq] at hdep
      have e20 := hb 2 20 rfl
      have d2 := hdep
      rw [d2.1] at e20
      clear hb hb' hdep d2
      have q := Ext.cell hJ a1
      go_simp
      exact hK _ _ rfl (fun _ _ _ h => h) hJ
    · intro done us W hJ hdep haft hnot b hb hb' K hK Q'
      simp only [List.getD_cons_succ, List.getD_cons_zero, List.mem_cons, List.not_mem_nil, or_false, forall_eq] at hdep
      have e21 := hb 3 21 rfl
      have d3 := hdep
      rw [d3.1] at e21
      clear hb hb' hdep d3
      go_simp
      exact hK _ _ rfl (fun _ _ _ h => h) hJ
    · intro done us W hJ hdep haft hnot b hb hb' K hK Q'
      simp only [List.getD_cons_succ, List.getD_cons_zero, List.mem_cons, List.not_mem_nil, or_false, forall_eq] at hdep
      have e22 := hb 4 22 rfl
      have d4 := hdep
      rw [d4.1] at e22
      clear hb hb' hdep d4
      have hsz := Ext.size hJ
      have hmk := fun (W0 : World) => run_make (P := Try.prog) W0 31 79
      obtain ⟨i0, hi0, hz0, hs0, hb0⟩ := elU.info
      have hrun := run_make (P := Try.prog) W 31 79 i0 (.int .u32 0) elU.und hi0 hz0 .i64 .i64 (l : Int) (l : Int) (by omega) (by omega) (by rw [hb0]; omega) (by omega)
      simp only [Int.toNat_natCast] at hrun
      clear hmk
      go_simp
      refine hK _ _ ⟨W.heap.size, rfl, hsz, ?_⟩ (fun j u _ h => hmono _ _ j u ((Ext.refl W).alloc _) h) (Ext.alloc hJ _)
      have hown : (W.alloc (.cells (madeCells #[Value.int .u32 0] l) 79)).ownsRow w.heap.size 79 1 (.slice (some ⟨W.heap.size, 0, none⟩) l l) l (List.replicate l (.int .u32 0)) := by
        refine ⟨by simp, .inr ⟨W.heap.size, l, _, rfl, hsz, heap_alloc_new W _, Nat.le_refl _, by unfold maxLen; omega, by rw [size_madeCells]; simp, ?_⟩⟩
        rw [toList_madeCells_one, Nat.mul_one, List.take_replicate, Nat.min_self]
      exact OwnS.made hown
    · intro done us W hJ hdep haft hnot b hb hb' K hK Q'
      simp only [List.getD_cons_succ, List.getD_cons_zero, List.mem_cons, List.not_mem_nil, or_false, forall_eq_or_imp, forall_eq] at hdep
      have e19 := hb 1 19 rfl
      have e23 := hb 5 23 rfl
      have d1 := hdep.1
      have d5 := hdep.2
      rw [d1.1] at e19
      clear hb hb' hdep d1
      obtain ⟨g', hv1, h2, h3⟩ := d5.1
      rw [hv1] at e23
      go_simp
      exact hK _ _ ⟨g', rfl, h2, h3⟩ (fun _ _ _ h => h) hJ
    · intro done us W hJ hdep haft hnot b hb hb' K hK Q'
      clear hb hb'
      have hsz := Ext.size hJ
      go_simp
      exact hK _ _ ⟨W.heap.size, rfl, hsz, Blk.new W _ _⟩ (fun j u _ h => hmono _ _ j u ((Ext.refl W).alloc _) h) (Ext.alloc hJ _)
  · intro us W hV hJ
    exact hend (us 0) (us 1) (us 2) (us 3) (us 4) (us 5) (us 6) (us 7) W (hV 0 (by omega)) (hV 1 (by omega)) (hV 2 (by omega)) (hV 3 (by omega)) (hV 4 (by omega)) (hV 5 (by omega)) (hV 6 (by omega)) (hV 7 (by omega)) hJ

set_option maxRecDepth 100000 in
set_option maxHeartbeats 4000000 in
theorem done_big (v : Value) (q : Rat) (L : Nat) (w : World) (h : NumX w v q L) (hL : L ≤ 1099511627775) (hq : ¬ FitQW q) :
    Calls Try.prog 77 #[v] w fun e w' => e = .returned (.tuple #[.agg #[.bool false, .slice none 0 0, .slice none 0 0], .int .i64 1]) ∧ Ext w w' := by
  have HQ := Lib.hid hq
  clear hq
  obtain ⟨s, A1, l1, c1, A2, l2, c2, rfl⟩ := h.open
  have hXw : Ext w ((w.alloc (.cells #[.bool s, .slice A1 l1 c1, .slice A2 l2 c2] 96)).alloc (.cells #[.bool false, .slice none 0 0, .slice none 0 0] 33)) := ((Ext.refl w).alloc _).alloc _
  have hBA : Blk ((w.alloc (.cells #[.bool s, .slice A1 l1 c1, .slice A2 l2 c2] 96)).alloc (.cells #[.bool false, .slice none 0 0, .slice none 0 0] 33)) w.heap.size 96 #[.bool s, .slice A1 l1 c1, .slice A2 l2 c2] := (Blk.new w _ _).alloc _
  have hBR : Blk ((w.alloc (.cells #[.bool s, .slice A1 l1 c1, .slice A2 l2 c2] 96)).alloc (.cells #[.bool false, .slice none 0 0, .slice none 0 0] 33)) (w.heap.size + 1) 33 #[.bool false, .slice none 0 0, .slice none 0 0] := by
    have := Blk.new (w.alloc (.cells #[.bool s, .slice A1 l1 c1, .slice A2 l2 c2] 96)) 33 #[.bool false, .slice none 0 0, .slice none 0 0]
    simpa using this
  have HH := Lib.hid (h.ext hXw)
  clear h
  go_enter Try.func77, Try.ntmps77
  go_wp2_with fail
  generalize (w.alloc (.cells #[.bool s, .slice A1 l1 c1, .slice A2 l2 c2] 96)).alloc (.cells #[.bool false, .slice none 0 0, .slice none 0 0] 33) = w1 at hXw hBA hBR HH ⊢
  have HXw := Lib.hid hXw
  have HBR := Lib.hid hBR
  clear hXw hBR
  refine (reducedX HH.out hL).mono ?_
  rintro e w2 ⟨v2, rfl, hv2, hX2⟩
  obtain ⟨B1, m1, k1, B2, m2, k2, rfl, _⟩ := NumV.open hv2
  have hB2 := hBA.ext hX2
  obtain ⟨a0, a1, a2, f0, f1, f2⟩ := hB2.three
  have hNB := NoInts.three hB2
  have hv3 := hv2.boxed hNB (decide (q.num < 0)) B1 B2 m1 k1 m2 k2
  have hX3 : Ext w (((w2.setCell ⟨w.heap.size, 0, none⟩ (.bool (decide (q.num < 0)))).setCell ⟨w.heap.size, 1, none⟩ (.slice B1 m1 k1)).setCell ⟨w.heap.size, 2, none⟩ (.slice B2 m2 k2)) := Ext.boxed (HXw.out.trans hX2) (Nat.le_refl _) _ _ _
  have hBA3 : Blk (((w2.setCell ⟨w.heap.size, 0, none⟩ (.bool (decide (q.num < 0)))).setCell ⟨w.heap.size, 1, none⟩ (.slice B1 m1 k1)).setCell ⟨w.heap.size, 2, none⟩ (.slice B2 m2 k2)) w.heap.size 96 #[.bool (decide (q.num < 0)), .slice B1 m1 k1, .slice B2 m2 k2] := by
    have := ((hB2.set 0 (.bool (decide (q.num < 0)))).set 1 (.slice B1 m1 k1)).set 2 (.slice B2 m2 k2)
    simpa using this
  have hBR3 : Blk (((w2.setCell ⟨w.heap.size, 0, none⟩ (.bool (decide (q.num < 0)))).setCell ⟨w.heap.size, 1, none⟩ (.slice B1 m1 k1)).setCell ⟨w.heap.size, 2, none⟩ (.slice B2 m2 k2)) (w.heap.size + 1) 33 #[.bool false, .slice none 0 0, .slice none 0 0] :=
    (((HBR.out.ext hX2).far (by simp) _).far (by simp) _).far (by simp) _
  obtain ⟨sg, hsg⟩ : ∃ sg, decide (q.num < 0) = sg := ⟨_, rfl⟩
  rw [hsg] at hv3 hX3 hBA3 hBR3 ⊢
  have HSG := Lib.hid hsg
  obtain ⟨vn, vd, hve, hWn, hWd⟩ := hv3
  injection hve with hve
  have h1 : .slice B1 m1 k1 = vn := by have := congrArg (fun a => a[1]?) hve; simpa using this
  have h2 : .slice B2 m2 k2 = vd := by have := congrArg (fun a => a[2]?) hve; simpa using this
  subst h1 h2
  have hlm1 : m1 ≤ 256 ↔ FitW q.num.natAbs := by
    obtain ⟨A', l', c', xs', hve', hI', hr', _⟩ := hWn
    injection hve' with h1 h2 h3
    subst h1 h2 h3
    refine fitW ⟨fun hk => ?_, fun hf => by have := hf.len (by omega) hr'; rw [hI'.1] at this; exact this⟩
    have := (Fit.of_rep (by omega) hr').mono (b := 256) (by omega) (by rw [hI'.1]; exact hk)
    exact this
  have hlm2 : m2 ≤ 256 ↔ FitW q.den := by
    obtain ⟨A', l', c', xs', hve', hI', hr', _⟩ := hWd
    injection hve' with h1 h2 h3
    subst h1 h2 h3
    refine fitW ⟨fun hk => ?_, fun hf => by have := hf.len (by omega) hr'; rw [hI'.1] at this; exact this⟩
    have := (Fit.of_rep (by omega) hr').mono (b := 256) (by omega) (by rw [hI'.1]; exact hk)
    exact this
  obtain ⟨r0, r1, r2, g0, g1, g2⟩ := (HBR.out.ext hX2).three
  have HWn := Lib.hid hWn
  have HWd := Lib.hid hWd
  have HX3 := Lib.hid hX3
  have HBA3 := Lib.hid hBA3
  have HBR3 := Lib.hid hBR3
  have HLM1 := Lib.hid hlm1
  have HLM2 := Lib.hid hlm2
  clear hve hv2 hX2 hB2 hNB hsg hBA hWn hWd hX3 hBA3 hBR3 hlm1 hlm2
  rcases (by
      by_cases h1 : m1 ≤ 256
      · by_cases h2 : m2 ≤ 256
        · exact absurd ⟨HLM1.out.1 h1, HLM2.out.1 h2⟩ HQ.out
        · exact .inr ⟨h1, by omega⟩
      · exact .inl (by omega) : 256 < m1 ∨ (m1 ≤ 256 ∧ 256 < m2)) with hm | ⟨hm, hm'⟩
  all_goals
    go_wp2
    refine bodyPost_ret (v := .tuple #[.agg #[.bool false, .slice none 0 0, .slice none 0 0], .int .i64 1]) (by simp [results, Try.results77, go_sem, *]) rfl ?_
    exact ⟨rfl, Ext.boxed HX3.out (by omega) _ _ _⟩


set_option maxRecDepth 100000 in
set_option maxHeartbeats 4000000 in
theorem done_ok (v : Value) (q : Rat) (L : Nat) (w : World) (h : NumX w v q L) (hL : L ≤ 1099511627775) (hq : FitQW q) :
    Calls Try.prog 77 #[v] w (RetC w q) := by
  have HQ := Lib.hid hq
  clear hq
  obtain ⟨s, A1, l1, c1, A2, l2, c2, rfl⟩ := h.open
  have hXw : Ext w ((w.alloc (.cells #[.bool s, .slice A1 l1 c1, .slice A2 l2 c2] 96)).alloc (.cells #[.bool false, .slice none 0 0, .slice none 0 0] 33)) := ((Ext.refl w).alloc _).alloc _
  have hBA : Blk ((w.alloc (.cells #[.bool s, .slice A1 l1 c1, .slice A2 l2 c2] 96)).alloc (.cells #[.bool false, .slice none 0 0, .slice none 0 0] 33)) w.heap.size 96 #[.bool s, .slice A1 l1 c1, .slice A2 l2 c2] := (Blk.new w _ _).alloc _
  have hBR : Blk ((w.alloc (.cells #[.bool s, .slice A1 l1 c1, .slice A2 l2 c2] 96)).alloc (.cells #[.bool false, .slice none 0 0, .slice none 0 0] 33)) (w.heap.size + 1) 33 #[.bool false, .slice none 0 0, .slice none 0 0] := by
    have := Blk.new (w.alloc (.cells #[.bool s, .slice A1 l1 c1, .slice A2 l2 c2] 96)) 33 #[.bool false, .slice none 0 0, .slice none 0 0]
    simpa using this
  have HH := Lib.hid (h.ext hXw)
  clear h
  go_enter Try.func77, Try.ntmps77
  go_wp2_with fail
  generalize (w.alloc (.cells #[.bool s, .slice A1 l1 c1, .slice A2 l2 c2] 96)).alloc (.cells #[.bool false, .slice none 0 0, .slice none 0 0] 33) = w1 at hXw hBA hBR HH ⊢
  have HXw := Lib.hid hXw
  have HBR := Lib.hid hBR
  clear hXw hBR
  refine (reducedX HH.out hL).mono ?_
  rintro e w2 ⟨v2, rfl, hv2, hX2⟩
  obtain ⟨B1, m1, k1, B2, m2, k2, rfl, _⟩ := NumV.open hv2
  have hB2 := hBA.ext hX2
  obtain ⟨a0, a1, a2, f0, f1, f2⟩ := hB2.three
  have hNB := NoInts.three hB2
  have hv3 := hv2.boxed hNB (decide (q.num < 0)) B1 B2 m1 k1 m2 k2
  have hX3 : Ext w (((w2.setCell ⟨w.heap.size, 0, none⟩ (.bool (decide (q.num < 0)))).setCell ⟨w.heap.size, 1, none⟩ (.slice B1 m1 k1)).setCell ⟨w.heap.size, 2, none⟩ (.slice B2 m2 k2)) := Ext.boxed (HXw.out.trans hX2) (Nat.le_refl _) _ _ _
  have hBA3 : Blk (((w2.setCell ⟨w.heap.size, 0, none⟩ (.bool (decide (q.num < 0)))).setCell ⟨w.heap.size, 1, none⟩ (.slice B1 m1 k1)).setCell ⟨w.heap.size, 2, none⟩ (.slice B2 m2 k2)) w.heap.size 96 #[.bool (decide (q.num < 0)), .slice B1 m1 k1, .slice B2 m2 k2] := by
    have := ((hB2.set 0 (.bool (decide (q.num < 0)))).set 1 (.slice B1 m1 k1)).set 2 (.slice B2 m2 k2)
    simpa using this
  have hBR3 : Blk (((w2.setCell ⟨w.heap.size, 0, none⟩ (.bool (decide (q.num < 0)))).setCell ⟨w.heap.size, 1, none⟩ (.slice B1 m1 k1)).setCell ⟨w.heap.size, 2, none⟩ (.slice B2 m2 k2)) (w.heap.size + 1) 33 #[.bool false, .slice none 0 0, .slice none 0 0] :=
    (((HBR.out.ext hX2).far (by simp) _).far (by simp) _).far (by simp) _
  obtain ⟨sg, hsg⟩ : ∃ sg, decide (q.num < 0) = sg := ⟨_, rfl⟩
  rw [hsg] at hv3 hX3 hBA3 hBR3 ⊢
  have HSG := Lib.hid hsg
  obtain ⟨vn, vd, hve, hWn, hWd⟩ := hv3
  injection hve with hve
  have h1 : .slice B1 m1 k1 = vn := by have := congrArg (fun a => a[1]?) hve; simpa using this
  have h2 : .slice B2 m2 k2 = vd := by have := congrArg (fun a => a[2]?) hve; simpa using this
  subst h1 h2
  have hlm1 : m1 ≤ 256 ↔ FitW q.num.natAbs := by
    obtain ⟨A', l', c', xs', hve', hI', hr', _⟩ := hWn
    injection hve' with h1 h2 h3
    subst h1 h2 h3
    refine fitW ⟨fun hk => ?_, fun hf => by have := hf.len (by omega) hr'; rw [hI'.1] at this; exact this⟩
    have := (Fit.of_rep (by omega) hr').mono (b := 256) (by omega) (by rw [hI'.1]; exact hk)
    exact this
  have hlm2 : m2 ≤ 256 ↔ FitW q.den := by
    obtain ⟨A', l', c', xs', hve', hI', hr', _⟩ := hWd
    injection hve' with h1 h2 h3
    subst h1 h2 h3
    refine fitW ⟨fun hk => ?_, fun hf => by have := hf.len (by omega) hr'; rw [hI'.1] at this; exact this⟩
    have := (Fit.of_rep (by omega) hr').mono (b := 256) (by omega) (by rw [hI'.1]; exact hk)
    exact this
  obtain ⟨r0, r1, r2, g0, g1, g2⟩ := (HBR.out.ext hX2).three
  have HWn := Lib.hid hWn
  have HWd := Lib.hid hWd
  have HX3 := Lib.hid hX3
  have HBA3 := Lib.hid hBA3
  have HBR3 := Lib.hid hBR3
  have HLM1 := Lib.hid hlm1
  have HLM2 := Lib.hid hlm2
  clear hve hv2 hX2 hB2 hNB hsg hBA hWn hWd hX3 hBA3 hBR3 hlm1 hlm2
  have hm1 : m1 ≤ 256 := HLM1.out.2 HQ.out.num
  have hm2 : m2 ≤ 256 := HLM2.out.2 HQ.out.den
  go_upto_region 4 with (fail)
  generalize ((w2.setCell ⟨w.heap.size, 0, none⟩ (.bool sg)).setCell ⟨w.heap.size, 1, none⟩ (.slice B1 m1 k1)).setCell ⟨w.heap.size, 2, none⟩ (.slice B2 m2 k2) = w3 at HWn HWd HX3 HBA3 HBR3 ⊢
  clear a0 a1 a2 f0 f1 f2 r0 r1 r2 g0 g1 g2
  obtain ⟨a0, a1, a2, _, _, _⟩ := HBA3.out.three
  refine done_r4 w.heap.size sg B1 B2 m1 k1 m2 k2 w3 a0 a1 hm1 _ _ (by simp) rfl ?_
  rintro xv0 xv1 xv2 xv3 xv4 xv5 xv6 xv7 W rfl rfl rfl rfl rfl h5 h6 h7 hXW
  simp only [rops, Try.f77, regOf, Option.bind_some, Nat.reduceBEq, if_true, if_false, Bool.false_eq_true, Option.getD_some, List.drop_succ_cons, List.drop_zero]
  simp only [Act.put, List.setIfInBounds_toArray, List.set_cons_succ, List.set_cons_zero]
  obtain ⟨g5, rfl, _, _⟩ := h5
  obtain ⟨gn, rfl, hgn, hOn⟩ := h6
  obtain ⟨g4, rfl, hg4, hB4⟩ := h7
  have hne4 : g4 ≠ gn := hOn.apart hB4 (by decide)
  obtain ⟨y0, y1, y2, f0, f1, f2⟩ := hB4.three
  have hw3 := HX3.out.size
  have hga : w.heap.size < w3.heap.size := HBA3.out.lt
  have hgr : w.heap.size + 1 < w3.heap.size := HBR3.out.lt
  go_upto_region 5 with (fail)
  have hgw := (((grownBy_set W g4 0 (.bool sg)).trans (grownBy_set _ g4 1 (.slice (some ⟨gn, 0, none⟩) m1 m1))).trans (grownBy_set _ g4 2 (.slice none 0 0)))
  have hO4 := hOn.other hgw hne4
  have hB4' : Blk (((W.setCell ⟨g4, 0, none⟩ (.bool sg)).setCell ⟨g4, 1, none⟩ (.slice (some ⟨gn, 0, none⟩) m1 m1)).setCell ⟨g4, 2, none⟩ (.slice none 0 0)) g4 33 #[.bool sg, .slice (some ⟨gn, 0, none⟩) m1 m1, .slice none 0 0] := by
    have := ((hB4.set 0 (.bool sg)).set 1 (.slice (some ⟨gn, 0, none⟩) m1 m1)).set 2 (.slice none 0 0)
    simpa using this
  have hX4 := Ext.boxed hXW hg4 (.bool sg) (.slice (some ⟨gn, 0, none⟩) m1 m1) (.slice none 0 0)
  generalize ((W.setCell ⟨g4, 0, none⟩ (.bool sg)).setCell ⟨g4, 1, none⟩ (.slice (some ⟨gn, 0, none⟩) m1 m1)).setCell ⟨g4, 2, none⟩ (.slice none 0 0) = w4 at hO4 hB4' hX4 ⊢
  clear y0 y1 y2 f0 f1 f2 hgw hOn hB4 hXW a0 a1 a2
  have HX4 := Lib.hid hX4
  have HB4 := Lib.hid hB4'
  obtain ⟨a0, a1, a2, _, _, _⟩ := (HBA3.out.ext hX4).three
  obtain ⟨y0, y1, y2, f0, f1, f2⟩ := hB4'.three
  obtain ⟨_, _, _, xs, hve, hIn, hRn, _, _⟩ := HWn.out.ext hX4
  injection hve with e1 e2 e3
  subst e1 e2 e3
  have HIn := Lib.hid hIn
  have HRn := Lib.hid hRn
  clear hIn hRn hX4 hB4'
  obtain ⟨_, _, _, ys, hve, hId, hRd, hkd, hkm⟩ := HWd.out
  injection hve with e1 e2 e3
  subst e1 e2 e3
  have HId := Lib.hid hId
  have HRd := Lib.hid hRd
  have hcase : Hid (q.den = 1 ∧ m2 = 1 ∧ (∃ b o, B2 = some ⟨b, o, none⟩ ∧ w3.cell? ⟨b, o, none⟩ = some (.int .u32 1)) ∨ (q.den ≠ 1 ∧ (1 < m2 ∨ (m2 = 1 ∧ ∃ b o x, B2 = some ⟨b, o, none⟩ ∧ w3.cell? ⟨b, o, none⟩ = some (.int .u32 x) ∧ (x != 1) = true)))) := by
    by_cases h1 : q.den = 1
    · have hys : ys = [1] := by rw [h1] at hRd; exact hRd.unique (by omega) (Rep.one (by omega))
      subst hys
      have hm : m2 = 1 := by simpa using hId.1.symm
      subst hm
      obtain ⟨b, o, y, rfl, hy, _, hcy⟩ := hId.get (j := 0) (by omega)
      obtain rfl : 1 = y := by simpa using hy
      rw [Nat.add_zero] at hcy
      exact .inl ⟨h1, rfl, b, o, rfl, hcy⟩
    · refine .inr ⟨h1, ?_⟩
      have hm0 : 0 < m2 := by
        rcases Nat.eq_zero_or_pos m2 with h | h
        · have h2 := hId.1
          rw [h] at h2
          have := (hRd.pos (by omega)).2 (List.eq_nil_of_length_eq_zero h2)
          have := q.den_pos
          omega
        · exact h
      by_cases hm : m2 = 1
      · subst hm
        obtain ⟨x, rfl, hx, _, _⟩ := one_digit (by omega) hRd hId.1
        obtain ⟨b, o, y, rfl, hy, _, hcy⟩ := hId.get (j := 0) (by omega)
        obtain rfl : x = y := by simpa using hy
        rw [Nat.add_zero] at hcy
        refine .inr ⟨rfl, b, o, x, rfl, hcy, ?_⟩
        simp only [bne_iff_ne, ne_eq]
        intro h2; apply h1; omega
      · exact .inl (by omega)
  have HCASE := Lib.hid hcase
  clear hId hRd hcase
  go_upto_region 6 with (first | (refine wpList_cp (o := ⟨some 29, _, _, _, _, _⟩) _ elU rfl _ _ rfl w3.heap.size (some ⟨gn, 0, none⟩) m1 m1 _ rfl hO4.own B1 m1 k1 (xs.map (.int .u32)) rfl (by rw [List.length_map]; exact HIn.out.1) HIn.out.2.2 (ints_oneCell _ _) ?_; intro w5 r5 hown5 hgr5 hr5))
  have hX5 : Ext w3 w5 := HX4.out.grown hgr5 (fun k hk => by simp [Value.ownBlock] at hk; omega)
  have hO5 : OwnS .u32 79 w3.heap.size w5 (some ⟨gn, 0, none⟩) m1 m1 xs := by
    refine ⟨?_, HIn.out.1, HIn.out.2.1⟩
    have e : List.take m1 (xs.map (Value.int .u32)) ++ List.drop m1 ((List.replicate m1 (0 : Int)).map (Value.int .u32)) = xs.map (Value.int .u32) := by
      rw [List.take_of_length_le (by rw [List.length_map, HIn.out.1]; exact Nat.le_refl _), List.drop_eq_nil_of_le (by simp)]; simp
    rw [e] at hown5
    exact hown5
  have hB5 : Blk w5 g4 33 #[.bool sg, .slice (some ⟨gn, 0, none⟩) m1 m1, .slice none 0 0] := HB4.out.grown hgr5 (by simp [Value.ownBlock]; exact hne4)
  have HX5 := Lib.hid hX5
  have HO5 := Lib.hid hO5
  have HB5 := Lib.hid hB5
  clear hown5 hgr5 hr5 hX5 hO5 hB5 a0 a1 a2 y0 y1 y2 f0 f1 f2 hO4
  obtain ⟨a0, a1, a2, _, _, _⟩ := (HBA3.out.ext HX5.out).three
  obtain ⟨y0, y1, y2, f0, f1, f2⟩ := HB5.out.three
  obtain ⟨r0, r1, r2, g0, g1, g2⟩ := (HBR3.out.ext HX5.out).three
  have hgr5 := (HBR3.out.ext HX5.out).lt
  have hner : w.heap.size + 1 ≠ g4 := by omega
  rcases HCASE.out with ⟨hd1, rfl, b, o, rfl, hcb⟩ | ⟨hd1, hrest⟩
  · replace hcb := HX5.out.cell hcb
    have HD1 := Lib.hid hd1
    clear hd1 HCASE
    go_wp2
    refine bodyPost_ret (v := .tuple #[.agg #[.bool sg, .slice (some ⟨gn, 0, none⟩) m1 m1, .slice none 0 0], .int .i64 0]) (by simp [results, Try.results77, go_sem, *]) rfl ?_
    have hNR := NoInts.three (HBR3.out.ext HX5.out)
    have hI5 := HO5.out.ints
    refine ⟨_, rfl, ⟨xs, [], ⟨_, _, _, _, _, _, by rw [HSG.out], ?_, Nat.le_refl _, by omega, Ints.nil, by omega, by omega⟩, HRn.out, .inl ⟨HD1.out, rfl⟩⟩, Ext.boxed (HX3.out.trans HX5.out) (by omega) _ _ _⟩
    exact ((hI5.past hNR.cell 0 _).past (hNR.set 0 (noInt_bool _)).cell 1 _).past ((hNR.set 0 (noInt_bool _)).set 1 (noInt_slice _ _ _)).cell 2 _
  · have HD1 := Lib.hid hd1
    clear hd1 HCASE
    rcases hrest with hm | ⟨rfl, b, o, x, rfl, hcb, hx⟩
    ·
      have hmb : (1 : Int) < (m2 : Int) := by omega
      have hgn5 : gn < w5.heap.size := HO5.out.inMem
      have hg45 : g4 < w5.heap.size := HB5.out.lt
      go_upto_region 8 with (first | (at_make; refine wpList_mk _ elU rfl rfl _ _ rfl w5.heap.size _ _ _ _ m2 m2 rfl rfl rfl rfl (Nat.le_refl _) (by omega) (by unfold maxLen; omega) (Nat.le_refl _) ?_; intro w6 hown6 hext6 hsz6; obtain ⟨y0, y1, y2, f0, f1, f2⟩ := (HB5.out.ext hext6).three))
      have hO6d := OwnS.made hown6
      obtain ⟨gd, hgd⟩ : ∃ gd, gd = w5.heap.size := ⟨_, rfl⟩
      rw [← hgd] at hO6d ⊢
      have hgd1 : w5.heap.size ≤ gd := by omega
      have hgd2 : gn < gd := by omega
      have hgd3 : g4 < gd := by omega
      clear hgd
      have hg7 := grownBy_set w6 g4 2 (.slice (some ⟨gd, 0, none⟩) m2 m2)
      have hO7d := hO6d.other hg7 (by omega)
      have hO7n := (HO5.out.ext hext6).other hg7 hne4
      have hB7 : Blk (w6.setCell ⟨g4, 2, none⟩ (.slice (some ⟨gd, 0, none⟩) m2 m2)) g4 33 #[.bool sg, .slice (some ⟨gn, 0, none⟩) m1 m1, .slice (some ⟨gd, 0, none⟩) m2 m2] := by
        have := (HB5.out.ext hext6).set 2 (.slice (some ⟨gd, 0, none⟩) m2 m2)
        simpa using this
      have hX7 := (HX5.out.trans hext6).setCell (p := ⟨g4, 2, none⟩) hg4 (.slice (some ⟨gd, 0, none⟩) m2 m2)
      generalize w6.setCell ⟨g4, 2, none⟩ (.slice (some ⟨gd, 0, none⟩) m2 m2) = w7 at hO7d hO7n hB7 hX7 ⊢
      have HId7 := Lib.hid (HId.out.ext hX7)
      have HX7 := Lib.hid hX7
      have HO7n := Lib.hid hO7n
      have HB7 := Lib.hid hB7
      obtain ⟨a0, a1, a2, _, _, _⟩ := (HBA3.out.ext hX7).three
      clear hown6 hext6 hsz6 hO6d hg7 hO7n y0 y1 y2 f0 f1 f2 hX7
      obtain ⟨y0, y1, y2, f0, f1, f2⟩ := hB7.three
      clear hB7 r0 r1 r2 g0 g1 g2
      have hl' : (ys.map (Value.int .u32)).length = m2 := by rw [List.length_map]; exact HId7.out.1
      have hat' : At w7 B2 (ys.map (Value.int .u32)) := HId7.out.2.2
      have ho' := hO7d.own
      go_upto_region 9 with (first | (refine wpList_cp (o := ⟨some 50, _, _, _, _, _⟩) _ elU rfl _ _ rfl _ _ _ _ _ rfl ho' B2 m2 k2 (ys.map (.int .u32)) rfl hl' hat' (ints_oneCell _ _) ?_; intro w8 r8 hown8 hgr8 hr8))
      clear hl' hat' ho'
      have hX8 : Ext w3 w8 := HX7.out.grown hgr8 (fun k hk => by simp [Value.ownBlock] at hk; have := HX5.out.size; omega)
      have hO8d : OwnS .u32 79 gd w8 (some ⟨gd, 0, none⟩) m2 m2 ys := by
        refine ⟨?_, HId7.out.1, HId7.out.2.1⟩
        have e : List.take m2 (ys.map (Value.int .u32)) ++ List.drop m2 ((List.replicate m2 (0 : Int)).map (Value.int .u32)) = ys.map (Value.int .u32) := by
          rw [List.take_of_length_le (by rw [List.length_map, HId7.out.1]; exact Nat.le_refl _), List.drop_eq_nil_of_le (by simp)]; simp
        rw [e] at hown8
        exact hown8
      have hO8n := HO7n.out.other hgr8 (show gd ≠ gn by omega)
      have hB8 : Blk w8 g4 33 #[.bool sg, .slice (some ⟨gn, 0, none⟩) m1 m1, .slice (some ⟨gd, 0, none⟩) m2 m2] := HB7.out.grown hgr8 (by simp [Value.ownBlock]; omega)
      have HX8 := Lib.hid hX8
      have HO8d := Lib.hid hO8d
      have HO8n := Lib.hid hO8n
      have HBR8 := Lib.hid (HBR3.out.ext hX8)
      clear hown8 hgr8 hr8 hO8d hO8n hO7d a0 a1 a2 y0 y1 y2 f0 f1 f2 hX8
      obtain ⟨y0, y1, y2, f0, f1, f2⟩ := hB8.three
      obtain ⟨r0, r1, r2, g0, g1, g2⟩ := HBR8.out.three
      clear hB8
      go_wp2
      refine bodyPost_ret (v := .tuple #[.agg #[.bool sg, .slice (some ⟨gn, 0, none⟩) m1 m1, .slice (some ⟨gd, 0, none⟩) m2 m2], .int .i64 0]) (by simp [results, Try.results77, go_sem, *]) rfl ?_
      have hNR := NoInts.three HBR8.out
      refine ⟨_, rfl, ⟨xs, ys, ⟨_, _, _, _, _, _, by rw [HSG.out], ?_, Nat.le_refl _, by omega, ?_, Nat.le_refl _, by omega⟩, HRn.out, .inr ⟨HD1.out, HRd.out⟩⟩, Ext.boxed (HX3.out.trans HX8.out) (by omega) _ _ _⟩
      · exact ((HO8n.out.ints.past hNR.cell 0 _).past (hNR.set 0 (noInt_bool _)).cell 1 _).past ((hNR.set 0 (noInt_bool _)).set 1 (noInt_slice _ _ _)).cell 2 _
      · exact ((HO8d.out.ints.past hNR.cell 0 _).past (hNR.set 0 (noInt_bool _)).cell 1 _).past ((hNR.set 0 (noInt_bool _)).set 1 (noInt_slice _ _ _)).cell 2 _
    ·
      replace hcb := HX5.out.cell hcb
      have hgn5 : gn < w5.heap.size := HO5.out.inMem
      have hg45 : g4 < w5.heap.size := HB5.out.lt
      go_upto_region 8 with (first | (at_make; refine wpList_mk _ elU rfl rfl _ _ rfl w5.heap.size _ _ _ _ 1 1 rfl rfl rfl rfl (Nat.le_refl _) (by omega) (by unfold maxLen; omega) (Nat.le_refl _) ?_; intro w6 hown6 hext6 hsz6; obtain ⟨y0, y1, y2, f0, f1, f2⟩ := (HB5.out.ext hext6).three))
      have hO6d := OwnS.made hown6
      obtain ⟨gd, hgd⟩ : ∃ gd, gd = w5.heap.size := ⟨_, rfl⟩
      rw [← hgd] at hO6d ⊢
      have hgd1 : w5.heap.size ≤ gd := by omega
      have hgd2 : gn < gd := by omega
      have hgd3 : g4 < gd := by omega
      clear hgd
      have hg7 := grownBy_set w6 g4 2 (.slice (some ⟨gd, 0, none⟩) 1 1)
      have hO7d := hO6d.other hg7 (by omega)
      have hO7n := (HO5.out.ext hext6).other hg7 hne4
      have hB7 : Blk (w6.setCell ⟨g4, 2, none⟩ (.slice (some ⟨gd, 0, none⟩) 1 1)) g4 33 #[.bool sg, .slice (some ⟨gn, 0, none⟩) m1 m1, .slice (some ⟨gd, 0, none⟩) 1 1] := by
        have := (HB5.out.ext hext6).set 2 (.slice (some ⟨gd, 0, none⟩) 1 1)
        simpa using this
      have hX7 := (HX5.out.trans hext6).setCell (p := ⟨g4, 2, none⟩) hg4 (.slice (some ⟨gd, 0, none⟩) 1 1)
      generalize w6.setCell ⟨g4, 2, none⟩ (.slice (some ⟨gd, 0, none⟩) 1 1) = w7 at hO7d hO7n hB7 hX7 ⊢
      have HId7 := Lib.hid (HId.out.ext hX7)
      have HX7 := Lib.hid hX7
      have HO7n := Lib.hid hO7n
      have HB7 := Lib.hid hB7
      obtain ⟨a0, a1, a2, _, _, _⟩ := (HBA3.out.ext hX7).three
      clear hown6 hext6 hsz6 hO6d hg7 hO7n y0 y1 y2 f0 f1 f2 hX7
      obtain ⟨y0, y1, y2, f0, f1, f2⟩ := hB7.three
      clear hB7 r0 r1 r2 g0 g1 g2
      have hl' : (ys.map (Value.int .u32)).length = 1 := by rw [List.length_map]; exact HId7.out.1
      have hat' : At w7 (some ⟨b, o, none⟩) (ys.map (Value.int .u32)) := HId7.out.2.2
      have ho' := hO7d.own
      go_upto_region 9 with (first | (refine wpList_cp (o := ⟨some 50, _, _, _, _, _⟩) _ elU rfl _ _ rfl _ _ _ _ _ rfl ho' (some ⟨b, o, none⟩) 1 k2 (ys.map (.int .u32)) rfl hl' hat' (ints_oneCell _ _) ?_; intro w8 r8 hown8 hgr8 hr8))
      clear hl' hat' ho'
      have hX8 : Ext w3 w8 := HX7.out.grown hgr8 (fun k hk => by simp [Value.ownBlock] at hk; have := HX5.out.size; omega)
      have hO8d : OwnS .u32 79 gd w8 (some ⟨gd, 0, none⟩) 1 1 ys := by
        refine ⟨?_, HId7.out.1, HId7.out.2.1⟩
        have e : List.take 1 (ys.map (Value.int .u32)) ++ List.drop 1 ((List.replicate 1 (0 : Int)).map (Value.int .u32)) = ys.map (Value.int .u32) := by
          rw [List.take_of_length_le (by rw [List.length_map, HId7.out.1]; exact Nat.le_refl _), List.drop_eq_nil_of_le (by simp)]; simp
        rw [e] at hown8
        exact hown8
      have hO8n := HO7n.out.other hgr8 (show gd ≠ gn by omega)
      have hB8 : Blk w8 g4 33 #[.bool sg, .slice (some ⟨gn, 0, none⟩) m1 m1, .slice (some ⟨gd, 0, none⟩) 1 1] := HB7.out.grown hgr8 (by simp [Value.ownBlock]; omega)
      have HX8 := Lib.hid hX8
      have HO8d := Lib.hid hO8d
      have HO8n := Lib.hid hO8n
      have HBR8 := Lib.hid (HBR3.out.ext hX8)
      clear hown8 hgr8 hr8 hO8d hO8n hO7d a0 a1 a2 y0 y1 y2 f0 f1 f2 hX8
      obtain ⟨y0, y1, y2, f0, f1, f2⟩ := hB8.three
      obtain ⟨r0, r1, r2, g0, g1, g2⟩ := HBR8.out.three
      clear hB8
      go_wp2
      refine bodyPost_ret (v := .tuple #[.agg #[.bool sg, .slice (some ⟨gn, 0, none⟩) m1 m1, .slice (some ⟨gd, 0, none⟩) 1 1], .int .i64 0]) (by simp [results, Try.results77, go_sem, *]) rfl ?_
      have hNR := NoInts.three HBR8.out
      refine ⟨_, rfl, ⟨xs, ys, ⟨_, _, _, _, _, _, by rw [HSG.out], ?_, Nat.le_refl _, by omega, ?_, Nat.le_refl _, by omega⟩, HRn.out, .inr ⟨HD1.out, HRd.out⟩⟩, Ext.boxed (HX3.out.trans HX8.out) (by omega) _ _ _⟩
      · exact ((HO8n.out.ints.past hNR.cell 0 _).past (hNR.set 0 (noInt_bool _)).cell 1 _).past ((hNR.set 0 (noInt_bool _)).set 1 (noInt_slice _ _ _)).cell 2 _
      · exact ((HO8d.out.ints.past hNR.cell 0 _).past (hNR.set 0 (noInt_bool _)).cell 1 _).past ((hNR.set 0 (noInt_bool _)).set 1 (noInt_slice _ _ _)).cell 2 _

end Go.Proofs.Yteoijnaljkagfaa
