/- Walks: Int, Reduced, Neg, Mul, Div, Sign of rational numbers (program). -/
import Derived.Test.YteoijnaljkagfaaN7
import Derived.Test.YteoijnaljkagfaaRatP
namespace Go.Proofs.Yteoijnaljkagfaa
open Go.RowKit

/-- A value that is a rational number of the program: a sign, a numerator and a denominator. -/
def NumV (w : World) (v : Value) (s : Bool) (n d : Nat) : Prop := ∃ vn vd, v = .agg #[.bool s, vn, vd] ∧ W32 w vn n ∧ W32 w vd d
theorem NumV.ext {w w' : World} {v : Value} {s : Bool} {n d : Nat} (h : NumV w v s n d) (he : Ext w w') : NumV w' v s n d := by
  obtain ⟨a, b, h1, h2, h3⟩ := h
  exact ⟨a, b, h1, h2.ext he, h3.ext he⟩
theorem W32.open {w : World} {v : Value} {n : Nat} (h : W32 w v n) : ∃ A l c, v = .slice A l c ∧ W32 w (.slice A l c) n ∧ (l = 0 ↔ n = 0) := by
  obtain ⟨A, l, c, xs, rfl, hI, hr, rest⟩ := h
  refine ⟨A, l, c, rfl, ⟨A, l, c, xs, rfl, hI, hr, rest⟩, ?_⟩
  rw [hr.pos (by omega), ← hI.1]
  exact List.length_eq_zero_iff
theorem W32.one (w : World) (t : TypeId) : W32 (w.alloc (.cells #[.int .u32 1] t)) (.slice (some ⟨w.heap.size, 0, none⟩) 1 1) 1 :=
  ⟨_, 1, 1, [1], rfl, ⟨rfl, fun x hx => by simp at hx; subst hx; exact wf32 (by omega), At.new w [_] t⟩, Rep.one (by omega), by omega, by omega⟩
theorem W32.one' {w w' : World} (t : TypeId) {N : Nat} (hN : N = w.heap.size) (he : w' = w.alloc (.cells #[.int .u32 1] t)) : W32 w' (.slice (some ⟨N, 0, none⟩) 1 1) 1 := by
  subst hN he; exact W32.one w t

/-- A value that is no integer. -/
def NoInt (v : Value) : Prop := ∀ k x, v ≠ .int k x
theorem noInt_bool (b : Bool) : NoInt (.bool b) := fun _ _ h => by cases h
theorem noInt_slice (A : Option Addr) (l c : Nat) : NoInt (.slice A l c) := fun _ _ h => by cases h
/-- Storing into a block that holds no integers changes no slice of integers. -/
theorem Ints.past {k : IntKind} {w : World} {A : Option Addr} {n : Nat} {xs : List Int} {g : Nat} (h : Ints k w A n xs) (hg : ∀ i v, w.cell? ⟨g, i, none⟩ = some v → NoInt v) (i : Nat) (u : Value) : Ints k (w.setCell ⟨g, i, none⟩ u) A n xs := by
  refine ⟨h.1, h.2.1, fun hne => ?_⟩
  obtain ⟨b, off, hA, hc⟩ := h.2.2 hne
  have hb : b ≠ g := by
    intro e
    subst e
    have h0 : ∃ v, (xs.map (Value.int k))[0]? = some v := by
      cases hm : xs.map (Value.int k) with
      | nil => exact absurd hm hne
      | cons v vs => exact ⟨v, rfl⟩
    obtain ⟨v, hv⟩ := h0
    have h1 := hg _ _ (hc 0 v hv)
    rw [List.getElem?_map] at hv
    cases hx : xs[0]? with
    | none => rw [hx] at hv; simp at hv
    | some x => rw [hx] at hv; simp at hv; exact h1 k x hv.symm
  refine ⟨b, off, hA, fun j v hv => ?_⟩
  have hlt := World.block_lt_of_cell? w _ (hc j v hv)
  have hh : (w.setCell ⟨g, i, none⟩ u).heap[b]? = w.heap[b]? := Below.heap_setCell w ⟨g, i, none⟩ u b hb
  have := hc j v hv
  unfold World.cell? at this ⊢
  simp only [hh]
  exact this
/-- A block that holds no integers. -/
def NoInts (w : World) (g : Nat) : Prop := ∃ t cs, Blk w g t cs ∧ ∀ v ∈ cs, NoInt v
theorem NoInts.cell {w : World} {g : Nat} (h : NoInts w g) : ∀ i v, w.cell? ⟨g, i, none⟩ = some v → NoInt v := by
  obtain ⟨t, cs, hB, hv⟩ := h
  intro i v hc
  rw [hB.cell i] at hc
  exact hv v (Array.mem_of_getElem? hc)
theorem NoInts.set {w : World} {g : Nat} (h : NoInts w g) (i : Nat) {u : Value} (hu : NoInt u) : NoInts (w.setCell ⟨g, i, none⟩ u) g := by
  obtain ⟨t, cs, hB, hv⟩ := h
  refine ⟨t, _, hB.set i u, fun v hm => ?_⟩
  rcases Array.mem_or_eq_of_mem_setIfInBounds hm with h | h
  · exact hv v h
  · subst h; exact hu
theorem NoInts.alloc {w : World} {g : Nat} (h : NoInts w g) (o : Obj) : NoInts (w.alloc o) g := by
  obtain ⟨t, cs, hB, hv⟩ := h
  exact ⟨t, cs, hB.alloc o, hv⟩
theorem NoInts.ext {w w' : World} {g : Nat} (h : NoInts w g) (he : Ext w w') : NoInts w' g := by
  obtain ⟨t, cs, hB, hv⟩ := h
  exact ⟨t, cs, hB.ext he, hv⟩
theorem NoInts.three {w : World} {g : Nat} {t : TypeId} {b : Bool} {A1 A2 : Option Addr} {l1 c1 l2 c2 : Nat} (h : Blk w g t #[.bool b, .slice A1 l1 c1, .slice A2 l2 c2]) : NoInts w g :=
  ⟨t, _, h, fun v hv => by
    simp at hv
    rcases hv with rfl | rfl | rfl
    · exact noInt_bool _
    · exact noInt_slice _ _ _
    · exact noInt_slice _ _ _⟩
theorem W32.past {w : World} {v : Value} {n g : Nat} (h : W32 w v n) (hg : NoInts w g) (i : Nat) (u : Value) : W32 (w.setCell ⟨g, i, none⟩ u) v n := by
  obtain ⟨A, l, c, xs, rfl, hI, rest⟩ := h
  exact ⟨A, l, c, xs, rfl, hI.past hg.cell i u, rest⟩
/-- Behind the store of a result with a sign and two slices. -/
theorem W32.boxed {w : World} {v : Value} {n g : Nat} (h : W32 w v n) (hg : NoInts w g) (b : Bool) (A1 A2 : Option Addr) (l1 c1 l2 c2 : Nat) :
    W32 (((w.setCell ⟨g, 0, none⟩ (.bool b)).setCell ⟨g, 1, none⟩ (.slice A1 l1 c1)).setCell ⟨g, 2, none⟩ (.slice A2 l2 c2)) v n :=
  ((h.past hg 0 _).past (hg.set 0 (noInt_bool b)) 1 _).past ((hg.set 0 (noInt_bool b)).set 1 (noInt_slice _ _ _)) 2 _
theorem Ext.boxed {w0 w : World} {g : Nat} (h : Ext w0 w) (hg : w0.heap.size ≤ g) (x y z : Value) : Ext w0 (((w.setCell ⟨g, 0, none⟩ x).setCell ⟨g, 1, none⟩ y).setCell ⟨g, 2, none⟩ z) :=
  ((h.setCell hg x).setCell hg y).setCell hg z

/-- What a call returns that makes a rational number. -/
def RetR (w : World) (s : Bool) (n d : Nat) (e : Ending) (w' : World) : Prop := ∃ v, e = .returned v ∧ NumV w' v s n d ∧ Ext w w'

set_option maxHeartbeats 1000000 in
theorem int_any (x : Int) (w : World) (h0 : -9223372036854775808 ≤ x) (h1 : x ≤ 9223372036854775807) :
    Calls Try.prog 75 #[.int .i64 x] w (RetR w (decide (x < 0)) x.natAbs 1) := by
  by_cases hn : x < 0
  · have hd : decide (x < 0) = true := by simpa using hn
    have hw : IntKind.u64.wrap (-(x + 1)) = -(x + 1) := IntWalk.u64_in _ (by omega)
    rw [hd]
    clear hd
    go_enter Try.func75, Try.ntmps75
    go_wp2_with fail
    refine (natOf_any (-(x + 1) + 1) _ (by omega) (by omega)).mono ?_
    rintro e w1 ⟨v, rfl, hv, hX⟩
    have e1 : (-(x + 1) + 1).toNat = x.natAbs := by omega
    rw [e1] at hv
    obtain ⟨A, l, c, rfl, hw1, _⟩ := W32.open hv
    have HV := Lib.hid hw1
    have HX := Lib.hid hX
    have hB := (Blk.new w 96 #[.bool false, .slice none 0 0, .slice none 0 0]).ext hX
    have HB := Lib.hid hB
    obtain ⟨z0, z1, z2, f0, f1, f2⟩ := hB.three
    have hlt : w.heap.size < w1.heap.size := by have := hX.size; simp at this; omega
    clear hv hw1 hX e1 hB
    go_wp2
    refine bodyPost_ret (v := .agg #[.bool true, .slice A l c, .slice (some ⟨w1.heap.size, 0, none⟩) 1 1]) (by simp [results, Try.results75, go_sem, *]) rfl ?_
    exact ⟨_, rfl, ⟨_, _, rfl, (HV.out.boxed (NoInts.three HB.out) _ _ _ _ _ _ _).ext ((Ext.refl _).alloc _), W32.one' _ (by simp) rfl⟩, (Ext.boxed (((Ext.refl w).alloc _).trans HX.out) (Nat.le_refl _) _ _ _).alloc _⟩
  · have hd : decide (x < 0) = false := by simpa using hn
    have hw : IntKind.u64.wrap x = x := IntWalk.u64_in _ (by omega)
    rw [hd]
    clear hd
    go_enter Try.func75, Try.ntmps75
    go_wp2_with fail
    refine (natOf_any (x) _ (by omega) (by omega)).mono ?_
    rintro e w1 ⟨v, rfl, hv, hX⟩
    have e1 : (x).toNat = x.natAbs := by omega
    rw [e1] at hv
    obtain ⟨A, l, c, rfl, hw1, _⟩ := W32.open hv
    have HV := Lib.hid hw1
    have HX := Lib.hid hX
    have hB := (Blk.new w 96 #[.bool false, .slice none 0 0, .slice none 0 0]).ext hX
    have HB := Lib.hid hB
    obtain ⟨z0, z1, z2, f0, f1, f2⟩ := hB.three
    have hlt : w.heap.size < w1.heap.size := by have := hX.size; simp at this; omega
    clear hv hw1 hX e1 hB
    go_wp2
    refine bodyPost_ret (v := .agg #[.bool false, .slice A l c, .slice (some ⟨w1.heap.size, 0, none⟩) 1 1]) (by simp [results, Try.results75, go_sem, *]) rfl ?_
    exact ⟨_, rfl, ⟨_, _, rfl, (HV.out.boxed (NoInts.three HB.out) _ _ _ _ _ _ _).ext ((Ext.refl _).alloc _), W32.one' _ (by simp) rfl⟩, (Ext.boxed (((Ext.refl w).alloc _).trans HX.out) (Nat.le_refl _) _ _ _).alloc _⟩

end Go.Proofs.Yteoijnaljkagfaa
