/- Lemmas of the proof that follows (Bounds, part 3): walks of functions by contract, and plain lemmas. Conditions: none. -/
import Derived.Test.YtagcgldhhdecjaaBoundsB
namespace Go.Proofs.Ytagcgldhhdecjaa
open Go.RowKit

def lst1 : List Int := [1, 1, 9, 20, 9, 1, 1]
theorem first_echo : echoesF lst1 ⟨5, 4, 150, 0⟩ = ([⟨2, 5, 3, 6, 20⟩], 0) := by kernel_rfl
theorem first_time : timeF lst1 ⟨2, 5, 3, 6, 20⟩ = ((384, 416), 0) := by kernel_rfl
theorem ints1 (w : World) : Ints .i64 (w.alloc (.cells #[.int .i64 1, .int .i64 1, .int .i64 9, .int .i64 20, .int .i64 9, .int .i64 1, .int .i64 1] 3)) (some ⟨w.heap.size, 0, none⟩) 7 lst1 :=
  ⟨rfl, by decide, At.new' _ _ _ rfl⟩
set_option maxRecDepth 100000 in
set_option maxHeartbeats 2000000 in
theorem firstW_any (w : World) : Calls Try.prog 20 #[] w (fun e w' => e = .returned (.bool true) ∧ Ext w w') := by
  have hI := ints1 w
  have hX0 := (Ext.refl w).alloc (.cells #[.int .i64 1, .int .i64 1, .int .i64 9, .int .i64 20, .int .i64 9, .int .i64 1, .int .i64 1] 3)
  go_enter Try.func20, Try.ntmps20
  go_wp2_with fail
  refine (echoes_any _ 7 7 lst1 ⟨5, 4, 150, 0⟩ _ hI).mono ?_
  rw [first_echo]
  rintro e w1 ⟨v, rfl, hE, hX⟩
  replace hX0 := hX0.trans hX
  clear hX hI
  obtain ⟨g, c, e, rfl, he, hc⟩ := hE.get (j := 0) (by decide)
  simp only [List.getElem?_cons_zero, Option.some.injEq] at he
  subst he
  have c0 := hc 0 _ rfl
  have c1 := hc 1 _ rfl
  have c2 := hc 2 _ rfl
  have c3 := hc 3 _ rfl
  have c4 := hc 4 _ rfl
  have hg : g < w1.heap.size := World.block_lt_of_cell? _ _ c0
  simp only [Nat.zero_mul, Nat.zero_add, List.length_cons, List.length_nil] at c0 c1 c2 c3 c4 ⊢
  have hI := ints1 w1
  have hcap := own_cap hE
  clear hc hE
  go_wp2_with fail
  refine (time_any _ 7 7 lst1 2 5 3 6 20 _ hI).mono ?_
  rw [first_time]
  rintro e w2 ⟨rfl, hX⟩
  have HX := Lib.hid ((hX0.trans ((Ext.refl w1).alloc _)).trans hX)
  clear hX hX0 hI c0 c1 c2 c3 c4
  go_wp2
  go_ret
  exact ⟨rfl, HX.out.alloc _⟩
end Go.Proofs.Ytagcgldhhdecjaa
namespace Go.Proofs.Ytagcgldhhdecjaa
open Go.RowKit

set_option maxRecDepth 100000 in
set_option maxHeartbeats 2000000 in
theorem fineW_any (d : Det) (w : World) :
    Calls Try.prog 31 #[.agg #[.int .i64 d.level, .int .i64 d.drop, .int .i64 d.step, .int .i64 d.delay]] w (fun e w' => e = .returned (.bool (decide (DetOk d))) ∧ Ext w w') := by
  obtain ⟨lv, dr, st, de⟩ := d
  simp only
  go_enter Try.func31, Try.ntmps31
  go_wp2
  all_goals
    go_ret
    refine ⟨?_, (Ext.refl w).alloc _⟩
    first
    | (have q : decide (DetOk ⟨lv, dr, st, de⟩) = false := decide_eq_false (by unfold DetOk; simp only; omega)
       rw [q]; rfl)
    | (have q : decide (DetOk ⟨lv, dr, st, de⟩) = decide (de ≤ 1048576) := by rw [decide_eq_decide]; unfold DetOk; simp only; omega
       rw [q]; rfl)

end Go.Proofs.Ytagcgldhhdecjaa
namespace Go.Proofs.Ytagcgldhhdecjaa
open Go.RowKit

/-- What Digitize computes. -/
def HgtOk (l : List Int) : Prop := l.length ≤ 256 ∧ ∀ x ∈ l, 0 ≤ x ∧ x ≤ 16383
instance (l : List Int) : Decidable (HgtOk l) := inferInstanceAs (Decidable (_ ∧ _))
def digF (l : List Int) : List Int × Int := if HgtOk l then (l.map (· / 16), 0) else ([], 2)
/-- A row of integers of a call's own. -/
def IntL (base : Nat) (w : World) (v : Value) (xs : List Int) : Prop := ∃ A c, v = .slice A xs.length c ∧ OwnS .i64 3 base w A xs.length c xs
theorem IntL.nil (base : Nat) (w : World) : IntL base w (.slice none 0 0) [] := ⟨none, 0, rfl, World.ownsRow_nil _ _ _ _, rfl, by simp⟩
theorem IntL.ext {base : Nat} {w w' : World} {v : Value} {xs : List Int} (h : IntL base w v xs) (he : Ext w w') : IntL base w' v xs := by
  obtain ⟨A, c, h1, h2⟩ := h
  exact ⟨A, c, h1, h2.ext he⟩
def RetIn (w : World) (r : List Int × Int) (e : Ending) (w' : World) : Prop := ∃ v, e = .returned (.tuple #[v, .int .i64 r.2]) ∧ IntL w.heap.size w' v r.1 ∧ Ext w w'
theorem elN : Elem Try.prog 22 3 1 8 (.int .i64 0) := Elem.mk' (by kernel_rfl) (by kernel_rfl) rfl (by decide)
theorem i64_wf {z : Int} (h : -9223372036854775808 ≤ z ∧ z ≤ 9223372036854775807) : (Lit.int .i64 z).wf = true := by
  simp [Lit.wf, IntKind.min, IntKind.max, IntKind.bits, IntKind.signed]; omega
set_option maxRecDepth 100000 in
set_option maxHeartbeats 4000000 in
theorem digitize_any (A : Option Addr) (n c : Nat) (l : List Int) (w : World) (h : Ints .i64 w A n l) :
    Calls Try.prog 36 #[.slice A n c] w (RetIn w (digF l)) := by
  have H := Lib.hid h
  have HL := Lib.hid h.1
  clear h
  by_cases hn : 256 < n
  · have HB : Hid (digF l = ([], 2)) := Lib.hid (by unfold digF; rw [if_neg]; intro s; have := s.1; have := HL.out; omega)
    go_enter Try.func36, Try.ntmps36
    go_wp2
    go_ret2
    exact ⟨_, by rw [HB.out]; rfl, by rw [HB.out]; exact IntL.nil _ _, Ext.refl _⟩
  go_enter Try.func36, Try.ntmps36
  go_wp2_with fail
  go_loopg [4, 12] n (fun f ov iv wr => ∃ (k : Nat) (ys : List Int), f = n - k ∧ k ≤ n ∧ iv = .int .i64 (k : Int) ∧ Hid (ys.length = k) ∧ Hid ((l.take k).map (· / 16) = ys) ∧ Hid (∀ x ∈ l.take k, 0 ≤ x ∧ x ≤ 16383) ∧ Hid (IntL w.heap.size wr ov ys) ∧ Hid (Ext w wr))
  case atStart => exact ⟨0, [], rfl, by omega, rfl, Lib.hid rfl, Lib.hid rfl, Lib.hid (by simp), Lib.hid (IntL.nil _ _), Lib.hid (Ext.refl _)⟩
  case round =>
    obtain ⟨k, ys, rfl, hk, rfl, HYL, HYS, HA, HO, HX⟩ := hrel
    obtain ⟨A1, c1, hso, hown⟩ := HO.out
    rw [HYL.out] at hso hown
    subst hso
    by_cases hlt : k < n
    · obtain ⟨b, off, x, rfl, hx, _, hc⟩ := (H.out.ext HX.out).get hlt
      have HX' := Lib.hid hx
      clear hx
      by_cases h0 : x < 0 ∨ 16383 < x
      · have HB : Hid (digF l = ([], 2)) := Lib.hid (by unfold digF; rw [if_neg]; intro s; have := s.2 x (List.mem_of_getElem? HX'.out); omega)
        clear hown
        rcases h0 with h0 | h0
        · go_wp2
          go_ret2
          exact ⟨_, by rw [HB.out]; rfl, by rw [HB.out]; exact IntL.nil _ _, HX.out⟩
        · go_wp2
          go_ret2
          exact ⟨_, by rw [HB.out]; rfl, by rw [HB.out]; exact IntL.nil _ _, HX.out⟩
      · have h1 : 0 ≤ x := by omega
        have h2 : x ≤ 16383 := by omega
        clear h0
        obtain ⟨y, hy⟩ : ∃ y, x / 16 = y := ⟨_, rfl⟩
        have hy0 : 0 ≤ y ∧ y ≤ 1023 := by omega
        obtain ⟨hy1, hy2⟩ := hy0
        have ht : x.tdiv 16 = y := by rw [Int.tdiv_eq_ediv_of_nonneg h1]; exact hy
        have HY := Lib.hid hy
        have hown' := hown.own
        have hsz := HX.out.size
        clear hy hown
        go_wp2_with (at_builtin; refine wpList_app _ elN rfl _ _ rfl w.heap.size (.slice A1 k c1) k (ys.map (Value.int .i64)) rfl (hown'.alloc _) _ 1 1 [.int .i64 y] rfl rfl (At.new' _ [_] _ rfl) (by simp [Value.oneCell']) (by omega) (by unfold maxLen; omega) (by simp; omega) ?_; intro v5 w5 hown5 hgr5 _; have HX5 := Lib.hid (HX.out.push hown' hgr5); have HOW5 := Lib.hid hown5; clear hown5 hgr5)
        go_roundg (n - (k + 1))
        case rel =>
          refine ⟨k + 1, ys ++ [y], rfl, by omega, by go_num, Lib.hid (by rw [List.length_append, HYL.out]; rfl), Lib.hid ?_, Lib.hid ?_, Lib.hid ?_, HX5⟩
          · rw [List.take_add_one, HX'.out, List.map_append, HYS.out, ← HY.out]
            rfl
          · intro z hz
            rw [List.take_add_one, HX'.out] at hz
            rcases List.mem_append.1 hz with hz | hz
            · exact HA.out z hz
            · simp at hz; subst hz; omega
          · have ho := HOW5.out
            obtain ⟨A2, c2, rfl⟩ := own_slice ho
            have hl : (ys ++ [y]).length = k + 1 := by rw [List.length_append, HYL.out]; rfl
            refine ⟨A2, c2, by rw [hl], ?_⟩
            rw [hl]
            refine ⟨?_, hl, ?_⟩
            · rw [List.map_append]; exact ho
            · intro z hz
              have : ∀ z ∈ ys ++ [y], -9223372036854775808 ≤ z ∧ z ≤ 9223372036854775807 := by
                intro z hz
                rcases List.mem_append.1 hz with hz | hz
                · rw [← HYS.out] at hz
                  obtain ⟨q, hq, rfl⟩ := List.mem_map.1 hz
                  have := HA.out q hq
                  omega
                · simp at hz; subst hz; omega
              exact i64_wf (this z hz)
        case measure => omega
    · obtain rfl : k = n := by omega
      have e : l.take k = l := List.take_of_length_le (by have := HL.out; omega)
      have HB : Hid (digF l = (ys, 0)) := Lib.hid (by
        unfold digF
        have h1 := HA.out
        have h2 := HYS.out
        rw [e] at h1 h2
        rw [if_pos ⟨by have := HL.out; omega, h1⟩, h2])
      clear e
      go_wp2
      go_ret2
      exact ⟨_, by rw [HB.out]; rfl, by rw [HB.out]; simp only; rw [← HYL.out] at *; exact HO.out, HX.out⟩
end Go.Proofs.Ytagcgldhhdecjaa
namespace Go.Proofs.Ytagcgldhhdecjaa
open Go.RowKit
theorem Blk.at_ {W : World} {t : TypeId} {cs : Array Value} {g : Nat} (hg : W.heap.size = g) : Blk (W.alloc (.cells cs t)) g t cs := hg ▸ Blk.new W t cs
theorem Ext.two {w0 w : World} {g : Nat} (h : Ext w0 w) (hg : w0.heap.size ≤ g) (x y : Value) : Ext w0 ((w.setCell ⟨g, 0, none⟩ x).setCell ⟨g, 1, none⟩ y) := (h.setCell hg x).setCell hg y
end Go.Proofs.Ytagcgldhhdecjaa
namespace Go.Proofs.Ytagcgldhhdecjaa
open Go.RowKit

theorem good_cells {l : List Int} {lv : Int} {e : Ech} {f p t : Nat} (h : EGood l lv e f p t) (hs : Smp l) : e.level ≤ 1023 ∧ e.top ≤ 1023 ∧ lv ≤ e.level ∧ e.level ≤ e.top := by
  have hx := h.part hs
  have h1 := h.top
  have h2 := h.lev
  have h3 := h.le
  have hb : l.getD p 0 ≤ 1023 := by
    rw [List.getD_eq_getElem?_getD]
    cases hj : l[p]? with
    | none => simp
    | some x => have := hs.2 x (List.mem_of_getElem? hj); simpa using this.2
  omega

end Go.Proofs.Ytagcgldhhdecjaa
namespace Go.Proofs.Ytagcgldhhdecjaa

theorem getD_sixt (H : List Int) (i : Nat) : (H.map (· / 16)).getD i 0 = H.getD i 0 / 16 := by
  rw [List.getD_eq_getElem?_getD, List.getD_eq_getElem?_getD, List.getElem?_map]
  cases H[i]? with
  | none => rfl
  | some x => rfl
theorem smp_sixt {H : List Int} (h : H.length ≤ 256) (hH : ∀ x ∈ H, 0 ≤ x ∧ x ≤ 16383) : Smp (H.map (· / 16)) := by
  refine ⟨by simpa using h, fun x hx => ?_⟩
  obtain ⟨y, hy, rfl⟩ := List.mem_map.1 hx
  have := hH y hy
  omega
/-- Where the level is crossed, and that the bounds hold. -/
theorem bound_cross {H : List Int} {lv : Int} {e : Ech} {f p t : Nat} (hH : ∀ x ∈ H, 0 ≤ x ∧ x ≤ 16383) (h : EGood (H.map (· / 16)) lv e f p t) (hs : Smp (H.map (· / 16))) (hz : (timeF (H.map (· / 16)) e).2 = 0) :
    ∃ c : Nat, crossE (H.map (· / 16)) e = c + 1 ∧ c + 1 < H.length ∧ f ≤ c + 1 ∧ (∀ j, f ≤ j → j < c + 1 → H.getD j 0 / 16 < e.level) ∧ e.level ≤ H.getD (c + 1) 0 / 16 ∧ 0 < H.getD (c + 1) 0 - H.getD c 0 ∧
      256 * (c : Int) ≤ (timeF (H.map (· / 16)) e).1.1 ∧ (timeF (H.map (· / 16)) e).1.2 ≤ 256 * (c : Int) + 256 ∧ (timeF (H.map (· / 16)) e).1.1 ≤ (timeF (H.map (· / 16)) e).1.2 ∧
      ((timeF (H.map (· / 16)) e).1.1 - 256 * (c : Int)) * (H.getD (c + 1) 0 - H.getD c 0) ≤ 256 * (16 * e.level - H.getD c 0) ∧ 256 * (16 * e.level - H.getD c 0) ≤ ((timeF (H.map (· / 16)) e).1.2 - 256 * (c : Int)) * (H.getD (c + 1) 0 - H.getD c 0) := by
  obtain ⟨h1, h2, h3, h4⟩ := h.cross
  obtain ⟨z1, z2, z3, z4, z5, z6⟩ := h.time_in hs hz
  have hpt := h.pt
  have htl := h.tl
  rw [List.length_map] at htl
  obtain ⟨c, hc⟩ : ∃ c, crossE (H.map (· / 16)) e = c + 1 := ⟨crossE (H.map (· / 16)) e - 1, by omega⟩
  rw [hc] at h1 h2 h3 h4 z2 z4
  have hcut : ¬ (crossE (H.map (· / 16)) e = 0 ∨ e.level ≤ (H.map (· / 16)).getD (crossE (H.map (· / 16)) e - 1) 0) := by
    intro hcut
    rw [h.time hs, if_pos hcut] at hz
    simp at hz
  have ht := h.time hs
  rw [if_neg hcut] at ht
  rw [hc] at ht hcut
  simp only [Nat.add_sub_cancel] at ht hcut
  have hg : ∀ i, 0 ≤ H.getD i 0 ∧ H.getD i 0 ≤ 16383 := fun i => by
    rw [List.getD_eq_getElem?_getD]
    cases hj : H[i]? with
    | none => simp
    | some x => exact hH x (List.mem_of_getElem? hj)
  have hg0 := hg c
  have hg1 := hg (c + 1)
  rw [getD_sixt] at h4 hcut
  have hb := bound_lo (s := H.getD c 0 / 16) (t := H.getD (c + 1) 0 / 16) (L := e.level) (h0 := H.getD c 0) (h1 := H.getD (c + 1) 0) (by omega) (by omega) (by omega) (by omega) (by omega) h4
  refine ⟨c, hc, by omega, h1, fun j a b => by have := h3 j a b; rwa [getD_sixt] at this, h4, hb.1, by omega, by omega, z3, ?_, ?_⟩
  · rw [ht]
    simp only [getD_sixt]
    have e1 : 256 * (((c + 1 : Nat) : Int) - 1) + 256 * (e.level - H.getD c 0 / 16 - 1) / (H.getD (c + 1) 0 / 16 - H.getD c 0 / 16) - 256 * (c : Int) = 256 * (e.level - H.getD c 0 / 16 - 1) / (H.getD (c + 1) 0 / 16 - H.getD c 0 / 16) := by omega
    rw [e1]
    exact hb.2.1
  · rw [ht]
    simp only [getD_sixt]
    have e1 : 256 * (((c + 1 : Nat) : Int) - 1) + (256 * (e.level - H.getD c 0 / 16) + H.getD (c + 1) 0 / 16 - H.getD c 0 / 16 - 1) / (H.getD (c + 1) 0 / 16 - H.getD c 0 / 16) - 256 * (c : Int) = (256 * (e.level - H.getD c 0 / 16) + H.getD (c + 1) 0 / 16 - H.getD c 0 / 16 - 1) / (H.getD (c + 1) 0 / 16 - H.getD c 0 / 16) := by omega
    rw [e1]
    exact hb.2.2
end Go.Proofs.Ytagcgldhhdecjaa
namespace Go.Proofs.Ytagcgldhhdecjaa

/-- The number that digits denote. -/
def val (B : Int) : List Int → Int
  | [] => 0
  | x :: xs => x + B * val B xs
/-- All are digits. -/
def Dg (B : Int) (xs : List Int) : Prop := ∀ x ∈ xs, 0 ≤ x ∧ x < B

section
variable {B : Int} {xs ys : List Int} {x u : Int} {k : Nat}
theorem Dg.nil : Dg B [] := by simp [Dg]
theorem Dg.take (h : Dg B xs) (k : Nat) : Dg B (xs.take k) := fun x hx => h x (List.mem_of_mem_take hx)
theorem Dg.drop (h : Dg B xs) (k : Nat) : Dg B (xs.drop k) := fun x hx => h x (List.mem_of_mem_drop hx)
theorem Dg.append (h : Dg B xs) (k : Dg B ys) : Dg B (xs ++ ys) := fun x hx => by
  rcases List.mem_append.1 hx with hx | hx
  · exact h x hx
  · exact k x hx
theorem Dg.set (h : Dg B xs) (hu : 0 ≤ u ∧ u < B) (k : Nat) : Dg B (xs.set k u) := fun x hx => by
  rcases List.mem_or_eq_of_mem_set hx with hx | hx
  · exact h x hx
  · subst hx; exact hu
theorem Dg.get (h : Dg B xs) (hx : xs[k]? = some x) : 0 ≤ x ∧ x < B := h x (List.mem_of_getElem? hx)
theorem Dg.one (hx : 0 ≤ x ∧ x < B) : Dg B [x] := fun y hy => by simp at hy; subst hy; exact hx
theorem Dg.cons (hx : 0 ≤ x ∧ x < B) (h : Dg B xs) : Dg B (x :: xs) := fun y hy => by
  rcases List.mem_cons.1 hy with hy | hy
  · subst hy; exact hx
  · exact h y hy

theorem val_append (xs ys : List Int) : val B (xs ++ ys) = val B xs + B ^ xs.length * val B ys := by
  induction xs with
  | nil => simp [val]
  | cons x xs ih => simp only [List.cons_append, val, ih, List.length_cons, Int.pow_succ]; grind
theorem val_one (x : Int) : val B [x] = x := by simp [val]
theorem val_snoc (xs : List Int) (x : Int) : val B (xs ++ [x]) = val B xs + B ^ xs.length * x := by rw [val_append, val_one]
theorem val_nonneg (hB : 0 < B) (h : Dg B xs) : 0 ≤ val B xs := by
  induction xs with
  | nil => simp [val]
  | cons x xs ih =>
    have hx := h x (List.mem_cons_self ..)
    have hi := ih fun y hy => h y (List.mem_cons_of_mem _ hy)
    have := Int.mul_nonneg (Int.le_of_lt hB) hi
    rw [val]; omega
theorem pow_pos' (hB : 0 < B) (k : Nat) : 0 < B ^ k := Int.pow_pos hB
theorem val_lt (hB : 0 < B) (h : Dg B xs) : val B xs < B ^ xs.length := by
  induction xs with
  | nil => simp [val]
  | cons x xs ih =>
    have hx := h x (List.mem_cons_self ..)
    have hi := ih fun y hy => h y (List.mem_cons_of_mem _ hy)
    rw [val, List.length_cons, Int.pow_succ]
    have h1 : B * (val B xs + 1) ≤ B * B ^ xs.length := Int.mul_le_mul_of_nonneg_left (by omega) (Int.le_of_lt hB)
    have h2 : B * (val B xs + 1) = B * val B xs + B := by grind
    have h3 : B * B ^ xs.length = B ^ xs.length * B := Int.mul_comm _ _
    omega
end

/-- No most significant digit is 0. -/
def Nm (xs : List Int) : Prop := xs.getLast? ≠ some 0
/-- The normal digits of a number. -/
def Rep (B : Int) (xs : List Int) (n : Nat) : Prop := Dg B xs ∧ Nm xs ∧ val B xs = (n : Int)

section
variable {B : Int} {xs ys : List Int} {n m : Nat}
theorem Nm.nil : Nm [] := by simp [Nm]
theorem Nm.snoc {x : Int} (h : x ≠ 0) : Nm (xs ++ [x]) := by simp [Nm, h]
theorem Nm.one {x : Int} (h : x ≠ 0) : Nm [x] := by simp [Nm, h]
theorem Nm.split (h : Nm xs) (hne : xs ≠ []) : ∃ ys x, xs = ys ++ [x] ∧ x ≠ 0 := by
  refine ⟨xs.dropLast, xs.getLast hne, (List.dropLast_concat_getLast hne).symm, fun e => ?_⟩
  exact h (by rw [List.getLast?_eq_some_getLast hne, e])
theorem Nm.take {k : Nat} {x : Int} (h : xs[k]? = some x) (hx : x ≠ 0) : Nm (xs.take (k + 1)) := by
  rw [List.take_add_one, h]; exact Nm.snoc hx
theorem nm_low (hB : 1 < B) (hd : Dg B xs) (h : Nm xs) (hne : xs ≠ []) : B ^ (xs.length - 1) ≤ val B xs := by
  obtain ⟨ys, x, rfl, hx⟩ := h.split hne
  have hd1 : Dg B ys := fun y hy => hd y (List.mem_append_left _ hy)
  have hx1 := hd x (List.mem_append_right _ (List.mem_singleton.2 rfl))
  have h0 := val_nonneg (by omega) hd1
  rw [val_snoc, List.length_append, List.length_singleton, Nat.add_sub_cancel]
  have hp := pow_pos' (B := B) (by omega) ys.length
  have : B ^ ys.length * 1 ≤ B ^ ys.length * x := Int.mul_le_mul_of_nonneg_left (by omega) (Int.le_of_lt hp)
  omega
theorem pow_le {a b : Nat} (hB : 1 ≤ B) (h : a ≤ b) : B ^ a ≤ B ^ b := by
  obtain ⟨k, rfl⟩ := Nat.exists_eq_add_of_le h
  rw [Int.pow_add]
  have h1 := pow_pos' (B := B) (by omega) a
  have h2 := pow_pos' (B := B) (by omega) k
  have : B ^ a * 1 ≤ B ^ a * B ^ k := Int.mul_le_mul_of_nonneg_left (by omega) (Int.le_of_lt h1)
  omega
theorem Rep.len_le (hB : 1 < B) (h : Rep B xs n) {L : Nat} (hn : (n : Int) < B ^ L) : xs.length ≤ L := by
  rcases Nat.lt_or_ge L xs.length with hl | hl
  · have h1 := nm_low hB h.1 h.2.1 (by intro e; subst e; simp at hl)
    rw [h.2.2] at h1
    have := pow_le (B := B) (a := L) (b := xs.length - 1) (by omega) (by omega)
    omega
  · exact hl
theorem Rep.lt (hB : 1 < B) (h : Rep B xs n) : (n : Int) < B ^ xs.length := by rw [← h.2.2]; exact val_lt (by omega) h.1
theorem Rep.nil : Rep B [] 0 := ⟨Dg.nil, Nm.nil, rfl⟩
theorem Rep.zero (hB : 1 < B) (h : Rep B xs 0) : xs = [] := by
  rcases xs with _ | ⟨x, xs⟩
  · rfl
  · have h1 := nm_low hB h.1 h.2.1 (by simp)
    rw [h.2.2] at h1
    have := pow_pos' (B := B) (by omega) ((x :: xs).length - 1)
    omega
theorem Rep.pos (hB : 1 < B) (h : Rep B xs n) : n = 0 ↔ xs = [] := by
  constructor
  · rintro rfl; exact h.zero hB
  · rintro rfl; have := h.2.2; simp [val] at this; omega
theorem Rep.one (hB : 1 < B) : Rep B [1] 1 := ⟨Dg.one (by omega), Nm.one (by omega), val_one 1⟩
end

end Go.Proofs.Ytagcgldhhdecjaa
namespace Go.Proofs.Ytagcgldhhdecjaa
open Go.RowKit

/-- n has at most L digits. -/
def Fit (B : Int) (n L : Nat) : Prop := (n : Int) < B ^ L
section
variable {B : Int} {n m a b L : Nat} {xs : List Int}
theorem Fit.mono (hB : 1 ≤ B) (h : Fit B n a) (hl : a ≤ b) : Fit B n b := by
  have := pow_le (B := B) hB hl
  unfold Fit at *; omega
theorem Fit.le (h : Fit B n a) (hl : m ≤ n) : Fit B m a := by unfold Fit at *; omega
theorem Fit.add (hB : 2 ≤ B) (h : Fit B n a) (k : Fit B m a) : Fit B (n + m) (a + 1) := by
  unfold Fit at *
  rw [Int.pow_succ]
  have hp := pow_pos' (B := B) (by omega) a
  have : B ^ a * 2 ≤ B ^ a * B := Int.mul_le_mul_of_nonneg_left hB (Int.le_of_lt hp)
  omega
theorem Fit.len (hB : 1 < B) (h : Fit B n L) (hr : Rep B xs n) : xs.length ≤ L := hr.len_le hB h
theorem Fit.one (hB : 1 < B) (h : 0 < L) : Fit B 1 L := by
  have := pow_le (B := B) (a := 1) (b := L) (by omega) h
  unfold Fit; rw [Int.pow_succ, Int.pow_zero] at this; omega
theorem Fit.zero (hB : 0 < B) : Fit B 0 L := by have := pow_pos' hB L; unfold Fit; omega
end

/-- A value that is a slice of words, the normal form of n. -/
def NatV (k : IntKind) (B : Int) (w : World) (v : Value) (n : Nat) : Prop :=
  ∃ A m c xs, v = .slice A m c ∧ Ints k w A m xs ∧ Rep B xs n ∧ m ≤ c ∧ c ≤ 9223372036854775807
theorem NatV.ext {k : IntKind} {B : Int} {w w' : World} {v : Value} {n : Nat} (h : NatV k B w v n) (he : Ext w w') : NatV k B w' v n := by
  obtain ⟨A, m, c, xs, h1, h2, h3⟩ := h
  exact ⟨A, m, c, xs, h1, h2.ext he, h3⟩
theorem NatV.zero {k : IntKind} {B : Int} {w : World} : NatV k B w (.slice none 0 0) 0 := ⟨none, 0, 0, [], rfl, Ints.nil, Rep.nil, by omega, by omega⟩

/-- What a call returns that makes a number. -/
def RetN (k : IntKind) (B : Int) (w : World) (n : Nat) (e : Ending) (w' : World) : Prop := ∃ v, e = .returned v ∧ NatV k B w' v n ∧ Ext w w'

/-- Storing at place j of a row of the call's own. -/
theorem OwnS.store {k : IntKind} {e : TypeId} {base : Nat} {w : World} {A : Option Addr} {n c : Nat} {xs : List Int} (h : OwnS k e base w A n c xs) {j : Nat} (hj : j < n) :
    ∃ g x, A = some ⟨g, 0, none⟩ ∧ xs[j]? = some x ∧ (Lit.int k x).wf = true ∧ w.cell? ⟨g, j, none⟩ = some (.int k x) ∧ w.frozen? ⟨g, j, none⟩ = false ∧ base ≤ g ∧
      Hid (∀ u, (Lit.int k u).wf = true → OwnS k e base (w.setCell ⟨g, j, none⟩ (.int k u)) A n c (xs.set j u)) := by
  have hj' : j < xs.length := by rw [h.len]; exact hj
  have hown := h.own
  rcases hown.2 with ⟨_, h0⟩ | ⟨g, cap, cur, hv, hg, _⟩
  · omega
  · injection hv with hA _ _
    subst hA
    have hc := hown.cellAt j (by omega)
    rw [List.getElem?_map, List.getElem?_eq_getElem hj'] at hc
    refine ⟨g, xs[j], rfl, List.getElem?_eq_getElem hj', h.wf _ (List.getElem_mem hj'), hc, hown.frozenAt j, hg, fun u hu => ⟨?_, by rw [List.length_set, h.len], fun x hx => ?_⟩⟩
    · have := (hown.stored j (.int k u)).1
      rwa [← List.map_set] at this
    · rcases List.mem_or_eq_of_mem_set hx with hx | hx
      · exact h.wf x hx
      · subst hx; exact hu
theorem OwnS.get {k : IntKind} {e : TypeId} {base : Nat} {w : World} {A : Option Addr} {n c : Nat} {xs : List Int} (h : OwnS k e base w A n c xs) {j : Nat} (hj : j < n) :
    ∃ g x, A = some ⟨g, 0, none⟩ ∧ xs[j]? = some x ∧ (Lit.int k x).wf = true ∧ w.cell? ⟨g, j, none⟩ = some (.int k x) := by
  obtain ⟨g, x, h1, h2, h3, h4, _⟩ := h.store hj
  exact ⟨g, x, h1, h2, h3, h4⟩
/-- A beginning of a row of the call's own. -/
theorem OwnS.front {k : IntKind} {e : TypeId} {base : Nat} {w : World} {A : Option Addr} {n c : Nat} {xs : List Int} (h : OwnS k e base w A n c xs) {m : Nat} (hm : m ≤ n) : OwnS k e base w A m c (xs.take m) := by
  refine ⟨⟨by simp [h.len]; omega, ?_⟩, by rw [List.length_take, h.len]; omega, fun x hx => h.wf x (List.mem_of_mem_take hx)⟩
  rcases h.own.2 with ⟨hv, h0⟩ | ⟨g, cap, cur, hv, hg, hb, h1, h2, h3, h4⟩
  · injection hv with hA hn hc
    subst hA hc
    obtain rfl : m = 0 := by omega
    exact .inl ⟨rfl, rfl⟩
  · injection hv with hA hn hc
    subst hA hc
    refine .inr ⟨g, c, cur, rfl, hg, hb, by omega, h2, h3, ?_⟩
    simp only [Nat.mul_one] at h4 ⊢
    rw [List.map_take, ← h4, List.take_take, Nat.min_eq_left hm]
theorem OwnS.natv {k : IntKind} {e : TypeId} {base : Nat} {w : World} {A : Option Addr} {n c : Nat} {xs : List Int} {B : Int} {N : Nat} (h : OwnS k e base w A n c xs) (hr : Rep B xs N) : NatV k B w (.slice A n c) N :=
  ⟨A, n, c, xs, rfl, h.ints, hr, h.cap.1, h.cap.2⟩
/-- The row that 'make' makes. -/
theorem OwnS.made {k : IntKind} {e : TypeId} {base : Nat} {w : World} {g n c : Nat} (h : w.ownsRow base e 1 (.slice (some ⟨g, 0, none⟩) n c) n (List.replicate n (.int k 0))) : OwnS k e base w (some ⟨g, 0, none⟩) n c (List.replicate n 0) := by
  refine ⟨by simpa using h, by simp, fun x hx => ?_⟩
  have := (List.mem_replicate.1 hx).2
  subst this
  cases k <;> decide
end Go.Proofs.Ytagcgldhhdecjaa
namespace Go.Proofs.Ytagcgldhhdecjaa
open Go.RowKit

/-- A number of the reference. -/
def Z16 (w : World) (v : Value) (n : Nat) : Prop := NatV .i64 65536 w v n
theorem Z16.ext {w w' : World} {v : Value} {n : Nat} (h : Z16 w v n) (he : Ext w w') : Z16 w' v n := NatV.ext h he
theorem getD_some {xs : List Int} {k : Nat} {x : Int} (h : xs[k]? = some x) : xs.getD k 0 = x := by simp [List.getD, h]
end Go.Proofs.Ytagcgldhhdecjaa
namespace Go.Proofs.Ytagcgldhhdecjaa
open Go.RowKit

/-- What a call returns that makes a number in memory of its own. -/
def RetOwn (w : World) (n : Nat) (e : Ending) (w' : World) : Prop := ∃ A l c xs, e = .returned (.slice A l c) ∧ OwnS .i64 3 w.heap.size w' A l c xs ∧ Rep 65536 xs n ∧ Ext w w'
theorem RetOwn.n {w : World} {n : Nat} {e : Ending} {w' : World} (h : RetOwn w n e w') : RetN .i64 65536 w n e w' := by
  obtain ⟨A, l, c, xs, h1, h2, h3, h4⟩ := h
  exact ⟨_, h1, h2.natv h3, h4⟩
end Go.Proofs.Ytagcgldhhdecjaa
namespace Go.Proofs.Ytagcgldhhdecjaa
open Go.RowKit

theorem OwnS.at {k : IntKind} {e : TypeId} {base : Nat} {w : World} {A : Option Addr} {n c : Nat} {xs : List Int} (h : OwnS k e base w A n c xs) (hn : 0 < n) : ∃ g, A = some ⟨g, 0, none⟩ ∧ base ≤ g ∧ g < w.heap.size := by
  obtain ⟨g, x, hA, _, _, hc, _, hg, _⟩ := h.store hn
  exact ⟨g, hA, hg, World.block_lt_of_cell? w _ hc⟩

end Go.Proofs.Ytagcgldhhdecjaa
namespace Go.Proofs.Ytagcgldhhdecjaa

/-- A number with a sign. -/
def sgn (s : Bool) (n : Nat) : Int := if s then -(n : Int) else n
section
variable {s t : Bool} {n m d e : Nat}
end
/-- How many words a rational number has. -/
def FitQ (q : Rat) (L : Nat) : Prop := Fit 4294967296 q.num.natAbs L ∧ Fit 4294967296 q.den L
end Go.Proofs.Ytagcgldhhdecjaa
namespace Go.Proofs.Ytagcgldhhdecjaa
open Go.RowKit

/-- A value that is no integer. -/
def NoInt (v : Value) : Prop := ∀ k x, v ≠ .int k x
theorem noInt_bool (b : Bool) : NoInt (.bool b) := fun _ _ h => by cases h
theorem noInt_slice (A : Option Addr) (l c : Nat) : NoInt (.slice A l c) := fun _ _ h => by cases h
/-- Storing into a block that holds no integers changes no slice of integers. -/
theorem Ints.past {k : IntKind} {w : World} {A : Option Addr} {n : Nat} {xs : List Int} {g : Nat} (h : Ints k w A n xs) (hg : ∀ i v, w.cell? ⟨g, i, none⟩ = some v → NoInt v) (i : Nat) (u : Value) : Ints k (w.setCell ⟨g, i, none⟩ u) A n xs := by
  refine ⟨h.1, h.2.1, fun hne => ?_⟩
  obtain ⟨b, off, hA, hc⟩ := h.2.2 hne
  have hb : b ≠ g := by
    intro e
    subst e
    have h0 : ∃ v, (xs.map (Value.int k))[0]? = some v := by
      cases hm : xs.map (Value.int k) with
      | nil => exact absurd hm hne
      | cons v vs => exact ⟨v, rfl⟩
    obtain ⟨v, hv⟩ := h0
    have h1 := hg _ _ (hc 0 v hv)
    rw [List.getElem?_map] at hv
    cases hx : xs[0]? with
    | none => rw [hx] at hv; simp at hv
    | some x => rw [hx] at hv; simp at hv; exact h1 k x hv.symm
  refine ⟨b, off, hA, fun j v hv => ?_⟩
  have hlt := World.block_lt_of_cell? w _ (hc j v hv)
  have hh : (w.setCell ⟨g, i, none⟩ u).heap[b]? = w.heap[b]? := Below.heap_setCell w ⟨g, i, none⟩ u b hb
  have := hc j v hv
  unfold World.cell? at this ⊢
  simp only [hh]
  exact this
/-- A block that holds no integers. -/
def NoInts (w : World) (g : Nat) : Prop := ∃ t cs, Blk w g t cs ∧ ∀ v ∈ cs, NoInt v
theorem NoInts.cell {w : World} {g : Nat} (h : NoInts w g) : ∀ i v, w.cell? ⟨g, i, none⟩ = some v → NoInt v := by
  obtain ⟨t, cs, hB, hv⟩ := h
  intro i v hc
  rw [hB.cell i] at hc
  exact hv v (Array.mem_of_getElem? hc)
theorem NoInts.set {w : World} {g : Nat} (h : NoInts w g) (i : Nat) {u : Value} (hu : NoInt u) : NoInts (w.setCell ⟨g, i, none⟩ u) g := by
  obtain ⟨t, cs, hB, hv⟩ := h
  refine ⟨t, _, hB.set i u, fun v hm => ?_⟩
  rcases Array.mem_or_eq_of_mem_setIfInBounds hm with h | h
  · exact hv v h
  · subst h; exact hu
theorem NoInts.alloc {w : World} {g : Nat} (h : NoInts w g) (o : Obj) : NoInts (w.alloc o) g := by
  obtain ⟨t, cs, hB, hv⟩ := h
  exact ⟨t, cs, hB.alloc o, hv⟩
theorem NoInts.ext {w w' : World} {g : Nat} (h : NoInts w g) (he : Ext w w') : NoInts w' g := by
  obtain ⟨t, cs, hB, hv⟩ := h
  exact ⟨t, cs, hB.ext he, hv⟩
theorem NoInts.three {w : World} {g : Nat} {t : TypeId} {b : Bool} {A1 A2 : Option Addr} {l1 c1 l2 c2 : Nat} (h : Blk w g t #[.bool b, .slice A1 l1 c1, .slice A2 l2 c2]) : NoInts w g :=
  ⟨t, _, h, fun v hv => by
    simp at hv
    rcases hv with rfl | rfl | rfl
    · exact noInt_bool _
    · exact noInt_slice _ _ _
    · exact noInt_slice _ _ _⟩
end Go.Proofs.Ytagcgldhhdecjaa
namespace Go.Proofs.Ytagcgldhhdecjaa
open Go.RowKit

/-- An integer of the reference. -/
def IntZ (w : World) (v : Value) (z : Int) : Prop := ∃ A l c, v = .agg #[.bool (decide (z < 0)), .slice A l c] ∧ Z16 w (.slice A l c) z.natAbs
theorem IntZ.ext {w w' : World} {v : Value} {z : Int} (h : IntZ w v z) (he : Ext w w') : IntZ w' v z := by
  obtain ⟨A, l, c, h1, h2⟩ := h
  exact ⟨A, l, c, h1, h2.ext he⟩
theorem nats_past {w : World} {v : Value} {n g : Nat} {k : IntKind} {B : Int} (h : NatV k B w v n) (hN : NoInts w g) (i : Nat) (x : Value) : NatV k B (w.setCell ⟨g, i, none⟩ x) v n := by
  obtain ⟨A, m, c, xs, h1, h2, h3⟩ := h
  exact ⟨A, m, c, xs, h1, h2.past hN.cell i x, h3⟩
theorem NoInts.two {w : World} {g : Nat} {t : TypeId} {b : Bool} {A1 : Option Addr} {l1 c1 : Nat} (h : Blk w g t #[.bool b, .slice A1 l1 c1]) : NoInts w g :=
  ⟨t, _, h, fun v hv => by
    simp at hv
    rcases hv with rfl | rfl
    · exact noInt_bool _
    · exact noInt_slice _ _ _⟩
end Go.Proofs.Ytagcgldhhdecjaa
namespace Go.Proofs.Ytagcgldhhdecjaa
open Go.RowKit

/-- A slice's words do not lie in the block 'row'. -/
def Sep (v : Value) (row : Option Nat) : Prop := ∀ A n c, v = .slice A n c → 0 < n → ∀ b off, A = some ⟨b, off, none⟩ → row ≠ some b
theorem Sep.nil (v : Value) : Sep v none := fun _ _ _ _ _ _ _ _ h => by cases h
theorem NatV.grown {k : IntKind} {B : Int} {w w' : World} {v : Value} {n : Nat} {row : Option Nat} (h : NatV k B w v n) (hg : w.grownBy w' row) (hs : Sep v row) : NatV k B w' v n := by
  obtain ⟨A, m, c, xs, rfl, ⟨h1, h2, h3⟩, h4⟩ := h
  refine ⟨A, m, c, xs, rfl, ⟨h1, h2, fun hn => ?_⟩, h4⟩
  obtain ⟨b, off, hA, hc⟩ := h3 hn
  have hm : 0 < m := by
    rw [← h1]; rcases xs with _ | ⟨x, xs⟩
    · simp at hn
    · simp
  refine ⟨b, off, hA, fun j v hv => ?_⟩
  have hcell := hc j v hv
  rw [← hcell]
  exact World.cell?_of_block (w := w) (hg.block b (World.block_lt_of_cell? w _ hcell) (fun e => hs A m c rfl hm b off hA e.symm))
theorem Sep.new {k : IntKind} {B : Int} {w : World} {v : Value} {n : Nat} (h : NatV k B w v n) {s : Nat} (hs : w.heap.size ≤ s) : Sep v (some s) := by
  obtain ⟨A, m, c, xs, rfl, ⟨h1, h2, h3⟩, h4⟩ := h
  intro A' n' c' e hn b off hA hb
  injection e with e1 e2 e3
  subst e1 e2 e3
  rcases xs with _ | ⟨x, xs⟩
  · simp at h1; omega
  · obtain ⟨b', off', hA', hc⟩ := h3 (by simp)
    rw [hA] at hA'
    injection hA' with hA'
    injection hA' with hb' _ _
    subst hb'
    have := World.block_lt_of_cell? w _ (hc 0 _ rfl)
    injection hb with hb
    simp only at this
    omega
end Go.Proofs.Ytagcgldhhdecjaa
namespace Go.Proofs.Ytagcgldhhdecjaa
open Go.RowKit

theorem FitQ.mono {q : Rat} {L M : Nat} (h : FitQ q L) (hl : L ≤ M) : FitQ q M := ⟨h.1.mono (by omega) hl, h.2.mono (by omega) hl⟩

section
variable {va vb : Value} {a b : Rat} {L M : Nat} {w : World}
end
end Go.Proofs.Ytagcgldhhdecjaa
namespace Go.Proofs.Ytagcgldhhdecjaa
open Go.RowKit

theorem Z16.two {w : World} {v : Value} {n g : Nat} (h : Z16 w v n) (hN : NoInts w g) (b : Bool) (A : Option Addr) (l c : Nat) : Z16 ((w.setCell ⟨g, 0, none⟩ (.bool b)).setCell ⟨g, 1, none⟩ (.slice A l c)) v n :=
  nats_past (nats_past h hN 0 _) (hN.set 0 (noInt_bool _)) 1 _
theorem Z16.box3 {w : World} {v : Value} {n g : Nat} (h : Z16 w v n) (hN : NoInts w g) (b : Bool) (A B : Option Addr) (l c m k : Nat) : Z16 (((w.setCell ⟨g, 0, none⟩ (.bool b)).setCell ⟨g, 1, none⟩ (.slice A l c)).setCell ⟨g, 2, none⟩ (.slice B m k)) v n :=
  nats_past (h.two hN b A l c) ((hN.set 0 (noInt_bool _)).set 1 (noInt_slice _ _ _)) 2 _
end Go.Proofs.Ytagcgldhhdecjaa
namespace Go.Proofs.Ytagcgldhhdecjaa
open Go.RowKit

/-- A rational number of the reference. -/
def QZ (w : World) (v : Value) (q : Rat) : Prop := ∃ b A l c B m k, v = .agg #[.bool b, .slice A l c, .slice B m k] ∧ b = decide (q.num < 0) ∧ Z16 w (.slice A l c) q.num.natAbs ∧ Z16 w (.slice B m k) q.den
theorem QZ.ext {w w' : World} {v : Value} {q : Rat} (h : QZ w v q) (he : Ext w w') : QZ w' v q := by
  obtain ⟨b, A, l, c, B, m, k, h0, h1, h2, h3⟩ := h
  exact ⟨b, A, l, c, B, m, k, h0, h1, h2.ext he, h3.ext he⟩
section
variable {w : World} {b : Bool} {A B : Option Addr} {l c m k : Nat} {q : Rat}
theorem QZ.num (h : QZ w (.agg #[.bool b, .slice A l c, .slice B m k]) q) : IntZ w (.agg #[.bool b, .slice A l c]) q.num := by
  obtain ⟨b', A', l', c', B', m', k', e, h1, h2, h3⟩ := h
  simp only [Value.agg.injEq, Array.mk.injEq, List.cons.injEq, Value.bool.injEq, Value.slice.injEq, and_true] at e
  obtain ⟨rfl, ⟨rfl, rfl, rfl⟩, rfl, rfl, rfl⟩ := e
  exact ⟨_, _, _, by rw [h1], h2⟩
theorem QZ.sgn (h : QZ w (.agg #[.bool b, .slice A l c, .slice B m k]) q) : b = decide (q.num < 0) := by
  obtain ⟨b', A', l', c', B', m', k', e, h1, h2, h3⟩ := h
  simp only [Value.agg.injEq, Array.mk.injEq, List.cons.injEq, Value.bool.injEq, Value.slice.injEq, and_true] at e
  rw [e.1, h1]
theorem QZ.nat (h : QZ w (.agg #[.bool b, .slice A l c, .slice B m k]) q) : Z16 w (.slice A l c) q.num.natAbs := by
  obtain ⟨b', A', l', c', B', m', k', e, h1, h2, h3⟩ := h
  simp only [Value.agg.injEq, Array.mk.injEq, List.cons.injEq, Value.bool.injEq, Value.slice.injEq, and_true] at e
  obtain ⟨rfl, ⟨rfl, rfl, rfl⟩, rfl, rfl, rfl⟩ := e
  exact h2
theorem QZ.den (h : QZ w (.agg #[.bool b, .slice A l c, .slice B m k]) q) : Z16 w (.slice B m k) q.den := by
  obtain ⟨b', A', l', c', B', m', k', e, h1, h2, h3⟩ := h
  simp only [Value.agg.injEq, Array.mk.injEq, List.cons.injEq, Value.bool.injEq, Value.slice.injEq, and_true] at e
  obtain ⟨rfl, ⟨rfl, rfl, rfl⟩, rfl, rfl, rfl⟩ := e
  exact h3
theorem QZ.past (h : QZ w (.agg #[.bool b, .slice A l c, .slice B m k]) q) {g : Nat} (hN : NoInts w g) : QZ (((w.setCell ⟨g, 0, none⟩ (.bool b)).setCell ⟨g, 1, none⟩ (.slice A l c)).setCell ⟨g, 2, none⟩ (.slice B m k)) (.agg #[.bool b, .slice A l c, .slice B m k]) q :=
  ⟨_, _, _, _, _, _, _, rfl, h.sgn, h.nat.box3 hN _ _ _ _ _ _ _, h.den.box3 hN _ _ _ _ _ _ _⟩
end
/-- What a call returns that makes a rational number. -/
def RetQz (w : World) (q : Rat) (e : Ending) (w' : World) : Prop := ∃ v, e = .returned v ∧ QZ w' v q ∧ Ext w w'
/-- How many limbs a rational number has. -/
def FitR (q : Rat) (L : Nat) : Prop := Fit 65536 q.num.natAbs L ∧ Fit 65536 q.den L
theorem FitR.mono {q : Rat} {L M : Nat} (h : FitR q L) (k : L ≤ M) : FitR q M := ⟨h.1.mono (by omega) k, h.2.mono (by omega) k⟩
theorem RetQz.of {w : World} {q r : Rat} (h : q = r) : ∀ e w', RetQz w q e w' → RetQz w r e w' := by rintro e w' ⟨v, h1, h2, h3⟩; exact ⟨v, h1, h ▸ h2, h3⟩
end Go.Proofs.Ytagcgldhhdecjaa
namespace Go.Proofs.Ytagcgldhhdecjaa
open Go.RowKit

theorem Z16.pos {w : World} {A : Option Addr} {l c n : Nat} (h : Z16 w (.slice A l c) n) : IntZ w (.agg #[.bool false, .slice A l c]) (n : Int) := ⟨A, l, c, by rw [decide_eq_false (by omega)], h⟩
theorem QZ.mk' {w : World} {b : Bool} {A B : Option Addr} {l c m k : Nat} {q : Rat} (hb : b = decide (q.num < 0)) (h : Z16 w (.slice A l c) q.num.natAbs) (h' : Z16 w (.slice B m k) q.den) : QZ w (.agg #[.bool b, .slice A l c, .slice B m k]) q :=
  ⟨_, _, _, _, _, _, _, rfl, hb, h, h'⟩
end Go.Proofs.Ytagcgldhhdecjaa
namespace Go.Proofs.Ytagcgldhhdecjaa
open Go.RowKit

theorem IntZ.past {w : World} {v : Value} {z : Int} {g : Nat} (h : IntZ w v z) (hN : NoInts w g) {b : Bool} {A : Option Addr} {l c : Nat} : IntZ ((w.setCell ⟨g, 0, none⟩ (.bool b)).setCell ⟨g, 1, none⟩ (.slice A l c)) v z := by
  obtain ⟨A', l', c', h1, h2⟩ := h
  exact ⟨A', l', c', h1, h2.two hN _ _ _ _⟩
end Go.Proofs.Ytagcgldhhdecjaa
namespace Go.Proofs.Ytagcgldhhdecjaa
open Go.RowKit

/-- Some rational numbers of the reference in a row. -/
def QsAt (w : World) (A : Option Addr) (n : Nat) (qs : List Rat) : Prop := qs.length = n ∧ ∀ j q, qs[j]? = some q → ∃ b o s A' l c B m k, A = some ⟨b, o, none⟩ ∧ w.cell? ⟨b, o + j * 3, none⟩ = some (.bool s) ∧ w.cell? ⟨b, o + j * 3 + 1, none⟩ = some (.slice A' l c) ∧ w.cell? ⟨b, o + j * 3 + 2, none⟩ = some (.slice B m k) ∧ QZ w (.agg #[.bool s, .slice A' l c, .slice B m k]) q
theorem QsAt.ext {w w' : World} {A : Option Addr} {n : Nat} {qs : List Rat} (h : QsAt w A n qs) (he : Ext w w') : QsAt w' A n qs := ⟨h.1, fun j q hq => by
  obtain ⟨b, o, s, A', l, c, B, m, k, h1, h2, h3, h4, h5⟩ := h.2 j q hq
  exact ⟨b, o, s, A', l, c, B, m, k, h1, he.cell h2, he.cell h3, he.cell h4, h5.ext he⟩⟩
end Go.Proofs.Ytagcgldhhdecjaa
namespace Go.Proofs.Ytagcgldhhdecjaa
open Go.RowKit

def Ret.cells (r : Ret) : List Value := [.int .i64 r.num, .int .i64 r.of, .int .i64 r.lo, .int .i64 r.hi, .int .i64 r.top, .int .i64 r.energy]
/-- Returns as cells. -/
def rtV (rs : List Ret) : List Value := rs.flatMap Ret.cells
theorem rtV_get {rs : List Ret} {j : Nat} {r : Ret} (h : rs[j]? = some r) : ∀ i u, r.cells[i]? = some u → (rtV rs)[j * 6 + i]? = some u := by
  induction rs generalizing j with
  | nil => simp at h
  | cons x rs ih =>
    intro i u hi
    have e1 : rtV (x :: rs) = x.cells ++ rtV rs := rfl
    have hl : x.cells.length = 6 := rfl
    rw [e1]
    cases j with
    | zero =>
      simp at h; subst h
      have : i < 6 := by have := (List.getElem?_eq_some_iff.1 hi).1; simpa [Ret.cells] using this
      rw [List.getElem?_append_left (by omega)]
      simpa using hi
    | succ j =>
      rw [List.getElem?_append_right (by omega), hl, show (j + 1) * 6 + i - 6 = j * 6 + i by omega]
      exact ih (by simpa using h) i u hi
/-- A slice of returns reads as rs. -/
def RtR (w : World) (A : Option Addr) (n : Nat) (rs : List Ret) : Prop := rs.length = n ∧ At w A (rtV rs)
theorem RtR.ext {w w' : World} {A : Option Addr} {n : Nat} {rs : List Ret} (h : RtR w A n rs) (he : Ext w w') : RtR w' A n rs := ⟨h.1, h.2.ext he⟩
theorem RtR.get {w : World} {A : Option Addr} {n : Nat} {rs : List Ret} (h : RtR w A n rs) {j : Nat} (hj : j < n) : ∃ b off r, A = some ⟨b, off, none⟩ ∧ rs[j]? = some r ∧ ∀ i u, r.cells[i]? = some u → w.cell? ⟨b, off + j * 6 + i, none⟩ = some u := by
  obtain ⟨h1, h2⟩ := h
  have hr : rs[j]? = some rs[j] := List.getElem?_eq_getElem (by omega)
  have g0 := rtV_get hr 0 _ rfl
  obtain ⟨b, off, hA, hc⟩ := h2 (by intro e; rw [e] at g0; simp at g0)
  exact ⟨b, off, _, hA, hr, fun i u hi => by rw [Nat.add_assoc]; exact hc _ _ (rtV_get hr i u hi)⟩
end Go.Proofs.Ytagcgldhhdecjaa
namespace Go.Proofs.Ytagcgldhhdecjaa

def Lead (k : Nat) (xs : List Int) : Prop := ∀ j, j < k → ∃ x, xs[j]? = some x ∧ 128 ≤ x

theorem Lead.zero (xs : List Int) : Lead 0 xs := fun j hj => absurd hj (by omega)
theorem Lead.succ {k : Nat} {xs : List Int} {x : Int} (h : Lead k xs) (hx : xs[k]? = some x) (h1 : 128 ≤ x) : Lead (k + 1) xs := fun j hj => by
  by_cases e : j = k
  · subst e; exact ⟨x, hx, h1⟩
  · exact h j (by omega)

section
variable {k : Nat} {xs : List Int} {x : Int}
end

/-- The encoding of a number: groups of seven bits, the least one first. -/
def encF : Nat → Int → List Int
  | 0, m => [m]
  | f + 1, m => if 128 ≤ m then (m % 128 + 128) :: encF f (m / 128) else [m]

def enc (m : Int) : List Int := encF 9 m

theorem encF_more {f : Nat} {m : Int} (h : 128 ≤ m) : encF (f + 1) m = (m % 128 + 128) :: encF f (m / 128) := by simp [encF, h]
theorem encF_last {f : Nat} {m : Int} (h : m < 128) : encF f m = [m] := by cases f <;> simp [encF]; omega
/-- Where the encoding of 'm' stands after 'pre' was written and 'm'' is left. -/
def EncAt (m : Int) (pre : List Int) (m' : Int) : Prop := ∃ f, pre ++ encF f m' = enc m ∧ pre.length + f = 9 ∧ 0 ≤ m' ∧ m' < 128 ^ (f + 1) ∧ ∀ x ∈ pre, 0 ≤ x ∧ x ≤ 255
theorem EncAt.start {m : Int} (h0 : 0 ≤ m) (h1 : m ≤ 4611686018427387903) : EncAt m [] m := ⟨9, rfl, rfl, h0, by simp; omega, by simp⟩
theorem EncAt.step {m m' : Int} {pre : List Int} (h : EncAt m pre m') (hg : 128 ≤ m') : EncAt m (pre ++ [m' % 128 + 128]) (m' / 128) := by
  obtain ⟨f, h1, h2, h3, h4, h5⟩ := h
  cases f with
  | zero => simp at h4; omega
  | succ f =>
    refine ⟨f, by rw [← h1, encF_more hg]; simp, by simp; omega, by omega, by rw [Int.pow_succ] at h4; omega, ?_⟩
    intro x hx
    rcases List.mem_append.1 hx with hx | hx
    · exact h5 x hx
    · simp at hx; omega
theorem EncAt.done {m m' : Int} {pre : List Int} (h : EncAt m pre m') (hl : m' < 128) : pre ++ [m'] = enc m := by
  obtain ⟨f, h1, _⟩ := h
  rw [← h1, encF_last hl]
theorem EncAt.len {m m' : Int} {pre : List Int} (h : EncAt m pre m') : pre.length ≤ 9 := by
  obtain ⟨f, _, h2, _⟩ := h; omega
theorem EncAt.pos {m m' : Int} {pre : List Int} (h : EncAt m pre m') : 0 ≤ m' := by
  obtain ⟨f, _, _, h3, _⟩ := h; exact h3
end Go.Proofs.Ytagcgldhhdecjaa
namespace Go.Proofs.Ytagcgldhhdecjaa

structure Pul where
  time : Int
  q0 : Int
  q1 : Int
  q2 : Int
  q3 : Int
  smp : List Int
def QOk (q : Int) : Prop := -1000 ≤ q ∧ q ≤ 1000
instance (q : Int) : Decidable (QOk q) := inferInstanceAs (Decidable (_ ∧ _))
def PulOk (p : Pul) : Prop := 0 ≤ p.time ∧ p.time ≤ 1125899906842624 ∧ ¬ (p.q0 = 0 ∧ p.q1 = 0 ∧ p.q2 = 0 ∧ p.q3 = 0) ∧ Smp p.smp ∧ QOk p.q0 ∧ QOk p.q1 ∧ QOk p.q2 ∧ QOk p.q3
instance (p : Pul) : Decidable (PulOk p) := inferInstanceAs (Decidable (_ ∧ _))
end Go.Proofs.Ytagcgldhhdecjaa
namespace Go.Proofs.Ytagcgldhhdecjaa
open Go.RowKit

/-- Steps as cells. -/
def stV (ss : List (Int × Int)) : List Value := ss.flatMap fun s => [.int .i64 s.1, .int .i64 s.2]
theorem stV_get {ss : List (Int × Int)} {j : Nat} {s : Int × Int} (h : ss[j]? = some s) : (stV ss)[j * 2]? = some (.int .i64 s.1) ∧ (stV ss)[j * 2 + 1]? = some (.int .i64 s.2) := by
  induction ss generalizing j with
  | nil => simp at h
  | cons x rs ih =>
    have e : stV (x :: rs) = .int .i64 x.1 :: .int .i64 x.2 :: stV rs := rfl
    rw [e]
    cases j with
    | zero => simp at h; subst h; exact ⟨rfl, rfl⟩
    | succ j =>
      have := ih (j := j) (by simpa using h)
      rw [show (j + 1) * 2 = j * 2 + 1 + 1 by omega]
      simpa using this
/-- Steps in memory. -/
def StL (base : Nat) (w : World) (v : Value) (ss : List (Int × Int)) : Prop := w.ownsRow base 94 2 v ss.length (stV ss)
theorem StL.ext {base : Nat} {w w' : World} {v : Value} {ss : List (Int × Int)} (h : StL base w v ss) (he : Ext w w') : StL base w' v ss := World.ownsRow.ext' h he
theorem StL.nil (base : Nat) (w : World) : StL base w (.slice none 0 0) [] := World.ownsRow_nil _ _ _ _
theorem StL.get {base : Nat} {w : World} {v : Value} {ss : List (Int × Int)} (h : StL base w v ss) {j : Nat} (hj : j < ss.length) : ∃ g c s, v = .slice (some ⟨g, 0, none⟩) ss.length c ∧ ss[j]? = some s ∧ w.cell? ⟨g, j * 2, none⟩ = some (.int .i64 s.1) ∧ w.cell? ⟨g, j * 2 + 1, none⟩ = some (.int .i64 s.2) := by
  obtain ⟨A, c, rfl⟩ := own_slice h
  obtain ⟨g, rfl, _, _⟩ := own_at0 h (by omega)
  have hr : ss[j]? = some ss[j] := List.getElem?_eq_getElem hj
  obtain ⟨h1, h2⟩ := stV_get hr
  exact ⟨g, c, _, rfl, hr, (h.cellAt (j * 2) (by omega)).trans h1, (h.cellAt (j * 2 + 1) (by omega)).trans h2⟩
end Go.Proofs.Ytagcgldhhdecjaa
namespace Go.Proofs.Ytagcgldhhdecjaa
open Go.RowKit

/-- A pulse as a value. -/
def Pul.val (p : Pul) (A : Option Addr) (n c : Nat) : Value := .agg #[.int .i64 p.time, .int .i64 p.q0, .int .i64 p.q1, .int .i64 p.q2, .int .i64 p.q3, .slice A n c]

end Go.Proofs.Ytagcgldhhdecjaa
namespace Go.Proofs.Ytagcgldhhdecjaa
open Go.RowKit

def WithE (n : Nat) (e : Ech) : Prop := 0 ≤ e.frm ∧ e.frm < n ∧ e.frm < e.til ∧ e.til ≤ n
instance (n : Nat) (e : Ech) : Decidable (WithE n e) := inferInstanceAs (Decidable (_ ∧ _))
end Go.Proofs.Ytagcgldhhdecjaa
namespace Go.Proofs.Ytagcgldhhdecjaa
open Go.RowKit

/-- Returns in memory. -/
def RtL (base : Nat) (w : World) (v : Value) (rs : List Ret) : Prop := w.ownsRow base 62 6 v rs.length (rtV rs)
theorem RtL.ext {base : Nat} {w w' : World} {v : Value} {rs : List Ret} (h : RtL base w v rs) (he : Ext w w') : RtL base w' v rs := World.ownsRow.ext' h he
theorem RtL.nil (base : Nat) (w : World) : RtL base w (.slice none 0 0) [] := World.ownsRow_nil _ _ _ _
theorem echoesF_ok {l : List Int} {d : Det} (hd : DetOk d) (hs : Smp l) : echoesF l d = ((allE l d).take 15, 0) := by
  unfold echoesF
  rw [if_neg (fun h => h hd)]
  by_cases hl : l = []
  · subst hl
    rw [if_pos rfl]
    rfl
  · rw [if_neg hl, if_neg (fun h => h hs)]
end Go.Proofs.Ytagcgldhhdecjaa
namespace Go.Proofs.Ytagcgldhhdecjaa
open Go.RowKit

theorem sixt_get {H : List Int} {j : Nat} (h : j < H.length) : ((H.map (· / 16)).map (Value.int .i64))[j]? = some (.int .i64 (H.getD j 0 / 16)) := by
  rw [List.getElem?_map, List.getElem?_map, List.getD_eq_getElem?_getD, List.getElem?_eq_getElem h]
  rfl

set_option maxRecDepth 100000 in
set_option maxHeartbeats 2000000 in
theorem wb_r17 (gl ge n cl N ce j k : Nat) (lj y3 : Int) (bb : Bool) (w : World) (l0 : w.cell? ⟨gl, j, none⟩ = some (.int .i64 lj)) (e3 : w.cell? ⟨ge, k * 5 + 3, none⟩ = some (.int .i64 y3)) (hj : j < n) (hk : k < N) (hb : decide (lj < y3) = bb) (a : Act) (Q : Exit → Act → World → Prop) (hsize : 87 ≤ a.tmps.size)
    (s5 : a.tmps[5]? = some (.slice (some ⟨gl, 0, none⟩) n cl))
    (s7 : a.tmps[7]? = some (.slice (some ⟨ge, 0, none⟩) N ce))
    (s8 : a.tmps[8]? = some (.int .i64 (k : Int)))
    (s11 : a.tmps[11]? = some (.int .i64 (j : Int)))
    (hend : ∀ (xv0 xv1 xv2 xv3 xv4 xv5 xv6 xv7 xv8 xv9 xv10 xv11 xv12 xv13 xv14 xv15 : Value) (W : World), (xv0 = .int .i64 (j : Int)) → (xv1 = .slice (some ⟨gl, 0, none⟩) n cl) → (xv2 = .int .i64 (n : Int)) → (xv3 = .bool true) → (xv4 = .bool true) → (xv5 = .slice (some ⟨gl, 0, none⟩) n cl) → (xv6 = .int .i64 (j : Int)) → (xv7 = .pointer (some ⟨gl, j, none⟩)) → (xv8 = .int .i64 (lj)) → (xv9 = .slice (some ⟨ge, 0, none⟩) N ce) → (xv10 = .int .i64 (k : Int)) → (xv11 = .pointer (some ⟨ge, k * 5, none⟩)) → (xv12 = .pointer (some ⟨ge, k * 5 + 3, none⟩)) → (xv13 = .int .i64 (y3)) → (xv14 = .bool bb) → (xv15 = .bool bb) → Ext w W → wpList Try.prog (rops Try.f10 17).toArray Q ((rops Try.f10 17).drop 16) ((((((((((((((((a.put (some 71) xv0).put (some 72) xv1).put (some 73) xv2).put (some 74) xv3).put (some 75) xv4).put (some 76) xv5).put (some 77) xv6).put (some 78) xv7).put (some 79) xv8).put (some 80) xv9).put (some 81) xv10).put (some 82) xv11).put (some 83) xv12).put (some 84) xv13).put (some 85) xv14).put (some 86) xv15) W) :
    (Code.region 17 (rops Try.f10 17).toArray true).wp Try.prog Q a w := by
  have hmono : ∀ (W W' : World) (j : Nat) (u : Value), Ext W W' → (fun (i : Nat) (v : Value) (W : World) => match i with
    | 0 => v = .int .i64 (j : Int)
    | 1 => v = .slice (some ⟨gl, 0, none⟩) n cl
    | 2 => v = .int .i64 (n : Int)
    | 3 => v = .bool true
    | 4 => v = .bool true
    | 5 => v = .slice (some ⟨gl, 0, none⟩) n cl
    | 6 => v = .int .i64 (j : Int)
    | 7 => v = .pointer (some ⟨gl, j, none⟩)
    | 8 => v = .int .i64 (lj)
    | 9 => v = .slice (some ⟨ge, 0, none⟩) N ce
    | 10 => v = .int .i64 (k : Int)
    | 11 => v = .pointer (some ⟨ge, k * 5, none⟩)
    | 12 => v = .pointer (some ⟨ge, k * 5 + 3, none⟩)
    | 13 => v = .int .i64 (y3)
    | 14 => v = .bool bb
    | 15 => v = .bool bb
    | _ => True) j u W → (fun (i : Nat) (v : Value) (W : World) => match i with
    | 0 => v = .int .i64 (j : Int)
    | 1 => v = .slice (some ⟨gl, 0, none⟩) n cl
    | 2 => v = .int .i64 (n : Int)
    | 3 => v = .bool true
    | 4 => v = .bool true
    | 5 => v = .slice (some ⟨gl, 0, none⟩) n cl
    | 6 => v = .int .i64 (j : Int)
    | 7 => v = .pointer (some ⟨gl, j, none⟩)
    | 8 => v = .int .i64 (lj)
    | 9 => v = .slice (some ⟨ge, 0, none⟩) N ce
    | 10 => v = .int .i64 (k : Int)
    | 11 => v = .pointer (some ⟨ge, k * 5, none⟩)
    | 12 => v = .pointer (some ⟨ge, k * 5 + 3, none⟩)
    | 13 => v = .int .i64 (y3)
    | 14 => v = .bool bb
    | 15 => v = .bool bb
    | _ => True) j u W' := by
    intro W W' j u hX h
    match j, h with
    | 0, h => exact h
    | 1, h => exact h
    | 2, h => exact h
    | 3, h => exact h
    | 4, h => exact h
    | 5, h => exact h
    | 6, h => exact h
    | 7, h => exact h
    | 8, h => exact h
    | 9, h => exact h
    | 10, h => exact h
    | 11, h => exact h
    | 12, h => exact h
    | 13, h => exact h
    | 14, h => exact h
    | 15, h => exact h
    | _ + 16, h => exact h
  have hsz : ∀ d, some d ∈ ([some 71, some 72, some 73, some 74, some 75, some 76, some 77, some 78, some 79, some 80, some 81, some 82, some 83, some 84, some 85, some 86] : List (Option Tmp)) → d < a.tmps.size := slots_lt (by decide) hsize
  refine wp_region_j 16 [some 71, some 72, some 73, some 74, some 75, some 76, some 77, some 78, some 79, some 80, some 81, some 82, some 83, some 84, some 85, some 86] [[], [], [1], [0, 2], [3], [4], [4], [4, 5, 6], [4, 7], [4], [4], [4, 9, 10], [4, 11], [4, 12], [4, 8, 13], [4, 14]] [[], [], [], [], [], [], [], [], [], [], [], [], [], [], [], []] (fun (i : Nat) (v : Value) (W : World) => match i with
    | 0 => v = .int .i64 (j : Int)
    | 1 => v = .slice (some ⟨gl, 0, none⟩) n cl
    | 2 => v = .int .i64 (n : Int)
    | 3 => v = .bool true
    | 4 => v = .bool true
    | 5 => v = .slice (some ⟨gl, 0, none⟩) n cl
    | 6 => v = .int .i64 (j : Int)
    | 7 => v = .pointer (some ⟨gl, j, none⟩)
    | 8 => v = .int .i64 (lj)
    | 9 => v = .slice (some ⟨ge, 0, none⟩) N ce
    | 10 => v = .int .i64 (k : Int)
    | 11 => v = .pointer (some ⟨ge, k * 5, none⟩)
    | 12 => v = .pointer (some ⟨ge, k * 5 + 3, none⟩)
    | 13 => v = .int .i64 (y3)
    | 14 => v = .bool bb
    | 15 => v = .bool bb
    | _ => True) (fun _ W => Ext w W) (by kernel_rfl) (by kernel_rfl) hsz (fun _ _ _ _ h => h) ((Ext.refl w).drew) ?_ ?_
  · clear hend
    simp only [rops, Try.f10, regOf, Option.bind_some, Nat.reduceBEq, if_true, if_false, Bool.false_eq_true, Option.getD_some]
    simp only [List.take_succ_cons, List.take_zero]
    refine ⟨?_, ?_, ?_, ?_, ?_, ?_, ?_, ?_, ?_, ?_, ?_, ?_, ?_, ?_, ?_, ?_, trivial⟩
    · intro done us W hJ hdep haft hnot b hb hb' K hK Q'
      have e11 := (hb' 11 (by simp)).trans s11
      clear hb hb'
      go_simp
      exact hK _ _ rfl (fun _ _ _ h => h) hJ
    · intro done us W hJ hdep haft hnot b hb hb' K hK Q'
      have e5 := (hb' 5 (by simp)).trans s5
      clear hb hb'
      go_simp
      exact hK _ _ rfl (fun _ _ _ h => h) hJ
    · intro done us W hJ hdep haft hnot b hb hb' K hK Q'
      simp only [List.getD_cons_succ, List.getD_cons_zero, List.mem_cons, List.not_mem_nil, or_false, forall_eq] at hdep
      have e72 := hb 1 72 rfl
      have d1 := hdep
      rw [d1.1] at e72
      clear hb hb' hdep d1
      go_simp
      exact hK _ _ rfl (fun _ _ _ h => h) hJ
    · intro done us W hJ hdep haft hnot b hb hb' K hK Q'
      simp only [List.getD_cons_succ, List.getD_cons_zero, List.mem_cons, List.not_mem_nil, or_false, forall_eq_or_imp, forall_eq] at hdep
      have e71 := hb 0 71 rfl
      have e73 := hb 2 73 rfl
      have d0 := hdep.1
      have d2 := hdep.2
      rw [d0.1] at e71
      rw [d2.1] at e73
      clear hb hb' hdep d0 d2
      go_simp
      exact hK _ _ rfl (fun _ _ _ h => h) hJ
    · intro done us W hJ hdep haft hnot b hb hb' K hK Q'
      simp only [List.getD_cons_succ, List.getD_cons_zero, List.mem_cons, List.not_mem_nil, or_false, forall_eq] at hdep
      have e74 := hb 3 74 rfl
      have d3 := hdep
      rw [d3.1] at e74
      clear hb hb' hdep d3
      go_simp
      exact hK _ _ rfl (fun _ _ _ h => h) hJ
    · intro done us W hJ hdep haft hnot b hb hb' K hK Q'
      simp only [List.getD_cons_succ, List.getD_cons_zero, List.mem_cons, List.not_mem_nil, or_false, forall_eq] at hdep
      have e5 := (hb' 5 (by simp)).trans s5
      have e75 := hb 4 75 rfl
      have d4 := hdep
      rw [d4.1] at e75
      clear hb hb' hdep d4
      go_simp
      exact hK _ _ rfl (fun _ _ _ h => h) hJ
    · intro done us W hJ hdep haft hnot b hb hb' K hK Q'
      simp only [List.getD_cons_succ, List.getD_cons_zero, List.mem_cons, List.not_mem_nil, or_false, forall_eq] at hdep
      have e11 := (hb' 11 (by simp)).trans s11
      have e75 := hb 4 75 rfl
      have d4 := hdep
      rw [d4.1] at e75
      clear hb hb' hdep d4
      go_simp
      exact hK _ _ rfl (fun _ _ _ h => h) hJ
    · intro done us W hJ hdep haft hnot b hb hb' K hK Q'
      simp only [List.getD_cons_succ, List.getD_cons_zero, List.mem_cons, List.not_mem_nil, or_false, forall_eq_or_imp, forall_eq] at hdep
      have e75 := hb 4 75 rfl
      have e76 := hb 5 76 rfl
      have e77 := hb 6 77 rfl
      have d4 := hdep.1
      have d5 := hdep.2.1
      have d6 := hdep.2.2
      rw [d4.1] at e75
      rw [d5.1] at e76
      rw [d6.1] at e77
      clear hb hb' hdep d4 d5 d6
      go_simp
      exact hK _ _ rfl (fun _ _ _ h => h) hJ
    · intro done us W hJ hdep haft hnot b hb hb' K hK Q'
      simp only [List.getD_cons_succ, List.getD_cons_zero, List.mem_cons, List.not_mem_nil, or_false, forall_eq_or_imp, forall_eq] at hdep
      have e75 := hb 4 75 rfl
      have e78 := hb 7 78 rfl
      have d4 := hdep.1
      have d7 := hdep.2
      rw [d4.1] at e75
      rw [d7.1] at e78
      clear hb hb' hdep d4 d7
      have q := Ext.cell hJ l0
      go_simp
      exact hK _ _ rfl (fun _ _ _ h => h) hJ
    · intro done us W hJ hdep haft hnot b hb hb' K hK Q'
      simp only [List.getD_cons_succ, List.getD_cons_zero, List.mem_cons, List.not_mem_nil, or_false, forall_eq] at hdep
      have e7 := (hb' 7 (by simp)).trans s7
      have e75 := hb 4 75 rfl
      have d4 := hdep
      rw [d4.1] at e75
      clear hb hb' hdep d4
      go_simp
      exact hK _ _ rfl (fun _ _ _ h => h) hJ
    · intro done us W hJ hdep haft hnot b hb hb' K hK Q'
      simp only [List.getD_cons_succ, List.getD_cons_zero, List.mem_cons, List.not_mem_nil, or_false, forall_eq] at hdep
      have e8 := (hb' 8 (by simp)).trans s8
      have e75 := hb 4 75 rfl
      have d4 := hdep
      rw [d4.1] at e75
      clear hb hb' hdep d4
      go_simp
      exact hK _ _ rfl (fun _ _ _ h => h) hJ
    · intro done us W hJ hdep haft hnot b hb hb' K hK Q'
      simp only [List.getD_cons_succ, List.getD_cons_zero, List.mem_cons, List.not_mem_nil, or_false, forall_eq_or_imp, forall_eq] at hdep
      have e75 := hb 4 75 rfl
      have e80 := hb 9 80 rfl
      have e81 := hb 10 81 rfl
      have d4 := hdep.1
      have d9 := hdep.2.1
      have d10 := hdep.2.2
      rw [d4.1] at e75
      rw [d9.1] at e80
      rw [d10.1] at e81
      clear hb hb' hdep d4 d9 d10
      go_simp
      exact hK _ _ rfl (fun _ _ _ h => h) hJ
    · intro done us W hJ hdep haft hnot b hb hb' K hK Q'
      simp only [List.getD_cons_succ, List.getD_cons_zero, List.mem_cons, List.not_mem_nil, or_false, forall_eq_or_imp, forall_eq] at hdep
      have e75 := hb 4 75 rfl
      have e82 := hb 11 82 rfl
      have d4 := hdep.1
      have d11 := hdep.2
      rw [d4.1] at e75
      rw [d11.1] at e82
      clear hb hb' hdep d4 d11
      go_simp
      exact hK _ _ rfl (fun _ _ _ h => h) hJ
    · intro done us W hJ hdep haft hnot b hb hb' K hK Q'
      simp only [List.getD_cons_succ, List.getD_cons_zero, List.mem_cons, List.not_mem_nil, or_false, forall_eq_or_imp, forall_eq] at hdep
      have e75 := hb 4 75 rfl
      have e83 := hb 12 83 rfl
      have d4 := hdep.1
      have d12 := hdep.2
      rw [d4.1] at e75
      rw [d12.1] at e83
      clear hb hb' hdep d4 d12
      have q := Ext.cell hJ e3
      go_simp
      exact hK _ _ rfl (fun _ _ _ h => h) hJ
    · intro done us W hJ hdep haft hnot b hb hb' K hK Q'
      simp only [List.getD_cons_succ, List.getD_cons_zero, List.mem_cons, List.not_mem_nil, or_false, forall_eq_or_imp, forall_eq] at hdep
      have e75 := hb 4 75 rfl
      have e79 := hb 8 79 rfl
      have e84 := hb 13 84 rfl
      have d4 := hdep.1
      have d8 := hdep.2.1
      have d13 := hdep.2.2
      rw [d4.1] at e75
      rw [d8.1] at e79
      rw [d13.1] at e84
      clear hb hb' hdep d4 d8 d13
      have qq := hb
      go_simp
      exact hK _ _ (by first | rfl | exact congrArg Value.bool hb) (fun _ _ _ h => h) hJ
    · intro done us W hJ hdep haft hnot b hb hb' K hK Q'
      simp only [List.getD_cons_succ, List.getD_cons_zero, List.mem_cons, List.not_mem_nil, or_false, forall_eq_or_imp, forall_eq] at hdep
      have e75 := hb 4 75 rfl
      have e85 := hb 14 85 rfl
      have d4 := hdep.1
      have d14 := hdep.2
      rw [d4.1] at e75
      rw [d14.1] at e85
      clear hb hb' hdep d4 d14
      go_simp
      exact hK _ _ rfl (fun _ _ _ h => h) hJ
  · intro us W hV hJ
    exact hend (us 0) (us 1) (us 2) (us 3) (us 4) (us 5) (us 6) (us 7) (us 8) (us 9) (us 10) (us 11) (us 12) (us 13) (us 14) (us 15) W (hV 0 (by omega)) (hV 1 (by omega)) (hV 2 (by omega)) (hV 3 (by omega)) (hV 4 (by omega)) (hV 5 (by omega)) (hV 6 (by omega)) (hV 7 (by omega)) (hV 8 (by omega)) (hV 9 (by omega)) (hV 10 (by omega)) (hV 11 (by omega)) (hV 12 (by omega)) (hV 13 (by omega)) (hV 14 (by omega)) (hV 15 (by omega)) hJ
set_option maxRecDepth 100000 in
set_option maxHeartbeats 2000000 in
theorem wb_r21 (ge n N ce bh off ch cc k : Nat) (y3 h0 h1 up al : Int) (w : World) (e3 : w.cell? ⟨ge, k * 5 + 3, none⟩ = some (.int .i64 y3)) (x0 : w.cell? ⟨bh, off + cc, none⟩ = some (.int .i64 h0)) (x1 : w.cell? ⟨bh, off + (cc + 1), none⟩ = some (.int .i64 h1)) (hc : cc + 1 < n) (hcn : cc < n) (hn : n ≤ 256) (hk : k < N) (hy0 : 0 ≤ y3) (hy1 : y3 ≤ 1023) (hh0 : 0 ≤ h0) (hh1 : h0 ≤ 16383) (hh2 : 0 ≤ h1) (hh3 : h1 ≤ 16383) (hup : 16 * y3 - h0 = up) (hal : h1 - h0 = al) (a : Act) (Q : Exit → Act → World → Prop) (hsize : 119 ≤ a.tmps.size)
    (s0 : a.tmps[0]? = some (.slice (some ⟨bh, off, none⟩) n ch))
    (s7 : a.tmps[7]? = some (.slice (some ⟨ge, 0, none⟩) N ce))
    (s8 : a.tmps[8]? = some (.int .i64 (k : Int)))
    (s11 : a.tmps[11]? = some (.int .i64 ((cc : Int) + 1)))
    (hend : ∀ (xv0 xv1 xv2 xv3 xv4 xv5 xv6 xv7 xv8 xv9 xv10 xv11 xv12 xv13 xv14 xv15 xv16 xv17 xv18 xv19 xv20 xv21 xv22 xv23 : Value) (W : World), (xv0 = .slice (some ⟨ge, 0, none⟩) N ce) → (xv1 = .int .i64 (k : Int)) → (xv2 = .pointer (some ⟨ge, k * 5, none⟩)) → (xv3 = .pointer (some ⟨ge, k * 5 + 3, none⟩)) → (xv4 = .int .i64 (y3)) → (xv5 = .int .i64 (16 * y3)) → (xv6 = .slice (some ⟨bh, off, none⟩) n ch) → (xv7 = .int .i64 ((cc : Int) + 1)) → (xv8 = .int .i64 ((cc : Int))) → (xv9 = .pointer (some ⟨bh, off + cc, none⟩)) → (xv10 = .int .i64 (h0)) → (xv11 = .int .i64 (up)) → (xv12 = .slice (some ⟨bh, off, none⟩) n ch) → (xv13 = .int .i64 ((cc : Int) + 1)) → (xv14 = .pointer (some ⟨bh, off + (cc + 1), none⟩)) → (xv15 = .int .i64 (h1)) → (xv16 = .slice (some ⟨bh, off, none⟩) n ch) → (xv17 = .int .i64 ((cc : Int) + 1)) → (xv18 = .int .i64 ((cc : Int))) → (xv19 = .pointer (some ⟨bh, off + cc, none⟩)) → (xv20 = .int .i64 (h0)) → (xv21 = .int .i64 (al)) → (xv22 = .int .i64 (up)) → (xv23 = .int .i64 (al)) → Ext w W → wpList Try.prog (rops Try.f10 21).toArray Q ((rops Try.f10 21).drop 24) ((((((((((((((((((((((((a.put (some 97) xv0).put (some 98) xv1).put (some 99) xv2).put (some 100) xv3).put (some 101) xv4).put (some 102) xv5).put (some 103) xv6).put (some 104) xv7).put (some 105) xv8).put (some 106) xv9).put (some 107) xv10).put (some 108) xv11).put (some 109) xv12).put (some 110) xv13).put (some 111) xv14).put (some 112) xv15).put (some 113) xv16).put (some 114) xv17).put (some 115) xv18).put (some 116) xv19).put (some 117) xv20).put (some 118) xv21).put (some 12) xv22).put (some 13) xv23) W) :
    (Code.region 21 (rops Try.f10 21).toArray true).wp Try.prog Q a w := by
  have hmono : ∀ (W W' : World) (j : Nat) (u : Value), Ext W W' → (fun (i : Nat) (v : Value) (W : World) => match i with
    | 0 => v = .slice (some ⟨ge, 0, none⟩) N ce
    | 1 => v = .int .i64 (k : Int)
    | 2 => v = .pointer (some ⟨ge, k * 5, none⟩)
    | 3 => v = .pointer (some ⟨ge, k * 5 + 3, none⟩)
    | 4 => v = .int .i64 (y3)
    | 5 => v = .int .i64 (16 * y3)
    | 6 => v = .slice (some ⟨bh, off, none⟩) n ch
    | 7 => v = .int .i64 ((cc : Int) + 1)
    | 8 => v = .int .i64 ((cc : Int))
    | 9 => v = .pointer (some ⟨bh, off + cc, none⟩)
    | 10 => v = .int .i64 (h0)
    | 11 => v = .int .i64 (up)
    | 12 => v = .slice (some ⟨bh, off, none⟩) n ch
    | 13 => v = .int .i64 ((cc : Int) + 1)
    | 14 => v = .pointer (some ⟨bh, off + (cc + 1), none⟩)
    | 15 => v = .int .i64 (h1)
    | 16 => v = .slice (some ⟨bh, off, none⟩) n ch
    | 17 => v = .int .i64 ((cc : Int) + 1)
    | 18 => v = .int .i64 ((cc : Int))
    | 19 => v = .pointer (some ⟨bh, off + cc, none⟩)
    | 20 => v = .int .i64 (h0)
    | 21 => v = .int .i64 (al)
    | 22 => v = .int .i64 (up)
    | 23 => v = .int .i64 (al)
    | _ => True) j u W → (fun (i : Nat) (v : Value) (W : World) => match i with
    | 0 => v = .slice (some ⟨ge, 0, none⟩) N ce
    | 1 => v = .int .i64 (k : Int)
    | 2 => v = .pointer (some ⟨ge, k * 5, none⟩)
    | 3 => v = .pointer (some ⟨ge, k * 5 + 3, none⟩)
    | 4 => v = .int .i64 (y3)
    | 5 => v = .int .i64 (16 * y3)
    | 6 => v = .slice (some ⟨bh, off, none⟩) n ch
    | 7 => v = .int .i64 ((cc : Int) + 1)
    | 8 => v = .int .i64 ((cc : Int))
    | 9 => v = .pointer (some ⟨bh, off + cc, none⟩)
    | 10 => v = .int .i64 (h0)
    | 11 => v = .int .i64 (up)
    | 12 => v = .slice (some ⟨bh, off, none⟩) n ch
    | 13 => v = .int .i64 ((cc : Int) + 1)
    | 14 => v = .pointer (some ⟨bh, off + (cc + 1), none⟩)
    | 15 => v = .int .i64 (h1)
    | 16 => v = .slice (some ⟨bh, off, none⟩) n ch
    | 17 => v = .int .i64 ((cc : Int) + 1)
    | 18 => v = .int .i64 ((cc : Int))
    | 19 => v = .pointer (some ⟨bh, off + cc, none⟩)
    | 20 => v = .int .i64 (h0)
    | 21 => v = .int .i64 (al)
    | 22 => v = .int .i64 (up)
    | 23 => v = .int .i64 (al)
    | _ => True) j u W' := by
    intro W W' j u hX h
    match j, h with
    | 0, h => exact h
    | 1, h => exact h
    | 2, h => exact h
    | 3, h => exact h
    | 4, h => exact h
    | 5, h => exact h
    | 6, h => exact h
    | 7, h => exact h
    | 8, h => exact h
    | 9, h => exact h
    | 10, h => exact h
    | 11, h => exact h
    | 12, h => exact h
    | 13, h => exact h
    | 14, h => exact h
    | 15, h => exact h
    | 16, h => exact h
    | 17, h => exact h
    | 18, h => exact h
    | 19, h => exact h
    | 20, h => exact h
    | 21, h => exact h
    | 22, h => exact h
    | 23, h => exact h
    | _ + 24, h => exact h
  have hsz : ∀ d, some d ∈ ([some 97, some 98, some 99, some 100, some 101, some 102, some 103, some 104, some 105, some 106, some 107, some 108, some 109, some 110, some 111, some 112, some 113, some 114, some 115, some 116, some 117, some 118, some 12, some 13] : List (Option Tmp)) → d < a.tmps.size := slots_lt (by decide) hsize
  refine wp_region_j 24 [some 97, some 98, some 99, some 100, some 101, some 102, some 103, some 104, some 105, some 106, some 107, some 108, some 109, some 110, some 111, some 112, some 113, some 114, some 115, some 116, some 117, some 118, some 12, some 13] [[], [], [0, 1], [2], [3], [4], [], [], [7], [6, 8], [9], [5, 10], [], [], [12, 13], [14], [], [], [17], [16, 18], [19], [15, 20], [11], [21]] [[], [], [], [], [], [], [], [], [], [], [], [], [], [], [], [], [], [], [], [], [], [], [], []] (fun (i : Nat) (v : Value) (W : World) => match i with
    | 0 => v = .slice (some ⟨ge, 0, none⟩) N ce
    | 1 => v = .int .i64 (k : Int)
    | 2 => v = .pointer (some ⟨ge, k * 5, none⟩)
    | 3 => v = .pointer (some ⟨ge, k * 5 + 3, none⟩)
    | 4 => v = .int .i64 (y3)
    | 5 => v = .int .i64 (16 * y3)
    | 6 => v = .slice (some ⟨bh, off, none⟩) n ch
    | 7 => v = .int .i64 ((cc : Int) + 1)
    | 8 => v = .int .i64 ((cc : Int))
    | 9 => v = .pointer (some ⟨bh, off + cc, none⟩)
    | 10 => v = .int .i64 (h0)
    | 11 => v = .int .i64 (up)
    | 12 => v = .slice (some ⟨bh, off, none⟩) n ch
    | 13 => v = .int .i64 ((cc : Int) + 1)
    | 14 => v = .pointer (some ⟨bh, off + (cc + 1), none⟩)
    | 15 => v = .int .i64 (h1)
    | 16 => v = .slice (some ⟨bh, off, none⟩) n ch
    | 17 => v = .int .i64 ((cc : Int) + 1)
    | 18 => v = .int .i64 ((cc : Int))
    | 19 => v = .pointer (some ⟨bh, off + cc, none⟩)
    | 20 => v = .int .i64 (h0)
    | 21 => v = .int .i64 (al)
    | 22 => v = .int .i64 (up)
    | 23 => v = .int .i64 (al)
    | _ => True) (fun _ W => Ext w W) (by kernel_rfl) (by kernel_rfl) hsz (fun _ _ _ _ h => h) ((Ext.refl w).drew) ?_ ?_
  · clear hend
    simp only [rops, Try.f10, regOf, Option.bind_some, Nat.reduceBEq, if_true, if_false, Bool.false_eq_true, Option.getD_some]
    simp only [List.take_succ_cons, List.take_zero]
    refine ⟨?_, ?_, ?_, ?_, ?_, ?_, ?_, ?_, ?_, ?_, ?_, ?_, ?_, ?_, ?_, ?_, ?_, ?_, ?_, ?_, ?_, ?_, ?_, ?_, trivial⟩
    · intro done us W hJ hdep haft hnot b hb hb' K hK Q'
      have e7 := (hb' 7 (by simp)).trans s7
      clear hb hb'
      go_simp
      exact hK _ _ rfl (fun _ _ _ h => h) hJ
    · intro done us W hJ hdep haft hnot b hb hb' K hK Q'
      have e8 := (hb' 8 (by simp)).trans s8
      clear hb hb'
      go_simp
      exact hK _ _ rfl (fun _ _ _ h => h) hJ
    · intro done us W hJ hdep haft hnot b hb hb' K hK Q'
      simp only [List.getD_cons_succ, List.getD_cons_zero, List.mem_cons, List.not_mem_nil, or_false, forall_eq_or_imp, forall_eq] at hdep
      have e97 := hb 0 97 rfl
      have e98 := hb 1 98 rfl
      have d0 := hdep.1
      have d1 := hdep.2
      rw [d0.1] at e97
      rw [d1.1] at e98
      clear hb hb' hdep d0 d1
      go_simp
      exact hK _ _ rfl (fun _ _ _ h => h) hJ
    · intro done us W hJ hdep haft hnot b hb hb' K hK Q'
      simp only [List.getD_cons_succ, List.getD_cons_zero, List.mem_cons, List.not_mem_nil, or_false, forall_eq] at hdep
      have e99 := hb 2 99 rfl
      have d2 := hdep
      rw [d2.1] at e99
      clear hb hb' hdep d2
      go_simp
      exact hK _ _ rfl (fun _ _ _ h => h) hJ
    · intro done us W hJ hdep haft hnot b hb hb' K hK Q'
      simp only [List.getD_cons_succ, List.getD_cons_zero, List.mem_cons, List.not_mem_nil, or_false, forall_eq] at hdep
      have e100 := hb 3 100 rfl
      have d3 := hdep
      rw [d3.1] at e100
      clear hb hb' hdep d3
      have q := Ext.cell hJ e3
      go_simp
      exact hK _ _ rfl (fun _ _ _ h => h) hJ
    · intro done us W hJ hdep haft hnot b hb hb' K hK Q'
      simp only [List.getD_cons_succ, List.getD_cons_zero, List.mem_cons, List.not_mem_nil, or_false, forall_eq] at hdep
      have e101 := hb 4 101 rfl
      have d4 := hdep
      rw [d4.1] at e101
      clear hb hb' hdep d4
      have qw : IntKind.i64.wrap (16 * y3) = 16 * y3 := IntWalk.i64_in _ (by omega)
      go_simp
      exact hK _ _ rfl (fun _ _ _ h => h) hJ
    · intro done us W hJ hdep haft hnot b hb hb' K hK Q'
      have e0 := (hb' 0 (by simp)).trans s0
      clear hb hb'
      go_simp
      exact hK _ _ rfl (fun _ _ _ h => h) hJ
    · intro done us W hJ hdep haft hnot b hb hb' K hK Q'
      have e11 := (hb' 11 (by simp)).trans s11
      clear hb hb'
      go_simp
      exact hK _ _ rfl (fun _ _ _ h => h) hJ
    · intro done us W hJ hdep haft hnot b hb hb' K hK Q'
      simp only [List.getD_cons_succ, List.getD_cons_zero, List.mem_cons, List.not_mem_nil, or_false, forall_eq] at hdep
      have e104 := hb 7 104 rfl
      have d7 := hdep
      rw [d7.1] at e104
      clear hb hb' hdep d7
      have qw : IntKind.i64.wrap ((cc : Int) + 1 - 1) = (cc : Int) := (IntWalk.i64_in _ (by omega)).trans (by omega)
      have qw2 : IntKind.i64.wrap (cc : Int) = (cc : Int) := IntWalk.i64_in _ (by omega)
      go_simp
      exact hK _ _ rfl (fun _ _ _ h => h) hJ
    · intro done us W hJ hdep haft hnot b hb hb' K hK Q'
      simp only [List.getD_cons_succ, List.getD_cons_zero, List.mem_cons, List.not_mem_nil, or_false, forall_eq_or_imp, forall_eq] at hdep
      have e103 := hb 6 103 rfl
      have e105 := hb 8 105 rfl
      have d6 := hdep.1
      have d8 := hdep.2
      rw [d6.1] at e103
      rw [d8.1] at e105
      clear hb hb' hdep d6 d8
      go_simp
      exact hK _ _ rfl (fun _ _ _ h => h) hJ
    · intro done us W hJ hdep haft hnot b hb hb' K hK Q'
      simp only [List.getD_cons_succ, List.getD_cons_zero, List.mem_cons, List.not_mem_nil, or_false, forall_eq] at hdep
      have e106 := hb 9 106 rfl
      have d9 := hdep
      rw [d9.1] at e106
      clear hb hb' hdep d9
      have q := Ext.cell hJ x0
      go_simp
      exact hK _ _ rfl (fun _ _ _ h => h) hJ
    · intro done us W hJ hdep haft hnot b hb hb' K hK Q'
      simp only [List.getD_cons_succ, List.getD_cons_zero, List.mem_cons, List.not_mem_nil, or_false, forall_eq_or_imp, forall_eq] at hdep
      have e102 := hb 5 102 rfl
      have e107 := hb 10 107 rfl
      have d5 := hdep.1
      have d10 := hdep.2
      rw [d5.1] at e102
      rw [d10.1] at e107
      clear hb hb' hdep d5 d10
      have qw : IntKind.i64.wrap up = up := IntWalk.i64_in _ (by omega)
      go_simp
      exact hK _ _ rfl (fun _ _ _ h => h) hJ
    · intro done us W hJ hdep haft hnot b hb hb' K hK Q'
      have e0 := (hb' 0 (by simp)).trans s0
      clear hb hb'
      go_simp
      exact hK _ _ rfl (fun _ _ _ h => h) hJ
    · intro done us W hJ hdep haft hnot b hb hb' K hK Q'
      have e11 := (hb' 11 (by simp)).trans s11
      clear hb hb'
      go_simp
      exact hK _ _ rfl (fun _ _ _ h => h) hJ
    · intro done us W hJ hdep haft hnot b hb hb' K hK Q'
      simp only [List.getD_cons_succ, List.getD_cons_zero, List.mem_cons, List.not_mem_nil, or_false, forall_eq_or_imp, forall_eq] at hdep
      have e109 := hb 12 109 rfl
      have e110 := hb 13 110 rfl
      have d12 := hdep.1
      have d13 := hdep.2
      rw [d12.1] at e109
      rw [d13.1] at e110
      clear hb hb' hdep d12 d13
      have qn : ((cc : Int) + 1).toNat = cc + 1 := by omega
      have qi : (0 : Int) ≤ (cc : Int) + 1 := by omega
      have qi2 : (cc : Int) + 1 < (n : Int) := by omega
      go_simp
      exact hK _ _ (by first | rfl | simp [qn]) (fun _ _ _ h => h) hJ
    · intro done us W hJ hdep haft hnot b hb hb' K hK Q'
      simp only [List.getD_cons_succ, List.getD_cons_zero, List.mem_cons, List.not_mem_nil, or_false, forall_eq] at hdep
      have e111 := hb 14 111 rfl
      have d14 := hdep
      rw [d14.1] at e111
      clear hb hb' hdep d14
      have q := Ext.cell hJ x1
      go_simp
      exact hK _ _ rfl (fun _ _ _ h => h) hJ
    · intro done us W hJ hdep haft hnot b hb hb' K hK Q'
      have e0 := (hb' 0 (by simp)).trans s0
      clear hb hb'
      go_simp
      exact hK _ _ rfl (fun _ _ _ h => h) hJ
    · intro done us W hJ hdep haft hnot b hb hb' K hK Q'
      have e11 := (hb' 11 (by simp)).trans s11
      clear hb hb'
      go_simp
      exact hK _ _ rfl (fun _ _ _ h => h) hJ
    · intro done us W hJ hdep haft hnot b hb hb' K hK Q'
      simp only [List.getD_cons_succ, List.getD_cons_zero, List.mem_cons, List.not_mem_nil, or_false, forall_eq] at hdep
      have e114 := hb 17 114 rfl
      have d17 := hdep
      rw [d17.1] at e114
      clear hb hb' hdep d17
      have qw : IntKind.i64.wrap ((cc : Int) + 1 - 1) = (cc : Int) := (IntWalk.i64_in _ (by omega)).trans (by omega)
      have qw2 : IntKind.i64.wrap (cc : Int) = (cc : Int) := IntWalk.i64_in _ (by omega)
      go_simp
      exact hK _ _ rfl (fun _ _ _ h => h) hJ
    · intro done us W hJ hdep haft hnot b hb hb' K hK Q'
      simp only [List.getD_cons_succ, List.getD_cons_zero, List.mem_cons, List.not_mem_nil, or_false, forall_eq_or_imp, forall_eq] at hdep
      have e113 := hb 16 113 rfl
      have e115 := hb 18 115 rfl
      have d16 := hdep.1
      have d18 := hdep.2
      rw [d16.1] at e113
      rw [d18.1] at e115
      clear hb hb' hdep d16 d18
      go_simp
      exact hK _ _ rfl (fun _ _ _ h => h) hJ
    · intro done us W hJ hdep haft hnot b hb hb' K hK Q'
      simp only [List.getD_cons_succ, List.getD_cons_zero, List.mem_cons, List.not_mem_nil, or_false, forall_eq] at hdep
      have e116 := hb 19 116 rfl
      have d19 := hdep
      rw [d19.1] at e116
      clear hb hb' hdep d19
      have q := Ext.cell hJ x0
      go_simp
      exact hK _ _ rfl (fun _ _ _ h => h) hJ
    · intro done us W hJ hdep haft hnot b hb hb' K hK Q'
      simp only [List.getD_cons_succ, List.getD_cons_zero, List.mem_cons, List.not_mem_nil, or_false, forall_eq_or_imp, forall_eq] at hdep
      have e112 := hb 15 112 rfl
      have e117 := hb 20 117 rfl
      have d15 := hdep.1
      have d20 := hdep.2
      rw [d15.1] at e112
      rw [d20.1] at e117
      clear hb hb' hdep d15 d20
      have qw : IntKind.i64.wrap al = al := IntWalk.i64_in _ (by omega)
      go_simp
      exact hK _ _ rfl (fun _ _ _ h => h) hJ
    · intro done us W hJ hdep haft hnot b hb hb' K hK Q'
      simp only [List.getD_cons_succ, List.getD_cons_zero, List.mem_cons, List.not_mem_nil, or_false, forall_eq] at hdep
      have e108 := hb 11 108 rfl
      have d11 := hdep
      rw [d11.1] at e108
      clear hb hb' hdep d11
      go_simp
      exact hK _ _ rfl (fun _ _ _ h => h) hJ
    · intro done us W hJ hdep haft hnot b hb hb' K hK Q'
      simp only [List.getD_cons_succ, List.getD_cons_zero, List.mem_cons, List.not_mem_nil, or_false, forall_eq] at hdep
      have e118 := hb 21 118 rfl
      have d21 := hdep
      rw [d21.1] at e118
      clear hb hb' hdep d21
      go_simp
      exact hK _ _ rfl (fun _ _ _ h => h) hJ
  · intro us W hV hJ
    exact hend (us 0) (us 1) (us 2) (us 3) (us 4) (us 5) (us 6) (us 7) (us 8) (us 9) (us 10) (us 11) (us 12) (us 13) (us 14) (us 15) (us 16) (us 17) (us 18) (us 19) (us 20) (us 21) (us 22) (us 23) W (hV 0 (by omega)) (hV 1 (by omega)) (hV 2 (by omega)) (hV 3 (by omega)) (hV 4 (by omega)) (hV 5 (by omega)) (hV 6 (by omega)) (hV 7 (by omega)) (hV 8 (by omega)) (hV 9 (by omega)) (hV 10 (by omega)) (hV 11 (by omega)) (hV 12 (by omega)) (hV 13 (by omega)) (hV 14 (by omega)) (hV 15 (by omega)) (hV 16 (by omega)) (hV 17 (by omega)) (hV 18 (by omega)) (hV 19 (by omega)) (hV 20 (by omega)) (hV 21 (by omega)) (hV 22 (by omega)) (hV 23 (by omega)) hJ
set_option maxRecDepth 100000 in
set_option maxHeartbeats 2000000 in
theorem bounds_big (A : Option Addr) (n c : Nat) (H : List Int) (lv dr st de : Int) (w : World) (hn : 256 < n) :
    Calls Try.prog 10 #[.slice A n c, .agg #[.int .i64 lv, .int .i64 dr, .int .i64 st, .int .i64 de]] w (fun e w' => e = .returned (.bool true) ∧ Ext w w') := by
  have hXe : Ext w (w.alloc (.cells #[.int .i64 lv, .int .i64 dr, .int .i64 st, .int .i64 de] 33)) := ((Ext.refl w).alloc _)
  have kD : Blk (w.alloc (.cells #[.int .i64 lv, .int .i64 dr, .int .i64 st, .int .i64 de] 33)) w.heap.size 33 #[.int .i64 lv, .int .i64 dr, .int .i64 st, .int .i64 de] := Blk.at_ (by simp)
  go_enter Try.func10, Try.ntmps10
  go_wp2_with fail
  generalize (w.alloc (.cells #[.int .i64 lv, .int .i64 dr, .int .i64 st, .int .i64 de] 33)) = w1 at hXe kD ⊢
  have HX := Lib.hid hXe
  clear hXe
  have KD := Lib.hid kD
  clear kD
  refine (firstW_any _).mono ?_
  rintro e w2 ⟨rfl, hX⟩
  replace hX : Ext w1 w2 := by with_reducible exact hX
  replace HX := Lib.hid (HX.out.trans hX)
  replace KD := Lib.hid (KD.out.ext hX)
  clear hX
  go_wp2
  go_ret
  exact ⟨rfl, HX.out⟩

set_option maxRecDepth 100000 in
set_option maxHeartbeats 2000000 in
theorem bounds_det (A : Option Addr) (n c : Nat) (H : List Int) (lv dr st de : Int) (w : World) (hn : ¬ 256 < n) (hd : ¬ DetOk ⟨lv, dr, st, de⟩) :
    Calls Try.prog 10 #[.slice A n c, .agg #[.int .i64 lv, .int .i64 dr, .int .i64 st, .int .i64 de]] w (fun e w' => e = .returned (.bool true) ∧ Ext w w') := by
  have q2 : Hid (decide (DetOk ⟨lv, dr, st, de⟩) = false) := Lib.hid (decide_eq_false hd)
  clear hd
  have hXe : Ext w (w.alloc (.cells #[.int .i64 lv, .int .i64 dr, .int .i64 st, .int .i64 de] 33)) := ((Ext.refl w).alloc _)
  have kD : Blk (w.alloc (.cells #[.int .i64 lv, .int .i64 dr, .int .i64 st, .int .i64 de] 33)) w.heap.size 33 #[.int .i64 lv, .int .i64 dr, .int .i64 st, .int .i64 de] := Blk.at_ (by simp)
  go_enter Try.func10, Try.ntmps10
  go_wp2_with fail
  generalize (w.alloc (.cells #[.int .i64 lv, .int .i64 dr, .int .i64 st, .int .i64 de] 33)) = w1 at hXe kD ⊢
  have HX := Lib.hid hXe
  clear hXe
  have KD := Lib.hid kD
  clear kD
  have cD0 : w1.cell? ⟨w.heap.size, 0, none⟩ = some (.int .i64 lv) := KD.out.cell 0
  have cD1 : w1.cell? ⟨w.heap.size, 1, none⟩ = some (.int .i64 dr) := KD.out.cell 1
  have cD2 : w1.cell? ⟨w.heap.size, 2, none⟩ = some (.int .i64 st) := KD.out.cell 2
  have cD3 : w1.cell? ⟨w.heap.size, 3, none⟩ = some (.int .i64 de) := KD.out.cell 3
  clear cD0 cD1 cD2 cD3
  refine (fineW_any ⟨lv, dr, st, de⟩ _).mono ?_
  rw [q2.out]
  rintro e w2 ⟨rfl, hX⟩
  replace hX : Ext w1 w2 := by with_reducible exact hX
  replace HX := Lib.hid (HX.out.trans hX)
  replace KD := Lib.hid (KD.out.ext hX)
  clear hX
  go_wp2_with fail
  refine (firstW_any _).mono ?_
  rintro e w3 ⟨rfl, hX⟩
  replace hX : Ext w2 w3 := by with_reducible exact hX
  replace HX := Lib.hid (HX.out.trans hX)
  replace KD := Lib.hid (KD.out.ext hX)
  clear hX
  go_wp2
  go_ret
  exact ⟨rfl, HX.out⟩

set_option maxRecDepth 100000 in
set_option maxHeartbeats 2000000 in
theorem bounds_arg (A : Option Addr) (n c : Nat) (H : List Int) (lv dr st de : Int) (w : World) (hn : ¬ 256 < n) (hd : DetOk ⟨lv, dr, st, de⟩) (hh : ¬ HgtOk H) (h : Ints .i64 w A n H) :
    Calls Try.prog 10 #[.slice A n c, .agg #[.int .i64 lv, .int .i64 dr, .int .i64 st, .int .i64 de]] w (fun e w' => e = .returned (.bool true) ∧ Ext w w') := by
  have q2 : Hid (decide (DetOk ⟨lv, dr, st, de⟩) = true) := Lib.hid (decide_eq_true hd)
  have HF : Hid (digF H = ([], 2)) := Lib.hid (by unfold digF; rw [if_neg hh])
  have HH := Lib.hid h
  clear hd hh h
  have hXe : Ext w (w.alloc (.cells #[.int .i64 lv, .int .i64 dr, .int .i64 st, .int .i64 de] 33)) := ((Ext.refl w).alloc _)
  have kD : Blk (w.alloc (.cells #[.int .i64 lv, .int .i64 dr, .int .i64 st, .int .i64 de] 33)) w.heap.size 33 #[.int .i64 lv, .int .i64 dr, .int .i64 st, .int .i64 de] := Blk.at_ (by simp)
  go_enter Try.func10, Try.ntmps10
  go_wp2_with fail
  generalize (w.alloc (.cells #[.int .i64 lv, .int .i64 dr, .int .i64 st, .int .i64 de] 33)) = w1 at hXe kD ⊢
  have HX := Lib.hid hXe
  clear hXe
  have KD := Lib.hid kD
  clear kD
  have cD0 : w1.cell? ⟨w.heap.size, 0, none⟩ = some (.int .i64 lv) := KD.out.cell 0
  have cD1 : w1.cell? ⟨w.heap.size, 1, none⟩ = some (.int .i64 dr) := KD.out.cell 1
  have cD2 : w1.cell? ⟨w.heap.size, 2, none⟩ = some (.int .i64 st) := KD.out.cell 2
  have cD3 : w1.cell? ⟨w.heap.size, 3, none⟩ = some (.int .i64 de) := KD.out.cell 3
  clear cD0 cD1 cD2 cD3
  refine (fineW_any ⟨lv, dr, st, de⟩ _).mono ?_
  rw [q2.out]
  rintro e w2 ⟨rfl, hX⟩
  replace hX : Ext w1 w2 := by with_reducible exact hX
  replace HX := Lib.hid (HX.out.trans hX)
  replace KD := Lib.hid (KD.out.ext hX)
  clear hX
  go_wp2_with fail
  refine (digitize_any A n c H _ (HH.out.ext HX.out)).mono ?_
  rw [HF.out]
  rintro e w3 ⟨v1, rfl, hv, hX⟩
  replace hX : Ext w2 w3 := by with_reducible exact hX
  replace HX := Lib.hid (HX.out.trans hX)
  replace KD := Lib.hid (KD.out.ext hX)
  clear hX
  clear hv
  go_wp2_with fail
  refine (firstW_any _).mono ?_
  rintro e w4 ⟨rfl, hX⟩
  replace hX : Ext w3 w4 := by with_reducible exact hX
  replace HX := Lib.hid (HX.out.trans hX)
  replace KD := Lib.hid (KD.out.ext hX)
  clear hX
  go_wp2
  go_ret
  exact ⟨rfl, HX.out⟩

set_option maxRecDepth 100000 in
set_option maxHeartbeats 16000000 in
theorem bounds_ok (A : Option Addr) (n c : Nat) (H : List Int) (lv dr st de : Int) (w : World) (hn : ¬ 256 < n) (hd : DetOk ⟨lv, dr, st, de⟩) (hh : HgtOk H) (h : Ints .i64 w A n H) :
    Calls Try.prog 10 #[.slice A n c, .agg #[.int .i64 lv, .int .i64 dr, .int .i64 st, .int .i64 de]] w (fun e w' => e = .returned (.bool true) ∧ Ext w w') := by
  have q2 : Hid (decide (DetOk ⟨lv, dr, st, de⟩) = true) := Lib.hid (decide_eq_true hd)
  have HF : Hid (digF H = (H.map (· / 16), 0)) := Lib.hid (by unfold digF; rw [if_pos hh])
  have hs := smp_sixt hh.1 hh.2
  have HHI := Lib.hid hh.2
  have HE : Hid (echoesF (H.map (· / 16)) ⟨lv, dr, st, de⟩ = ((allE (H.map (· / 16)) ⟨lv, dr, st, de⟩).take 15, 0)) := Lib.hid (echoesF_ok hd hs)
  have hgood : ∀ e ∈ (allE (H.map (· / 16)) ⟨lv, dr, st, de⟩).take 15, ∃ f p t, EGood (H.map (· / 16)) (medV (H.map (· / 16)) + lv) e f p t := fun e he => good_of_mem (d := ⟨lv, dr, st, de⟩) hd.2.2.1 (List.mem_of_mem_take he)
  have hlv1 : 1 ≤ lv := hd.1
  have hE15 : ((allE (H.map (· / 16)) ⟨lv, dr, st, de⟩).take 15).length ≤ 15 := List.length_take_le _ _
  generalize (allE (H.map (· / 16)) ⟨lv, dr, st, de⟩).take 15 = es at HE hgood hE15
  obtain ⟨N, hN⟩ : ∃ N, es.length = N := ⟨_, rfl⟩
  have HN := Lib.hid hN
  have GOOD := Lib.hid hgood
  have HS := Lib.hid hs
  have HH := Lib.hid h
  have HLN : Hid (H.length = n) := Lib.hid h.1
  have HLL : Hid ((H.map (· / 16)).length = n) := Lib.hid (by rw [List.length_map]; exact h.1)
  have gnn : ((n : Int) != (n : Int)) = false := by simp
  have hN15 : N ≤ 15 := by rw [← hN]; exact hE15
  clear hd hh h hs hgood hN hE15
  have hXe : Ext w (w.alloc (.cells #[.int .i64 lv, .int .i64 dr, .int .i64 st, .int .i64 de] 33)) := ((Ext.refl w).alloc _)
  have kD : Blk (w.alloc (.cells #[.int .i64 lv, .int .i64 dr, .int .i64 st, .int .i64 de] 33)) w.heap.size 33 #[.int .i64 lv, .int .i64 dr, .int .i64 st, .int .i64 de] := Blk.at_ (by simp)
  go_enter Try.func10, Try.ntmps10
  go_wp2_with fail
  generalize (w.alloc (.cells #[.int .i64 lv, .int .i64 dr, .int .i64 st, .int .i64 de] 33)) = w1 at hXe kD ⊢
  have HX := Lib.hid hXe
  clear hXe
  have KD := Lib.hid kD
  clear kD
  have cD0 : w1.cell? ⟨w.heap.size, 0, none⟩ = some (.int .i64 lv) := KD.out.cell 0
  have cD1 : w1.cell? ⟨w.heap.size, 1, none⟩ = some (.int .i64 dr) := KD.out.cell 1
  have cD2 : w1.cell? ⟨w.heap.size, 2, none⟩ = some (.int .i64 st) := KD.out.cell 2
  have cD3 : w1.cell? ⟨w.heap.size, 3, none⟩ = some (.int .i64 de) := KD.out.cell 3
  clear cD0 cD1 cD2 cD3
  refine (fineW_any ⟨lv, dr, st, de⟩ _).mono ?_
  rw [q2.out]
  rintro e w2 ⟨rfl, hX⟩
  replace hX : Ext w1 w2 := by with_reducible exact hX
  replace HX := Lib.hid (HX.out.trans hX)
  replace KD := Lib.hid (KD.out.ext hX)
  clear hX
  go_wp2_with fail
  refine (digitize_any A n c H _ (HH.out.ext HX.out)).mono ?_
  rw [HF.out]
  rintro e w3 ⟨v1, rfl, hv, hX⟩
  replace hX : Ext w2 w3 := by with_reducible exact hX
  replace HX := Lib.hid (HX.out.trans hX)
  replace KD := Lib.hid (KD.out.ext hX)
  clear hX
  simp only at hv
  obtain ⟨Al, cl, rfl, hv⟩ := hv
  rw [HLL.out] at hv ⊢
  have HLR := Lib.hid hv
  clear hv
  generalize w2.heap.size = BL at HLR
  have cD0 : w3.cell? ⟨w.heap.size, 0, none⟩ = some (.int .i64 lv) := KD.out.cell 0
  have cD1 : w3.cell? ⟨w.heap.size, 1, none⟩ = some (.int .i64 dr) := KD.out.cell 1
  have cD2 : w3.cell? ⟨w.heap.size, 2, none⟩ = some (.int .i64 st) := KD.out.cell 2
  have cD3 : w3.cell? ⟨w.heap.size, 3, none⟩ = some (.int .i64 de) := KD.out.cell 3
  go_wp2_with fail
  clear cD0 cD1 cD2 cD3
  refine (echoes_any Al n cl (H.map (· / 16)) ⟨lv, dr, st, de⟩ _ HLR.out.ints).mono ?_
  rw [HE.out]
  rintro e w4 ⟨v9, rfl, hE, hX⟩
  replace hX : Ext w3 w4 := by with_reducible exact hX
  replace HX := Lib.hid (HX.out.trans hX)
  replace HLR := Lib.hid (HLR.out.ext hX)
  replace KD := Lib.hid (KD.out.ext hX)
  clear hX
  simp only at hE
  obtain ⟨Ae, ce, rfl⟩ := own_slice hE
  rw [HN.out] at hE ⊢
  have HEC := Lib.hid hE
  clear hE KD
  generalize w3.heap.size = B at HEC
  go_wp2_with fail
  go_loopg [8] N (fun f iv wr => ∃ k : Nat, f = N - k ∧ k ≤ N ∧ iv = .int .i64 (k : Int) ∧ Hid (OwnS .i64 3 BL wr Al n cl (H.map (· / 16))) ∧ Hid (EcL B wr (.slice Ae N ce) es) ∧ Hid (Ext w wr))
  case atStart => exact ⟨0, rfl, by omega, rfl, HLR, HEC, HX⟩
  case round =>
    clear HLR HEC HX
    obtain ⟨k, rfl, hk, rfl, HLR, HEC, HX⟩ := hrel
    by_cases hlt : k < N
    · have q1 : decide (k < N) = true := decide_eq_true hlt
      obtain ⟨ge, ce', x, hve, hr, hc⟩ := HEC.out.get (by rw [HN.out]; exact hlt)
      injection hve with hve hve2 hve3
      subst hve
      clear hve2 hve3
      obtain ⟨ff, pp, tt, hg⟩ := GOOD.out x (List.mem_of_getElem? hr)
      have hbc := bound_cross HHI.out hg HS.out
      obtain ⟨hl1, hl2, hl3, hl4⟩ := good_cells hg HS.out
      have hz1 := hg.frm
      obtain ⟨y0, y1, y2, y3, y4⟩ := x
      simp only at hl1 hl2 hl3 hl4 hz1
      subst hz1
      obtain ⟨⟨⟨lo, hi⟩, te⟩, hT⟩ : ∃ r, timeF (H.map (· / 16)) ⟨(ff : Int), y1, y2, y3, y4⟩ = r := ⟨_, rfl⟩
      rw [hT] at hbc
      simp only at hbc
      have HT := Lib.hid hT
      have HBC := Lib.hid hbc
      have HRK := Lib.hid hr
      have a0 := hc 0 _ rfl
      have a1 := hc 1 _ rfl
      have a2 := hc 2 _ rfl
      have a3 := hc 3 _ rfl
      have a4 := hc 4 _ rfl
      simp only [Nat.add_zero] at a0
      simp only at a0 a1 a2 a3 a4
      clear hc hr hT hbc hg
      go_wp2_with fail
      refine (time_any Al n cl (H.map (· / 16)) (ff : Int) y1 y2 y3 y4 _ HLR.out.ints).mono ?_
      rw [HT.out]
      rintro e w5 ⟨rfl, hX⟩
      replace hX : Ext wr w5 := by with_reducible exact hX
      replace HX := Lib.hid (HX.out.trans hX)
      replace HLR := Lib.hid (HLR.out.ext hX)
      replace HEC := Lib.hid (HEC.out.ext hX)
      clear hX
      go_upto_region 15 with (fail)
      have hXa : Ext w5 (w5.alloc (.cells #[.int .i64 lo, .int .i64 hi] 44)) := (Ext.refl _).alloc _
      have kS := Blk.new w5 44 #[.int .i64 lo, .int .i64 hi]
      have zg := HX.out.size
      replace HX := Lib.hid (HX.out.trans hXa)
      replace HLR := Lib.hid (HLR.out.ext hXa)
      replace HEC := Lib.hid (HEC.out.ext hXa)
      generalize (w5.alloc (.cells #[.int .i64 lo, .int .i64 hi] 44)) = w6 at HX HLR HEC kS ⊢
      have KS := Lib.hid kS
      clear kS hXa
      clear a0 a1 a2 a3 a4
      by_cases hte : ¬ te = 0
      · have gte : (te != 0) = true := by simpa using hte
        clear hte
        go_wp2_with fail
        go_roundg (N - (k + 1))
        case rel => exact ⟨k + 1, rfl, by omega, by go_num, HLR, HEC, HX⟩
        case measure => omega
      obtain rfl : te = 0 := Decidable.not_not.1 hte
      clear hte
      obtain ⟨cc, hcx, hcn, hfc, hbelow, habove, hal0, hb1, hb2, hb3, hb4, hb5⟩ := HBC.out (by simp)
      rw [HLN.out] at hcn
      have HBEL := Lib.hid hbelow
      clear hcx hbelow
      obtain ⟨ge2, ce2, x2, hve, hr, hc⟩ := HEC.out.get (by rw [HN.out]; exact hlt)
      injection hve with hve hve2 hve3
      injection hve with hve
      injection hve with hve
      subst hve
      clear hve2 hve3
      have hr9 := hr
      clear hr
      obtain rfl : x2 = ⟨(ff : Int), y1, y2, y3, y4⟩ := by have h9 := HRK.out; rw [hr9] at h9; exact Option.some.inj h9
      have a0 := hc 0 _ rfl
      have a3 := hc 3 _ rfl
      simp only [Nat.add_zero] at a0
      simp only at a0 a3
      clear hc hr9
      have qm : max (ff : Int) 0 = (ff : Int) := by omega
      obtain ⟨gl, hgl, _, _⟩ := own_at0 HLR.out.own (by omega)
      subst hgl
      obtain ⟨bh, off, h0, hA, hh0, _, hc0⟩ := HH.out.get (show cc < n by omega)
      subst hA
      obtain ⟨bh2, off2, h1, hA, hh1, _, hc1⟩ := HH.out.get (show cc + 1 < n by omega)
      injection hA with hA
      injection hA with hA1 hA2
      subst hA1 hA2
      have hr0 := HHI.out h0 (List.mem_of_getElem? hh0)
      have hr1 := HHI.out h1 (List.mem_of_getElem? hh1)
      have hd0 : H.getD cc 0 = h0 := by rw [List.getD_eq_getElem?_getD, hh0]; rfl
      have hd1 : H.getD (cc + 1) 0 = h1 := by rw [List.getD_eq_getElem?_getD, hh1]; rfl
      rw [hd0, hd1] at hal0 hb4 hb5
      rw [hd1] at habove
      obtain ⟨up, hup⟩ : ∃ z, 16 * y3 - h0 = z := ⟨_, rfl⟩
      obtain ⟨al, hal⟩ : ∃ z, h1 - h0 = z := ⟨_, rfl⟩
      rw [hup, hal] at hb4 hb5
      rw [hal] at hal0
      have hc0' := Ext.cell HX.out hc0
      have hc1' := Ext.cell HX.out hc1
      clear hc0 hc1 hh0 hh1 hd0
      obtain ⟨hr01, hr02⟩ := hr0
      obtain ⟨hr11, hr12⟩ := hr1
      have gen : ∀ (d : Int), 0 ≤ d → d ≤ 256 → 0 ≤ d * al ∧ d * al ≤ 256 * al := fun d h1 h2 => ⟨Int.mul_nonneg h1 (by omega), Int.mul_le_mul_of_nonneg_right h2 (by omega)⟩
      obtain ⟨hp1, hp2⟩ := gen (lo - 256 * (cc : Int)) (by omega) (by omega)
      obtain ⟨hp3, hp4⟩ := gen (hi - 256 * (cc : Int)) (by omega) (by omega)
      obtain ⟨d1, hdd1⟩ : ∃ z, lo - 256 * (cc : Int) = z := ⟨_, rfl⟩
      obtain ⟨d2, hdd2⟩ : ∃ z, hi - 256 * (cc : Int) = z := ⟨_, rfl⟩
      rw [hdd1] at hb4 hp1 hp2
      rw [hdd2] at hb5 hp3 hp4
      obtain ⟨p1, hpp1⟩ : ∃ z, d1 * al = z := ⟨_, rfl⟩
      obtain ⟨p2, hpp2⟩ : ∃ z, d2 * al = z := ⟨_, rfl⟩
      rw [hpp1] at hb4 hp1 hp2
      rw [hpp2] at hb5 hp3 hp4
      have HW : Hid (IntKind.i64.wrap (256 * (cc : Int)) = 256 * (cc : Int) ∧ IntKind.i64.wrap (lo - 256 * (cc : Int)) = d1 ∧ IntKind.i64.wrap (hi - 256 * (cc : Int)) = d2 ∧ IntKind.i64.wrap (d1 * al) = p1 ∧ IntKind.i64.wrap (d2 * al) = p2 ∧ IntKind.i64.wrap (256 * up) = 256 * up) := Lib.hid ⟨IntWalk.i64_in _ (by omega), (IntWalk.i64_in _ (by omega)).trans hdd1, (IntWalk.i64_in _ (by omega)).trans hdd2, (IntWalk.i64_in _ (by rw [hpp1]; omega)).trans hpp1, (IntWalk.i64_in _ (by rw [hpp2]; omega)).trans hpp2, IntWalk.i64_in _ (by omega)⟩
      have HUP := Lib.hid (And.intro hup hal)
      have HD1 := Lib.hid hd1
      clear hup hal hdd1 hdd2 hpp1 hpp2 gen hd1
      go_upto_block 2 with (fail)
      go_cut [11] (fun iv W => iv = .int .i64 ((cc : Int) + 1) ∧ Hid (Ext w6 W))
      case first =>
        go_wp2_with fail
        go_loopg [11] (cc + 1 - ff) (fun f2 iv W => ∃ j : Nat, f2 = cc + 1 - j ∧ ff ≤ j ∧ j ≤ cc + 1 ∧ iv = .int .i64 (j : Int) ∧ Hid (Ext w6 W))
        case atStart => exact ⟨ff, rfl, by omega, by omega, by first | rfl | (congr 1; split <;> omega), Lib.hid (Ext.refl _)⟩
        case round =>
          obtain ⟨j, rfl, hj0, hj, rfl, HXI⟩ := hrel
          have l0 := (HLR.out.ext HXI.out).own.cellAt j (by omega)
          rw [sixt_get (show j < H.length by rw [HLN.out]; omega)] at l0
          have e3 := Ext.cell HXI.out a3
          by_cases hjl : j < cc + 1
          · have hlt2 : decide (H.getD j 0 / 16 < y3) = true := decide_eq_true (HBEL.out j hj0 hjl)
            generalize H.getD j 0 / 16 = lj at l0 hlt2
            go_upto_region 17 with (fail)
            refine wb_r17 gl ge n cl N ce j k lj y3 true wr l0 e3 (by omega) hlt hlt2 _ _ (by simp) rfl rfl rfl rfl ?_
            rintro xv0 xv1 xv2 xv3 xv4 xv5 xv6 xv7 xv8 xv9 xv10 xv11 xv12 xv13 xv14 xv15 wB rfl rfl rfl rfl rfl rfl rfl rfl rfl rfl rfl rfl rfl rfl rfl rfl hXW
            simp only [rops, Try.f10, regOf, Option.bind_some, Nat.reduceBEq, if_true, if_false, Bool.false_eq_true, Option.getD_some, List.drop_succ_cons, List.drop_zero]
            simp only [Act.put, List.setIfInBounds_toArray, List.set_cons_succ, List.set_cons_zero]
            replace HXI := Lib.hid (HXI.out.trans hXW)
            clear hXW l0 e3 hlt2
            go_wp2
            go_roundg (cc + 1 - (j + 1))
            case rel => exact ⟨j + 1, rfl, by omega, by omega, by go_num, HXI⟩
            case measure => omega
          obtain rfl : j = cc + 1 := by omega
          have hlt2 : decide (H.getD (cc + 1) 0 / 16 < y3) = false := decide_eq_false (by rw [HD1.out]; omega)
          generalize H.getD (cc + 1) 0 / 16 = lj at l0 hlt2
          go_upto_region 17 with (fail)
          refine wb_r17 gl ge n cl N ce (cc + 1) k lj y3 false wr l0 e3 (by omega) hlt hlt2 _ _ (by simp) rfl rfl rfl rfl ?_
          rintro xv0 xv1 xv2 xv3 xv4 xv5 xv6 xv7 xv8 xv9 xv10 xv11 xv12 xv13 xv14 xv15 wB rfl rfl rfl rfl rfl rfl rfl rfl rfl rfl rfl rfl rfl rfl rfl rfl hXW
          simp only [rops, Try.f10, regOf, Option.bind_some, Nat.reduceBEq, if_true, if_false, Bool.false_eq_true, Option.getD_some, List.drop_succ_cons, List.drop_zero]
          simp only [Act.put, List.setIfInBounds_toArray, List.set_cons_succ, List.set_cons_zero]
          replace HXI := Lib.hid (HXI.out.trans hXW)
          clear hXW l0 e3 hlt2
          go_wp2
          go_meet
          exact ⟨rfl, HXI⟩
      case rest =>
        obtain ⟨rfl, HXI⟩ := hcut
        replace HX := Lib.hid (HX.out.trans HXI.out)
        replace HLR := Lib.hid (HLR.out.ext HXI.out)
        replace HEC := Lib.hid (HEC.out.ext HXI.out)
        replace KS := Lib.hid (KS.out.ext HXI.out)
        replace a3 := Ext.cell HXI.out a3
        replace hc0' := Ext.cell HXI.out hc0'
        replace hc1' := Ext.cell HXI.out hc1'
        clear HXI a0
        obtain ⟨hup, hal⟩ := HUP.out
        have hcn2 : ¬ (n : Int) ≤ (cc : Int) + 1 := by omega
        have hcn3 : ((cc : Int) + 1 == 0) = false := by simp; omega
        have hcn4 : ¬ (cc : Int) + 1 = 0 := by omega
        go_upto_region 21 with (fail)
        refine wb_r21 ge n N ce bh off c cc k y3 h0 h1 up al wc a3 hc0' hc1' hcn (by omega) (by omega) hlt (by omega) (by omega) hr01 hr02 hr11 hr12 hup hal _ _ (by simp) rfl rfl rfl rfl ?_
        rintro xv0 xv1 xv2 xv3 xv4 xv5 xv6 xv7 xv8 xv9 xv10 xv11 xv12 xv13 xv14 xv15 xv16 xv17 xv18 xv19 xv20 xv21 xv22 xv23 wD rfl rfl rfl rfl rfl rfl rfl rfl rfl rfl rfl rfl rfl rfl rfl rfl rfl rfl rfl rfl rfl rfl rfl rfl hXW
        simp only [rops, Try.f10, regOf, Option.bind_some, Nat.reduceBEq, if_true, if_false, Bool.false_eq_true, Option.getD_some, List.drop_succ_cons, List.drop_zero]
        simp only [Act.put, List.setIfInBounds_toArray, List.set_cons_succ, List.set_cons_zero]
        clear hup hal
        replace HX := Lib.hid (HX.out.trans hXW)
        replace HLR := Lib.hid (HLR.out.ext hXW)
        replace HEC := Lib.hid (HEC.out.ext hXW)
        replace KS := Lib.hid (KS.out.ext hXW)
        clear hXW a3 hc0' hc1'
        obtain ⟨w1', w2', w3', w4', w5', w6'⟩ := HW.out
        have gal : ¬ al ≤ 0 := by omega
        have gp1 : ¬ p1 > 256 * up := by omega
        have gp2 : ¬ p2 < 256 * up := by omega
        have t0 := KS.out.cell 0
        have t1 := KS.out.cell 1
        simp only [List.getElem?_toArray, List.getElem?_cons_zero, List.getElem?_cons_succ] at t0 t1
        clear hb4 hb5 hp1 hp2 hp3 hp4
        go_wp2_with fail
        go_roundg (N - (k + 1))
        case rel => exact ⟨k + 1, rfl, by omega, by go_num, HLR, HEC, HX⟩
        case measure => omega
    · obtain rfl : k = N := by omega
      go_wp2_with fail
      refine (firstW_any _).mono ?_
      rintro e w9 ⟨rfl, hX⟩
      replace HX := Lib.hid (HX.out.trans hX)
      clear hX
      go_wp2
      go_ret
      exact ⟨rfl, HX.out⟩

theorem waveBounds_walk (A : Option Addr) (n c : Nat) (H : List Int) (f : Int × Int × Int × Int) (w : World) (h : Ints .i64 w A n H) :
    Calls Try.prog 10 #[.slice A n c, .agg #[.int .i64 f.1, .int .i64 f.2.1, .int .i64 f.2.2.1, .int .i64 f.2.2.2]] w (fun e w' => e = .returned (.bool true) ∧ Ext w w') := by
  by_cases hn : 256 < n
  · exact bounds_big A n c H _ _ _ _ w hn
  · by_cases hd : DetOk ⟨f.1, f.2.1, f.2.2.1, f.2.2.2⟩
    · by_cases hh : HgtOk H
      · exact bounds_ok A n c H _ _ _ _ w hn hd hh h
      · exact bounds_arg A n c H _ _ _ _ w hn hd hh h
    · exact bounds_det A n c H _ _ _ _ w hn hd
end Go.Proofs.Ytagcgldhhdecjaa
