/- Lemmas of the proof that follows (TopTransfer, part 2): walks of functions by contract, and plain lemmas. Conditions: none. -/
import Derived.Test.YtekhmfliaojabaaTopTransferA
namespace Go.Proofs.Ytekhmfliaojabaa
open Go.RowKit

set_option maxHeartbeats 400000 in
theorem validR_yes (s q : Int) (A : Option Addr) (n c : Nat) (w : World) (h1 : 0 ≤ s) (h2 : s ≤ 255) (h3 : 0 ≤ q) (h4 : q ≤ 4294967295) (h5 : n ≤ 1024) :
    Calls Try.prog 53 #[.agg #[.int .i64 s, .int .i64 q, .slice A n c]] w fun e w' => e = .returned (.bool true) ∧ Ext w w' := by
  go_enter Try.func53, Try.ntmps53
  go_wp2
  go_ret
  exact ⟨by simp; omega, (Ext.refl w).alloc _⟩
set_option maxHeartbeats 400000 in
theorem validR_no (s q : Int) (A : Option Addr) (n c : Nat) (w : World) (h : ¬ (0 ≤ s ∧ s ≤ 255 ∧ 0 ≤ q ∧ q ≤ 4294967295 ∧ n ≤ 1024)) :
    Calls Try.prog 53 #[.agg #[.int .i64 s, .int .i64 q, .slice A n c]] w fun e w' => e = .returned (.bool false) ∧ Ext w w' := by
  by_cases h1 : 0 ≤ s
  · by_cases h2 : s ≤ 255
    · by_cases h3 : 0 ≤ q
      · by_cases h4 : q ≤ 4294967295
        · have h5 : ¬ n ≤ 1024 := fun h5 => h ⟨h1, by omega, h3, h4, h5⟩
          clear h
          go_enter Try.func53, Try.ntmps53
          go_wp2
          go_ret
          exact ⟨by simp; omega, (Ext.refl w).alloc _⟩
        · clear h
          go_enter Try.func53, Try.ntmps53
          go_wp2
          go_ret
          exact ⟨by simp, (Ext.refl w).alloc _⟩
      · clear h
        go_enter Try.func53, Try.ntmps53
        go_wp2
        go_ret
        exact ⟨by simp, (Ext.refl w).alloc _⟩
    · clear h
      go_enter Try.func53, Try.ntmps53
      go_wp2
      go_ret
      exact ⟨by simp, (Ext.refl w).alloc _⟩
  · clear h
    go_enter Try.func53, Try.ntmps53
    go_wp2
    go_ret
    exact ⟨by simp, (Ext.refl w).alloc _⟩

/-- The last k bytes of a number, the most significant one first. -/
def bigB : Nat → Int → List Int
  | 0, _ => []
  | k + 1, n => bigB k (n / 256) ++ [n % 256]
theorem bigB_len (k : Nat) (n : Int) : (bigB k n).length = k := by
  induction k generalizing n with
  | zero => rfl
  | succ k ih => simp [bigB, ih]
theorem bigB_byte (k : Nat) (n : Int) : ∀ x ∈ bigB k n, 0 ≤ x ∧ x ≤ 255 := by
  induction k generalizing n with
  | zero => simp [bigB]
  | succ k ih =>
    intro x hx
    rcases List.mem_append.1 hx with hx | hx
    · exact ih _ x hx
    · simp at hx; omega
theorem bigB_four {n : Int} (h0 : 0 ≤ n) (h1 : n ≤ 4294967295) : bigB 4 n = big4 n := by
  simp [bigB, big4]; omega
theorem bigB_two {n : Int} (h0 : 0 ≤ n) (h1 : n ≤ 65535) : bigB 2 n = [n / 256, n % 256] := by
  simp [bigB]; omega

theorem set_at {α : Type} (k : Nat) (z u : α) (ys : List α) : (List.replicate (k + 1) z ++ ys).set k u = List.replicate k z ++ u :: ys := by
  rw [List.replicate_succ', List.append_assoc, List.set_append_right _ _ (by simp)]
  simp

set_option maxHeartbeats 400000 in
theorem bigR_any (q : Int) (k : Nat) (w : World) (h0 : 0 ≤ q) (h1 : q ≤ 18446744073709551615) (hk : k ≤ 8) :
    Calls Try.prog 82 #[.int .u64 q, .int .i64 k] w (RetB w (bigB k q)) := by
  go_enter Try.func82, Try.ntmps82
  go_wp2_with (at_make; refine wpList_mk _ elB rfl rfl _ _ rfl w.heap.size _ _ _ _ k k rfl rfl rfl rfl (Nat.le_refl _) (by omega) (by unfold maxLen; omega) (Nat.le_refl _) ?_; intro w1 hown1 hext1 hsz1)
  go_loopg [0, 6] (k + 1) (fun g n i wr => ∃ (j : Nat) (m : Int) (ys : List Int), g = j + 1 ∧ j ≤ k ∧ i = .int .i64 ((j : Int) - 1) ∧ n = .int .u64 m ∧ 0 ≤ m ∧ m ≤ 18446744073709551615 ∧ bigB j m ++ ys = bigB k q ∧ wr.ownsRow w.heap.size 5 1 (.slice (some ⟨w.heap.size, 0, none⟩) k k) k (List.replicate j (.int .u8 0) ++ ys.map (.int .u8)) ∧ Ext w wr)
  case atStart => exact ⟨k, q, [], rfl, Nat.le_refl _, rfl, rfl, h0, h1, by simp, by simpa using hown1, hext1⟩
  case round =>
    obtain ⟨j, m, ys, rfl, hj, rfl, rfl, hm0, hm1, hB, hown, hext⟩ := hrel
    have HB := Lib.hid hB
    have HX := Lib.hid hext
    clear hB hext
    rcases Nat.eq_zero_or_pos j with hj0 | hj0
    · subst hj0
      go_wp2
      go_ret
      refine ⟨some ⟨w.heap.size, 0, none⟩, k, k, rfl, ⟨?_, bigB_len k q, fun x hx => WalkArith.wf_u8 (bigB_byte k q x hx)⟩, HX.out⟩
      have := HB.out
      simp only [bigB, List.nil_append] at this
      rw [← this]
      simpa using hown
    · obtain ⟨i, rfl⟩ : ∃ i, j = i + 1 := ⟨j - 1, by omega⟩
      have hi1 : (((i + 1 : Nat) : Int) - 1) = (i : Int) := by omega
      rw [hi1]
      clear hi1
      have hlt : i < k := by omega
      have hcell := hown.cellAt i (by omega)
      have hlen : (List.replicate (i + 1) (Value.int .u8 0) ++ ys.map (Value.int .u8)).length = k := by have := hown.1; simpa using this
      have hcell' : ∃ u, wr.cell? ⟨w.heap.size, i, none⟩ = some u := by rw [hcell]; exact ⟨_, List.getElem?_eq_getElem (by omega)⟩
      obtain ⟨u, hu⟩ := hcell'
      have hfr := hown.frozenAt i
      have HST := Lib.hid (hown.stored i (.int .u8 (m % 256)))
      clear hcell hlen hown
      go_wp2
      go_roundg (i + 1)
      case rel =>
        refine ⟨i, m / 256, (m % 256) :: ys, rfl, by omega, by go_num, rfl, by omega, by omega, ?_, ?_, ?_⟩
        · rw [← HB.out]; simp [bigB]
        · have := HST.out.1
          rw [set_at] at this
          simpa using this
        · exact HX.out.setCell (Nat.le_refl _) _
      case measure => omega

theorem Lists.two {k : IntKind} {w : World} {A : Option Addr} {u v : Value} {xs ys : List Int} (hat : At w A [u, v]) (h1 : SlV k w u xs) (h2 : SlV k w v ys) : Lists k w A 2 [xs, ys] :=
  ⟨rfl, [u, v], rfl, hat, fun j a zs ha hz => by
    match j with
    | 0 => simp at ha hz; subst ha hz; exact h1
    | 1 => simp at ha hz; subst ha hz; exact h2
    | j + 2 => simp at ha⟩
theorem Lists.four {k : IntKind} {w : World} {A : Option Addr} {u v a b : Value} {xs ys zs us : List Int} (hat : At w A [u, v, a, b]) (h1 : SlV k w u xs) (h2 : SlV k w v ys) (h3 : SlV k w a zs) (h4 : SlV k w b us) : Lists k w A 4 [xs, ys, zs, us] :=
  ⟨rfl, [u, v, a, b], rfl, hat, fun j c ws ha hz => by
    match j with
    | 0 => simp at ha hz; subst ha hz; exact h1
    | 1 => simp at ha hz; subst ha hz; exact h2
    | 2 => simp at ha hz; subst ha hz; exact h3
    | 3 => simp at ha hz; subst ha hz; exact h4
    | j + 4 => simp at ha⟩
theorem OwnS.slv {k : IntKind} {e : TypeId} {base : Nat} {w : World} {A : Option Addr} {n c : Nat} {xs : List Int} (h : OwnS k e base w A n c xs) : SlV k w (.slice A n c) xs := ⟨A, n, c, rfl, h.ints, h.cap.1, h.cap.2⟩

theorem ints_two {w : World} {g : Nat} {t : TypeId} {a b : Int} (h : Blk w g t #[.int .u8 a, .int .u8 b]) (ha : 0 ≤ a ∧ a ≤ 255) (hb : 0 ≤ b ∧ b ≤ 255) : SlV .u8 w (.slice (some ⟨g, 0, none⟩) 2 2) [a, b] :=
  ⟨_, 2, 2, rfl, ⟨rfl, fun x hx => by
    simp at hx
    rcases hx with rfl | rfl
    · exact WalkArith.wf_u8 ha
    · exact WalkArith.wf_u8 hb, fun _ => ⟨g, 0, rfl, fun j v hv => by
      rw [Nat.zero_add, h.cell j]
      simpa using hv⟩⟩, by omega, by omega⟩

set_option maxRecDepth 100000 in
set_option maxHeartbeats 2000000 in
theorem packR_ok (s q : Int) (A : Option Addr) (n c : Nat) (xs : List Int) (w : World) (h : Ints .u8 w A n xs) (hnc : n ≤ c) (hcm : c ≤ 9223372036854775807) (hok : FrOk ⟨s, q, xs⟩) :
    Calls Try.prog 50 #[.agg #[.int .i64 s, .int .i64 q, .slice A n c]] w (RetBytes w (pck ⟨s, q, xs⟩) 0) := by
  have H := Lib.hid h
  have HOK := Lib.hid hok
  obtain ⟨h1, h2, h3, h4, h5⟩ := hok
  simp only at h1 h2 h3 h4 h5
  rw [h.1] at h5
  clear h
  go_enter Try.func50, Try.ntmps50
  go_wp2_with fail
  refine (validR_yes s q A n c _ h1 h2 h3 h4 h5).mono ?_
  rintro e w1 ⟨rfl, hX1⟩
  have hB1 := (Blk.new w 38 #[.int .i64 s, .int .i64 q, .slice A n c]).ext hX1
  have HXw := Lib.hid (((Ext.refl w).alloc _).trans hX1)
  have HB1 := Lib.hid hB1
  have hlt := hB1.lt
  obtain ⟨r0, r1, r2, f0, f1, f2⟩ := hB1.three
  clear hX1 hB1
  go_wp2_with fail
  have hws : IntKind.u8.wrap s = s := IntWalk.u8_in _ (by omega)
  have hwq : IntKind.u64.wrap q = q := IntWalk.u64_in _ (by omega)
  have hwn : IntKind.u64.wrap (n : Int) = (n : Int) := IntWalk.u64_in _ (by omega)
  have H4 : Hid (∀ W, Ext w1 W → Calls Try.prog 82 #[.int .u64 q, .int .i64 4] W fun e w' => ∃ A n c, e = .returned (.slice A n c) ∧ OwnS .u8 5 w1.heap.size w' A n c (big4 q) ∧ Ext w1 w' ∧ Ext W w') := fun W hW => by
    refine (bigR_any q 4 W h3 (by omega) (by omega)).mono ?_
    rintro e w' ⟨A, n, c, he, ho, hx⟩
    rw [bigB_four h3 h4] at ho
    exact ⟨A, n, c, he, ho.mono hW.size, hW.trans hx, hx⟩
  have H2 : Hid (∀ W, Ext w1 W → Calls Try.prog 82 #[.int .u64 (n : Int), .int .i64 2] W fun e w' => ∃ A n' c, e = .returned (.slice A n' c) ∧ OwnS .u8 5 w1.heap.size w' A n' c [(n : Int) / 256, (n : Int) % 256] ∧ Ext w1 w' ∧ Ext W w') := fun W hW => by
    refine (bigR_any (n : Int) 2 W (by omega) (by omega) (by omega)).mono ?_
    rintro e w' ⟨A, n, c, he, ho, hx⟩
    rw [bigB_two (by omega) (by omega)] at ho
    exact ⟨A, n, c, he, ho.mono hW.size, hW.trans hx, hx⟩
  have Hs : Hid ((0 : Int) ≤ 165 ∧ (165 : Int) ≤ 255) := ⟨by omega, by omega⟩
  have Hs2 : Hid (0 ≤ s ∧ s ≤ 255) := ⟨h1, h2⟩
  go_upto_region 3 with (fail)
  go_cut [4] (fun s4 wx => ∃ A4 n4 c4, s4 = .slice A4 n4 c4 ∧ OwnS .u8 5 w1.heap.size wx A4 n4 c4 (heads ⟨s, q, xs⟩) ∧ Ext w1 wx)
  case first =>
    refine wp_region_mono 17 [8, 9, 10, 11, 12, 13, 14, 15, 16, 17, 18, 19, 20, 21, 22, 23, 24] [[], [0], [1], [2], [], [4], [5], [6], [], [8], [9], [10], [11], [], [13], [3, 7, 12, 14], [15], [16]]
      (fun i v W => match i with
        | 0 => v = .pointer (some ⟨w.heap.size, 0, none⟩)
        | 1 => v = .int .i64 s
        | 2 => v = .int .u8 s
        | 3 => SlV .u8 W v [165, s]
        | 4 => v = .pointer (some ⟨w.heap.size, 1, none⟩)
        | 5 => v = .int .i64 q
        | 6 => v = .int .u64 q
        | 7 => SlV .u8 W v (big4 q)
        | 8 => v = .pointer (some ⟨w.heap.size, 2, none⟩)
        | 9 => v = .slice A n c
        | 10 => v = .int .i64 n
        | 11 => v = .int .u64 n
        | 12 => SlV .u8 W v [(n : Int) / 256, (n : Int) % 256]
        | 13 => v = .pointer (some ⟨w.heap.size, 2, none⟩)
        | 14 => v = .slice A n c
        | 15 => ∃ A', v = .slice A' 4 4 ∧ Lists .u8 W A' 4 [[165, s], big4 q, [(n : Int) / 256, (n : Int) % 256], xs]
        | 16 => ∃ A6 n6 c6, v = .slice A6 n6 c6 ∧ OwnS .u8 5 w1.heap.size W A6 n6 c6 (heads ⟨s, q, xs⟩)
        | _ => True) (by kernel_rfl) (by kernel_rfl) (by simp) ?_ ?_ ?_
    · intro i v W W' hX hv
      match i with
      | 0 | 1 | 2 | 4 | 5 | 6 | 8 | 9 | 10 | 11 | 13 | 14 => exact hv
      | 3 | 7 | 12 => exact SlV.ext hv hX
      | 15 => obtain ⟨A', h1, h2⟩ := hv; exact ⟨A', h1, h2.ext hX⟩
      | 16 => obtain ⟨A6, n6, c6, h1, h2⟩ := hv; exact ⟨A6, n6, c6, h1, h2.ext hX⟩
      | _ + 17 => exact hv
    · simp only [List.take_succ_cons, List.take_zero]
      refine ⟨?_, ?_, ?_, ?_, ?_, ?_, ?_, ?_, ?_, ?_, ?_, ?_, ?_, ?_, ?_, ?_, ?_, trivial⟩
      all_goals
        intro us W hX hdep K hK Q'
        simp only [List.getD_cons_succ, List.getD_cons_zero, List.mem_cons, List.not_mem_nil, or_false, forall_eq_or_imp, forall_eq] at hdep
        simp only [fillA, Act.put, List.setIfInBounds_toArray, List.set_cons_succ, List.set_cons_zero] at hK ⊢
        have hX1 : Ext w1 W := ((Ext.refl w1).drew).trans hX
        have q0 := hX1.cell r0
        have q1 := hX1.cell r1
        have q2 := hX1.cell r2
        have HXW := Lib.hid hX1
        clear r0 r1 r2 f0 f1 f2 hX hX1
      all_goals try simp only [hdep] at hK ⊢
      rotate_left 15
      · obtain ⟨d3, d7, d12, d14⟩ := hdep
        obtain ⟨A3, n3, c3, e3, h3⟩ := d3
        obtain ⟨A7, n7, c7, e7, h7⟩ := d7
        obtain ⟨A12, n12, c12, e12, h12⟩ := d12
        rw [e3, e7, e12] at hK ⊢
        have G3 := Lib.hid h3
        have G7 := Lib.hid h7
        have G12 := Lib.hid h12
        clear h3 h7 h12 e3 e7 e12 d14
        go_simp
        have hXa : Ext W (W.alloc (.cells #[.slice A3 n3 c3, .slice A7 n7 c7, .slice A12 n12 c12, .slice A n c] 22)) := (Ext.refl W).alloc _
        refine hK _ _ ⟨_, rfl, ?_⟩ hXa
        exact Lists.four (At.new W [_, _, _, _] _) (SlV.ext ⟨A3, n3, c3, rfl, G3.out⟩ hXa) (SlV.ext ⟨A7, n7, c7, rfl, G7.out⟩ hXa) (SlV.ext ⟨A12, n12, c12, rfl, G12.out⟩ hXa) ⟨A, n, c, rfl, H.out.ext ((HXw.out.trans HXW.out).trans hXa), hnc, hcm⟩
      · obtain ⟨A15, e15, h15⟩ := hdep
        rw [e15] at hK ⊢
        have G15 := Lib.hid h15
        clear h15 e15
        go_simp
        refine (joined_any A15 4 4 _ W G15.out (by omega) (by have := H.out.1; simp [big4]; omega)).mono ?_
        rintro e w6 ⟨A6, n6, c6, rfl, hO6, hE6⟩
        have hfl : [[165, s], big4 q, [(n : Int) / 256, (n : Int) % 256], xs].flatten = heads ⟨s, q, xs⟩ := by
          have := H.out.1; subst this; simp [heads]
        rw [hfl] at hO6
        exact hK _ _ ⟨A6, n6, c6, rfl, hO6.mono HXW.out.size⟩ hE6
      all_goals go_simp
      all_goals try (refine hK _ _ rfl (Ext.refl _))
      · refine hK _ _ ?_ ((Ext.refl _).alloc _)
        exact ints_two (Blk.new W 5 #[.int .u8 165, .int .u8 s]) Hs.out Hs2.out
      · refine (H4.out W HXW.out).mono ?_
        rintro e w4 ⟨A4, n4, c4, rfl, hO4, hE4, hE4'⟩
        exact hK _ _ hO4.slv hE4'
      · refine (H2.out W HXW.out).mono ?_
        rintro e w4 ⟨A4, n4, c4, rfl, hO4, hE4, hE4'⟩
        exact hK _ _ hO4.slv hE4'
    · intro us W hV hX
      have h16 := hV 16 (by omega)
      simp only at h16
      obtain ⟨A6, n6, c6, e6, hO6⟩ := h16
      have HO6 := Lib.hid hO6
      have HXW := Lib.hid (((Ext.refl w1).drew).trans hX)
      clear hV hO6 hX
      simp only [fillA, Act.put, List.setIfInBounds_toArray, List.set_cons_succ, List.set_cons_zero, List.drop_succ_cons, List.drop_zero, e6]
      clear e6
      go_wp2_with fail
      go_meet
      exact ⟨A6, n6, c6, rfl, HO6.out, HXW.out⟩
  case rest =>
    obtain ⟨A4, n4, c4, rfl, hO4, hX4⟩ := hcut
    have HO4 := Lib.hid hO4
    have HX4 := Lib.hid hX4
    clear hO4 hX4 H4 H2 r0 r1 r2 f0 f1 f2
    have hn4 : n4 ≤ 1032 := by have := HO4.out.len; rw [heads_len] at this; have h6 := H.out.1; simp only at this; omega
    obtain ⟨q6, hq6⟩ : ∃ r, crc (heads ⟨s, q, xs⟩) = r := ⟨_, rfl⟩
    have hcr := crc_range (heads ⟨s, q, xs⟩)
    have hck := checksumR_any _ _ c4 _ _ HO4.out.ints (by omega)
    rw [hq6] at hck hcr
    have HCK := Lib.hid hck
    have HQ6 := Lib.hid hq6
    obtain ⟨hc0, hc1⟩ := hcr
    clear hck hq6
    go_wp2_with fail
    refine HCK.out.mono ?_
    rintro e w' ⟨rfl, rfl⟩
    go_wp2_with fail
    refine (bigR_any q6 4 _ hc0 (by omega) (by omega)).mono ?_
    rintro e w5 ⟨A5, n5, c5, rfl, hO5, hX5⟩
    rw [bigB_four hc0 hc1] at hO5
    have HO5 := Lib.hid hO5
    have HX5 := Lib.hid hX5
    clear hO5 hX5
    go_wp2_with fail
    have hXa : Ext w5 (w5.alloc (.cells #[.slice A4 n4 c4, .slice A5 n5 c5] 22)) := (Ext.refl w5).alloc _
    refine (joined_any _ _ _ [heads ⟨s, q, xs⟩, big4 q6] _ (Lists.two (At.new w5 [_, _] _) ((HO4.out.ext (HX5.out.trans hXa)).slv) ((HO5.out.ext hXa).slv)) (by omega) (by have h6 := H.out.1; simp [big4, heads_len]; omega)).mono ?_
    rintro e w6 ⟨A6, n6, c6, rfl, hO6, hX6⟩
    have HO6 := Lib.hid hO6
    have HX6 := Lib.hid (((HXw.out.trans HX4.out).trans HX5.out).trans (hXa.trans hX6))
    have HZ : Hid (w.heap.size ≤ (w5.alloc (.cells #[.slice A4 n4 c4, .slice A5 n5 c5] 22)).heap.size) := (((HXw.out.trans HX4.out).trans HX5.out).trans hXa).size
    clear hO6 hX6 hXa
    go_wp2
    go_ret2
    refine ⟨A6, n6, c6, rfl, ?_, HX6.out⟩
    have hfl : [heads ⟨s, q, xs⟩, big4 q6].flatten = pck ⟨s, q, xs⟩ := by simp [pck, HQ6.out]
    rw [← hfl]
    exact HO6.out.mono HZ.out
end Go.Proofs.Ytekhmfliaojabaa
namespace Go.Proofs.Ytekhmfliaojabaa
open Go.RowKit

structure Flt where
  kind : Int
  place : Int
  num : Int

/-- A list without its element i. -/
def dele {α : Type} (l : List α) (i : Nat) : List α := l.take i ++ l.drop (i + 1)
/-- A list with one more element, which has the index i. -/
def inse {α : Type} (l : List α) (i : Nat) (x : α) : List α := l.take i ++ x :: l.drop i
/-- An integer, held between 0 and m. -/
def held (n : Int) (m : Nat) : Nat := Nat.min n.toNat m
/-- A byte string with the bit n inverted. -/
def flipped (x : List Int) (n : Nat) : List Int := x.set (n / 8) (((x.getD (n / 8) 0).toNat ^^^ 2 ^ (n % 8) : Nat) : Int)

def spoil1 (l : List (List Int)) (f : Flt) (i : Nat) (x : List Int) : List (List Int) :=
  if f.kind = 1 then dele l i
  else if f.kind = 2 then inse l (i + 1) x
  else if f.kind = 3 then inse (dele l i) (held f.num (l.length - 1)) x
  else if f.kind = 4 then (if f.num < 0 ∨ (x.length : Int) ≤ f.num.tdiv 8 then l else l.set i (flipped x f.num.toNat))
  else if f.kind = 5 then l.set i (x.take (held f.num x.length))
  else l
/-- One fault. -/
def fault1 (l : List (List Int)) (f : Flt) : List (List Int) :=
  if f.place < 0 ∨ (l.length : Int) ≤ f.place then l else spoil1 l f f.place.toNat (l.getD f.place.toNat [])
/-- The faults, one behind another. -/
def carry1 (l : List (List Int)) (fs : List Flt) : List (List Int) := fs.foldl fault1 l

section
variable {α : Type} {l : List α} {i : Nat} {x : α}
theorem dele_len (h : i < l.length) : (dele l i).length = l.length - 1 := by
  unfold dele; rw [List.length_append, List.length_take, List.length_drop]; omega
theorem inse_len (h : i ≤ l.length) : (inse l i x).length = l.length + 1 := by
  unfold inse; rw [List.length_append, List.length_take, List.length_cons, List.length_drop]; omega
theorem dele_mem {y : α} (h : y ∈ dele l i) : y ∈ l := by
  rcases List.mem_append.1 h with h | h
  · exact List.mem_of_mem_take h
  · exact List.mem_of_mem_drop h
theorem inse_mem {y : α} (h : y ∈ inse l i x) : y = x ∨ y ∈ l := by
  rcases List.mem_append.1 h with h | h
  · exact .inr (List.mem_of_mem_take h)
  · rcases List.mem_cons.1 h with h | h
    · exact .inl h
    · exact .inr (List.mem_of_mem_drop h)
theorem set_inse (h : i < l.length) : inse (dele l i) i x = l.set i x := by
  have e1 : (l.take i).length = i := by rw [List.length_take]; omega
  unfold inse dele
  rw [List.set_eq_take_append_cons_drop, if_pos h]
  congr 1
  · rw [List.take_left' e1]
  · rw [List.drop_left' e1]
end
theorem held_le (n : Int) (m : Nat) : held n m ≤ m := Nat.min_le_right _ _
theorem flipped_len (x : List Int) (n : Nat) : (flipped x n).length = x.length := by simp [flipped]
theorem flipped_wf {x : List Int} (n : Nat) (h : ∀ y ∈ x, (Lit.int .u8 y).wf = true) : ∀ y ∈ flipped x n, (Lit.int .u8 y).wf = true := by
  intro y hy
  rcases List.mem_or_eq_of_mem_set hy with h1 | rfl
  · exact h y h1
  · have hb : (x.getD (n / 8) 0).toNat < 2 ^ 8 := by
      rcases Nat.lt_or_ge (n / 8) x.length with h2 | h2
      · have := u8_bounds (h _ (List.getElem_mem h2))
        simp [List.getD, List.getElem?_eq_getElem h2]; omega
      · simp [List.getD, List.getElem?_eq_none h2]
    have h3 : (x.getD (n / 8) 0).toNat ^^^ 2 ^ (n % 8) < 2 ^ 8 := Nat.xor_lt_two_pow hb (Nat.pow_lt_pow_right (by omega) (Nat.mod_lt _ (by omega)))
    generalize (x.getD (n / 8) 0).toNat ^^^ 2 ^ (n % 8) = z at h3 ⊢
    simp [Lit.wf, IntKind.min, IntKind.max, IntKind.bits, IntKind.signed]; omega

/-- What is known of the datagrams: how many, how long, of bytes. -/
def Grams (m k : Nat) (l : List (List Int)) : Prop := l.length ≤ m ∧ ∀ x ∈ l, x.length ≤ k ∧ ∀ y ∈ x, (Lit.int .u8 y).wf = true
theorem Grams.fault {m k : Nat} {l : List (List Int)} (h : Grams m k l) (f : Flt) : Grams (m + 1) k (fault1 l f) := by
  obtain ⟨h1, h2⟩ := h
  unfold fault1
  split
  · exact ⟨by omega, h2⟩
  · rename_i hn
    have hi : f.place.toNat < l.length := by omega
    have hx : l.getD f.place.toNat [] ∈ l := by simp [List.getD, List.getElem?_eq_getElem hi]
    have hd : (dele l f.place.toNat).length = l.length - 1 := dele_len hi
    generalize l.getD f.place.toNat [] = x at hx
    generalize f.place.toNat = i at hi hd
    unfold spoil1
    split
    · exact ⟨by omega, fun y hy => h2 y (dele_mem hy)⟩
    split
    · exact ⟨by rw [inse_len (by omega)]; omega, fun y hy => by rcases inse_mem hy with rfl | hy; exact h2 _ hx; exact h2 _ hy⟩
    split
    · exact ⟨by rw [inse_len (by have := held_le f.num (l.length - 1); omega)]; omega, fun y hy => by rcases inse_mem hy with rfl | hy; exact h2 _ hx; exact h2 _ (dele_mem hy)⟩
    split
    · split
      · exact ⟨by omega, h2⟩
      · refine ⟨by rw [List.length_set]; omega, fun y hy => ?_⟩
        rcases List.mem_or_eq_of_mem_set hy with hy | rfl
        · exact h2 _ hy
        · exact ⟨by rw [flipped_len]; exact (h2 _ hx).1, flipped_wf _ (h2 _ hx).2⟩
    split
    · refine ⟨by rw [List.length_set]; omega, fun y hy => ?_⟩
      rcases List.mem_or_eq_of_mem_set hy with hy | rfl
      · exact h2 _ hy
      · refine ⟨?_, fun z hz => (h2 _ hx).2 z (List.mem_of_mem_take hz)⟩
        rw [List.length_take]; have := (h2 _ hx).1; omega
    · exact ⟨by omega, h2⟩
theorem Grams.carry {m k : Nat} {l : List (List Int)} (h : Grams m k l) (fs : List Flt) : Grams (m + fs.length) k (carry1 l fs) := by
  induction fs generalizing m l with
  | nil => exact h
  | cons f fs ih => have := ih (h.fault f); rw [List.length_cons, show m + (fs.length + 1) = m + 1 + fs.length by omega]; exact this
theorem carry_snoc {l : List (List Int)} {fs : List Flt} {k : Nat} {f : Flt} (h : fs[k]? = some f) : carry1 l (fs.take (k + 1)) = fault1 (carry1 l (fs.take k)) f := by
  rw [List.take_add_one, h]; simp [carry1]
end Go.Proofs.Ytekhmfliaojabaa
namespace Go.Proofs.Ytekhmfliaojabaa

/-- The number that digits denote. -/
def val (B : Int) : List Int → Int
  | [] => 0
  | x :: xs => x + B * val B xs
/-- All are digits. -/
def Dg (B : Int) (xs : List Int) : Prop := ∀ x ∈ xs, 0 ≤ x ∧ x < B

section
variable {B : Int} {xs ys : List Int} {x u : Int} {k : Nat}
theorem Dg.nil : Dg B [] := by simp [Dg]
theorem Dg.take (h : Dg B xs) (k : Nat) : Dg B (xs.take k) := fun x hx => h x (List.mem_of_mem_take hx)
theorem Dg.drop (h : Dg B xs) (k : Nat) : Dg B (xs.drop k) := fun x hx => h x (List.mem_of_mem_drop hx)
theorem Dg.append (h : Dg B xs) (k : Dg B ys) : Dg B (xs ++ ys) := fun x hx => by
  rcases List.mem_append.1 hx with hx | hx
  · exact h x hx
  · exact k x hx
theorem Dg.set (h : Dg B xs) (hu : 0 ≤ u ∧ u < B) (k : Nat) : Dg B (xs.set k u) := fun x hx => by
  rcases List.mem_or_eq_of_mem_set hx with hx | hx
  · exact h x hx
  · subst hx; exact hu
theorem Dg.get (h : Dg B xs) (hx : xs[k]? = some x) : 0 ≤ x ∧ x < B := h x (List.mem_of_getElem? hx)
theorem Dg.one (hx : 0 ≤ x ∧ x < B) : Dg B [x] := fun y hy => by simp at hy; subst hy; exact hx
theorem Dg.cons (hx : 0 ≤ x ∧ x < B) (h : Dg B xs) : Dg B (x :: xs) := fun y hy => by
  rcases List.mem_cons.1 hy with hy | hy
  · subst hy; exact hx
  · exact h y hy

theorem val_append (xs ys : List Int) : val B (xs ++ ys) = val B xs + B ^ xs.length * val B ys := by
  induction xs with
  | nil => simp [val]
  | cons x xs ih => simp only [List.cons_append, val, ih, List.length_cons, Int.pow_succ]; grind
theorem val_one (x : Int) : val B [x] = x := by simp [val]
theorem val_snoc (xs : List Int) (x : Int) : val B (xs ++ [x]) = val B xs + B ^ xs.length * x := by rw [val_append, val_one]
theorem val_nonneg (hB : 0 < B) (h : Dg B xs) : 0 ≤ val B xs := by
  induction xs with
  | nil => simp [val]
  | cons x xs ih =>
    have hx := h x (List.mem_cons_self ..)
    have hi := ih fun y hy => h y (List.mem_cons_of_mem _ hy)
    have := Int.mul_nonneg (Int.le_of_lt hB) hi
    rw [val]; omega
theorem pow_pos' (hB : 0 < B) (k : Nat) : 0 < B ^ k := Int.pow_pos hB
theorem val_lt (hB : 0 < B) (h : Dg B xs) : val B xs < B ^ xs.length := by
  induction xs with
  | nil => simp [val]
  | cons x xs ih =>
    have hx := h x (List.mem_cons_self ..)
    have hi := ih fun y hy => h y (List.mem_cons_of_mem _ hy)
    rw [val, List.length_cons, Int.pow_succ]
    have h1 : B * (val B xs + 1) ≤ B * B ^ xs.length := Int.mul_le_mul_of_nonneg_left (by omega) (Int.le_of_lt hB)
    have h2 : B * (val B xs + 1) = B * val B xs + B := by grind
    have h3 : B * B ^ xs.length = B ^ xs.length * B := Int.mul_comm _ _
    omega
end

/-- No most significant digit is 0. -/
def Nm (xs : List Int) : Prop := xs.getLast? ≠ some 0
/-- The normal digits of a number. -/
def Rep (B : Int) (xs : List Int) (n : Nat) : Prop := Dg B xs ∧ Nm xs ∧ val B xs = (n : Int)

section
variable {B : Int} {xs ys : List Int} {n m : Nat}
theorem Nm.nil : Nm [] := by simp [Nm]
theorem Nm.snoc {x : Int} (h : x ≠ 0) : Nm (xs ++ [x]) := by simp [Nm, h]
theorem Nm.one {x : Int} (h : x ≠ 0) : Nm [x] := by simp [Nm, h]
theorem Nm.split (h : Nm xs) (hne : xs ≠ []) : ∃ ys x, xs = ys ++ [x] ∧ x ≠ 0 := by
  refine ⟨xs.dropLast, xs.getLast hne, (List.dropLast_concat_getLast hne).symm, fun e => ?_⟩
  exact h (by rw [List.getLast?_eq_some_getLast hne, e])
theorem Nm.take {k : Nat} {x : Int} (h : xs[k]? = some x) (hx : x ≠ 0) : Nm (xs.take (k + 1)) := by
  rw [List.take_add_one, h]; exact Nm.snoc hx
theorem nm_low (hB : 1 < B) (hd : Dg B xs) (h : Nm xs) (hne : xs ≠ []) : B ^ (xs.length - 1) ≤ val B xs := by
  obtain ⟨ys, x, rfl, hx⟩ := h.split hne
  have hd1 : Dg B ys := fun y hy => hd y (List.mem_append_left _ hy)
  have hx1 := hd x (List.mem_append_right _ (List.mem_singleton.2 rfl))
  have h0 := val_nonneg (by omega) hd1
  rw [val_snoc, List.length_append, List.length_singleton, Nat.add_sub_cancel]
  have hp := pow_pos' (B := B) (by omega) ys.length
  have : B ^ ys.length * 1 ≤ B ^ ys.length * x := Int.mul_le_mul_of_nonneg_left (by omega) (Int.le_of_lt hp)
  omega
theorem pow_le {a b : Nat} (hB : 1 ≤ B) (h : a ≤ b) : B ^ a ≤ B ^ b := by
  obtain ⟨k, rfl⟩ := Nat.exists_eq_add_of_le h
  rw [Int.pow_add]
  have h1 := pow_pos' (B := B) (by omega) a
  have h2 := pow_pos' (B := B) (by omega) k
  have : B ^ a * 1 ≤ B ^ a * B ^ k := Int.mul_le_mul_of_nonneg_left (by omega) (Int.le_of_lt h1)
  omega
theorem Rep.len_le (hB : 1 < B) (h : Rep B xs n) {L : Nat} (hn : (n : Int) < B ^ L) : xs.length ≤ L := by
  rcases Nat.lt_or_ge L xs.length with hl | hl
  · have h1 := nm_low hB h.1 h.2.1 (by intro e; subst e; simp at hl)
    rw [h.2.2] at h1
    have := pow_le (B := B) (a := L) (b := xs.length - 1) (by omega) (by omega)
    omega
  · exact hl
theorem Rep.lt (hB : 1 < B) (h : Rep B xs n) : (n : Int) < B ^ xs.length := by rw [← h.2.2]; exact val_lt (by omega) h.1
theorem Rep.nil : Rep B [] 0 := ⟨Dg.nil, Nm.nil, rfl⟩
theorem Rep.zero (hB : 1 < B) (h : Rep B xs 0) : xs = [] := by
  rcases xs with _ | ⟨x, xs⟩
  · rfl
  · have h1 := nm_low hB h.1 h.2.1 (by simp)
    rw [h.2.2] at h1
    have := pow_pos' (B := B) (by omega) ((x :: xs).length - 1)
    omega
theorem Rep.pos (hB : 1 < B) (h : Rep B xs n) : n = 0 ↔ xs = [] := by
  constructor
  · rintro rfl; exact h.zero hB
  · rintro rfl; have := h.2.2; simp [val] at this; omega
theorem Rep.one (hB : 1 < B) : Rep B [1] 1 := ⟨Dg.one (by omega), Nm.one (by omega), val_one 1⟩
end

end Go.Proofs.Ytekhmfliaojabaa
namespace Go.Proofs.Ytekhmfliaojabaa
open Go.RowKit

/-- n has at most L digits. -/
def Fit (B : Int) (n L : Nat) : Prop := (n : Int) < B ^ L
section
variable {B : Int} {n m a b L : Nat} {xs : List Int}
theorem Fit.mono (hB : 1 ≤ B) (h : Fit B n a) (hl : a ≤ b) : Fit B n b := by
  have := pow_le (B := B) hB hl
  unfold Fit at *; omega
theorem Fit.le (h : Fit B n a) (hl : m ≤ n) : Fit B m a := by unfold Fit at *; omega
theorem Fit.add (hB : 2 ≤ B) (h : Fit B n a) (k : Fit B m a) : Fit B (n + m) (a + 1) := by
  unfold Fit at *
  rw [Int.pow_succ]
  have hp := pow_pos' (B := B) (by omega) a
  have : B ^ a * 2 ≤ B ^ a * B := Int.mul_le_mul_of_nonneg_left hB (Int.le_of_lt hp)
  omega
theorem Fit.len (hB : 1 < B) (h : Fit B n L) (hr : Rep B xs n) : xs.length ≤ L := hr.len_le hB h
theorem Fit.one (hB : 1 < B) (h : 0 < L) : Fit B 1 L := by
  have := pow_le (B := B) (a := 1) (b := L) (by omega) h
  unfold Fit; rw [Int.pow_succ, Int.pow_zero] at this; omega
theorem Fit.zero (hB : 0 < B) : Fit B 0 L := by have := pow_pos' hB L; unfold Fit; omega
end

/-- A value that is a slice of words, the normal form of n. -/
def NatV (k : IntKind) (B : Int) (w : World) (v : Value) (n : Nat) : Prop :=
  ∃ A m c xs, v = .slice A m c ∧ Ints k w A m xs ∧ Rep B xs n ∧ m ≤ c ∧ c ≤ 9223372036854775807
theorem NatV.ext {k : IntKind} {B : Int} {w w' : World} {v : Value} {n : Nat} (h : NatV k B w v n) (he : Ext w w') : NatV k B w' v n := by
  obtain ⟨A, m, c, xs, h1, h2, h3⟩ := h
  exact ⟨A, m, c, xs, h1, h2.ext he, h3⟩
theorem NatV.zero {k : IntKind} {B : Int} {w : World} : NatV k B w (.slice none 0 0) 0 := ⟨none, 0, 0, [], rfl, Ints.nil, Rep.nil, by omega, by omega⟩

/-- Storing at place j of a row of the call's own. -/
theorem OwnS.store {k : IntKind} {e : TypeId} {base : Nat} {w : World} {A : Option Addr} {n c : Nat} {xs : List Int} (h : OwnS k e base w A n c xs) {j : Nat} (hj : j < n) :
    ∃ g x, A = some ⟨g, 0, none⟩ ∧ xs[j]? = some x ∧ (Lit.int k x).wf = true ∧ w.cell? ⟨g, j, none⟩ = some (.int k x) ∧ w.frozen? ⟨g, j, none⟩ = false ∧ base ≤ g ∧
      Hid (∀ u, (Lit.int k u).wf = true → OwnS k e base (w.setCell ⟨g, j, none⟩ (.int k u)) A n c (xs.set j u)) := by
  have hj' : j < xs.length := by rw [h.len]; exact hj
  have hown := h.own
  rcases hown.2 with ⟨_, h0⟩ | ⟨g, cap, cur, hv, hg, _⟩
  · omega
  · injection hv with hA _ _
    subst hA
    have hc := hown.cellAt j (by omega)
    rw [List.getElem?_map, List.getElem?_eq_getElem hj'] at hc
    refine ⟨g, xs[j], rfl, List.getElem?_eq_getElem hj', h.wf _ (List.getElem_mem hj'), hc, hown.frozenAt j, hg, fun u hu => ⟨?_, by rw [List.length_set, h.len], fun x hx => ?_⟩⟩
    · have := (hown.stored j (.int k u)).1
      rwa [← List.map_set] at this
    · rcases List.mem_or_eq_of_mem_set hx with hx | hx
      · exact h.wf x hx
      · subst hx; exact hu
theorem OwnS.get {k : IntKind} {e : TypeId} {base : Nat} {w : World} {A : Option Addr} {n c : Nat} {xs : List Int} (h : OwnS k e base w A n c xs) {j : Nat} (hj : j < n) :
    ∃ g x, A = some ⟨g, 0, none⟩ ∧ xs[j]? = some x ∧ (Lit.int k x).wf = true ∧ w.cell? ⟨g, j, none⟩ = some (.int k x) := by
  obtain ⟨g, x, h1, h2, h3, h4, _⟩ := h.store hj
  exact ⟨g, x, h1, h2, h3, h4⟩
/-- The row that 'make' makes. -/
theorem OwnS.made {k : IntKind} {e : TypeId} {base : Nat} {w : World} {g n c : Nat} (h : w.ownsRow base e 1 (.slice (some ⟨g, 0, none⟩) n c) n (List.replicate n (.int k 0))) : OwnS k e base w (some ⟨g, 0, none⟩) n c (List.replicate n 0) := by
  refine ⟨by simpa using h, by simp, fun x hx => ?_⟩
  have := (List.mem_replicate.1 hx).2
  subst this
  cases k <;> decide
end Go.Proofs.Ytekhmfliaojabaa
namespace Go.Proofs.Ytekhmfliaojabaa
open Go.RowKit

/-- Two rows that do not share a block. -/
def Apart (u v : Value) : Prop := u.ownBlock = none ∨ u.ownBlock ≠ v.ownBlock
theorem Apart.symm {u v : Value} (h : Apart u v) : Apart v u := by
  unfold Apart at h ⊢
  cases hv : v.ownBlock with
  | none => exact .inl rfl
  | some k =>
    rw [hv] at h
    rcases h with h | h
    · rw [h]; right; simp
    · exact .inr (Ne.symm h)

/-- The slices 'vs' have rows of bytes of their own from block 'base' on, no two in one block, and read as 'xss'. -/
structure Deck (tb : TypeId) (base : Nat) (w : World) (vs : List Value) (xss : List (List Int)) : Prop where
  len : vs.length = xss.length
  row : ∀ (j : Nat) (v : Value) (xs : List Int), vs[j]? = some v → xss[j]? = some xs → ∃ A c, v = .slice A xs.length c ∧ OwnS .u8 tb base w A xs.length c xs
  far : vs.Pairwise Apart

theorem pairwise_dele {α : Type} {R : α → α → Prop} {l : List α} (h : l.Pairwise R) (i : Nat) : (dele l i).Pairwise R := by
  unfold dele
  have e : l.take i ++ l.drop (i + 1) = l.eraseIdx i := by rw [List.eraseIdx_eq_take_drop_succ]
  rw [e]
  exact h.sublist (List.eraseIdx_sublist l i)
theorem perm_inse {α : Type} (l : List α) (i : Nat) (x : α) : (inse l i x).Perm (x :: l) := by
  unfold inse
  have := @List.perm_middle α x (l.take i) (l.drop i)
  rwa [List.take_append_drop] at this
theorem perm_dele {α : Type} {l : List α} {i : Nat} {x : α} (h : l[i]? = some x) : l.Perm (x :: dele l i) := by
  obtain ⟨hi, rfl⟩ := List.getElem?_eq_some_iff.1 h
  have e : l = l.take i ++ l[i] :: l.drop (i + 1) := by rw [← List.drop_eq_getElem_cons hi, List.take_append_drop]
  conv => lhs; rw [e]
  exact List.perm_middle
theorem get_dele {α : Type} {l : List α} {i : Nat} (j : Nat) : (dele l i)[j]? = if j < i ∧ i ≤ l.length then l[j]? else if i ≤ l.length then l[j + 1]? else l[j]? := by
  unfold dele
  rcases Nat.lt_or_ge j i with h | h
  · rcases Nat.lt_or_ge l.length i with h2 | h2
    · rw [if_neg (by omega), if_neg (by omega), List.take_of_length_le (by omega), List.drop_eq_nil_of_le (by omega), List.append_nil]
    · rw [if_pos ⟨h, h2⟩, List.getElem?_append_left (by rw [List.length_take]; omega), List.getElem?_take, if_pos h]
  · rcases Nat.lt_or_ge l.length i with h2 | h2
    · rw [if_neg (by omega), if_neg (by omega), List.take_of_length_le (by omega), List.drop_eq_nil_of_le (by omega), List.append_nil]
    · rw [if_neg (by omega), if_pos h2, List.getElem?_append_right (by rw [List.length_take]; omega), List.length_take, Nat.min_eq_left h2, List.getElem?_drop]
      congr 1; omega
theorem get_inse {α : Type} {l : List α} {i : Nat} {x : α} (h : i ≤ l.length) (j : Nat) : (inse l i x)[j]? = if j < i then l[j]? else if j = i then some x else l[j - 1]? := by
  unfold inse
  rcases Nat.lt_or_ge j i with h1 | h1
  · rw [if_pos h1, List.getElem?_append_left (by rw [List.length_take]; omega), List.getElem?_take, if_pos h1]
  · rw [if_neg (by omega), List.getElem?_append_right (by rw [List.length_take]; omega), List.length_take, Nat.min_eq_left h]
    by_cases h2 : j = i
    · subst h2; rw [if_pos rfl]; simp
    · rw [if_neg h2]
      obtain ⟨k, rfl⟩ : ∃ k, j = i + (k + 1) := ⟨j - i - 1, by omega⟩
      rw [show i + (k + 1) - i = k + 1 by omega, List.getElem?_cons_succ, List.getElem?_drop]
      congr 1

section
variable {tb te : TypeId} {base : Nat} {w w' : World} {vs : List Value} {xss : List (List Int)}
theorem Deck.nil : Deck tb base w [] [] := ⟨rfl, by simp, List.Pairwise.nil⟩
theorem Deck.ext (h : Deck tb base w vs xss) (he : Ext w w') : Deck tb base w' vs xss :=
  ⟨h.len, fun j v xs a b => by obtain ⟨A, c, h1, h2⟩ := h.row j v xs a b; exact ⟨A, c, h1, h2.ext he⟩, h.far⟩
theorem Deck.kept {base' size n : Nat} {v' : Value} {us : List Value} (h : Deck tb base w vs xss) (h' : w.ownsRow base' te size v' n us) (hne : tb ≠ te) (hg : w.grownBy w' v'.ownBlock) : Deck tb base w' vs xss :=
  ⟨h.len, fun j v xs a b => by obtain ⟨A, c, h1, h2⟩ := h.row j v xs a b; exact ⟨A, c, h1, h2.kept h' hne hg⟩, h.far⟩
theorem Deck.one {v : Value} (h : Deck tb base w vs xss) (hv : v ∈ vs) : v.oneCell' = true := by
  obtain ⟨j, hj, rfl⟩ := List.getElem_of_mem hv
  obtain ⟨A, c, h1, _⟩ := h.row j _ _ (List.getElem?_eq_getElem hj) (List.getElem?_eq_getElem (by rw [← h.len]; exact hj))
  rw [h1]; rfl
theorem Deck.get (h : Deck tb base w vs xss) {j : Nat} (hj : j < xss.length) : ∃ A c, vs[j]? = some (.slice A (xss.getD j []).length c) ∧ OwnS .u8 tb base w A (xss.getD j []).length c (xss.getD j []) := by
  have hj' : j < vs.length := by rw [h.len]; exact hj
  have h1 : vs[j]? = some vs[j] := List.getElem?_eq_getElem hj'
  have h2 : xss[j]? = some (xss.getD j []) := by simp [List.getD, List.getElem?_eq_getElem hj]
  obtain ⟨A, c, h3, h4⟩ := h.row j _ _ h1 h2
  exact ⟨A, c, by rw [h1, h3], h4⟩
theorem Deck.dele (h : Deck tb base w vs xss) (i : Nat) : Deck tb base w (dele vs i) (dele xss i) := by
  refine ⟨by have := h.len; simp [Proofs.Ytekhmfliaojabaa.dele, this], fun j v xs a b => ?_, pairwise_dele h.far i⟩
  rw [get_dele] at a b
  rw [h.len] at a
  split at a
  · rename_i hc; rw [if_pos hc] at b; exact h.row _ _ _ a b
  · rename_i hc
    rw [if_neg hc] at b
    split at a
    · rename_i hc2; rw [if_pos hc2] at b; exact h.row _ _ _ a b
    · rename_i hc2; rw [if_neg hc2] at b; exact h.row _ _ _ a b
theorem Deck.inse {A : Option Addr} {c i : Nat} {xs : List Int} (h : Deck tb base w vs xss) (hi : i ≤ xss.length) (hr : OwnS .u8 tb base w A xs.length c xs) (hf : ∀ v ∈ vs, Apart v (.slice A xs.length c)) :
    Deck tb base w (inse vs i (.slice A xs.length c)) (inse xss i xs) := by
  have hi' : i ≤ vs.length := by rw [h.len]; exact hi
  refine ⟨by rw [inse_len hi', inse_len hi, h.len], fun j v ys a b => ?_, ?_⟩
  · rw [get_inse hi'] at a
    rw [get_inse hi] at b
    split at a
    · rename_i hc; rw [if_pos hc] at b; exact h.row _ _ _ a b
    · rename_i hc
      rw [if_neg hc] at b
      split at a
      · rename_i hc2
        rw [if_pos hc2] at b
        injection a with a; injection b with b
        subst a b
        exact ⟨A, c, rfl, hr⟩
      · rename_i hc2; rw [if_neg hc2] at b; exact h.row _ _ _ a b
  · refine ((perm_inse vs i _).pairwise_iff fun {a b} h => Apart.symm h).2 (List.pairwise_cons.2 ⟨fun v hv => (hf v hv).symm, h.far⟩)
/-- A row whose block is new is apart from all others. -/
theorem Deck.fresh {v : Value} {k : Nat} (h : Deck tb base w vs xss) (hv : ∀ g, v.ownBlock = some g → w.heap.size ≤ g) : ∀ u ∈ vs, Apart u v := by
  intro u hu
  obtain ⟨j, hj, rfl⟩ := List.getElem_of_mem hu
  obtain ⟨A, c, h1, h2⟩ := h.row j _ _ (List.getElem?_eq_getElem hj) (List.getElem?_eq_getElem (by rw [← h.len]; exact hj))
  rw [h1]
  cases ho : (Value.slice A (xss[j]'(by rw [← h.len]; exact hj)).length c).ownBlock with
  | none => exact .inl ho
  | some g =>
    right
    rw [ho]
    intro e
    have h3 := (h2.own.lt g ho).2
    have h4 := hv g e.symm
    omega
theorem Deck.set {i : Nat} (h : Deck tb base w vs xss) (hi : i < xss.length) {A : Option Addr} {c : Nat} {xs : List Int} (hr : OwnS .u8 tb base w A xs.length c xs)
    (hb : ∀ u, vs[i]? = some u → u.ownBlock = (Value.slice A xs.length c).ownBlock) : Deck tb base w (vs.set i (.slice A xs.length c)) (xss.set i xs) := by
  have hi' : i < vs.length := by rw [h.len]; exact hi
  rw [← set_inse hi, ← set_inse hi']
  refine (h.dele i).inse (by rw [dele_len hi]; omega) hr fun v hv' => ?_
  have hp := ((perm_dele (List.getElem?_eq_getElem hi')).pairwise_iff fun {a b} h => Apart.symm h).1 h.far
  have := ((List.pairwise_cons.1 hp).1 v hv').symm
  unfold Apart at this ⊢
  rw [← hb _ (List.getElem?_eq_getElem hi')]
  exact this
/-- A store into the row i. -/
theorem Deck.write {i g : Nat} (h : Deck tb base w vs xss) (hi : i < xss.length) {c : Nat} {ys : List Int} (hv : vs[i]? = some (.slice (some ⟨g, 0, none⟩) (xss.getD i []).length c)) (hl : ys.length = (xss.getD i []).length)
    (hr : OwnS .u8 tb base w' (some ⟨g, 0, none⟩) ys.length c ys) (hg : w.grownBy w' (some g)) : Deck tb base w' vs (xss.set i ys) := by
  have hi' : i < vs.length := by rw [h.len]; exact hi
  refine ⟨by rw [List.length_set, h.len], fun j v xs a b => ?_, h.far⟩
  rw [List.getElem?_set] at b
  split at b
  · rename_i hij
    subst hij
    injection b with b
    subst b
    rw [hv] at a
    injection a with a
    subst a
    exact ⟨_, c, by rw [hl], hr⟩
  · rename_i hij
    obtain ⟨A, c', h1, h2⟩ := h.row j v xs a b
    refine ⟨A, c', h1, h2.own.kept hg ?_, h2.len, h2.wf⟩
    have hp := h.far
    have hap : Apart v (.slice (some ⟨g, 0, none⟩) (xss.getD i []).length c) := by
      obtain ⟨hj, rfl⟩ := List.getElem?_eq_some_iff.1 a
      obtain ⟨_, e⟩ := List.getElem?_eq_some_iff.1 hv
      rw [← e]
      rcases Nat.lt_or_ge j i with hlt | hge
      · exact List.pairwise_iff_getElem.1 hp j i hj hi' hlt
      · exact (List.pairwise_iff_getElem.1 hp i j hi' hj (by omega)).symm
    rw [h1] at hap
    rcases hap with e | e
    · exact .inl e
    · exact .inr e
end

/-- A beginning of a row. -/
theorem own_front {w : World} {base : Nat} {e : TypeId} {A : Option Addr} {n c m : Nat} {vs : List Value} (h : w.ownsRow base e 1 (.slice A n c) n vs) (hm : m ≤ n) : w.ownsRow base e 1 (.slice A m c) m (vs.take m) := by
  refine ⟨by have := h.1; rw [List.length_take]; omega, ?_⟩
  rcases h.2 with ⟨hv, h0⟩ | ⟨g, cap, cur, hv, hg, hb, h1, h2, h3, h4⟩
  · injection hv with hA hn hc
    subst hA hc
    obtain rfl : m = 0 := by omega
    exact .inl ⟨rfl, rfl⟩
  · injection hv with hA hn hc
    subst hA hc
    refine .inr ⟨g, c, cur, rfl, hg, hb, by omega, h2, h3, ?_⟩
    rw [← h4, List.take_take]
    congr 1; omega

section
variable {P : Program}
/-- 'copy(x[l:], s)', x a row of the call's own, elements of one cell. -/
theorem wpList_shift (w : World) {t u e : TypeId} {bytes : Nat} {z : Value} (E : Elem P t e 1 bytes z) {ops : Array Oper} {rest : List Oper} {o : Oper} {a : Act} {Q : Exit → Act → World → Prop}
    (hgd : o.guard = none) (d s : Operand) (ho : o.op = .call { callee := .builtin .copy, args := #[d, s], argTypes := #[t, u] }) (base : Nat)
    (A : Option Addr) (n c : Nat) (xs : List Value) (hown : w.ownsRow base e 1 (.slice A n c) n xs) (l : Nat) (hl : l ≤ n) (D : Option Addr) (hD : D = if c = l then A else A.map (·.add (l * 1))) (hd : a.eval d = .slice D (n - l) (c - l))
    (S : Option Addr) (m sc : Nat) (news : List Value) (hx : a.eval s = .slice S m sc) (hlen : news.length = m) (hat : At w S news) (h1 : ∀ u ∈ news, u.oneCell' = true)
    (h : ∀ w' (r : Int), w'.ownsRow base e 1 (.slice A n c) n (xs.take l ++ (news.take (n - l) ++ xs.drop (l + m))) → w.grownBy w' (Value.slice A n c).ownBlock → Hid (r = (Nat.min m (n - l) : Nat)) → wpList P ops Q rest (a.put o.dst (.int .i64 r)) w') :
    wpList P ops Q (o :: rest) a w := by
  obtain ⟨i, hi, hz, hs, hby⟩ := E.info
  have hsz : (P.info? e).map (·.size) = some 1 := by rw [hi]; simp [hs]
  have hxl : xs.length = n := by simpa using hown.1
  by_cases h0 : Nat.min m (n - l) = 0
  · refine wpList_copy_nothing hgd d s t u ho e E.und hsz D S (n - l) (c - l) m sc hd hx h0 ?_
    have e1 : xs.take l ++ (news.take (n - l) ++ xs.drop (l + m)) = xs := by
      rcases Nat.le_total m (n - l) with hmn | hmn
      · have hm0 : m = 0 := by simpa [Nat.min_eq_left hmn] using h0
        subst hm0
        obtain rfl : news = [] := List.eq_nil_of_length_eq_zero hlen
        simp
      · have hn0 : n - l = 0 := by simpa [Nat.min_eq_right hmn] using h0
        rw [hn0, List.take_zero, List.nil_append, List.drop_eq_nil_of_le (by omega), List.take_of_length_le (by omega), List.append_nil]
    exact h w 0 (by rw [e1]; exact hown) (World.grownBy.refl w _) (by rw [h0]; rfl)
  · have hq : (m ≤ n - l ∧ Nat.min m (n - l) = m) ∨ (n - l ≤ m ∧ Nat.min m (n - l) = n - l) := by
      rcases Nat.le_total m (n - l) with hmn | hmn
      · exact .inl ⟨hmn, Nat.min_eq_left hmn⟩
      · exact .inr ⟨hmn, Nat.min_eq_right hmn⟩
    have hmp : 0 < m := by omega
    have hnp : 0 < n - l := by omega
    rcases hown.2 with ⟨_, h3⟩ | ⟨g, cap, cur, hv, hbg, hg, hnc, hcm, hcs, htake⟩
    · omega
    · simp only [Value.slice.injEq] at hv
      obtain ⟨rfl, _, rfl⟩ := hv
      have hD' : D = some ⟨g, l, none⟩ := by
        rw [hD, if_neg (by omega)]
        simp [Addr.add_lit]
      subst hD'
      obtain ⟨b, off, rfl, hcell⟩ := hat (by intro e; subst e; simp at hlen; omega)
      have hln : (news.take (n - l)).length = Nat.min m (n - l) := by rw [List.length_take, hlen]; exact Nat.min_comm (n - l) m
      have hcs' : cur.size = c := by simpa using hcs
      refine wpList_copy_own hgd d s t u ho e E.und hsz g l (n - l) (c - l) ⟨b, off, none⟩ m sc hd hx cur e hg (news.take (n - l)) hln ?_ ?_ ?_ ?_
      · intro j v hv
        rw [Addr.add_lit]
        rw [List.getElem?_take] at hv
        split at hv
        · exact hcell j v hv
        · cases hv
      · rw [hln, hcs']
        omega
      · exact fun v hv => h1 v (List.mem_of_mem_take hv)
      · rw [hln]
        simp only [Nat.mul_one] at htake
        have hcl : cur.toList.length = c := by simpa using hcs'
        refine h _ _ ⟨?_, .inr ⟨g, c, _, rfl, hbg, setRow_heap w g cur _ e _ hg, hnc, hcm, ?_, ?_⟩⟩ ⟨rfl, rfl, rfl, by simp, fun k _ hk => setRow_other w g k _ (fun e => hk (by simp [Value.ownBlock, e]))⟩ rfl
        · rw [List.length_append, List.length_append, hln, List.length_take, List.length_drop, hxl]
          omega
        · simp only [List.size_toArray, List.length_append, hln, List.length_take, List.length_drop, hcl]
          omega
        · simp only [Nat.mul_one]
          rw [← htake]
          have hcl2 : (cur.toList.take l).length = l := by rw [List.length_take, hcl]; omega
          rw [List.take_append, hcl2, List.take_of_length_le (by omega : (cur.toList.take l).length ≤ n), List.take_append, hln, List.take_of_length_le (by rw [hln]; rcases hq with ⟨_, hq⟩ | ⟨_, hq⟩ <;> omega : (news.take (n - l)).length ≤ n - l), List.take_take, List.drop_take]
          rw [Nat.min_eq_left hl]
          rcases hq with ⟨hmn, hq⟩ | ⟨hmn, hq⟩
          · rw [hq, Nat.sub_sub]
          · rw [hq, Nat.sub_self, show n - (l + m) = 0 by omega]
            simp
end
end Go.Proofs.Ytekhmfliaojabaa
namespace Go.Proofs.Ytekhmfliaojabaa
open Go.RowKit

/-- The operations of a region. -/
def regOf (n : Nat) : Code → Option (List Oper)
  | .region i ops _ => if i == n then some ops.toList else none
  | .seq a b => match regOf n a with
    | some c => some c
    | none => regOf n b
  | .block _ c => regOf n c
  | .loop c => regOf n c
  | .scope c => regOf n c
  | .cond _ a b => match regOf n a with
    | some c => some c
    | none => regOf n b
  | _ => none
def rops (f : Func) (n : Nat) : List Oper := (f.body.bind (regOf n)).getD []

/-- The act with the values 'us k', 'us (k + 1)', .. in the slots 'ds' (none: no slot). -/
def fillO (a : Act) : List (Option Tmp) → (Nat → Value) → Nat → Act
  | [], _, _ => a
  | d :: ds, us, k => fillO (a.put d (us k)) ds us (k + 1)
def updO (us : Nat → Value) (i : Nat) (v : Value) : Nat → Value := fun j => if j = i then v else us j

theorem putO_putO (a : Act) (d : Option Tmp) (x y : Value) : (a.put d x).put d y = a.put d y := by
  cases d <;> simp [Act.put, Array.setIfInBounds_setIfInBounds]
theorem putO_comm (a : Act) {d e : Option Tmp} (h : d = none ∨ d ≠ e) (x y : Value) : (a.put d x).put e y = (a.put e y).put d x := by
  cases d with
  | none => rfl
  | some d =>
    cases e with
    | none => rfl
    | some e =>
      have hne : d ≠ e := fun q => by rcases h with h | h <;> simp_all
      simp only [Act.put]
      rw [Array.setIfInBounds_comm _ _ hne]
/-- No slot twice. -/
def NoTwice (ds : List (Option Tmp)) : Prop := ds.Pairwise fun d e => d = none ∨ d ≠ e
theorem fillO_far (us : Nat → Value) (d : Option Tmp) (v : Value) : ∀ (ds : List (Option Tmp)), (∀ e ∈ ds, d = none ∨ d ≠ e) → ∀ (a : Act) (k : Nat), (fillO a ds us k).put d v = fillO (a.put d v) ds us k := by
  intro ds
  induction ds with
  | nil => intro _ a k; rfl
  | cons e ds ih =>
    intro hd a k
    simp only [fillO]
    rw [ih (fun e he => hd e (List.mem_cons_of_mem _ he)), putO_comm a (hd e (List.mem_cons_self ..))]
theorem fillO_congr (ds : List (Option Tmp)) (us us' : Nat → Value) : ∀ (a : Act) (k : Nat), (∀ j, k ≤ j → us j = us' j) → fillO a ds us k = fillO a ds us' k := by
  induction ds with
  | nil => intro a k _; rfl
  | cons e ds ih =>
    intro a k h
    simp only [fillO]
    rw [h k (Nat.le_refl _)]
    exact ih _ _ fun j hj => h j (by omega)
theorem fillO_put (us : Nat → Value) (v : Value) : ∀ (ds : List (Option Tmp)), NoTwice ds → ∀ (a : Act) (k i : Nat) (d : Option Tmp), ds[i]? = some d → (fillO a ds us k).put d v = fillO a ds (updO us (k + i) v) k := by
  intro ds
  induction ds with
  | nil => intro _ a k i d h; simp at h
  | cons e ds ih =>
    intro hn a k i d h
    have hn' := List.pairwise_cons.1 hn
    cases i with
    | zero =>
      simp at h
      subst h
      simp only [fillO]
      rw [fillO_far us e v ds hn'.1, putO_putO]
      have e1 : updO us (k + 0) v k = v := by simp [updO]
      rw [e1]
      exact fillO_congr ds _ _ _ _ fun j hj => by simp [updO]; omega
    | succ i =>
      simp only [fillO]
      have hi : ds[i]? = some d := by simpa using h
      rw [ih hn'.2 _ (k + 1) i d hi]
      have e1 : updO us (k + (i + 1)) v k = us k := by simp [updO]
      have e2 : k + 1 + i = k + (i + 1) := by omega
      rw [e1, e2]
theorem fillO_start : ∀ (ds : List (Option Tmp)) (a : Act) (k : Nat) (us : Nat → Value), (∀ d, some d ∈ ds → d < a.tmps.size) → (∀ i d, ds[i]? = some (some d) → us (k + i) = a.tmps.getD d undef) → fillO a ds us k = a := by
  intro ds
  induction ds with
  | nil => intro a k us _ _; rfl
  | cons e ds ih =>
    intro a k us hb hu
    simp only [fillO]
    have hput : a.put e (us k) = a := by
      cases e with
      | none => rfl
      | some d =>
        have h0 := hu 0 d rfl
        rw [Nat.add_zero] at h0
        rw [h0]
        have hd := hb d (List.mem_cons_self ..)
        simp only [Act.put]
        have : a.tmps.setIfInBounds d (a.tmps.getD d undef) = a.tmps := by
          apply Array.ext_getElem?
          intro i
          rw [Array.getElem?_setIfInBounds]
          by_cases hi : d = i
          · subst hi; simp [hd, Array.getD]
          · simp [hi]
        rw [this]
    rw [hput]
    exact ih a (k + 1) us (fun d hd => hb d (List.mem_cons_of_mem _ hd)) fun i d hi => by
      have := hu (i + 1) d (by simpa using hi)
      rw [← this]; congr 1; omega

/-- What one operation must give: 'done' are those that were carried out; 'D' those whose values it uses, 'A' those that cannot have been carried out before it. -/
def JOp (P : Program) (ops : Array Oper) (V : Nat → Value → World → Prop) (J : (Nat → Prop) → World → Prop) (D A : List (List Nat)) (ds : List (Option Tmp)) (a : Act) (i : Nat) (o : Oper) : Prop :=
  ∀ (done : Nat → Prop) (us : Nat → Value) (W : World), J done W → (∀ j ∈ D.getD i [], V j (us j) W ∧ done j) → (∀ j ∈ A.getD i [], ¬ done j) → ¬ done i → ∀ K : Act → World → Prop,
    (∀ v W', V i v W' → (∀ j u, done j → V j u W → V j u W') → J (fun k => done k ∨ k = i) W' → K ((fillO a ds us 0).put o.dst v) W') → ∀ Q' : Exit → Act → World → Prop,
    if Region.wanted o (yielded ops (fillO a ds us 0).tmps) then o.wp P (fillO a ds us 0) W K Q' else K ((fillO a ds us 0).put o.dst undef) W
def JAll (P : Program) (ops : Array Oper) (V : Nat → Value → World → Prop) (J : (Nat → Prop) → World → Prop) (D A : List (List Nat)) (ds : List (Option Tmp)) (a : Act) : Nat → List Oper → Prop
  | _, [] => True
  | i, o :: rest => JOp P ops V J D A ds a i o ∧ JAll P ops V J D A ds a (i + 1) rest
theorem JAll.at {P : Program} {ops : Array Oper} {V : Nat → Value → World → Prop} {J : (Nat → Prop) → World → Prop} {D A : List (List Nat)} {ds : List (Option Tmp)} {a : Act} : ∀ (l : List Oper) (k : Nat), JAll P ops V J D A ds a k l → ∀ i o, l[i]? = some o → JOp P ops V J D A ds a (k + i) o := by
  intro l
  induction l with
  | nil => intro k _ i o h; simp at h
  | cons x l ih =>
    intro k h i o ho
    cases i with
    | zero => simp at ho; subst ho; exact h.1
    | succ i =>
      have := ih (k + 1) h.2 i o (by simpa using ho)
      rw [show k + 1 + i = k + (i + 1) by omega] at this
      exact this

theorem putO_size (a : Act) (d : Option Tmp) (v : Value) : (a.put d v).tmps.size = a.tmps.size := by
  cases d <;> simp [Act.put]
theorem putO_else (a : Act) (e : Option Tmp) (v : Value) {d : Tmp} (h : e ≠ some d) : (a.put e v).tmps[d]? = a.tmps[d]? := by
  cases e with
  | none => rfl
  | some e => simp only [Act.put]; rw [Array.getElem?_setIfInBounds, if_neg (fun q => h (by rw [q]))]
theorem fillO_else (us : Nat → Value) : ∀ (ds : List (Option Tmp)) (a : Act) (k : Nat) (d : Tmp), some d ∉ ds → (fillO a ds us k).tmps[d]? = a.tmps[d]? := by
  intro ds
  induction ds with
  | nil => intro a k d _; rfl
  | cons e ds ih =>
    intro a k d h
    simp only [List.mem_cons, not_or] at h
    simp only [fillO]
    rw [ih _ _ d h.2, putO_else _ _ _ (Ne.symm h.1)]
theorem fillO_get (us : Nat → Value) : ∀ (ds : List (Option Tmp)), NoTwice ds → ∀ (a : Act) (k i : Nat) (d : Tmp), ds[i]? = some (some d) → d < a.tmps.size → (fillO a ds us k).tmps[d]? = some (us (k + i)) := by
  intro ds
  induction ds with
  | nil => intro _ a k i d h; simp at h
  | cons e ds ih =>
    intro hn a k i d h hd
    have hn' := List.pairwise_cons.1 hn
    simp only [fillO]
    cases i with
    | zero =>
      simp at h
      subst h
      rw [fillO_else us ds _ _ d (fun hm => by rcases hn'.1 _ hm with h | h <;> simp at h)]
      simp only [Act.put]
      rw [Array.getElem?_setIfInBounds_self_of_lt hd]; rfl
    | succ i =>
      have hi : ds[i]? = some (some d) := by simpa using h
      rw [ih hn'.2 _ (k + 1) i d hi (by rw [putO_size]; exact hd)]
      congr 2; omega

/-- The same over a frame of which only the slots' values are known. -/
theorem JOp.of {P : Program} {ops : Array Oper} {V : Nat → Value → World → Prop} {J : (Nat → Prop) → World → Prop} {D A : List (List Nat)} {ds : List (Option Tmp)} {a : Act} {i : Nat} {o : Oper} (hn : NoTwice ds) (hs : ∀ d, some d ∈ ds → d < a.tmps.size)
    (h : ∀ (done : Nat → Prop) (us : Nat → Value) (W : World), J done W → (∀ j ∈ D.getD i [], V j (us j) W ∧ done j) → (∀ j ∈ A.getD i [], ¬ done j) → ¬ done i → ∀ b : Act, (∀ j d, ds[j]? = some (some d) → b.tmps[d]? = some (us j)) → (∀ d, some d ∉ ds → b.tmps[d]? = a.tmps[d]?) → ∀ K : Act → World → Prop,
      (∀ v W', V i v W' → (∀ j u, done j → V j u W → V j u W') → J (fun k => done k ∨ k = i) W' → K (b.put o.dst v) W') → ∀ Q' : Exit → Act → World → Prop,
      if Region.wanted o (yielded ops b.tmps) then o.wp P b W K Q' else K (b.put o.dst undef) W) : JOp P ops V J D A ds a i o := by
  intro done us W hJ hdep haft hnot K hK Q'
  refine h done us W hJ hdep haft hnot _ (fun j d hj => ?_) (fun d hd => fillO_else us ds a 0 d hd) K hK Q'
  have := fillO_get us ds hn a 0 j d hj (hs d (List.mem_of_getElem? hj))
  rwa [Nat.zero_add] at this

/-- What one operation must give, over a frame of which only the slots' values are known. -/
def JOq (P : Program) (ops : Array Oper) (V : Nat → Value → World → Prop) (J : (Nat → Prop) → World → Prop) (D A : List (List Nat)) (ds : List (Option Tmp)) (a : Act) (i : Nat) (o : Oper) : Prop :=
  ∀ (done : Nat → Prop) (us : Nat → Value) (W : World), J done W → (∀ j ∈ D.getD i [], V j (us j) W ∧ done j) → (∀ j ∈ A.getD i [], ¬ done j) → ¬ done i → ∀ b : Act, (∀ j d, ds[j]? = some (some d) → b.tmps[d]? = some (us j)) → (∀ d, some d ∉ ds → b.tmps[d]? = a.tmps[d]?) → ∀ K : Act → World → Prop,
      (∀ v W', V i v W' → (∀ j u, done j → V j u W → V j u W') → J (fun k => done k ∨ k = i) W' → K (b.put o.dst v) W') → ∀ Q' : Exit → Act → World → Prop,
      if Region.wanted o (yielded ops b.tmps) then o.wp P b W K Q' else K (b.put o.dst undef) W
def JAllq (P : Program) (ops : Array Oper) (V : Nat → Value → World → Prop) (J : (Nat → Prop) → World → Prop) (D A : List (List Nat)) (ds : List (Option Tmp)) (a : Act) : Nat → List Oper → Prop
  | _, [] => True
  | i, o :: rest => JOq P ops V J D A ds a i o ∧ JAllq P ops V J D A ds a (i + 1) rest
theorem JAllq.all {P : Program} {ops : Array Oper} {V : Nat → Value → World → Prop} {J : (Nat → Prop) → World → Prop} {D A : List (List Nat)} {ds : List (Option Tmp)} {a : Act} (hn : NoTwice ds) (hs : ∀ d, some d ∈ ds → d < a.tmps.size) : ∀ (l : List Oper) (k : Nat), JAllq P ops V J D A ds a k l → JAll P ops V J D A ds a k l := by
  intro l
  induction l with
  | nil => intro k _; trivial
  | cons o l ih => intro k h; exact ⟨JOp.of hn hs h.1, ih (k + 1) h.2⟩

def noTwiceB : List (Option Tmp) → Bool
  | [] => true
  | d :: ds => ds.all (fun e => d == none || d != e) && noTwiceB ds
theorem noTwice_of : ∀ (ds : List (Option Tmp)), noTwiceB ds = true → NoTwice ds := by
  intro ds
  induction ds with
  | nil => intro _; exact List.Pairwise.nil
  | cons d ds ih =>
    intro h
    simp only [noTwiceB, Bool.and_eq_true] at h
    refine List.Pairwise.cons (fun e he => ?_) (ih h.2)
    have := List.all_eq_true.1 h.1 e he
    simp at this
    rcases this with h | h
    · exact .inl h
    · exact .inr h

theorem slots_lt {ds : List (Option Tmp)} {N : Nat} (h : ds.all (fun x => match x with | some d => decide (d < N) | none => true) = true) {a : Act} (hs : N ≤ a.tmps.size) : ∀ d, some d ∈ ds → d < a.tmps.size := fun d hd => by
  have := List.all_eq_true.1 h _ hd
  simp at this
  exact Nat.lt_of_lt_of_le this hs

/-- What the kernel looks at. -/
def jB (ops : Array Oper) (n : Nat) (ds : List (Option Tmp)) (D A : List (List Nat)) : Bool :=
  decide (n ≤ ops.size) && decide (ds.length = n) && noTwiceB ds && (List.range n).all (fun i => (((ops[i]?).map (·.dst)) == ds[i]?) && (D.getD i []).all (fun j => decide (j < i) && Region.waitsFor .any ops i j) && (A.getD i []).all (fun j => decide (j < n) && Region.waitsFor .any ops j i)) &&
  (List.range n).all (fun i => match ops[i]? with | some o => o.after.all (fun e => !Region.binds .any e || decide (e.on < i)) | none => false) &&
  (decide (n = ops.size) || (Region.sinkB .any ops n && Region.chainB .any ops n)) && Region.seqB .any ops (ops.size - n) n ((List.range ops.size).map (fun i => decide (i < n))).toArray

section
variable {P : Program} {l : List Oper} {n : Nat} {ds : List (Option Tmp)} {D A : List (List Nat)} {V : Nat → Value → World → Prop} {J : (Nat → Prop) → World → Prop} {a : Act} {Q : Exit → Act → World → Prop}

theorem j_any (hB : jB l.toArray n ds D A = true) (hJ : ∀ p q W, (∀ k, p k ↔ q k) → J p W → J q W) (hop : JAll P l.toArray V J D A ds a 0 (l.take n))
    (hend : ∀ us W, (∀ j, j < n → V j (us j) W) → J (fun k => k < n) W → wpList P l.toArray Q (l.drop n) (fillO a ds us 0) W) :
    ∀ (f : Nat) (rem : List Nat) (listed : Array Bool) (us : Nat → Value) (W : World), rem.length = f → rem.Nodup → HeadInv .any l.toArray n listed → (∀ j, j < n → (listed.getD j true = false ↔ j ∈ rem)) → (∀ j ∈ rem, j < n) →
      (∀ j, j < n → j ∉ rem → V j (us j) W) → J (fun k => k < n ∧ k ∉ rem) W → wpAny P .any l.toArray Q (f + (l.toArray.size - n)) listed (fillO a ds us 0) W := by
  simp only [jB, Bool.and_eq_true, decide_eq_true_eq] at hB
  obtain ⟨⟨⟨⟨⟨⟨hn, hl⟩, hnt⟩, hD⟩, hless⟩, hsc⟩, hseq⟩ := hB
  have hnd := noTwice_of ds hnt
  intro f
  induction f with
  | zero =>
    intro rem listed us W hlen _ inv hrem _ hV hX
    obtain rfl : rem = [] := List.eq_nil_of_length_eq_zero hlen
    have hlist : listed = ((List.range l.toArray.size).map (fun i => decide (i < n))).toArray := by
      apply Array.ext
      · simp [inv.size]
      · intro i h1 h2
        have hsz := inv.size
        simp only [List.getElem_toArray, List.getElem_map, List.getElem_range]
        by_cases hi : i < n
        · have h3 := hrem i hi
          simp only [List.not_mem_nil, iff_false, Bool.not_eq_false] at h3
          have h4 : listed.getD i true = listed[i] := by simp [Array.getD, h1]
          rw [h4] at h3
          simp [h3, hi]
        · have h3 := inv.tail i (by omega) (by omega)
          have h4 : listed.getD i true = listed[i] := by simp [Array.getD, h1]
          rw [h4] at h3
          simp [h3, hi]
    have hdl : (l.drop n).length = l.toArray.size - n := by simp
    rw [Nat.zero_add, ← hdl]
    refine wpAny_of_seq (l.drop n) n listed _ W (fun j => by simp [List.getElem?_drop]) ?_ (hend us W (fun j hj => hV j hj (by simp)) (hJ _ _ W (by simp) hX))
    rw [hdl, hlist]
    exact hseq
  | succ f ih =>
    intro rem listed us W hlen hnodup inv hrem hlt hV hX
    rw [show f + 1 + (l.toArray.size - n) = (f + (l.toArray.size - n)) + 1 by omega]
    have hne : rem ≠ [] := by intro e; subst e; simp at hlen
    refine ⟨fun h0 => ?_, fun i hi => ?_⟩
    · exfalso
      obtain ⟨k, hk, hmin⟩ : ∃ k ∈ rem, ∀ j ∈ rem, k ≤ j := by
        obtain ⟨m, hm, hm2⟩ := exists_least (p := fun m => m ∈ rem) (by cases rem with | nil => exact absurd rfl hne | cons x xs => exact ⟨x, List.mem_cons_self ..⟩)
        exact ⟨m, hm, fun j hj => hm2 j hj⟩
      have hkn := hlt k hk
      have hr : k ∈ Region.ready .any l.toArray listed := by
        refine mem_ready.2 ⟨(hrem k hkn).2 hk, ?_⟩
        have h1 := List.all_eq_true.1 hless k (List.mem_range.2 hkn)
        cases ho : l.toArray[k]? with
        | none => rw [ho] at h1; simp at h1
        | some o =>
          rw [ho] at h1
          refine ⟨o, rfl, fun e he hb => ?_⟩
          have h2 := Array.all_eq_true_iff_forall_mem.1 h1 e he
          simp only [hb, Bool.not_true, Bool.false_or, decide_eq_true_eq] at h2
          have h3 : e.on ∉ rem := fun h => by have := hmin _ h; omega
          have h4 : listed.getD e.on true = true := by
            cases h5 : listed.getD e.on true with
            | true => rfl
            | false => exact absurd ((hrem e.on (by omega)).1 h5) h3
          have hsz : e.on < listed.size := by rw [inv.size]; omega
          simp [Array.getD, hsz] at h4 ⊢
          exact h4
      rw [h0] at hr
      cases hr
    · obtain ⟨hun, o, ho, hall⟩ := mem_ready.1 hi
      have hisz : i < l.toArray.size := (Array.getElem?_eq_some_iff.1 ho).1
      have hin : i < n := by
        rcases Nat.lt_or_ge i n with h | h
        · exact h
        · simp only [Bool.or_eq_true, Bool.and_eq_true, decide_eq_true_eq] at hsc
          rcases hsc with hsc | ⟨hs, hc⟩
          · omega
          · obtain ⟨k, hk⟩ : ∃ k, k ∈ rem := by cases rem with | nil => exact absurd rfl hne | cons x xs => exact ⟨x, List.mem_cons_self ..⟩
            exact absurd hi (tail_waits hs hc (by omega) inv _ k rfl (hlt k hk) ((hrem k (hlt k hk)).2 hk) i h)
      have hir : i ∈ rem := (hrem i hin).1 hun
      have hDi := List.all_eq_true.1 hD i (List.mem_range.2 hin)
      simp only [Bool.and_eq_true, beq_iff_eq] at hDi
      obtain ⟨⟨hdst, hdeps⟩, hafts⟩ := hDi
      rw [ho] at hdst
      simp only [Option.map_some] at hdst
      have hm := JAll.at (l.take n) 0 hop i o (by rw [List.getElem?_take, if_pos hin]; simpa using ho)
      rw [Nat.zero_add] at hm
      have hdp : ∀ j ∈ D.getD i [], V j (us j) W ∧ (j < n ∧ j ∉ rem) := fun j hj => by
        have h1 := List.all_eq_true.1 hdeps j hj
        simp only [Bool.and_eq_true, decide_eq_true_eq] at h1
        obtain ⟨oj, hoj, e, he, hb, hon⟩ := Region.waitsFor_spec h1.2
        have : oj = o := Option.some.inj (hoj.symm.trans ho)
        subst this
        have h2 := hall e he hb
        rw [hon] at h2
        have hjr : j ∉ rem := fun hjr => by
          have h3 := (hrem j (by omega)).2 hjr
          rw [getD_both h3] at h2
          cases h2
        exact ⟨hV j (by omega) hjr, by omega, hjr⟩
      have haf : ∀ j ∈ A.getD i [], ¬ (j < n ∧ j ∉ rem) := fun j hj hd => by
        have h1 := List.all_eq_true.1 hafts j hj
        simp only [Bool.and_eq_true, decide_eq_true_eq] at h1
        obtain ⟨oj, hoj, e, he, hb, hon⟩ := Region.waitsFor_spec h1.2
        have h4 : listed.getD j false = true := by
          have h5 : listed.getD j true = true := by
            cases h5 : listed.getD j true with
            | true => rfl
            | false => exact absurd ((hrem j hd.1).1 h5) hd.2
          have hsz : j < listed.size := by rw [inv.size]; omega
          simp [Array.getD, hsz] at h5 ⊢
          exact h5
        have h6 := inv.closed j oj hoj h4 e he hb
        rw [hon, getD_both hun] at h6
        cases h6
      have key : ∀ v W', V i v W' → (∀ j u, (j < n ∧ j ∉ rem) → V j u W → V j u W') → J (fun k => (k < n ∧ k ∉ rem) ∨ k = i) W' → wpAny P .any l.toArray Q (f + (l.toArray.size - n)) (listed.setIfInBounds i true) ((fillO a ds us 0).put o.dst v) W' := fun v W' hv hst hj => by
        rw [fillO_put us v ds hnd a 0 i o.dst hdst.symm, Nat.zero_add]
        refine ih (rem.erase i) _ (updO us i v) W' (by rw [List.length_erase_of_mem hir]; omega) (hnodup.erase i) (inv.set hi hin) (fun j hj => ?_) (fun j hj => hlt j (List.mem_of_mem_erase hj)) (fun j hj hjr => ?_) (hJ _ _ W' (fun k => ?_) hj)
        · by_cases hji : i = j
          · subst hji
            have hsz : i < listed.size := by rw [inv.size]; omega
            simp [Array.getD, hsz]
            exact fun h => (hnodup.mem_erase_iff.1 h).1 rfl
          · rw [getD_set_ne true hji, hrem j hj, hnodup.mem_erase_iff]
            exact ⟨fun h => ⟨Ne.symm hji, h⟩, fun h => h.2⟩
        · by_cases hji : j = i
          · subst hji; simpa [updO] using hv
          · have : updO us i v j = us j := by simp [updO, hji]
            rw [this]
            have hjr' : j ∉ rem := fun h => hjr (hnodup.mem_erase_iff.2 ⟨hji, h⟩)
            exact hst j _ ⟨hj, hjr'⟩ (hV j hj hjr')
        · rw [hnodup.mem_erase_iff]
          constructor
          · rintro (⟨h1, h2⟩ | rfl)
            · exact ⟨h1, fun h => h2 h.2⟩
            · exact ⟨hin, fun h => h.1 rfl⟩
          · rintro ⟨h1, h2⟩
            by_cases hki : k = i
            · exact .inr hki
            · exact .inl ⟨h1, fun h => h2 ⟨hki, h⟩⟩
      unfold wpOp
      rw [ho]
      simp only
      have hgo := hm (fun k => k < n ∧ k ∉ rem) us W hX hdp haf (fun h => h.2 hir) (wpAny P .any l.toArray Q (f + (l.toArray.size - n)) (listed.setIfInBounds i true)) key Q
      split
      · rename_i hw; rw [if_pos hw] at hgo; exact .inl hgo
      · rename_i hw; rw [if_neg hw] at hgo; exact hgo

/-- THE LAW. -/
theorem wp_region_j {id : Nat} {w : World} (n : Nat) (ds : List (Option Tmp)) (D A : List (List Nat)) (V : Nat → Value → World → Prop) (J : (Nat → Prop) → World → Prop) (hm : P.follows .mixedOrders = true) (hB : jB l.toArray n ds D A = true)
    (hd : ∀ d, some d ∈ ds → d < a.tmps.size) (hJ : ∀ p q W, (∀ k, p k ↔ q k) → J p W → J q W) (h0 : J (fun _ => False) w.drew) (hop : JAllq P l.toArray V J D A ds a 0 (l.take n))
    (hend : ∀ us W, (∀ j, j < n → V j (us j) W) → J (fun k => k < n) W → wpList P l.toArray Q (l.drop n) (fillO a ds us 0) W) : (Code.region id l.toArray true).wp P Q a w := by
  refine wp_region_any hm ?_
  have hB' := hB
  simp only [jB, Bool.and_eq_true, decide_eq_true_eq] at hB'
  obtain ⟨⟨⟨⟨⟨⟨hn, hl⟩, hnt⟩, _⟩, _⟩, _⟩, _⟩ := hB'
  have h := j_any hB hJ (JAllq.all (noTwice_of ds hnt) hd _ 0 hop) hend n (List.range n) (Array.replicate l.toArray.size false) (fun j => a.tmps.getD ((ds.getD j none).getD 0) undef) w.drew (by simp) List.nodup_range
    ⟨by simp, fun j oj _ hl => (by rw [getD_replicate_false] at hl; cases hl), fun t _ ht => getD_in (by simpa using ht) (getD_replicate_false _ _)⟩
    (fun j hj => ⟨fun _ => List.mem_range.2 hj, fun _ => getD_in (by simp at hn ⊢; omega) (getD_replicate_false _ _)⟩) (fun j hj => List.mem_range.1 hj)
    (fun j hj h => absurd (List.mem_range.2 hj) h) (hJ _ _ _ (fun k => by simp) h0)
  rw [fillO_start ds a 0 _ hd (fun i d hi => by simp [List.getD, hi])] at h
  have e : n + (l.toArray.size - n) = l.toArray.size := by omega
  rw [e] at h
  exact h
end
end Go.Proofs.Ytekhmfliaojabaa
namespace Go.Proofs.Ytekhmfliaojabaa
open Go.RowKit

/-- What one operation must give, over a frame of which only the slots' values are known. -/
def GOq (P : Program) (ops : Array Oper) (J : (Nat → Prop) → (Nat → Value) → World → Prop) (D A : List (List Nat)) (ds : List (Option Tmp)) (a : Act) (i : Nat) (o : Oper) : Prop :=
  ∀ (done : Nat → Prop) (us : Nat → Value) (W : World), J done us W → (∀ j ∈ D.getD i [], done j) → (∀ j ∈ A.getD i [], ¬ done j) → ¬ done i → ∀ b : Act, (∀ j d, ds[j]? = some (some d) → b.tmps[d]? = some (us j)) → (∀ d, some d ∉ ds → b.tmps[d]? = a.tmps[d]?) → ∀ K : Act → World → Prop,
      (∀ v W', J (fun k => done k ∨ k = i) (updO us i v) W' → K (b.put o.dst v) W') → ∀ Q' : Exit → Act → World → Prop,
      if Region.wanted o (yielded ops b.tmps) then o.wp P b W K Q' else K (b.put o.dst undef) W
def GAllq (P : Program) (ops : Array Oper) (J : (Nat → Prop) → (Nat → Value) → World → Prop) (D A : List (List Nat)) (ds : List (Option Tmp)) (a : Act) : Nat → List Oper → Prop
  | _, [] => True
  | i, o :: rest => GOq P ops J D A ds a i o ∧ GAllq P ops J D A ds a (i + 1) rest
theorem GAllq.at {P : Program} {ops : Array Oper} {J : (Nat → Prop) → (Nat → Value) → World → Prop} {D A : List (List Nat)} {ds : List (Option Tmp)} {a : Act} : ∀ (l : List Oper) (k : Nat), GAllq P ops J D A ds a k l → ∀ i o, l[i]? = some o → GOq P ops J D A ds a (k + i) o := by
  intro l
  induction l with
  | nil => intro k _ i o h; simp at h
  | cons x l ih =>
    intro k h i o ho
    cases i with
    | zero => simp at ho; subst ho; exact h.1
    | succ i =>
      have := ih (k + 1) h.2 i o (by simpa using ho)
      rw [show k + 1 + i = k + (i + 1) by omega] at this
      exact this

section
variable {P : Program} {l : List Oper} {n : Nat} {ds : List (Option Tmp)} {D A : List (List Nat)} {J : (Nat → Prop) → (Nat → Value) → World → Prop} {a : Act} {Q : Exit → Act → World → Prop}

theorem g_any (hB : jB l.toArray n ds D A = true) (hs : ∀ d, some d ∈ ds → d < a.tmps.size) (hJ : ∀ p q us W, (∀ k, p k ↔ q k) → J p us W → J q us W) (hop : GAllq P l.toArray J D A ds a 0 (l.take n))
    (hend : ∀ us W, J (fun k => k < n) us W → wpList P l.toArray Q (l.drop n) (fillO a ds us 0) W) :
    ∀ (f : Nat) (rem : List Nat) (listed : Array Bool) (us : Nat → Value) (W : World), rem.length = f → rem.Nodup → HeadInv .any l.toArray n listed → (∀ j, j < n → (listed.getD j true = false ↔ j ∈ rem)) → (∀ j ∈ rem, j < n) →
      J (fun k => k < n ∧ k ∉ rem) us W → wpAny P .any l.toArray Q (f + (l.toArray.size - n)) listed (fillO a ds us 0) W := by
  simp only [jB, Bool.and_eq_true, decide_eq_true_eq] at hB
  obtain ⟨⟨⟨⟨⟨⟨hn, hl⟩, hnt⟩, hD⟩, hless⟩, hsc⟩, hseq⟩ := hB
  have hnd := noTwice_of ds hnt
  intro f
  induction f with
  | zero =>
    intro rem listed us W hlen _ inv hrem _ hX
    obtain rfl : rem = [] := List.eq_nil_of_length_eq_zero hlen
    have hlist : listed = ((List.range l.toArray.size).map (fun i => decide (i < n))).toArray := by
      apply Array.ext
      · simp [inv.size]
      · intro i h1 h2
        have hsz := inv.size
        simp only [List.getElem_toArray, List.getElem_map, List.getElem_range]
        by_cases hi : i < n
        · have h3 := hrem i hi
          simp only [List.not_mem_nil, iff_false, Bool.not_eq_false] at h3
          have h4 : listed.getD i true = listed[i] := by simp [Array.getD, h1]
          rw [h4] at h3
          simp [h3, hi]
        · have h3 := inv.tail i (by omega) (by omega)
          have h4 : listed.getD i true = listed[i] := by simp [Array.getD, h1]
          rw [h4] at h3
          simp [h3, hi]
    have hdl : (l.drop n).length = l.toArray.size - n := by simp
    rw [Nat.zero_add, ← hdl]
    refine wpAny_of_seq (l.drop n) n listed _ W (fun j => by simp [List.getElem?_drop]) ?_ (hend us W (hJ _ _ us W (by simp) hX))
    rw [hdl, hlist]
    exact hseq
  | succ f ih =>
    intro rem listed us W hlen hnodup inv hrem hlt hX
    rw [show f + 1 + (l.toArray.size - n) = (f + (l.toArray.size - n)) + 1 by omega]
    have hne : rem ≠ [] := by intro e; subst e; simp at hlen
    refine ⟨fun h0 => ?_, fun i hi => ?_⟩
    · exfalso
      obtain ⟨k, hk, hmin⟩ : ∃ k ∈ rem, ∀ j ∈ rem, k ≤ j := by
        obtain ⟨m, hm, hm2⟩ := exists_least (p := fun m => m ∈ rem) (by cases rem with | nil => exact absurd rfl hne | cons x xs => exact ⟨x, List.mem_cons_self ..⟩)
        exact ⟨m, hm, fun j hj => hm2 j hj⟩
      have hkn := hlt k hk
      have hr : k ∈ Region.ready .any l.toArray listed := by
        refine mem_ready.2 ⟨(hrem k hkn).2 hk, ?_⟩
        have h1 := List.all_eq_true.1 hless k (List.mem_range.2 hkn)
        cases ho : l.toArray[k]? with
        | none => rw [ho] at h1; simp at h1
        | some o =>
          rw [ho] at h1
          refine ⟨o, rfl, fun e he hb => ?_⟩
          have h2 := Array.all_eq_true_iff_forall_mem.1 h1 e he
          simp only [hb, Bool.not_true, Bool.false_or, decide_eq_true_eq] at h2
          have h3 : e.on ∉ rem := fun h => by have := hmin _ h; omega
          have h4 : listed.getD e.on true = true := by
            cases h5 : listed.getD e.on true with
            | true => rfl
            | false => exact absurd ((hrem e.on (by omega)).1 h5) h3
          have hsz : e.on < listed.size := by rw [inv.size]; omega
          simp [Array.getD, hsz] at h4 ⊢
          exact h4
      rw [h0] at hr
      cases hr
    · obtain ⟨hun, o, ho, hall⟩ := mem_ready.1 hi
      have hisz : i < l.toArray.size := (Array.getElem?_eq_some_iff.1 ho).1
      have hin : i < n := by
        rcases Nat.lt_or_ge i n with h | h
        · exact h
        · simp only [Bool.or_eq_true, Bool.and_eq_true, decide_eq_true_eq] at hsc
          rcases hsc with hsc | ⟨hs, hc⟩
          · omega
          · obtain ⟨k, hk⟩ : ∃ k, k ∈ rem := by cases rem with | nil => exact absurd rfl hne | cons x xs => exact ⟨x, List.mem_cons_self ..⟩
            exact absurd hi (tail_waits hs hc (by omega) inv _ k rfl (hlt k hk) ((hrem k (hlt k hk)).2 hk) i h)
      have hir : i ∈ rem := (hrem i hin).1 hun
      have hDi := List.all_eq_true.1 hD i (List.mem_range.2 hin)
      simp only [Bool.and_eq_true, beq_iff_eq] at hDi
      obtain ⟨⟨hdst, hdeps⟩, hafts⟩ := hDi
      rw [ho] at hdst
      simp only [Option.map_some] at hdst
      have hm := GAllq.at (l.take n) 0 hop i o (by rw [List.getElem?_take, if_pos hin]; simpa using ho)
      rw [Nat.zero_add] at hm
      have hdp : ∀ j ∈ D.getD i [], (j < n ∧ j ∉ rem) := fun j hj => by
        have h1 := List.all_eq_true.1 hdeps j hj
        simp only [Bool.and_eq_true, decide_eq_true_eq] at h1
        obtain ⟨oj, hoj, e, he, hb, hon⟩ := Region.waitsFor_spec h1.2
        have : oj = o := Option.some.inj (hoj.symm.trans ho)
        subst this
        have h2 := hall e he hb
        rw [hon] at h2
        have hjr : j ∉ rem := fun hjr => by
          have h3 := (hrem j (by omega)).2 hjr
          rw [getD_both h3] at h2
          cases h2
        exact ⟨by omega, hjr⟩
      have haf : ∀ j ∈ A.getD i [], ¬ (j < n ∧ j ∉ rem) := fun j hj hd => by
        have h1 := List.all_eq_true.1 hafts j hj
        simp only [Bool.and_eq_true, decide_eq_true_eq] at h1
        obtain ⟨oj, hoj, e, he, hb, hon⟩ := Region.waitsFor_spec h1.2
        have h4 : listed.getD j false = true := by
          have h5 : listed.getD j true = true := by
            cases h5 : listed.getD j true with
            | true => rfl
            | false => exact absurd ((hrem j hd.1).1 h5) hd.2
          have hsz : j < listed.size := by rw [inv.size]; omega
          simp [Array.getD, hsz] at h5 ⊢
          exact h5
        have h6 := inv.closed j oj hoj h4 e he hb
        rw [hon, getD_both hun] at h6
        cases h6
      have key : ∀ v W', J (fun k => (k < n ∧ k ∉ rem) ∨ k = i) (updO us i v) W' → wpAny P .any l.toArray Q (f + (l.toArray.size - n)) (listed.setIfInBounds i true) ((fillO a ds us 0).put o.dst v) W' := fun v W' hj => by
        rw [fillO_put us v ds hnd a 0 i o.dst hdst.symm, Nat.zero_add]
        refine ih (rem.erase i) _ (updO us i v) W' (by rw [List.length_erase_of_mem hir]; omega) (hnodup.erase i) (inv.set hi hin) (fun j hj => ?_) (fun j hj => hlt j (List.mem_of_mem_erase hj)) (hJ _ _ _ W' (fun k => ?_) hj)
        · by_cases hji : i = j
          · subst hji
            have hsz : i < listed.size := by rw [inv.size]; omega
            simp [Array.getD, hsz]
            exact fun h => (hnodup.mem_erase_iff.1 h).1 rfl
          · rw [getD_set_ne true hji, hrem j hj, hnodup.mem_erase_iff]
            exact ⟨fun h => ⟨Ne.symm hji, h⟩, fun h => h.2⟩
        · rw [hnodup.mem_erase_iff]
          constructor
          · rintro (⟨h1, h2⟩ | rfl)
            · exact ⟨h1, fun h => h2 h.2⟩
            · exact ⟨hin, fun h => h.1 rfl⟩
          · rintro ⟨h1, h2⟩
            by_cases hki : k = i
            · exact .inr hki
            · exact .inl ⟨h1, fun h => h2 ⟨hki, h⟩⟩
      unfold wpOp
      rw [ho]
      simp only
      have hgo := hm (fun k => k < n ∧ k ∉ rem) us W hX hdp haf (fun h => h.2 hir) (fillO a ds us 0) (fun j d hj => by
        have := fillO_get us ds hnd a 0 j d hj (hs d (List.mem_of_getElem? hj))
        rwa [Nat.zero_add] at this) (fun d hd => fillO_else us ds a 0 d hd) (wpAny P .any l.toArray Q (f + (l.toArray.size - n)) (listed.setIfInBounds i true)) key Q
      split
      · rename_i hw; rw [if_pos hw] at hgo; exact .inl hgo
      · rename_i hw; rw [if_neg hw] at hgo; exact hgo

/-- THE LAW. -/
theorem wp_region_g {id : Nat} {w : World} (n : Nat) (ds : List (Option Tmp)) (D A : List (List Nat)) (J : (Nat → Prop) → (Nat → Value) → World → Prop) (hm : P.follows .mixedOrders = true) (hB : jB l.toArray n ds D A = true)
    (hd : ∀ d, some d ∈ ds → d < a.tmps.size) (hJ : ∀ p q us W, (∀ k, p k ↔ q k) → J p us W → J q us W) (h0 : ∀ us, J (fun _ => False) us w.drew) (hop : GAllq P l.toArray J D A ds a 0 (l.take n))
    (hend : ∀ us W, J (fun k => k < n) us W → wpList P l.toArray Q (l.drop n) (fillO a ds us 0) W) : (Code.region id l.toArray true).wp P Q a w := by
  refine wp_region_any hm ?_
  have hB' := hB
  simp only [jB, Bool.and_eq_true, decide_eq_true_eq] at hB'
  obtain ⟨⟨⟨⟨⟨⟨hn, hl⟩, hnt⟩, _⟩, _⟩, _⟩, _⟩ := hB'
  have h := g_any hB hd hJ hop hend n (List.range n) (Array.replicate l.toArray.size false) (fun j => a.tmps.getD ((ds.getD j none).getD 0) undef) w.drew (by simp) List.nodup_range
    ⟨by simp, fun j oj _ hl => (by rw [getD_replicate_false] at hl; cases hl), fun t _ ht => getD_in (by simpa using ht) (getD_replicate_false _ _)⟩
    (fun j hj => ⟨fun _ => List.mem_range.2 hj, fun _ => getD_in (by simp at hn ⊢; omega) (getD_replicate_false _ _)⟩) (fun j hj => List.mem_range.1 hj)
    (hJ _ _ _ _ (fun k => by simp) (h0 _))
  rw [fillO_start ds a 0 _ hd (fun i d hi => by simp [List.getD, hi])] at h
  have e : n + (l.toArray.size - n) = l.toArray.size := by omega
  rw [e] at h
  exact h
end

/-- A local struct of a region: its cells are 'zs' until they are stored, then 'vs'. -/
structure Loc (w W : World) (T : TypeId) (zs vs : Array Value) (da dst : Prop) (v : Value) : Prop where
  ptr : da → ∃ g, v = .pointer (some ⟨g, 0, none⟩) ∧ w.heap.size ≤ g ∧ (dst → Blk W g T vs) ∧ (¬ dst → Blk W g T zs)
/-- Two addresses, if both are made, differ. -/
def Far (da db : Prop) (u v : Value) : Prop := da → db → u ≠ v
section
variable {w W W' : World} {T : TypeId} {zs vs : Array Value} {da dst da' dst' : Prop} {v u : Value}
theorem Loc.unmade (h : ¬ da) : Loc w W T zs vs da dst v := ⟨fun h' => absurd h' h⟩
theorem Loc.lt (h : Loc w W T zs vs da dst v) (hd : da) : ∃ g, v = .pointer (some ⟨g, 0, none⟩) ∧ w.heap.size ≤ g ∧ g < W.heap.size := by
  obtain ⟨g, h1, h2, h3, h4⟩ := h.ptr hd
  refine ⟨g, h1, h2, ?_⟩
  by_cases hs : dst
  · exact (h3 hs).lt
  · exact (h4 hs).lt
theorem Loc.stored (h : Loc w W T zs vs da dst v) (hd : da) (hs : ¬ dst) : ∃ g, v = .pointer (some ⟨g, 0, Option.none⟩) ∧ w.heap.size ≤ g ∧ Blk W g T zs := by
  obtain ⟨g, h1, h2, _, h4⟩ := h.ptr hd
  exact ⟨g, h1, h2, h4 hs⟩
theorem Loc.done (h : Loc w W T zs vs da dst v) (hd : da) (hs : dst) : ∃ g, v = .pointer (some ⟨g, 0, Option.none⟩) ∧ w.heap.size ≤ g ∧ Blk W g T vs := by
  obtain ⟨g, h1, h2, h3, _⟩ := h.ptr hd
  exact ⟨g, h1, h2, h3 hs⟩
theorem Loc.same (h : Loc w W T zs vs da dst v) (ha : da' ↔ da) (hs : dst' ↔ dst) : Loc w W T zs vs da' dst' v := by
  have e1 := propext ha
  have e2 := propext hs
  subst e1 e2
  exact h
theorem Loc.ext (h : Loc w W T zs vs da dst v) (hX : Ext W W') : Loc w W' T zs vs da dst v := ⟨fun hd => by
  obtain ⟨g, h1, h2, h3, h4⟩ := h.ptr hd
  exact ⟨g, h1, h2, fun h => (h3 h).ext hX, fun h => (h4 h).ext hX⟩⟩
theorem Loc.new (w W : World) (hw : Ext w W) (hs : ¬ dst) (hX : Ext (W.alloc (.cells zs T)) W') : Loc w W' T zs vs da dst (.pointer (some ⟨W.heap.size, 0, none⟩)) :=
  ⟨fun _ => ⟨_, rfl, hw.size, fun h => absurd h hs, fun _ => (Blk.new W T zs).ext hX⟩⟩
theorem Loc.keep (h : Loc w W T zs vs da dst v) {g : Nat} {f : Far da da' v u} (hu : da') (e : u = .pointer (some ⟨g, 0, none⟩)) {i : Nat} {x : Value} : Loc w (W.setCell ⟨g, i, none⟩ x) T zs vs da dst v := ⟨fun hd => by
  obtain ⟨g', h1, h2, h3, h4⟩ := h.ptr hd
  have hne : g' ≠ g := by
    intro e'
    subst e'
    exact f hd hu (by rw [h1, e])
  exact ⟨g', h1, h2, fun h => (h3 h).far hne _, fun h => (h4 h).far hne _⟩⟩
end
end Go.Proofs.Ytekhmfliaojabaa
namespace Go.Proofs.Ytekhmfliaojabaa
open Go.RowKit
theorem Blk.at_ {W : World} {t : TypeId} {cs : Array Value} {g : Nat} (hg : W.heap.size = g) : Blk (W.alloc (.cells cs t)) g t cs := hg ▸ Blk.new W t cs
theorem Ext.two {w0 w : World} {g : Nat} (h : Ext w0 w) (hg : w0.heap.size ≤ g) (x y : Value) : Ext w0 ((w.setCell ⟨g, 0, none⟩ x).setCell ⟨g, 1, none⟩ y) := (h.setCell hg x).setCell hg y
end Go.Proofs.Ytekhmfliaojabaa
namespace Go.Proofs.Ytekhmfliaojabaa
open Go.RowKit

theorem elL : Elem Try.prog 32 22 1 24 (.slice none 0 0) := Elem.mk' (by kernel_rfl) (by kernel_rfl) rfl (by decide)

/-- The values 'vs' are slices of bytes that read as 'xss'. -/
def LV (w : World) (vs : List Value) (xss : List (List Int)) : Prop := vs.length = xss.length ∧ ∀ (j : Nat) v xs, vs[j]? = some v → xss[j]? = some xs → SlV .u8 w v xs
section
variable {w w' : World} {vs : List Value} {xss : List (List Int)}
theorem LV.ext (h : LV w vs xss) (he : Ext w w') : LV w' vs xss := ⟨h.1, fun j v xs a b => (h.2 j v xs a b).ext he⟩
theorem LV.sls (h : LV w vs xss) : ∀ v ∈ vs, ∃ A n c, v = .slice A n c := by
  intro v hv
  obtain ⟨j, hj, rfl⟩ := List.getElem_of_mem hv
  obtain ⟨A, n, c, h1, _⟩ := h.2 j _ _ (List.getElem?_eq_getElem hj) (List.getElem?_eq_getElem (by rw [← h.1]; exact hj))
  exact ⟨A, n, c, h1⟩
theorem LV.one (h : LV w vs xss) : ∀ v ∈ vs, v.oneCell' = true := by
  intro v hv
  obtain ⟨j, hj, rfl⟩ := List.getElem_of_mem hv
  obtain ⟨A, n, c, h1, _⟩ := h.2 j _ _ (List.getElem?_eq_getElem hj) (List.getElem?_eq_getElem (by rw [← h.1]; exact hj))
  rw [h1]; rfl
theorem LV.dele (h : LV w vs xss) (i : Nat) : LV w (dele vs i) (dele xss i) := by
  refine ⟨by have := h.1; simp [Proofs.Ytekhmfliaojabaa.dele, this], fun j v xs a b => ?_⟩
  rw [get_dele] at a b
  rw [h.1] at a
  split at a
  · rename_i hc; rw [if_pos hc] at b; exact h.2 _ _ _ a b
  · rename_i hc
    rw [if_neg hc] at b
    split at a
    · rename_i hc2; rw [if_pos hc2] at b; exact h.2 _ _ _ a b
    · rename_i hc2; rw [if_neg hc2] at b; exact h.2 _ _ _ a b
theorem LV.inse {v : Value} {xs : List Int} {i : Nat} (h : LV w vs xss) (hi : i ≤ xss.length) (hv : SlV .u8 w v xs) : LV w (inse vs i v) (inse xss i xs) := by
  have hi' : i ≤ vs.length := by rw [h.1]; exact hi
  refine ⟨by rw [inse_len hi', inse_len hi, h.1], fun j u ys a b => ?_⟩
  rw [get_inse hi'] at a
  rw [get_inse hi] at b
  split at a
  · rename_i hc; rw [if_pos hc] at b; exact h.2 _ _ _ a b
  · rename_i hc
    rw [if_neg hc] at b
    split at a
    · rename_i hc2
      rw [if_pos hc2] at b
      injection a with a; injection b with b
      subst a b
      exact hv
    · rename_i hc2; rw [if_neg hc2] at b; exact h.2 _ _ _ a b
theorem LV.lists {A : Option Addr} {n : Nat} (h : LV w vs xss) (hn : vs.length = n) (hat : At w A vs) : Lists .u8 w A n xss := ⟨by rw [← h.1]; exact hn, vs, hn, hat, h.2⟩
theorem Lists.lv {A : Option Addr} {n : Nat} (h : Lists .u8 w A n xss) : ∃ vs, LV w vs xss ∧ vs.length = n ∧ At w A vs := by
  obtain ⟨h1, vs, h2, h3, h4⟩ := h
  exact ⟨vs, ⟨by rw [h2, h1], h4⟩, h2, h3⟩
theorem Lists.len {k : IntKind} {A : Option Addr} {n : Nat} (h : Lists k w A n xss) : xss.length = n := h.1
end

theorem dele_take_skip {α : Type} (l : List α) (i : Nat) : dele (l.take (i + 1)) i = dele (l.take i) i := by
  unfold dele
  rw [List.take_take, List.take_take, List.drop_eq_nil_of_le (by rw [List.length_take]; omega), List.drop_eq_nil_of_le (by rw [List.length_take]; omega)]
  congr 2; omega
theorem dele_take_snoc {α : Type} {l : List α} {i k : Nat} {x : α} (h : l[k]? = some x) (hne : k ≠ i) : dele (l.take (k + 1)) i = dele (l.take k) i ++ [x] := by
  obtain ⟨hk, rfl⟩ := List.getElem?_eq_some_iff.1 h
  rw [List.take_add_one, List.getElem?_eq_getElem hk]
  have e : (l.take k).length = k := by rw [List.length_take]; omega
  generalize l.take k = m at e
  unfold dele
  simp only [Option.toList_some]
  rcases Nat.lt_or_ge k i with h1 | h1
  · have e2 : (m ++ [l[k]]).length ≤ i := by rw [List.length_append, e]; simp; omega
    rw [List.take_of_length_le e2, List.drop_eq_nil_of_le (Nat.le_succ_of_le e2), List.take_of_length_le (by omega), List.drop_eq_nil_of_le (by omega)]
    simp
  · rw [List.take_append_of_le_length (by omega), List.drop_append_of_le_length (by omega), List.append_assoc]
theorem inse_take_snoc {α : Type} {l : List α} {i k : Nat} {x y : α} (h : l[k]? = some y) (hi : i ≤ k) : inse (l.take (k + 1)) i x = inse (l.take k) i x ++ [y] := by
  obtain ⟨hk, rfl⟩ := List.getElem?_eq_some_iff.1 h
  rw [List.take_add_one, List.getElem?_eq_getElem hk]
  have e : (l.take k).length = k := by rw [List.length_take]; omega
  unfold inse
  simp only [Option.toList_some]
  rw [List.take_append_of_le_length (by rw [e]; omega), List.drop_append_of_le_length (by rw [e]; omega), List.append_assoc, List.cons_append]
theorem inse_end {α : Type} (l : List α) (x : α) : inse l l.length x = l ++ [x] := by simp [inse]
theorem inse_take_at {α : Type} {l : List α} {i : Nat} (x : α) (h : i ≤ l.length) : l.take i ++ [x] = inse (l.take i) i x := by
  have e : (l.take i).length = i := by rw [List.length_take]; omega
  generalize l.take i = m at e
  rw [← e, inse_end]

set_option maxRecDepth 100000 in
set_option maxHeartbeats 1000000 in
theorem without_vals (A : Option Addr) (n c : Nat) (i : Int) (vs : List Value) (w : World) (hat : At w A vs) (hlen : vs.length = n) (h1 : ∀ v ∈ vs, ∃ A n c, v = .slice A n c) (hn : n ≤ 1000000) (i0 : 0 ≤ i) (i1 : i < n) :
    Calls Try.prog 88 #[.slice A n c, .int .i64 i] w fun e w' => ∃ v, e = .returned v ∧ w'.ownsRow w.heap.size 22 1 v (n - 1) (dele vs i.toNat) ∧ Ext w w' := by
  have HA := Lib.hid hat
  have HL := Lib.hid hlen
  have H1 := Lib.hid h1
  clear hat hlen h1
  go_enter Try.func88, Try.ntmps88
  go_wp2
  go_loopg [5, 9] n (fun g v i' wr => ∃ (k m : Nat), g = n - k ∧ k ≤ n ∧ m ≤ k ∧ i' = .int .i64 k ∧ wr.ownsRow w.heap.size 22 1 v m (dele (vs.take k) i.toNat) ∧ Ext w wr)
  case atStart => exact ⟨0, 0, by omega, by omega, by omega, rfl, by simpa [dele] using World.ownsRow_nil _ _ _ _, Ext.refl w⟩
  case round =>
    obtain ⟨k, m, rfl, hk, hmk, rfl, hown, hext⟩ := hrel
    have HX := Lib.hid hext
    clear hext
    by_cases hlt : k < n
    · obtain ⟨b, off, y, rfl, hy, hc⟩ := (HA.out.ext HX.out).get (j := k) (by rw [HL.out]; exact hlt)
      have HY := Lib.hid hy
      clear hy
      by_cases he : (k : Int) = i
      · have hne : ((k : Int) != i) = false := by simpa using he
        have HE := Lib.hid he
        clear he
        go_wp2
        go_roundg (n - (k + 1))
        case rel =>
          refine ⟨k + 1, m, rfl, by omega, by omega, by go_num, ?_, HX.out⟩
          have : i.toNat = k := by have := HE.out; omega
          rw [this] at hown ⊢
          rw [dele_take_skip]; exact hown
        case measure => omega
      · have hne : ((k : Int) != i) = true := by simpa using he
        have HE := Lib.hid he
        obtain ⟨Ay, ny, cy, rfl⟩ := H1.out y (List.mem_of_getElem? HY.out)
        clear he
        go_wp2_with (at_builtin; refine wpList_app _ elL rfl _ _ rfl w.heap.size u5 _ _ rfl (hown.alloc _) _ 1 1 [.slice Ay ny cy] rfl rfl (At.new' _ [_] _ rfl) (by simp [Value.oneCell']) (by omega) (by unfold maxLen; omega) (by have := HX.out.size; simp; omega) ?_; intro v1 w1 hown1 hgr1 _)
        go_roundg (n - (k + 1))
        case rel =>
          refine ⟨k + 1, m + 1, rfl, by omega, by omega, by go_num, ?_, HX.out.push hown hgr1⟩
          rw [dele_take_snoc HY.out (by have := HE.out; omega)]; exact hown1
        case measure => omega
    · go_wp2
      go_ret
      rw [List.take_of_length_le (by rw [HL.out]; omega)] at hown
      have hm := hown.1
      rw [dele_len (by rw [HL.out]; omega), HL.out, Nat.mul_one] at hm
      rw [hm]
      exact ⟨_, rfl, hown, HX.out⟩

set_option maxRecDepth 100000 in
set_option maxHeartbeats 2000000 in
theorem with_vals (A : Option Addr) (n c : Nat) (i : Int) (Ax : Option Addr) (nx cx : Nat) (vs : List Value) (w : World) (hat : At w A vs) (hlen : vs.length = n) (h1 : ∀ v ∈ vs, ∃ A n c, v = .slice A n c) (hn : n ≤ 1000000) (i0 : 0 ≤ i) (i1 : i ≤ n) :
    Calls Try.prog 89 #[.slice A n c, .int .i64 i, .slice Ax nx cx] w fun e w' => ∃ v, e = .returned v ∧ w'.ownsRow w.heap.size 22 1 v (n + 1) (inse vs i.toNat (.slice Ax nx cx)) ∧ Ext w w' := by
  have HA := Lib.hid hat
  have HL := Lib.hid hlen
  have H1 := Lib.hid h1
  clear hat hlen h1
  go_enter Try.func89, Try.ntmps89
  go_wp2
  go_loopg [7, 11] n (fun g v i' wr => ∃ (k m : Nat), g = n - k ∧ k ≤ n ∧ m ≤ k + 1 ∧ i' = .int .i64 k ∧ wr.ownsRow w.heap.size 22 1 v m (if (k : Int) ≤ i then vs.take k else inse (vs.take k) i.toNat (.slice Ax nx cx)) ∧ Ext w wr)
  case atStart => exact ⟨0, 0, by omega, by omega, by omega, rfl, by rw [if_pos (by omega)]; simpa using World.ownsRow_nil _ _ _ _, Ext.refl w⟩
  case round =>
    obtain ⟨k, m, rfl, hk, hmk, rfl, hown, hext⟩ := hrel
    have HX := Lib.hid hext
    clear hext
    by_cases hlt : k < n
    · obtain ⟨b, off, y, rfl, hy, hc0⟩ := HA.out.get (j := k) (by rw [HL.out]; exact hlt)
      have hc := HX.out.cell hc0
      have HC := Lib.hid hc0
      have HY := Lib.hid hy
      obtain ⟨Ay, ny, cy, rfl⟩ := H1.out y (List.mem_of_getElem? hy)
      clear hy hc0
      by_cases he : (k : Int) = i
      · have HE := Lib.hid he
        have hne : ((k : Int) == i) = true := by simpa using he
        rw [if_pos (by omega)] at hown
        clear he
        go_wp2_with (at_builtin; first | (refine wpList_app _ elL rfl _ _ rfl w.heap.size u7 _ _ rfl (hown.alloc _) _ 1 1 [.slice Ax nx cx] rfl rfl (At.new' _ [_] _ rfl) (by simp [Value.oneCell']) (by omega) (by unfold maxLen; omega) (by have := HX.out.size; simp; omega) ?_; intro v1 w1 hown1 hgr1 _; have HX1 := Lib.hid (HX.out.push hown hgr1); clear hgr1 hc; have hc := HX1.out.cell HC.out) | (refine wpList_app _ elL rfl _ _ rfl w.heap.size v1 _ _ rfl (hown1.alloc _) _ 1 1 [.slice Ay ny cy] rfl rfl (At.new' _ [_] _ rfl) (by simp [Value.oneCell']) (by omega) (by unfold maxLen; omega) (by have := HX1.out.size; simp; omega) ?_; intro v2 w2 hown2 hgr2 _))
        go_roundg (n - (k + 1))
        case rel =>
          refine ⟨k + 1, m + 1 + 1, rfl, by omega, by have := hown.1; rw [List.length_take] at this; omega, by go_num, ?_, HX1.out.push hown1 hgr2⟩
          have e : i.toNat = k := by have := HE.out; omega
          rw [if_neg (by have := HE.out; omega), inse_take_snoc HY.out (by omega), e, ← inse_take_at _ (by rw [HL.out]; omega)]
          exact hown2
        case measure => omega
      · have HE := Lib.hid he
        have hne : ((k : Int) == i) = false := by simpa using he
        clear he
        go_wp2_with (at_builtin; refine wpList_app _ elL rfl _ _ rfl w.heap.size u7 _ _ rfl (hown.alloc _) _ 1 1 [.slice Ay ny cy] rfl rfl (At.new' _ [_] _ rfl) (by simp [Value.oneCell']) (by omega) (by unfold maxLen; omega) (by have := HX.out.size; simp; omega) ?_; intro v1 w1 hown1 hgr1 _)
        go_roundg (n - (k + 1))
        case rel =>
          refine ⟨k + 1, m + 1, rfl, by omega, by omega, by go_num, ?_, HX.out.push hown hgr1⟩
          have he := HE.out
          by_cases hc1 : (k : Int) ≤ i
          · rw [if_pos hc1] at hown1
            rw [if_pos (by omega), List.take_add_one, HY.out]
            exact hown1
          · rw [if_neg hc1] at hown1
            rw [if_neg (by omega), inse_take_snoc HY.out (by omega)]
            exact hown1
        case measure => omega
    · obtain rfl : k = n := by omega
      rw [List.take_of_length_le (by rw [HL.out]; omega)] at hown
      by_cases he : i = (k : Int)
      · have hne : (i == (k : Int)) = true := by simpa using he
        have HE := Lib.hid he
        rw [if_pos (by omega)] at hown
        have hm := hown.1
        rw [HL.out, Nat.mul_one] at hm
        obtain rfl : k = m := by omega
        clear he
        go_wp2_with (at_builtin; refine wpList_app _ elL rfl _ _ rfl w.heap.size u7 _ _ rfl (hown.alloc _) _ 1 1 [.slice Ax nx cx] rfl rfl (At.new' _ [_] _ rfl) (by simp [Value.oneCell']) (by omega) (by unfold maxLen; omega) (by have := HX.out.size; simp; omega) ?_; intro v1 w1 hown1 hgr1 _)
        go_ret
        refine ⟨_, rfl, ?_, HX.out.push hown hgr1⟩
        have e : i.toNat = vs.length := by rw [HE.out, HL.out]; omega
        rw [e, inse_end]
        exact hown1
      · have hne : (i == (k : Int)) = false := by simpa using he
        rw [if_neg (by omega)] at hown
        have hm := hown.1
        rw [inse_len (by rw [HL.out]; omega), HL.out, Nat.mul_one] at hm
        subst hm
        clear he
        go_wp2
        go_ret
        exact ⟨_, rfl, hown, HX.out⟩

theorem lists_one {W : World} {v : Value} {xs : List Int} (h : SlV .u8 W v xs) : Lists .u8 (W.alloc (.cells #[v] 22)) (some ⟨W.heap.size, 0, none⟩) 1 [xs] :=
  ⟨rfl, [v], rfl, At.new W [v] _, fun j a zs ha hz => by
    match j with
    | 0 => simp at ha hz; subst ha hz; exact h.ext ((Ext.refl W).alloc _)
    | j + 1 => simp at ha⟩
theorem flat_one (xs : List Int) : [xs].flatten = xs := by simp
theorem joined_one (A : Option Addr) (n c : Nat) (xs : List Int) (w : World) (h : Ints .u8 w A n xs) (hnc : n ≤ c) (hcm : c ≤ 9223372036854775807) (hn : n ≤ 1000000) :
    Calls Try.prog 69 #[.slice (some ⟨w.heap.size, 0, none⟩) 1 1] (w.alloc (.cells #[.slice A n c] 22)) (RetB w xs) := by
  refine (joined_any _ 1 1 [xs] _ (lists_one ⟨A, n, c, rfl, h, hnc, hcm⟩) (by omega) (by rw [flat_one, h.1]; omega)).mono ?_
  rintro e w' ⟨A', n', c', rfl, ho, hX⟩
  rw [flat_one] at ho
  exact ⟨A', n', c', rfl, ho.mono (by simp), ((Ext.refl w).alloc _).trans hX⟩
theorem held_eq (num : Int) (m : Nat) : min (max num 0) (m : Int) = ((held num m : Nat) : Int) := by
  show _ = ((min num.toNat m : Nat) : Int)
  omega
theorem run_cutH {P : Program} {w : World} {t e : TypeId} {size bytes : Nat} {z : Value} (E : Elem P t e size bytes z) (A : Option Addr) (n c : Nat) (k : IntKind) (m : Nat) (hm : m ≤ c) :
    (Instr.sliceAt t (.slice A n c) none (some (.int k (m : Int))) none).run P w = .ok (.slice A m c) w := by
  obtain ⟨i, hi, hz, hs, hby⟩ := E.info
  have e0 : A.map (·.add 0) = A := by cases A <;> simp [Addr.add]
  simp [Instr.sliceAt, Instr.slice, run_underlying E.und, Instr.sliceBounds, run_sliceBound, sizeOf, typeInfo, hi, hm, e0]
/-- The address of x[l:]. -/
def cutA (A : Option Addr) (c l size : Nat) : Option Addr := if c = l then A else A.map (·.add (l * size))
theorem own_slice' {w : World} {base : Nat} {e : TypeId} {size n : Nat} {v : Value} {vs : List Value} (h : w.ownsRow base e size v n vs) : ∃ A m c, m = n ∧ v = .slice A m c := by
  obtain ⟨A, c, rfl⟩ := own_slice h
  exact ⟨A, n, c, rfl, rfl⟩
theorem run_cutL {P : Program} {w : World} {t e : TypeId} {size bytes : Nat} {z : Value} (E : Elem P t e size bytes z) (A : Option Addr) (n c : Nat) (k : IntKind) (l : Nat) (L : Int) (hL : L = l) (hl : l ≤ n) :
    (Instr.sliceAt t (.slice A n c) (some (.int k L)) none none).run P w = .ok (.slice (cutA A c l size) (n - l) (c - l)) w := by
  subst hL
  unfold cutA
  obtain ⟨i, hi, hz, hs, hby⟩ := E.info
  simp [Instr.sliceAt, Instr.slice, run_underlying E.und, Instr.sliceBounds, run_sliceBound, sizeOf, typeInfo, hi, hs, hl]
theorem xor_u8 {y : Int} (hy : 0 ≤ y ∧ y ≤ 255) (r : Nat) (hr : r < 8) : bits .xor .u8 y ((2 ^ r : Nat) : Int) = ((y.toNat ^^^ 2 ^ r : Nat) : Int) := by
  obtain ⟨a, rfl⟩ := Int.eq_ofNat_of_zero_le hy.1
  have h2 : 2 ^ r < 2 ^ 8 := Nat.pow_lt_pow_right (by omega) hr
  have h3 : a ^^^ 2 ^ r < 2 ^ 8 := Nat.xor_lt_two_pow (by omega) h2
  show IntKind.u8.wrap ((BitVec.ofInt 8 (a : Int) ^^^ BitVec.ofInt 8 ((2 ^ r : Nat) : Int)).toNat : Int) = _
  rw [BitVec.toNat_xor, BitVec.ofInt_natCast, BitVec.ofInt_natCast, BitVec.toNat_ofNat, BitVec.toNat_ofNat, Nat.mod_eq_of_lt (by omega), Nat.mod_eq_of_lt h2, IntWalk.u8_in _ (by omega)]
  rfl
theorem own_block {w : World} {base : Nat} {e : TypeId} {size n c : Nat} {A : Option Addr} {vs : List Value} (h : w.ownsRow base e size (.slice A n c) n vs) (hn : 0 < n) : ∃ g, A = some ⟨g, 0, none⟩ ∧ base ≤ g ∧ g < w.heap.size := by
  rcases h.2 with ⟨hv, h0⟩ | ⟨g, cap, cur, hv, hb, hg, _⟩
  · omega
  · injection hv with hA
    exact ⟨g, hA, hb, (Array.getElem?_eq_some_iff.1 hg).1⟩
theorem getD_u8 {xs : List Int} (h : ∀ x ∈ xs, (Lit.int .u8 x).wf = true) {j : Nat} (hj : j < xs.length) : 0 ≤ xs.getD j 0 ∧ xs.getD j 0 ≤ 255 := by
  have := u8_bounds (h _ (List.getElem_mem hj))
  simpa [List.getD, List.getElem?_eq_getElem hj] using this
/-- The byte with one bit inverted. -/
def flipB (xs : List Int) (q : Nat) : Int := (((xs.getD (q / 8) 0).toNat ^^^ 2 ^ (q % 8) : Nat) : Int)
theorem flip_val {xs : List Int} {q q8 r : Nat} {p2 : Int} (h : ∀ x ∈ xs, (Lit.int .u8 x).wf = true) (hq : q8 < xs.length) (h8 : q / 8 = q8) (hr : q % 8 = r) (hp : ((2 ^ r : Nat) : Int) = p2) : bits .xor .u8 (xs.getD q8 0) p2 = flipB xs q := by
  subst h8 hr hp
  exact xor_u8 (getD_u8 h hq) _ (Nat.mod_lt _ (by omega))
theorem OwnS.flip {tb : TypeId} {base : Nat} {w : World} {g n c : Nat} {xs : List Int} (h : OwnS .u8 tb base w (some ⟨g, 0, none⟩) n c xs) {q q8 : Nat} (h8 : q / 8 = q8) :
    OwnS .u8 tb base (w.setCell ⟨g, q8, none⟩ (.int .u8 (flipB xs q))) (some ⟨g, 0, none⟩) n c (flipped xs q) := by
  subst h8
  refine ⟨?_, by rw [flipped_len]; exact h.len, flipped_wf _ h.wf⟩
  have := (h.own.stored (q / 8) (.int .u8 (flipB xs q))).1
  unfold flipped
  rw [List.map_set]
  exact this
theorem OwnS.cellB {tb : TypeId} {base : Nat} {w : World} {g n c : Nat} {xs : List Int} (h : OwnS .u8 tb base w (some ⟨g, 0, none⟩) n c xs) {j : Nat} (hj : j < n) : w.cell? ⟨g, j, none⟩ = some (.int .u8 (xs.getD j 0)) ∧ w.frozen? ⟨g, j, none⟩ = false := by
  refine ⟨?_, h.own.frozenAt j⟩
  rw [h.own.cellAt j (by omega), List.getElem?_map]
  have : j < xs.length := by rw [h.len]; exact hj
  simp [List.getD, List.getElem?_eq_getElem this]
end Go.Proofs.Ytekhmfliaojabaa
namespace Go.Proofs.Ytekhmfliaojabaa
open Go.RowKit

/-- A value that is a slice of bytes with a row of its own, which reads as 'xs'. -/
def BodyV (base : Nat) (w : World) (v : Value) (xs : List Int) : Prop := ∃ A n c, v = .slice A n c ∧ OwnS .u8 5 base w A n c xs
section
variable {base : Nat} {w w' : World} {v : Value} {xs : List Int} {vs : List Value} {xss : List (List Int)}
theorem BodyV.ext (h : BodyV base w v xs) (he : Ext w w') : BodyV base w' v xs := by obtain ⟨A, n, c, h1, h2⟩ := h; exact ⟨A, n, c, h1, h2.ext he⟩
theorem BodyV.mono {base' : Nat} (h : BodyV base w v xs) (hb : base' ≤ base) : BodyV base' w v xs := by obtain ⟨A, n, c, h1, h2⟩ := h; exact ⟨A, n, c, h1, h2.mono hb⟩
theorem BodyV.kept {te : TypeId} {base' size n : Nat} {v' : Value} {us : List Value} (h : BodyV base w v xs) (h' : w.ownsRow base' te size v' n us) (hne : 5 ≠ te) (hg : w.grownBy w' v'.ownBlock) : BodyV base w' v xs := by
  obtain ⟨A, n, c, h1, h2⟩ := h; exact ⟨A, n, c, h1, h2.kept h' hne hg⟩
theorem BodyV.keeps {L : List Nat} (h : BodyV base w v xs) (hk : Keeps L w w') (hn : ∀ g ∈ L, NoRow 5 w g) : BodyV base w' v xs := by
  obtain ⟨A, n, c, h1, h2⟩ := h; exact ⟨A, n, c, h1, h2.keeps hk hn⟩
theorem BodyV.slv (h : BodyV base w v xs) : SlV .u8 w v xs := by obtain ⟨A, n, c, rfl, h2⟩ := h; exact h2.slv
theorem BodyV.nil (base : Nat) (w : World) : BodyV base w (.slice none 0 0) [] := ⟨none, 0, 0, rfl, ⟨World.ownsRow_nil _ _ _ _, rfl, by simp⟩⟩
theorem bodies_lv (h : F2 (BodyV base w) vs xss) : LV w vs xss := ⟨h.len, fun j v xs a b => by
  obtain ⟨xs', h1, h2⟩ := h.get a
  rw [b] at h1
  injection h1 with h1
  subst h1
  exact h2.slv⟩
end

/-- The integers of a fault are integers of 64 bits. -/
def FltIn (f : Flt) : Prop := (-9223372036854775808 ≤ f.kind ∧ f.kind ≤ 9223372036854775807) ∧ (-9223372036854775808 ≤ f.place ∧ f.place ≤ 9223372036854775807) ∧ (-9223372036854775808 ≤ f.num ∧ f.num ≤ 9223372036854775807)
def FltC (cs : List Value) (f : Flt) : Prop := cs = [.int .i64 f.kind, .int .i64 f.place, .int .i64 f.num]
/-- A slice of faults reads as 'fs'. -/
def Flts (w : World) (A : Option Addr) (n : Nat) (fs : List Flt) : Prop := fs.length = n ∧ (∀ f ∈ fs, FltIn f) ∧ ∃ vs, CsR FltC vs fs ∧ At w A vs
section
variable {w w' : World} {A : Option Addr} {n : Nat} {fs : List Flt}
theorem Flts.ext (h : Flts w A n fs) (he : Ext w w') : Flts w' A n fs := by obtain ⟨h1, h2, vs, h3, h4⟩ := h; exact ⟨h1, h2, vs, h3, h4.ext he⟩
theorem Flts.nil (w : World) (A : Option Addr) : Flts w A 0 [] := ⟨rfl, by simp, [], CsR.nil, At.nil⟩
theorem Flts.get (h : Flts w A n fs) {j : Nat} (hj : j < n) : ∃ b off f, A = some ⟨b, off, none⟩ ∧ fs[j]? = some f ∧ FltIn f ∧ w.cell? ⟨b, off + j * 3, none⟩ = some (.int .i64 f.kind) ∧ w.cell? ⟨b, off + j * 3 + 1, none⟩ = some (.int .i64 f.place) ∧ w.cell? ⟨b, off + j * 3 + 2, none⟩ = some (.int .i64 f.num) := by
  obtain ⟨h1, h2, vs, h3, h4⟩ := h
  have hf : fs[j]? = some fs[j] := List.getElem?_eq_getElem (by omega)
  obtain ⟨cs, rfl, h5⟩ := h3.get (k := 3) (fun cs f h => by rw [h]; rfl) hf
  obtain ⟨b, off, hA, hc⟩ := h4 (by intro e; subst e; have := h5 0 _ rfl; simp at this)
  refine ⟨b, off, _, hA, hf, h2 _ (List.getElem_mem (by omega)), hc _ _ (h5 0 _ rfl), ?_, ?_⟩
  · rw [Nat.add_assoc]; exact hc _ _ (h5 1 _ rfl)
  · rw [Nat.add_assoc]; exact hc _ _ (h5 2 _ rfl)
end
end Go.Proofs.Ytekhmfliaojabaa
namespace Go.Proofs.Ytekhmfliaojabaa
open Go.RowKit

/-- What a reading without an error says of the bytes. -/
theorem unp_good {xs : List Int} (h : (unp xs).2.2 = 0) : szN xs ≤ 1024 ∧ 12 + szN xs ≤ xs.length ∧ bigN ((xs.drop (8 + szN xs)).take 4) = crc (xs.take (8 + szN xs)) ∧ (unp xs).1.body = (xs.take (8 + szN xs)).drop 8 := by
  by_cases h0 : xs.length = 0
  · rw [unp_none h0] at h; simp at h
  by_cases h1 : xs.getD 0 0 = 165
  · by_cases h2 : xs.length < 8
    · rw [unp_short h0 h1 h2] at h; simp at h
    · by_cases h3 : 1024 < szN xs
      · rw [unp_long h1 (by omega) h3] at h; simp at h
      · by_cases h4 : xs.length < 12 + szN xs
        · rw [unp_cut h1 (by omega) (by omega) h4] at h; simp at h
        · by_cases h5 : bigN ((xs.drop (8 + szN xs)).take 4) = crc (xs.take (8 + szN xs))
          · rw [unp_ok h1 (by omega) (by omega) h5]
            exact ⟨by omega, by omega, h5, rfl⟩
          · rw [unp_sum h1 (by omega) (by omega) h5] at h; simp at h
  · rw [unp_mark h0 h1] at h; simp at h

end Go.Proofs.Ytekhmfliaojabaa
