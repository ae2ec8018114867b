/- Walks: the reference's Valid, Big and Pack. Condition: the frame's bytes read as such. -/
import Derived.Test.YtekhmfliaojabaaPackF
import Derived.Test.YtekhmfliaojabaaSum
import Derived.Test.YtekhmfliaojabaaJoin
import Derived.Test.YtekhmfliaojabaaBase2
import Derived.Test.YtekhmfliaojabaaMono
namespace Go.Proofs.Ytekhmfliaojabaa
open Go.RowKit

set_option maxHeartbeats 400000 in
theorem validR_yes (s q : Int) (A : Option Addr) (n c : Nat) (w : World) (h1 : 0 ≤ s) (h2 : s ≤ 255) (h3 : 0 ≤ q) (h4 : q ≤ 4294967295) (h5 : n ≤ 1024) :
    Calls Try.prog 53 #[.agg #[.int .i64 s, .int .i64 q, .slice A n c]] w fun e w' => e = .returned (.bool true) ∧ Ext w w' := by
  go_enter Try.func53, Try.ntmps53
  go_wp2
  go_ret
  exact ⟨by simp; omega, (Ext.refl w).alloc _⟩
set_option maxHeartbeats 400000 in
theorem validR_no (s q : Int) (A : Option Addr) (n c : Nat) (w : World) (h : ¬ (0 ≤ s ∧ s ≤ 255 ∧ 0 ≤ q ∧ q ≤ 4294967295 ∧ n ≤ 1024)) :
    Calls Try.prog 53 #[.agg #[.int .i64 s, .int .i64 q, .slice A n c]] w fun e w' => e = .returned (.bool false) ∧ Ext w w' := by
  by_cases h1 : 0 ≤ s
  · by_cases h2 : s ≤ 255
    · by_cases h3 : 0 ≤ q
      · by_cases h4 : q ≤ 4294967295
        · have h5 : ¬ n ≤ 1024 := fun h5 => h ⟨h1, by omega, h3, h4, h5⟩
          clear h
          go_enter Try.func53, Try.ntmps53
          go_wp2
          go_ret
          exact ⟨by simp; omega, (Ext.refl w).alloc _⟩
        · clear h
          go_enter Try.func53, Try.ntmps53
          go_wp2
          go_ret
          exact ⟨by simp, (Ext.refl w).alloc _⟩
      · clear h
        go_enter Try.func53, Try.ntmps53
        go_wp2
        go_ret
        exact ⟨by simp, (Ext.refl w).alloc _⟩
    · clear h
      go_enter Try.func53, Try.ntmps53
      go_wp2
      go_ret
      exact ⟨by simp, (Ext.refl w).alloc _⟩
  · clear h
    go_enter Try.func53, Try.ntmps53
    go_wp2
    go_ret
    exact ⟨by simp, (Ext.refl w).alloc _⟩

/-- The last k bytes of a number, the most significant one first. -/
def bigB : Nat → Int → List Int
  | 0, _ => []
  | k + 1, n => bigB k (n / 256) ++ [n % 256]
theorem bigB_len (k : Nat) (n : Int) : (bigB k n).length = k := by
  induction k generalizing n with
  | zero => rfl
  | succ k ih => simp [bigB, ih]
theorem bigB_byte (k : Nat) (n : Int) : ∀ x ∈ bigB k n, 0 ≤ x ∧ x ≤ 255 := by
  induction k generalizing n with
  | zero => simp [bigB]
  | succ k ih =>
    intro x hx
    rcases List.mem_append.1 hx with hx | hx
    · exact ih _ x hx
    · simp at hx; omega
theorem bigB_four {n : Int} (h0 : 0 ≤ n) (h1 : n ≤ 4294967295) : bigB 4 n = big4 n := by
  simp [bigB, big4]; omega
theorem bigB_two {n : Int} (h0 : 0 ≤ n) (h1 : n ≤ 65535) : bigB 2 n = [n / 256, n % 256] := by
  simp [bigB]; omega

theorem set_at {α : Type} (k : Nat) (z u : α) (ys : List α) : (List.replicate (k + 1) z ++ ys).set k u = List.replicate k z ++ u :: ys := by
  rw [List.replicate_succ', List.append_assoc, List.set_append_right _ _ (by simp)]
  simp

set_option maxHeartbeats 400000 in
theorem bigR_any (q : Int) (k : Nat) (w : World) (h0 : 0 ≤ q) (h1 : q ≤ 18446744073709551615) (hk : k ≤ 8) :
    Calls Try.prog 82 #[.int .u64 q, .int .i64 k] w (RetB w (bigB k q)) := by
  go_enter Try.func82, Try.ntmps82
  go_wp2_with (at_make; refine wpList_mk _ elB rfl rfl _ _ rfl w.heap.size _ _ _ _ k k rfl rfl rfl rfl (Nat.le_refl _) (by omega) (by unfold maxLen; omega) (Nat.le_refl _) ?_; intro w1 hown1 hext1 hsz1)
  go_loopg [0, 6] (k + 1) (fun g n i wr => ∃ (j : Nat) (m : Int) (ys : List Int), g = j + 1 ∧ j ≤ k ∧ i = .int .i64 ((j : Int) - 1) ∧ n = .int .u64 m ∧ 0 ≤ m ∧ m ≤ 18446744073709551615 ∧ bigB j m ++ ys = bigB k q ∧ wr.ownsRow w.heap.size 5 1 (.slice (some ⟨w.heap.size, 0, none⟩) k k) k (List.replicate j (.int .u8 0) ++ ys.map (.int .u8)) ∧ Ext w wr)
  case atStart => exact ⟨k, q, [], rfl, Nat.le_refl _, rfl, rfl, h0, h1, by simp, by simpa using hown1, hext1⟩
  case round =>
    obtain ⟨j, m, ys, rfl, hj, rfl, rfl, hm0, hm1, hB, hown, hext⟩ := hrel
    have HB := Lib.hid hB
    have HX := Lib.hid hext
    clear hB hext
    rcases Nat.eq_zero_or_pos j with hj0 | hj0
    · subst hj0
      go_wp2
      go_ret
      refine ⟨some ⟨w.heap.size, 0, none⟩, k, k, rfl, ⟨?_, bigB_len k q, fun x hx => WalkArith.wf_u8 (bigB_byte k q x hx)⟩, HX.out⟩
      have := HB.out
      simp only [bigB, List.nil_append] at this
      rw [← this]
      simpa using hown
    · obtain ⟨i, rfl⟩ : ∃ i, j = i + 1 := ⟨j - 1, by omega⟩
      have hi1 : (((i + 1 : Nat) : Int) - 1) = (i : Int) := by omega
      rw [hi1]
      clear hi1
      have hlt : i < k := by omega
      have hcell := hown.cellAt i (by omega)
      have hlen : (List.replicate (i + 1) (Value.int .u8 0) ++ ys.map (Value.int .u8)).length = k := by have := hown.1; simpa using this
      have hcell' : ∃ u, wr.cell? ⟨w.heap.size, i, none⟩ = some u := by rw [hcell]; exact ⟨_, List.getElem?_eq_getElem (by omega)⟩
      obtain ⟨u, hu⟩ := hcell'
      have hfr := hown.frozenAt i
      have HST := Lib.hid (hown.stored i (.int .u8 (m % 256)))
      clear hcell hlen hown
      go_wp2
      go_roundg (i + 1)
      case rel =>
        refine ⟨i, m / 256, (m % 256) :: ys, rfl, by omega, by go_num, rfl, by omega, by omega, ?_, ?_, ?_⟩
        · rw [← HB.out]; simp [bigB]
        · have := HST.out.1
          rw [set_at] at this
          simpa using this
        · exact HX.out.setCell (Nat.le_refl _) _
      case measure => omega

theorem Lists.two {k : IntKind} {w : World} {A : Option Addr} {u v : Value} {xs ys : List Int} (hat : At w A [u, v]) (h1 : SlV k w u xs) (h2 : SlV k w v ys) : Lists k w A 2 [xs, ys] :=
  ⟨rfl, [u, v], rfl, hat, fun j a zs ha hz => by
    match j with
    | 0 => simp at ha hz; subst ha hz; exact h1
    | 1 => simp at ha hz; subst ha hz; exact h2
    | j + 2 => simp at ha⟩
theorem Lists.four {k : IntKind} {w : World} {A : Option Addr} {u v a b : Value} {xs ys zs us : List Int} (hat : At w A [u, v, a, b]) (h1 : SlV k w u xs) (h2 : SlV k w v ys) (h3 : SlV k w a zs) (h4 : SlV k w b us) : Lists k w A 4 [xs, ys, zs, us] :=
  ⟨rfl, [u, v, a, b], rfl, hat, fun j c ws ha hz => by
    match j with
    | 0 => simp at ha hz; subst ha hz; exact h1
    | 1 => simp at ha hz; subst ha hz; exact h2
    | 2 => simp at ha hz; subst ha hz; exact h3
    | 3 => simp at ha hz; subst ha hz; exact h4
    | j + 4 => simp at ha⟩
theorem OwnS.slv {k : IntKind} {e : TypeId} {base : Nat} {w : World} {A : Option Addr} {n c : Nat} {xs : List Int} (h : OwnS k e base w A n c xs) : SlV k w (.slice A n c) xs := ⟨A, n, c, rfl, h.ints, h.cap.1, h.cap.2⟩

theorem ints_two {w : World} {g : Nat} {t : TypeId} {a b : Int} (h : Blk w g t #[.int .u8 a, .int .u8 b]) (ha : 0 ≤ a ∧ a ≤ 255) (hb : 0 ≤ b ∧ b ≤ 255) : SlV .u8 w (.slice (some ⟨g, 0, none⟩) 2 2) [a, b] :=
  ⟨_, 2, 2, rfl, ⟨rfl, fun x hx => by
    simp at hx
    rcases hx with rfl | rfl
    · exact WalkArith.wf_u8 ha
    · exact WalkArith.wf_u8 hb, fun _ => ⟨g, 0, rfl, fun j v hv => by
      rw [Nat.zero_add, h.cell j]
      simpa using hv⟩⟩, by omega, by omega⟩

set_option maxRecDepth 100000 in
set_option maxHeartbeats 2000000 in
theorem packR_ok (s q : Int) (A : Option Addr) (n c : Nat) (xs : List Int) (w : World) (h : Ints .u8 w A n xs) (hnc : n ≤ c) (hcm : c ≤ 9223372036854775807) (hok : FrOk ⟨s, q, xs⟩) :
    Calls Try.prog 50 #[.agg #[.int .i64 s, .int .i64 q, .slice A n c]] w (RetBytes w (pck ⟨s, q, xs⟩) 0) := by
  have H := Lib.hid h
  have HOK := Lib.hid hok
  obtain ⟨h1, h2, h3, h4, h5⟩ := hok
  simp only at h1 h2 h3 h4 h5
  rw [h.1] at h5
  clear h
  go_enter Try.func50, Try.ntmps50
  go_wp2_with fail
  refine (validR_yes s q A n c _ h1 h2 h3 h4 h5).mono ?_
  rintro e w1 ⟨rfl, hX1⟩
  have hB1 := (Blk.new w 38 #[.int .i64 s, .int .i64 q, .slice A n c]).ext hX1
  have HXw := Lib.hid (((Ext.refl w).alloc _).trans hX1)
  have HB1 := Lib.hid hB1
  have hlt := hB1.lt
  obtain ⟨r0, r1, r2, f0, f1, f2⟩ := hB1.three
  clear hX1 hB1
  go_wp2_with fail
  have hws : IntKind.u8.wrap s = s := IntWalk.u8_in _ (by omega)
  have hwq : IntKind.u64.wrap q = q := IntWalk.u64_in _ (by omega)
  have hwn : IntKind.u64.wrap (n : Int) = (n : Int) := IntWalk.u64_in _ (by omega)
  have H4 : Hid (∀ W, Ext w1 W → Calls Try.prog 82 #[.int .u64 q, .int .i64 4] W fun e w' => ∃ A n c, e = .returned (.slice A n c) ∧ OwnS .u8 5 w1.heap.size w' A n c (big4 q) ∧ Ext w1 w' ∧ Ext W w') := fun W hW => by
    refine (bigR_any q 4 W h3 (by omega) (by omega)).mono ?_
    rintro e w' ⟨A, n, c, he, ho, hx⟩
    rw [bigB_four h3 h4] at ho
    exact ⟨A, n, c, he, ho.mono hW.size, hW.trans hx, hx⟩
  have H2 : Hid (∀ W, Ext w1 W → Calls Try.prog 82 #[.int .u64 (n : Int), .int .i64 2] W fun e w' => ∃ A n' c, e = .returned (.slice A n' c) ∧ OwnS .u8 5 w1.heap.size w' A n' c [(n : Int) / 256, (n : Int) % 256] ∧ Ext w1 w' ∧ Ext W w') := fun W hW => by
    refine (bigR_any (n : Int) 2 W (by omega) (by omega) (by omega)).mono ?_
    rintro e w' ⟨A, n, c, he, ho, hx⟩
    rw [bigB_two (by omega) (by omega)] at ho
    exact ⟨A, n, c, he, ho.mono hW.size, hW.trans hx, hx⟩
  have Hs : Hid ((0 : Int) ≤ 165 ∧ (165 : Int) ≤ 255) := ⟨by omega, by omega⟩
  have Hs2 : Hid (0 ≤ s ∧ s ≤ 255) := ⟨h1, h2⟩
  go_upto_region 3 with (fail)
  go_cut [4] (fun s4 wx => ∃ A4 n4 c4, s4 = .slice A4 n4 c4 ∧ OwnS .u8 5 w1.heap.size wx A4 n4 c4 (heads ⟨s, q, xs⟩) ∧ Ext w1 wx)
  case first =>
    refine wp_region_mono 17 [8, 9, 10, 11, 12, 13, 14, 15, 16, 17, 18, 19, 20, 21, 22, 23, 24] [[], [0], [1], [2], [], [4], [5], [6], [], [8], [9], [10], [11], [], [13], [3, 7, 12, 14], [15], [16]]
      (fun i v W => match i with
        | 0 => v = .pointer (some ⟨w.heap.size, 0, none⟩)
        | 1 => v = .int .i64 s
        | 2 => v = .int .u8 s
        | 3 => SlV .u8 W v [165, s]
        | 4 => v = .pointer (some ⟨w.heap.size, 1, none⟩)
        | 5 => v = .int .i64 q
        | 6 => v = .int .u64 q
        | 7 => SlV .u8 W v (big4 q)
        | 8 => v = .pointer (some ⟨w.heap.size, 2, none⟩)
        | 9 => v = .slice A n c
        | 10 => v = .int .i64 n
        | 11 => v = .int .u64 n
        | 12 => SlV .u8 W v [(n : Int) / 256, (n : Int) % 256]
        | 13 => v = .pointer (some ⟨w.heap.size, 2, none⟩)
        | 14 => v = .slice A n c
        | 15 => ∃ A', v = .slice A' 4 4 ∧ Lists .u8 W A' 4 [[165, s], big4 q, [(n : Int) / 256, (n : Int) % 256], xs]
        | 16 => ∃ A6 n6 c6, v = .slice A6 n6 c6 ∧ OwnS .u8 5 w1.heap.size W A6 n6 c6 (heads ⟨s, q, xs⟩)
        | _ => True) (by kernel_rfl) (by kernel_rfl) (by simp) ?_ ?_ ?_
    · intro i v W W' hX hv
      match i with
      | 0 | 1 | 2 | 4 | 5 | 6 | 8 | 9 | 10 | 11 | 13 | 14 => exact hv
      | 3 | 7 | 12 => exact SlV.ext hv hX
      | 15 => obtain ⟨A', h1, h2⟩ := hv; exact ⟨A', h1, h2.ext hX⟩
      | 16 => obtain ⟨A6, n6, c6, h1, h2⟩ := hv; exact ⟨A6, n6, c6, h1, h2.ext hX⟩
      | _ + 17 => exact hv
    · simp only [List.take_succ_cons, List.take_zero]
      refine ⟨?_, ?_, ?_, ?_, ?_, ?_, ?_, ?_, ?_, ?_, ?_, ?_, ?_, ?_, ?_, ?_, ?_, trivial⟩
      all_goals
        intro us W hX hdep K hK Q'
        simp only [List.getD_cons_succ, List.getD_cons_zero, List.mem_cons, List.not_mem_nil, or_false, forall_eq_or_imp, forall_eq] at hdep
        simp only [fillA, Act.put, List.setIfInBounds_toArray, List.set_cons_succ, List.set_cons_zero] at hK ⊢
        have hX1 : Ext w1 W := ((Ext.refl w1).drew).trans hX
        have q0 := hX1.cell r0
        have q1 := hX1.cell r1
        have q2 := hX1.cell r2
        have HXW := Lib.hid hX1
        clear r0 r1 r2 f0 f1 f2 hX hX1
      all_goals try simp only [hdep] at hK ⊢
      rotate_left 15
      · obtain ⟨d3, d7, d12, d14⟩ := hdep
        obtain ⟨A3, n3, c3, e3, h3⟩ := d3
        obtain ⟨A7, n7, c7, e7, h7⟩ := d7
        obtain ⟨A12, n12, c12, e12, h12⟩ := d12
        rw [e3, e7, e12] at hK ⊢
        have G3 := Lib.hid h3
        have G7 := Lib.hid h7
        have G12 := Lib.hid h12
        clear h3 h7 h12 e3 e7 e12 d14
        go_simp
        have hXa : Ext W (W.alloc (.cells #[.slice A3 n3 c3, .slice A7 n7 c7, .slice A12 n12 c12, .slice A n c] 22)) := (Ext.refl W).alloc _
        refine hK _ _ ⟨_, rfl, ?_⟩ hXa
        exact Lists.four (At.new W [_, _, _, _] _) (SlV.ext ⟨A3, n3, c3, rfl, G3.out⟩ hXa) (SlV.ext ⟨A7, n7, c7, rfl, G7.out⟩ hXa) (SlV.ext ⟨A12, n12, c12, rfl, G12.out⟩ hXa) ⟨A, n, c, rfl, H.out.ext ((HXw.out.trans HXW.out).trans hXa), hnc, hcm⟩
      · obtain ⟨A15, e15, h15⟩ := hdep
        rw [e15] at hK ⊢
        have G15 := Lib.hid h15
        clear h15 e15
        go_simp
        refine (joined_any A15 4 4 _ W G15.out (by omega) (by have := H.out.1; simp [big4]; omega)).mono ?_
        rintro e w6 ⟨A6, n6, c6, rfl, hO6, hE6⟩
        have hfl : [[165, s], big4 q, [(n : Int) / 256, (n : Int) % 256], xs].flatten = heads ⟨s, q, xs⟩ := by
          have := H.out.1; subst this; simp [heads]
        rw [hfl] at hO6
        exact hK _ _ ⟨A6, n6, c6, rfl, hO6.mono HXW.out.size⟩ hE6
      all_goals go_simp
      all_goals try (refine hK _ _ rfl (Ext.refl _))
      · refine hK _ _ ?_ ((Ext.refl _).alloc _)
        exact ints_two (Blk.new W 5 #[.int .u8 165, .int .u8 s]) Hs.out Hs2.out
      · refine (H4.out W HXW.out).mono ?_
        rintro e w4 ⟨A4, n4, c4, rfl, hO4, hE4, hE4'⟩
        exact hK _ _ hO4.slv hE4'
      · refine (H2.out W HXW.out).mono ?_
        rintro e w4 ⟨A4, n4, c4, rfl, hO4, hE4, hE4'⟩
        exact hK _ _ hO4.slv hE4'
    · intro us W hV hX
      have h16 := hV 16 (by omega)
      simp only at h16
      obtain ⟨A6, n6, c6, e6, hO6⟩ := h16
      have HO6 := Lib.hid hO6
      have HXW := Lib.hid (((Ext.refl w1).drew).trans hX)
      clear hV hO6 hX
      simp only [fillA, Act.put, List.setIfInBounds_toArray, List.set_cons_succ, List.set_cons_zero, List.drop_succ_cons, List.drop_zero, e6]
      clear e6
      go_wp2_with fail
      go_meet
      exact ⟨A6, n6, c6, rfl, HO6.out, HXW.out⟩
  case rest =>
    obtain ⟨A4, n4, c4, rfl, hO4, hX4⟩ := hcut
    have HO4 := Lib.hid hO4
    have HX4 := Lib.hid hX4
    clear hO4 hX4 H4 H2 r0 r1 r2 f0 f1 f2
    have hn4 : n4 ≤ 1032 := by have := HO4.out.len; rw [heads_len] at this; have h6 := H.out.1; simp only at this; omega
    obtain ⟨q6, hq6⟩ : ∃ r, crc (heads ⟨s, q, xs⟩) = r := ⟨_, rfl⟩
    have hcr := crc_range (heads ⟨s, q, xs⟩)
    have hck := checksumR_any _ _ c4 _ _ HO4.out.ints (by omega)
    rw [hq6] at hck hcr
    have HCK := Lib.hid hck
    have HQ6 := Lib.hid hq6
    obtain ⟨hc0, hc1⟩ := hcr
    clear hck hq6
    go_wp2_with fail
    refine HCK.out.mono ?_
    rintro e w' ⟨rfl, rfl⟩
    go_wp2_with fail
    refine (bigR_any q6 4 _ hc0 (by omega) (by omega)).mono ?_
    rintro e w5 ⟨A5, n5, c5, rfl, hO5, hX5⟩
    rw [bigB_four hc0 hc1] at hO5
    have HO5 := Lib.hid hO5
    have HX5 := Lib.hid hX5
    clear hO5 hX5
    go_wp2_with fail
    have hXa : Ext w5 (w5.alloc (.cells #[.slice A4 n4 c4, .slice A5 n5 c5] 22)) := (Ext.refl w5).alloc _
    refine (joined_any _ _ _ [heads ⟨s, q, xs⟩, big4 q6] _ (Lists.two (At.new w5 [_, _] _) ((HO4.out.ext (HX5.out.trans hXa)).slv) ((HO5.out.ext hXa).slv)) (by omega) (by have h6 := H.out.1; simp [big4, heads_len]; omega)).mono ?_
    rintro e w6 ⟨A6, n6, c6, rfl, hO6, hX6⟩
    have HO6 := Lib.hid hO6
    have HX6 := Lib.hid (((HXw.out.trans HX4.out).trans HX5.out).trans (hXa.trans hX6))
    have HZ : Hid (w.heap.size ≤ (w5.alloc (.cells #[.slice A4 n4 c4, .slice A5 n5 c5] 22)).heap.size) := (((HXw.out.trans HX4.out).trans HX5.out).trans hXa).size
    clear hO6 hX6 hXa
    go_wp2
    go_ret2
    refine ⟨A6, n6, c6, rfl, ?_, HX6.out⟩
    have hfl : [heads ⟨s, q, xs⟩, big4 q6].flatten = pck ⟨s, q, xs⟩ := by simp [pck, HQ6.out]
    rw [← hfl]
    exact HO6.out.mono HZ.out
end Go.Proofs.Ytekhmfliaojabaa
