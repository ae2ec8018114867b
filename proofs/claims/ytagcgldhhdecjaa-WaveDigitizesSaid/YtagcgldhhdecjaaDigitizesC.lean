/- Lemmas of the proof that follows (Digitizes, part 3): walks of functions by contract, and plain lemmas. Conditions: none. -/
import Derived.Test.YtagcgldhhdecjaaDigitizesB
namespace Go.Proofs.Ytagcgldhhdecjaa
open Go.RowKit

/-- What Digitize computes. -/
def HgtOk (l : List Int) : Prop := l.length ≤ 256 ∧ ∀ x ∈ l, 0 ≤ x ∧ x ≤ 16383
instance (l : List Int) : Decidable (HgtOk l) := inferInstanceAs (Decidable (_ ∧ _))
def digF (l : List Int) : List Int × Int := if HgtOk l then (l.map (· / 16), 0) else ([], 2)
/-- A row of integers of a call's own. -/
def IntL (base : Nat) (w : World) (v : Value) (xs : List Int) : Prop := ∃ A c, v = .slice A xs.length c ∧ OwnS .i64 3 base w A xs.length c xs
theorem IntL.nil (base : Nat) (w : World) : IntL base w (.slice none 0 0) [] := ⟨none, 0, rfl, World.ownsRow_nil _ _ _ _, rfl, by simp⟩
theorem IntL.ext {base : Nat} {w w' : World} {v : Value} {xs : List Int} (h : IntL base w v xs) (he : Ext w w') : IntL base w' v xs := by
  obtain ⟨A, c, h1, h2⟩ := h
  exact ⟨A, c, h1, h2.ext he⟩
def RetIn (w : World) (r : List Int × Int) (e : Ending) (w' : World) : Prop := ∃ v, e = .returned (.tuple #[v, .int .i64 r.2]) ∧ IntL w.heap.size w' v r.1 ∧ Ext w w'
theorem elN : Elem Try.prog 22 3 1 8 (.int .i64 0) := Elem.mk' (by kernel_rfl) (by kernel_rfl) rfl (by decide)
theorem i64_wf {z : Int} (h : -9223372036854775808 ≤ z ∧ z ≤ 9223372036854775807) : (Lit.int .i64 z).wf = true := by
  simp [Lit.wf, IntKind.min, IntKind.max, IntKind.bits, IntKind.signed]; omega
set_option maxRecDepth 100000 in
set_option maxHeartbeats 4000000 in
theorem digitize_any (A : Option Addr) (n c : Nat) (l : List Int) (w : World) (h : Ints .i64 w A n l) :
    Calls Try.prog 36 #[.slice A n c] w (RetIn w (digF l)) := by
  have H := Lib.hid h
  have HL := Lib.hid h.1
  clear h
  by_cases hn : 256 < n
  · have HB : Hid (digF l = ([], 2)) := Lib.hid (by unfold digF; rw [if_neg]; intro s; have := s.1; have := HL.out; omega)
    go_enter Try.func36, Try.ntmps36
    go_wp2
    go_ret2
    exact ⟨_, by rw [HB.out]; rfl, by rw [HB.out]; exact IntL.nil _ _, Ext.refl _⟩
  go_enter Try.func36, Try.ntmps36
  go_wp2_with fail
  go_loopg [4, 12] n (fun f ov iv wr => ∃ (k : Nat) (ys : List Int), f = n - k ∧ k ≤ n ∧ iv = .int .i64 (k : Int) ∧ Hid (ys.length = k) ∧ Hid ((l.take k).map (· / 16) = ys) ∧ Hid (∀ x ∈ l.take k, 0 ≤ x ∧ x ≤ 16383) ∧ Hid (IntL w.heap.size wr ov ys) ∧ Hid (Ext w wr))
  case atStart => exact ⟨0, [], rfl, by omega, rfl, Lib.hid rfl, Lib.hid rfl, Lib.hid (by simp), Lib.hid (IntL.nil _ _), Lib.hid (Ext.refl _)⟩
  case round =>
    obtain ⟨k, ys, rfl, hk, rfl, HYL, HYS, HA, HO, HX⟩ := hrel
    obtain ⟨A1, c1, hso, hown⟩ := HO.out
    rw [HYL.out] at hso hown
    subst hso
    by_cases hlt : k < n
    · obtain ⟨b, off, x, rfl, hx, _, hc⟩ := (H.out.ext HX.out).get hlt
      have HX' := Lib.hid hx
      clear hx
      by_cases h0 : x < 0 ∨ 16383 < x
      · have HB : Hid (digF l = ([], 2)) := Lib.hid (by unfold digF; rw [if_neg]; intro s; have := s.2 x (List.mem_of_getElem? HX'.out); omega)
        clear hown
        rcases h0 with h0 | h0
        · go_wp2
          go_ret2
          exact ⟨_, by rw [HB.out]; rfl, by rw [HB.out]; exact IntL.nil _ _, HX.out⟩
        · go_wp2
          go_ret2
          exact ⟨_, by rw [HB.out]; rfl, by rw [HB.out]; exact IntL.nil _ _, HX.out⟩
      · have h1 : 0 ≤ x := by omega
        have h2 : x ≤ 16383 := by omega
        clear h0
        obtain ⟨y, hy⟩ : ∃ y, x / 16 = y := ⟨_, rfl⟩
        have hy0 : 0 ≤ y ∧ y ≤ 1023 := by omega
        obtain ⟨hy1, hy2⟩ := hy0
        have ht : x.tdiv 16 = y := by rw [Int.tdiv_eq_ediv_of_nonneg h1]; exact hy
        have HY := Lib.hid hy
        have hown' := hown.own
        have hsz := HX.out.size
        clear hy hown
        go_wp2_with (at_builtin; refine wpList_app _ elN rfl _ _ rfl w.heap.size (.slice A1 k c1) k (ys.map (Value.int .i64)) rfl (hown'.alloc _) _ 1 1 [.int .i64 y] rfl rfl (At.new' _ [_] _ rfl) (by simp [Value.oneCell']) (by omega) (by unfold maxLen; omega) (by simp; omega) ?_; intro v5 w5 hown5 hgr5 _; have HX5 := Lib.hid (HX.out.push hown' hgr5); have HOW5 := Lib.hid hown5; clear hown5 hgr5)
        go_roundg (n - (k + 1))
        case rel =>
          refine ⟨k + 1, ys ++ [y], rfl, by omega, by go_num, Lib.hid (by rw [List.length_append, HYL.out]; rfl), Lib.hid ?_, Lib.hid ?_, Lib.hid ?_, HX5⟩
          · rw [List.take_add_one, HX'.out, List.map_append, HYS.out, ← HY.out]
            rfl
          · intro z hz
            rw [List.take_add_one, HX'.out] at hz
            rcases List.mem_append.1 hz with hz | hz
            · exact HA.out z hz
            · simp at hz; subst hz; omega
          · have ho := HOW5.out
            obtain ⟨A2, c2, rfl⟩ := own_slice ho
            have hl : (ys ++ [y]).length = k + 1 := by rw [List.length_append, HYL.out]; rfl
            refine ⟨A2, c2, by rw [hl], ?_⟩
            rw [hl]
            refine ⟨?_, hl, ?_⟩
            · rw [List.map_append]; exact ho
            · intro z hz
              have : ∀ z ∈ ys ++ [y], -9223372036854775808 ≤ z ∧ z ≤ 9223372036854775807 := by
                intro z hz
                rcases List.mem_append.1 hz with hz | hz
                · rw [← HYS.out] at hz
                  obtain ⟨q, hq, rfl⟩ := List.mem_map.1 hz
                  have := HA.out q hq
                  omega
                · simp at hz; subst hz; omega
              exact i64_wf (this z hz)
        case measure => omega
    · obtain rfl : k = n := by omega
      have e : l.take k = l := List.take_of_length_le (by have := HL.out; omega)
      have HB : Hid (digF l = (ys, 0)) := Lib.hid (by
        unfold digF
        have h1 := HA.out
        have h2 := HYS.out
        rw [e] at h1 h2
        rw [if_pos ⟨by have := HL.out; omega, h1⟩, h2])
      clear e
      go_wp2
      go_ret2
      exact ⟨_, by rw [HB.out]; rfl, by rw [HB.out]; simp only; rw [← HYL.out] at *; exact HO.out, HX.out⟩
set_option maxRecDepth 100000 in
set_option maxHeartbeats 4000000 in
theorem digitizeR_any (A : Option Addr) (n c : Nat) (l : List Int) (w : World) (h : Ints .i64 w A n l) :
    Calls Try.prog 37 #[.slice A n c] w (RetIn w (digF l)) := by
  have H := Lib.hid h
  have HL := Lib.hid h.1
  clear h
  by_cases hn : 256 < n
  · have HB : Hid (digF l = ([], 2)) := Lib.hid (by unfold digF; rw [if_neg]; intro s; have := s.1; have := HL.out; omega)
    go_enter Try.func37, Try.ntmps37
    go_wp2
    go_ret2
    exact ⟨_, by rw [HB.out]; rfl, by rw [HB.out]; exact IntL.nil _ _, Ext.refl _⟩
  go_enter Try.func37, Try.ntmps37
  go_wp2_with fail
  go_loopg [4, 5] n (fun f ov iv wr => ∃ (k : Nat) (ys : List Int), f = n - k ∧ k ≤ n ∧ iv = .int .i64 (k : Int) ∧ Hid (ys.length = k) ∧ Hid ((l.take k).map (· / 16) = ys) ∧ Hid (∀ x ∈ l.take k, 0 ≤ x ∧ x ≤ 16383) ∧ Hid (IntL w.heap.size wr ov ys) ∧ Hid (Ext w wr))
  case atStart => exact ⟨0, [], rfl, by omega, rfl, Lib.hid rfl, Lib.hid rfl, Lib.hid (by simp), Lib.hid (IntL.nil _ _), Lib.hid (Ext.refl _)⟩
  case round =>
    obtain ⟨k, ys, rfl, hk, rfl, HYL, HYS, HA, HO, HX⟩ := hrel
    obtain ⟨A1, c1, hso, hown⟩ := HO.out
    rw [HYL.out] at hso hown
    subst hso
    by_cases hlt : k < n
    · obtain ⟨b, off, x, rfl, hx, _, hc⟩ := (H.out.ext HX.out).get hlt
      have HX' := Lib.hid hx
      clear hx
      by_cases h0 : x < 0 ∨ 16383 < x
      · have HB : Hid (digF l = ([], 2)) := Lib.hid (by unfold digF; rw [if_neg]; intro s; have := s.2 x (List.mem_of_getElem? HX'.out); omega)
        clear hown
        rcases h0 with h0 | h0
        · go_wp2
          go_ret2
          exact ⟨_, by rw [HB.out]; rfl, by rw [HB.out]; exact IntL.nil _ _, HX.out⟩
        · go_wp2
          go_ret2
          exact ⟨_, by rw [HB.out]; rfl, by rw [HB.out]; exact IntL.nil _ _, HX.out⟩
      · have h1 : 0 ≤ x := by omega
        have h2 : x ≤ 16383 := by omega
        clear h0
        obtain ⟨y, hy⟩ : ∃ y, x / 16 = y := ⟨_, rfl⟩
        have hy0 : 0 ≤ y ∧ y ≤ 1023 := by omega
        obtain ⟨hy1, hy2⟩ := hy0
        have ht : x.tdiv 16 = y := by rw [Int.tdiv_eq_ediv_of_nonneg h1]; exact hy
        have HY := Lib.hid hy
        have hown' := hown.own
        have hsz := HX.out.size
        clear hy hown
        go_wp2_with (at_builtin; refine wpList_app _ elN rfl _ _ rfl w.heap.size (.slice A1 k c1) k (ys.map (Value.int .i64)) rfl (hown'.alloc _) _ 1 1 [.int .i64 y] rfl rfl (At.new' _ [_] _ rfl) (by simp [Value.oneCell']) (by omega) (by unfold maxLen; omega) (by simp; omega) ?_; intro v5 w5 hown5 hgr5 _; have HX5 := Lib.hid (HX.out.push hown' hgr5); have HOW5 := Lib.hid hown5; clear hown5 hgr5)
        go_roundg (n - (k + 1))
        case rel =>
          refine ⟨k + 1, ys ++ [y], rfl, by omega, by go_num, Lib.hid (by rw [List.length_append, HYL.out]; rfl), Lib.hid ?_, Lib.hid ?_, Lib.hid ?_, HX5⟩
          · rw [List.take_add_one, HX'.out, List.map_append, HYS.out, ← HY.out]
            rfl
          · intro z hz
            rw [List.take_add_one, HX'.out] at hz
            rcases List.mem_append.1 hz with hz | hz
            · exact HA.out z hz
            · simp at hz; subst hz; omega
          · have ho := HOW5.out
            obtain ⟨A2, c2, rfl⟩ := own_slice ho
            have hl : (ys ++ [y]).length = k + 1 := by rw [List.length_append, HYL.out]; rfl
            refine ⟨A2, c2, by rw [hl], ?_⟩
            rw [hl]
            refine ⟨?_, hl, ?_⟩
            · rw [List.map_append]; exact ho
            · intro z hz
              have : ∀ z ∈ ys ++ [y], -9223372036854775808 ≤ z ∧ z ≤ 9223372036854775807 := by
                intro z hz
                rcases List.mem_append.1 hz with hz | hz
                · rw [← HYS.out] at hz
                  obtain ⟨q, hq, rfl⟩ := List.mem_map.1 hz
                  have := HA.out q hq
                  omega
                · simp at hz; subst hz; omega
              exact i64_wf (this z hz)
        case measure => omega
    · obtain rfl : k = n := by omega
      have e : l.take k = l := List.take_of_length_le (by have := HL.out; omega)
      have HB : Hid (digF l = (ys, 0)) := Lib.hid (by
        unfold digF
        have h1 := HA.out
        have h2 := HYS.out
        rw [e] at h1 h2
        rw [if_pos ⟨by have := HL.out; omega, h1⟩, h2])
      clear e
      go_wp2
      go_ret2
      exact ⟨_, by rw [HB.out]; rfl, by rw [HB.out]; simp only; rw [← HYL.out] at *; exact HO.out, HX.out⟩
end Go.Proofs.Ytagcgldhhdecjaa
namespace Go.Proofs.Ytagcgldhhdecjaa
open Go.RowKit

set_option maxRecDepth 100000 in
set_option maxHeartbeats 2000000 in
theorem sameI_eq (A B : Option Addr) (n c d : Nat) (xs : List Int) (w : World) (hA : Ints .i64 w A n xs) (hB : Ints .i64 w B n xs) (hn : n ≤ 1000000) :
    Calls Try.prog 38 #[.slice A n c, .slice B n d] w fun e w' => e = .returned (.bool true) ∧ Ext w w' := by
  have HA := Lib.hid hA
  have HB := Lib.hid hB
  clear hA hB
  have hnn : ((n : Int) != (n : Int)) = false := by simp
  go_enter Try.func38, Try.ntmps38
  go_wp2_with fail
  go_loopg [5] n (fun g i wr => ∃ k : Nat, g = n - k ∧ k ≤ n ∧ i = .int .i64 (k : Int) ∧ Hid (Ext w wr))
  case atStart => exact ⟨0, rfl, by omega, rfl, Lib.hid (Ext.refl w)⟩
  case round =>
    obtain ⟨k, rfl, hk, rfl, HX⟩ := hrel
    by_cases hlt : k < n
    · have q1 : decide (k < n) = true := decide_eq_true hlt
      obtain ⟨ga, oa, x, rfl, hx, _, ha⟩ := (HA.out.ext HX.out).get hlt
      obtain ⟨gb, ob, y, rfl, hy, _, hb⟩ := (HB.out.ext HX.out).get hlt
      obtain rfl : x = y := by rw [hx] at hy; injection hy
      have qx : (x != x) = false := by simp
      clear hx hy
      go_wp2_with fail
      go_region
      go_wp2
      go_roundg (n - (k + 1))
      case rel => exact ⟨k + 1, rfl, by omega, by go_num, Lib.hid HX.out.drew⟩
      case measure => omega
    · obtain rfl : k = n := by omega
      go_wp2
      go_ret
      exact ⟨rfl, HX.out⟩

set_option maxRecDepth 100000 in
set_option maxHeartbeats 4000000 in
theorem waveDigitizes_walk (A : Option Addr) (n c : Nat) (l : List Int) (w : World) (h : Ints .i64 w A n l) :
    Calls Try.prog 9 #[.slice A n c] w (fun e w' => e = .returned (.bool true) ∧ Ext w w') := by
  have H := Lib.hid h
  clear h
  by_cases hn : 1000 < n
  · go_enter Try.func9, Try.ntmps9
    go_wp2_with fail
    refine (firstW_any _).mono ?_
    rintro e w1 ⟨rfl, hX⟩
    have HX := Lib.hid hX
    clear hX
    go_wp2
    go_ret
    exact ⟨rfl, HX.out⟩
  have hlen : (digF l).1.length ≤ 256 := by
    unfold digF
    split
    · rename_i hs
      simpa using hs.1
    · simp
  generalize hd : digF l = r at hlen
  obtain ⟨ys, er⟩ := r
  simp only at hlen
  have HD := Lib.hid hd
  clear hd
  obtain ⟨N, hN⟩ : ∃ N, ys.length = N := ⟨_, rfl⟩
  rw [hN] at hlen
  have HN := Lib.hid hN
  clear hN
  have q1 : (er == er) = true := by simp
  go_enter Try.func9, Try.ntmps9
  go_wp2_with fail
  refine (digitize_any A n c l _ H.out).mono ?_
  rw [HD.out]
  rintro e w1 ⟨va, rfl, ⟨Aa, ca, hva, hoa⟩, hX⟩
  simp only at hva hoa ⊢
  rw [HN.out] at hva hoa
  subst hva
  have HX := Lib.hid hX
  have HA := Lib.hid hoa
  clear hX hoa
  go_wp2_with fail
  refine (digitizeR_any A n c l _ (H.out.ext HX.out)).mono ?_
  rw [HD.out]
  rintro e w2 ⟨vb, rfl, ⟨Ab, cb, hvb, hob⟩, hX⟩
  simp only at hvb hob ⊢
  rw [HN.out] at hvb hob
  subst hvb
  replace HX := Lib.hid (HX.out.trans hX)
  replace HA := Lib.hid (HA.out.ext hX)
  have HB := Lib.hid hob
  clear hX hob
  go_wp2_with fail
  refine (sameI_eq Aa Ab N ca cb ys w2 HA.out.ints HB.out.ints (by omega)).mono ?_
  rintro e w3 ⟨rfl, hX⟩
  replace HX := Lib.hid (HX.out.trans hX)
  clear hX
  go_wp2_with fail
  refine (firstW_any _).mono ?_
  rintro e w4 ⟨rfl, hX⟩
  replace HX := Lib.hid (HX.out.trans hX)
  clear hX
  go_wp2
  go_ret
  exact ⟨rfl, HX.out⟩
end Go.Proofs.Ytagcgldhhdecjaa
