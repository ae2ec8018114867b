/- Walks: valid, big32 and Pack (program). Condition: the frame's bytes read as such. -/
import Derived.Test.YtekhmfliaojabaaPackF
import Derived.Test.YtekhmfliaojabaaSum
import Derived.Test.YtekhmfliaojabaaWrite
import Derived.Test.YtekhmfliaojabaaBase2
namespace Go.Proofs.Ytekhmfliaojabaa
open Go.RowKit

set_option maxHeartbeats 400000 in
theorem valid_yes (s q : Int) (A : Option Addr) (n c : Nat) (w : World) (h1 : 0 ≤ s) (h2 : s ≤ 255) (h3 : 0 ≤ q) (h4 : q ≤ 4294967295) (h5 : n ≤ 1024) :
    Calls Try.prog 78 #[.agg #[.int .i64 s, .int .i64 q, .slice A n c]] w fun e w' => e = .returned (.bool true) ∧ Ext w w' := by
  go_enter Try.func78, Try.ntmps78
  go_wp2
  go_ret
  exact ⟨by simp; omega, (Ext.refl w).alloc _⟩
set_option maxHeartbeats 400000 in
theorem valid_no (s q : Int) (A : Option Addr) (n c : Nat) (w : World) (h : ¬ (0 ≤ s ∧ s ≤ 255 ∧ 0 ≤ q ∧ q ≤ 4294967295 ∧ n ≤ 1024)) :
    Calls Try.prog 78 #[.agg #[.int .i64 s, .int .i64 q, .slice A n c]] w fun e w' => e = .returned (.bool false) ∧ Ext w w' := by
  by_cases h1 : 0 ≤ s
  · by_cases h2 : s < 256
    · by_cases h3 : 0 ≤ q
      · by_cases h4 : q ≤ 4294967295
        · have h5 : ¬ n ≤ 1024 := fun h5 => h ⟨h1, by omega, h3, h4, h5⟩
          clear h
          go_enter Try.func78, Try.ntmps78
          go_wp2
          go_ret
          exact ⟨by simp; omega, (Ext.refl w).alloc _⟩
        · clear h
          go_enter Try.func78, Try.ntmps78
          go_wp2
          go_ret
          exact ⟨by simp, (Ext.refl w).alloc _⟩
      · clear h
        go_enter Try.func78, Try.ntmps78
        go_wp2
        go_ret
        exact ⟨by simp, (Ext.refl w).alloc _⟩
    · clear h
      go_enter Try.func78, Try.ntmps78
      go_wp2
      go_ret
      exact ⟨by simp, (Ext.refl w).alloc _⟩
  · clear h
    go_enter Try.func78, Try.ntmps78
    go_wp2
    go_ret
    exact ⟨by simp, (Ext.refl w).alloc _⟩

set_option maxHeartbeats 400000 in
theorem big32_any (w0 : World) (A : Option Addr) (n c : Nat) (vs : List Value) (q : Int) (w : World) (h : w.ownsRow w0.heap.size 5 1 (.slice A n c) n vs) (hx : Ext w0 w) (hn : n ≤ 1000000) (h0 : 0 ≤ q) (h1 : q ≤ 4294967295) :
    Calls Try.prog 81 #[.slice A n c, .int .u32 q] w fun e w' => ∃ A' c', e = .returned (.slice A' (n + 4) c') ∧ w'.ownsRow w0.heap.size 5 1 (.slice A' (n + 4) c') (n + 4) (vs ++ (big4 q).map (.int .u8)) ∧ Ext w0 w' := by
  have HX := Lib.hid hx
  clear hx
  have hb := big4_byte h0 h1
  have e1 : IntKind.u8.wrap (q / 16777216) = q / 16777216 := IntWalk.u8_in _ (by omega)
  have e2 : IntKind.u8.wrap (q / 65536) = q / 65536 % 256 := by rw [IntKind.wrap_u8]
  have e3 : IntKind.u8.wrap (q / 256) = q / 256 % 256 := by rw [IntKind.wrap_u8]
  have e4 : IntKind.u8.wrap q = q % 256 := by rw [IntKind.wrap_u8]
  clear hb
  go_enter Try.func81, Try.ntmps81
  go_wp2_with (at_builtin; refine wpList_app _ elB rfl _ _ rfl w0.heap.size (.slice A n c) n vs rfl (h.alloc _) _ 4 4 ((big4 q).map (.int .u8)) rfl rfl (At.new _ [_, _, _, _] _) (ints_oneCell _ _) (by omega) (by unfold maxLen; omega) (by have := HX.out.size; simp; omega) ?_; intro v1 w1 hown1 hgr1 hdj; clear hdj)
  go_ret
  obtain ⟨A2, c2, rfl⟩ := own_slice hown1
  exact ⟨A2, c2, rfl, hown1, HX.out.push h hgr1⟩

set_option maxRecDepth 100000 in
set_option maxHeartbeats 2000000 in
theorem pack_ok (s q : Int) (A : Option Addr) (n c : Nat) (xs : List Int) (w : World) (h : Ints .u8 w A n xs) (hok : FrOk ⟨s, q, xs⟩) :
    Calls Try.prog 49 #[.agg #[.int .i64 s, .int .i64 q, .slice A n c]] w (RetBytes w (pck ⟨s, q, xs⟩) 0) := by
  have H := Lib.hid h
  have HOK := Lib.hid hok
  obtain ⟨h1, h2, h3, h4, h5⟩ := hok
  simp only at h1 h2 h3 h4 h5
  rw [h.1] at h5
  clear h
  go_enter Try.func49, Try.ntmps49
  go_wp2_with fail
  refine (valid_yes s q A n c _ h1 h2 h3 h4 h5).mono ?_
  rintro e w1 ⟨rfl, hX1⟩
  have hB1 := (Blk.new w 38 #[.int .i64 s, .int .i64 q, .slice A n c]).ext hX1
  have HXw := Lib.hid (((Ext.refl w).alloc _).trans hX1)
  have HB1 := Lib.hid hB1
  have hlt := hB1.lt
  obtain ⟨r0, r1, r2, f0, f1, f2⟩ := hB1.three
  clear hX1 hB1
  go_wp2_with (first | (at_make; refine wpList_mk _ elB rfl rfl _ _ rfl w1.heap.size _ _ _ _ 0 (12 + n) rfl rfl rfl (by omega) (by omega) (by omega) (by unfold maxLen; omega) (Nat.le_refl _) ?_; intro w2 hown2 hext2 hsz2; have HX2 := Lib.hid hext2; obtain ⟨r0, r1, r2, f0, f1, f2⟩ := (HB1.out.ext hext2).three; clear hext2) | (at_builtin; refine wpList_app (o := ⟨some 19, _, _, _, _, _⟩) _ elB rfl _ _ rfl w1.heap.size (.slice (some ⟨w1.heap.size, 0, none⟩) 0 (12 + n)) 0 [] rfl (hown2.alloc _) _ 2 2 [.int .u8 165, .int .u8 s] rfl rfl (At.new _ [_, _] _) (by simp [Value.oneCell']) (by omega) (by unfold maxLen; omega) (by have := HX2.out.size; simp; omega) ?_; intro v3 w3 hown3 hgr3 hdj3; clear hdj3; have HX3 := Lib.hid (HX2.out.push hown2 hgr3); clear hgr3; obtain ⟨r0, r1, r2, f0, f1, f2⟩ := (HB1.out.ext HX3.out).three; obtain ⟨A3, c3, hv3⟩ := own_slice hown3; rw [hv3]; rw [hv3] at hown3; clear hv3))
  simp only [Nat.zero_add, List.nil_append] at hown3
  have hqw : IntKind.u32.wrap q = q := IntWalk.u32_in _ (by omega)
  refine (big32_any w1 _ _ _ _ q w3 hown3 HX3.out (by omega) h3 h4).mono ?_
  rintro e w4 ⟨A4, c4, rfl, hown4, hX4⟩
  have HX4 := Lib.hid hX4
  obtain ⟨r0, r1, r2, f0, f1, f2⟩ := (HB1.out.ext hX4).three
  clear hX4 hown3 hown2 HX3 HX2
  have hw1 : IntKind.u8.wrap ((n : Int) / 256) = (n : Int) / 256 := IntWalk.u8_in _ (by omega)
  have hw2 : IntKind.u8.wrap (n : Int) = (n : Int) % 256 := by rw [IntKind.wrap_u8]
  go_wp2_with (first | (at_builtin; refine wpList_app (o := ⟨some 36, _, _, _, _, _⟩) _ elB rfl _ _ rfl w1.heap.size (.slice A4 (2 + 4) c4) (2 + 4) _ rfl (hown4.alloc _) _ 2 2 [.int .u8 ((n : Int) / 256), .int .u8 ((n : Int) % 256)] rfl rfl (At.new _ [_, _] _) (by simp [Value.oneCell']) (by omega) (by unfold maxLen; omega) (by have := HX4.out.size; simp; omega) ?_; intro v5 w5 hown5 hgr5 hdj5; clear hdj5; have HX5 := Lib.hid (HX4.out.push hown4 hgr5); clear hgr5; obtain ⟨r0, r1, r2, f0, f1, f2⟩ := (HB1.out.ext HX5.out).three; obtain ⟨A5, c5, hv5⟩ := own_slice hown5; rw [hv5]; rw [hv5] at hown5; clear hv5) | (at_builtin; refine wpList_app (o := ⟨some 40, _, _, _, _, _⟩) _ elB rfl _ _ rfl w1.heap.size (.slice A5 (2 + 4 + 2) c5) (2 + 4 + 2) _ rfl hown5 A n c (xs.map (.int .u8)) rfl (by rw [List.length_map, H.out.1]; omega) (H.out.ext (HXw.out.trans HX5.out)).2.2 (ints_oneCell _ _) (by omega) (by unfold maxLen; omega) HX5.out.size ?_; intro v6 w6 hown6 hgr6 hdj6; clear hdj6; have HX6 := Lib.hid (HX5.out.app hown5 hgr6); clear hgr6; obtain ⟨A6, c6, hv6⟩ := own_slice hown6; rw [hv6]; rw [hv6] at hown6; clear hv6))
  have hl : xs.length = n := H.out.1
  have hvs : ((([.int .u8 165, .int .u8 s] ++ (big4 q).map (Value.int .u8)) ++ [.int .u8 ((n : Int) / 256), .int .u8 ((n : Int) % 256)]) ++ xs.map (Value.int .u8)) = (heads ⟨s, q, xs⟩).map (Value.int .u8) := by
    subst hl; simp [heads]
  rw [hvs] at hown6
  have hby := heads_byte HOK.out (fun x hx => u8_bounds (H.out.2.1 x hx))
  have hIh : Ints .u8 w6 A6 (2 + 4 + 2 + n) (heads ⟨s, q, xs⟩) := ⟨by rw [heads_len]; simp only; omega, fun x hx => WalkArith.wf_u8 (hby x hx), At.of_own hown6⟩
  obtain ⟨q6, hq6⟩ : ∃ r, crc (heads ⟨s, q, xs⟩) = r := ⟨_, rfl⟩
  have hcr := crc_range (heads ⟨s, q, xs⟩)
  have hck := checksum_any _ _ c6 _ _ hIh (by omega)
  rw [hq6] at hck hcr
  refine hck.mono ?_
  have HQ6 := Lib.hid hq6
  have HBY := Lib.hid hby
  clear hck hq6 hvs hIh hby r0 r1 r2 f0 f1 f2 HX5 HX4 hown5 hown4
  rintro e w' ⟨rfl, rfl⟩
  go_wp2_with fail
  refine (big32_any w1 _ _ _ _ q6 w6 hown6 HX6.out (by omega) hcr.1 hcr.2).mono ?_
  rintro e w7 ⟨A7, c7, rfl, hown7, hX7⟩
  have HX7 := Lib.hid hX7
  clear hX7 hown6
  go_wp2
  go_ret2
  have hb := pck_byte HOK.out (fun x hx => u8_bounds (H.out.2.1 x hx))
  refine ⟨A7, _, c7, rfl, ⟨?_, ?_, fun x hx => WalkArith.wf_u8 (hb x hx)⟩, HXw.out.trans HX7.out⟩
  · have e : (heads ⟨s, q, xs⟩).map (Value.int .u8) ++ (big4 q6).map (Value.int .u8) = (pck ⟨s, q, xs⟩).map (Value.int .u8) := by
      unfold pck; rw [List.map_append, HQ6.out]
    rw [e] at hown7
    exact World.ownsRow.mono' hown7 HXw.out.size
  · rw [pck_len]; simp only; omega

set_option maxHeartbeats 400000 in
theorem pack_bad (s q : Int) (A : Option Addr) (n c : Nat) (w : World) (h : ¬ (0 ≤ s ∧ s ≤ 255 ∧ 0 ≤ q ∧ q ≤ 4294967295 ∧ n ≤ 1024)) :
    Calls Try.prog 49 #[.agg #[.int .i64 s, .int .i64 q, .slice A n c]] w (RetBytes w [] 20) := by
  have HN := Lib.hid h
  clear h
  go_enter Try.func49, Try.ntmps49
  go_wp2_with fail
  refine (valid_no s q A n c _ HN.out).mono ?_
  rintro e w1 ⟨rfl, hX1⟩
  have HX := Lib.hid (((Ext.refl w).alloc _).trans hX1)
  clear hX1
  go_wp2
  go_ret2
  exact ⟨none, 0, 0, rfl, ⟨World.ownsRow_nil _ _ _ _, rfl, by simp⟩, HX.out⟩

/-- What Pack gives: the bytes and the error. -/
def packO (f : Fr) : List Int × Int := if FrOk f then (pck f, 0) else ([], 20)

theorem pack_any (s q : Int) (A : Option Addr) (n c : Nat) (xs : List Int) (w : World) (h : Ints .u8 w A n xs) :
    Calls Try.prog 49 #[.agg #[.int .i64 s, .int .i64 q, .slice A n c]] w (RetBytes w (packO ⟨s, q, xs⟩).1 (packO ⟨s, q, xs⟩).2) := by
  unfold packO
  by_cases hok : FrOk ⟨s, q, xs⟩
  · rw [if_pos hok]; exact pack_ok s q A n c xs w h hok
  · rw [if_neg hok]
    refine pack_bad s q A n c w ?_
    unfold FrOk at hok
    simpa [h.1] using hok
end Go.Proofs.Ytekhmfliaojabaa
