/- The walk of the statement LinkNils: for every frame, number and list of numbers it returns true. -/
import Derived.Test.YtekhmfliaojabaaNils
namespace Go.Proofs.Ytekhmfliaojabaa
open Go.RowKit

set_option maxRecDepth 100000 in
set_option maxHeartbeats 4000000 in
theorem linkNils_walk (v0 : Value) (f : Fr) (n : Int) (B : Option Addr) (m d : Nat) (ts : List Int) (w : World) (hf : FrV w v0 f) (hn : -9223372036854775808 ≤ n ∧ n ≤ 9223372036854775807) (hB' : Ints .i64 w B m ts ∧ m ≤ d ∧ d ≤ 9223372036854775807) :
    Calls Try.prog 15 #[v0, .int .i64 n, .slice B m d] w fun e w' => e = .returned (.bool true) ∧ Ext w w' := by
  obtain ⟨A, k, c, rfl, hI, hkc, hc, hs, hq⟩ := hf
  obtain ⟨s, q, xs⟩ := f
  simp only at hI hs hq
  obtain ⟨hB, hmd, hd⟩ := hB'
  have HI := Lib.hid hI
  clear hI hB
  by_cases hl : 1024 < k
  · go_enter Try.func15, Try.ntmps15
    go_wp2_with fail
    refine (awake _).mono ?_
    rintro e w1 ⟨rfl, hext⟩
    have HX := Lib.hid (((Ext.refl w).alloc _).trans hext)
    clear hext
    go_wp2
    go_ret
    exact ⟨rfl, HX.out⟩
  by_cases hl2 : 40 < m
  · go_enter Try.func15, Try.ntmps15
    go_wp2_with fail
    refine (awake _).mono ?_
    rintro e w1 ⟨rfl, hext⟩
    have HX := Lib.hid (((Ext.refl w).alloc _).trans hext)
    clear hext
    go_wp2
    go_ret
    exact ⟨rfl, HX.out⟩
  go_enter Try.func15, Try.ntmps15
  go_wp2_with fail
  obtain ⟨W1, hW1⟩ : ∃ W1, W1 = ((w.alloc (.cells #[.int .i64 s, .int .i64 q, .slice A k c] 38)).alloc (.cells #[.int .i64 0, .int .i64 0, .int .i64 0, .int .i64 0, .map none] 98)).alloc (.cells #[.pointer none, .pointer (some ⟨w.heap.size + 1, 0, none⟩)] 43) := ⟨_, rfl⟩
  have hX1 : Ext w W1 := by rw [hW1]; exact (((Ext.refl w).alloc _).alloc _).alloc _
  have r2 : W1.cell? ⟨w.heap.size, 2, none⟩ = some (.slice A k c) := by rw [hW1]; simp [go_sem]
  have pt : ∀ j, j < 2 → ∃ pv, W1.cell? ⟨w.heap.size + 1 + 1, j, none⟩ = some pv ∧ No W1 pv := by
    intro j hj
    match j, hj with
    | 0, _ => exact ⟨.pointer none, by rw [hW1]; simp [go_sem], .inl rfl⟩
    | 1, _ => exact ⟨.pointer (some ⟨w.heap.size + 1, 0, none⟩), by rw [hW1]; simp [go_sem], .inr ⟨_, rfl, by rw [hW1]; simp [go_sem]⟩⟩
  have hBF : Blk W1 w.heap.size 38 #[.int .i64 s, .int .i64 q, .slice A k c] := by rw [hW1]; exact ((Blk.new w _ _).alloc _).alloc _
  rw [← hW1]
  have HBF := Lib.hid hBF
  clear hBF
  have HX1 := Lib.hid hX1
  have HPT := Lib.hid pt
  have HR2 := Lib.hid r2
  clear hX1 pt r2 hW1
  go_loopg [31] 2 (fun g i wr => ∃ j : Nat, g = 2 - j ∧ j ≤ 2 ∧ i = .int .i64 j ∧ Ext W1 wr)
  case atStart => exact ⟨0, rfl, by omega, rfl, Ext.refl W1⟩
  case round =>
    obtain ⟨j, rfl, hj, rfl, hX⟩ := hrel
    have r2 := hX.cell HR2.out
    have HX := Lib.hid hX
    clear hX
    by_cases hlt : j < 2
    · obtain ⟨pv, hpv, hno⟩ := HPT.out j hlt
      have hpc := HX.out.cell hpv
      have HNO := Lib.hid (hno.ext HX.out)
      clear hpv hno
      have hj0 : (0 : Int) ≤ (j : Int) := by omega
      have hj1 : (j : Int) < 2 := by omega
      go_wp2_with fail
      refine (offer_no pv A k c _ HNO.out).mono ?_
      rintro e w2 ⟨rfl, hX2⟩
      have HX2 := Lib.hid hX2
      clear hX2 hpc
      go_wp2_with fail
      refine (sameFrame_eq 0 0 none none 0 0 0 0 [] _ Ints.nil Ints.nil).mono ?_
      rintro e w3 ⟨rfl, hX3⟩
      have HX3 := Lib.hid (((HX2.out.alloc _).trans hX3))
      clear hX3
      go_wp2_with fail
      refine (ack_no pv n _ (HNO.out.ext HX3.out)).mono ?_
      rintro e w4 ⟨rfl, hX4⟩
      have HX4 := Lib.hid (HX3.out.trans hX4)
      clear hX4
      go_wp2_with fail
      refine (pending_no pv _ (HNO.out.ext HX4.out)).mono ?_
      rintro e w5 ⟨rfl, hX5⟩
      have HX5 := Lib.hid (HX4.out.trans hX5)
      clear hX5
      go_wp2_with fail
      refine (again_no pv B m d _ (HNO.out.ext HX5.out)).mono ?_
      rintro e w6 ⟨rfl, hX6⟩
      have HX6 := Lib.hid (HX5.out.trans hX6)
      clear hX6
      go_wp2_with fail
      go_roundg (2 - (j + 1))
      case rel => exact ⟨j + 1, rfl, by omega, by go_num, HX.out.trans HX6.out⟩
      case measure => omega
    · go_wp2_with fail
      obtain ⟨W2, hW2⟩ : ∃ W2, W2 = (wr.alloc (.cells #[.int .i64 0, .int .i64 0, .int .i64 0, .map none] 102)).alloc (.cells #[.pointer none, .pointer (some ⟨wr.heap.size, 0, none⟩)] 63) := ⟨_, rfl⟩
      have hX2 : Ext wr W2 := by rw [hW2]; exact ((Ext.refl wr).alloc _).alloc _
      have hB0 : Blk W2 w.heap.size 38 #[.int .i64 s, .int .i64 q, .slice A k c] := ((HBF.out.ext HX.out).ext hX2)
      have pt : ∀ j, j < 2 → ∃ pv, W2.cell? ⟨wr.heap.size + 1, j, none⟩ = some pv ∧ No W2 pv := by
        intro j hj
        match j, hj with
        | 0, _ => exact ⟨.pointer none, by rw [hW2]; simp [go_sem], .inl rfl⟩
        | 1, _ => exact ⟨.pointer (some ⟨wr.heap.size, 0, none⟩), by rw [hW2]; simp [go_sem], .inr ⟨_, rfl, by rw [hW2]; simp [go_sem]⟩⟩
      rw [← hW2]
      have HX2 := Lib.hid hX2
      have HPT2 := Lib.hid pt
      have HB0 := Lib.hid hB0
      clear hX2 pt hB0 hW2 r2
      go_loopg [74] 2 (fun g i wr => ∃ j : Nat, g = 2 - j ∧ j ≤ 2 ∧ i = .int .i64 j ∧ Ext W2 wr)
      case atStart => exact ⟨0, rfl, by omega, rfl, Ext.refl W2⟩
      case round =>
        obtain ⟨i, rfl, hi, rfl, hX'⟩ := hrel
        obtain ⟨r0, r1, r2, f0, f1, f2⟩ := (HB0.out.ext hX').three
        have HX' := Lib.hid hX'
        clear hX'
        by_cases hlt2 : i < 2
        · obtain ⟨pv, hpv, hno⟩ := HPT2.out i hlt2
          have hpc := HX'.out.cell hpv
          have HNO := Lib.hid (hno.ext HX'.out)
          clear hpv hno
          have hi0 : (0 : Int) ≤ (i : Int) := by omega
          have hi1 : (i : Int) < 2 := by omega
          go_wp2_with fail
          refine (take_no pv s q A k c _ HNO.out).mono ?_
          rintro e w2 ⟨rfl, hX2⟩
          have HX2 := Lib.hid hX2
          clear hX2 hpc r0 r1 r2 f0 f1 f2
          go_wp2_with fail
          refine (giveup_no pv n _ (HNO.out.ext HX2.out)).mono ?_
          rintro e w3 ⟨rfl, hX3⟩
          have HX3 := Lib.hid (HX2.out.trans hX3)
          clear hX3
          go_wp2_with fail
          refine (next_no pv _ (HNO.out.ext HX3.out)).mono ?_
          rintro e w4 ⟨rfl, hX4⟩
          have HX4 := Lib.hid (HX3.out.trans hX4)
          clear hX4
          go_wp2_with fail
          refine (held_no pv _ (HNO.out.ext HX4.out)).mono ?_
          rintro e w5 ⟨rfl, hX5⟩
          have HX5 := Lib.hid (HX4.out.trans hX5)
          clear hX5
          go_wp2_with fail
          refine (missing_no pv _ (HNO.out.ext HX5.out)).mono ?_
          rintro e w6 ⟨rfl, hX6⟩
          have HX6 := Lib.hid (HX5.out.trans hX6)
          clear hX6
          go_wp2_with fail
          refine (copy_no pv _ (HNO.out.ext HX6.out)).mono ?_
          rintro e w7 ⟨rfl, hX7⟩
          have HX7 := Lib.hid (HX6.out.trans hX7)
          clear hX7
          go_wp2_with fail
          go_roundg (2 - (i + 1))
          case rel => exact ⟨i + 1, rfl, by omega, by go_num, HX'.out.trans HX7.out⟩
          case measure => omega
        · go_wp2_with fail
          refine (awake _).mono ?_
          rintro e w3 ⟨rfl, hext⟩
          have HXe := Lib.hid ((((HX1.out.trans HX.out).trans HX2.out).trans HX'.out).trans hext)
          clear hext
          go_wp2
          go_ret
          exact ⟨rfl, HXe.out⟩
end Go.Proofs.Ytekhmfliaojabaa
