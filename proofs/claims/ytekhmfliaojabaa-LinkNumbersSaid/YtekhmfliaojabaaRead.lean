/- Walks: what ReadNumber and ReadSigned (program and reference) return, as 'rd' and 'rdS' of the bytes. Condition: the slice reads as bytes. -/
import Derived.Test.YtekhmfliaojabaaChecked
import Derived.Test.YtekhmfliaojabaaBase
import Derived.Test.YtekhmfliaojabaaNum
namespace Go.Proofs.Ytekhmfliaojabaa
open Go.RowKit

def v3 (r : Int × Int × Int) : Value := .tuple #[.int .i64 r.1, .int .i64 r.2.1, .int .i64 r.2.2]

theorem ret_v3 {r : Int × Int × Int} {a b c : Int} (h : r = (a, b, c)) : Ending.returned (.tuple #[.int .i64 a, .int .i64 b, .int .i64 c]) = .returned (v3 r) := by subst h; rfl

theorem rd_ok' {xs : List Int} {k : Nat} {x m s : Int} (hL : Lead k xs) (hk : k < 9) (hx : xs[k]? = some x) (hl : x < 128) (hz : ¬ (0 < k ∧ x = 0)) (hM : m = valN (xs.take (k + 1))) (hm : m ≤ 4611686018427387903) (hs : s = (k : Int) + 1) :
    rd xs = (m, s, 0) := by
  subst hM hs
  exact rd_ok hL hk hx hl hz hm
theorem rd_big' {xs : List Int} {k : Nat} {x m : Int} (hL : Lead k xs) (hk : k < 9) (hx : xs[k]? = some x) (hl : x < 128) (hM : m = valN (xs.take (k + 1))) (hm : 4611686018427387903 < m) :
    rd xs = (0, 0, 4) := rd_big hL hk hx hl (by omega)

set_option maxHeartbeats 400000 in
theorem readNum (A : Option Addr) (n c : Nat) (xs : List Int) (w : World) (h : Ints .u8 w A n xs) (hn : n ≤ 9223372036854775807) :
    Calls Try.prog 19 #[.slice A n c] w fun e w' => e = .returned (v3 (rd xs)) ∧ w = w' := by
  have H := Lib.hid h
  go_enter Try.func19, Try.ntmps19
  clear h
  go_wp2
  go_loop [5, 6, 7] (fun a i j => ∃ k : Nat, k ≤ 9 ∧ j = .int .i64 k ∧ ∃ m : Int, a = .int .u64 m ∧ Hid (m = valN (xs.take k)) ∧ Hid (Lead k xs)) (fun _ _ j => 9 - (intOf j).toNat)
  case atStart => exact ⟨0, by omega, rfl, 0, rfl, by simp [Hid, valN], Lead.zero xs⟩
  case round =>
    obtain ⟨k, hk, rfl, m, rfl, hm, hL⟩ := hrel
    by_cases hlt : k < 9
    · by_cases hkn : k < n
      · obtain ⟨b, off, x, rfl, hx, hwf, hc⟩ := H.out.get hkn
        have hb := u8_bounds hwf
        obtain ⟨hb0, hb1⟩ := hb
        have hst := acc_step hlt hx hb0
        rw [← hm.out] at hst
        have hz : Hid (x = 0 → xs[k]? = some 0) := fun e => by rw [hx, e]
        have HX := Lib.hid hx
        clear hx hwf
        obtain ⟨m', hm', HM⟩ : ∃ m', bits .or .u64 m (IntKind.u64.wrap (x % 128 * 2 ^ (7 * k))) = m' ∧ Hid (m' = valN (xs.take (k + 1)) ∧ m' < 9223372036854775808) := ⟨_, rfl, hst.1, by rw [hst.1]; exact hst.2⟩
        have hm0 : 0 ≤ m' := by rw [HM.out.1]; exact valN_nonneg _
        have hm1 : m' ≤ 9223372036854775807 := by have := HM.out.2; omega
        clear hst
        have hkne : ((k : Int) == (n : Int)) = false := by simp; omega
        go_wp2
        · go_round
          case rel => exact ⟨k + 1, by omega, by go_num, m', rfl, HM.out.1, hL.out.succ HX.out (by assumption)⟩
          case measure => simp [intOf]; omega
        all_goals go_ret3
        all_goals refine ⟨ret_v3 ?_, rfl⟩
        · exact rd_big' hL.out hlt HX.out (by omega) HM.out.1 (by omega)
        · exact rd_ok' hL.out hlt HX.out (by omega) (by omega) HM.out.1 (by omega) (by omega)
        · exact rd_zero hL.out hlt (hz.out (by assumption)) (by omega)
        · exact rd_big' hL.out hlt HX.out (by omega) HM.out.1 (by omega)
        · exact rd_ok' hL.out hlt HX.out (by omega) (by omega) HM.out.1 (by omega) (by omega)
      · have hLe : Hid (xs.length ≤ n) := by have := H.out.1; exact (by omega : xs.length ≤ n)
        have hLn : k ≤ n := by
          rcases Nat.eq_zero_or_pos k with h0 | h0
          · omega
          · obtain ⟨x, hx, _⟩ := hL.out (k - 1) (by omega)
            have := (List.getElem?_eq_some_iff.1 hx).1
            have := hLe.out
            omega
        have hke : ((k : Int) == (n : Int)) = true := by simp; omega
        go_wp2
        go_ret3
        exact ⟨ret_v3 (rd_short hL.out hlt (List.getElem?_eq_none (by have := hLe.out; omega))), rfl⟩
    · obtain rfl : k = 9 := by omega
      go_wp2
      go_ret3
      exact ⟨ret_v3 (rd_long hL.out), rfl⟩


set_option maxHeartbeats 1000000 in
theorem readNumR (A : Option Addr) (n c : Nat) (xs : List Int) (w : World) (h : Ints .u8 w A n xs) (hn : n ≤ 9223372036854775807) :
    Calls Try.prog 20 #[.slice A n c] w fun e w' => e = .returned (v3 (rd xs)) ∧ w = w' := by
  have H := Lib.hid h
  go_enter Try.func20, Try.ntmps20
  clear h
  go_wp2
  go_loop [5] (fun j => ∃ k : Nat, k ≤ 9 ∧ k ≤ n ∧ j = .int .i64 k ∧ Hid (Lead k xs)) (fun j => 9 - (intOf j).toNat)
  case atStart => exact ⟨0, by omega, by omega, rfl, Lead.zero xs⟩
  case round =>
    obtain ⟨k, hk, hkn, rfl, hL⟩ := hrel
    by_cases hlt : k < 9
    · by_cases hkl : k < n
      · obtain ⟨b, off, x, rfl, hx, hwf, hc⟩ := H.out.get hkl
        obtain ⟨hb0, hb1⟩ := u8_bounds hwf
        have HX := Lib.hid hx
        clear hx hwf
        by_cases hge : 128 ≤ x
        · go_wp2
          go_round
          case rel => exact ⟨k + 1, by omega, by omega, by go_num, hL.out.succ HX.out hge⟩
          case measure => simp [intOf]; omega
        · have hk9 : ((k : Int) == 9) = false := by simp; omega
          have hkn' : ((k : Int) == (n : Int)) = false := by simp; omega
          by_cases hz : 0 < k ∧ x = 0
          · obtain ⟨hz1, hz2⟩ := hz
            have hzb : (x == 0) = true := by simpa using hz2
            go_wp2
            go_ret3
            exact ⟨ret_v3 (rd_zero hL.out hlt (by rw [HX.out, hz2]) hz1), rfl⟩
          · have hzz : Hid (¬ (0 < k ∧ x = 0)) := hz
            have hzb : k = 0 ∨ (x == 0) = false := by
              rcases Nat.eq_zero_or_pos k with h0 | h0
              · exact .inl h0
              · right; simp; intro e; exact hz ⟨h0, e⟩
            clear hz
            have hk1 : ¬ 0 < k ∨ (0 < k ∧ (x == 0) = false) := by
              rcases Nat.eq_zero_or_pos k with h0 | h0
              · exact .inl (by omega)
              · rcases hzb with h1 | h1
                · omega
                · exact .inr ⟨h0, h1⟩
            clear hzb
            rcases hk1 with hk1 | ⟨hk1, hxz⟩
            all_goals
              go_wp2
              go_loop [6, 7] (fun m i => ∃ (j : Nat) (q : Int), j ≤ k + 1 ∧ i = .int .i64 ((j : Int) - 1) ∧ m = .int .u64 q ∧ Hid (q = valN ((xs.take (k + 1)).drop j))) (fun _ i => ((intOf i) + 1).toNat)
              case atStart => exact ⟨k + 1, 0, by omega, by go_num, rfl, by simp [Hid, valN]⟩
              case round =>
                obtain ⟨j, q, hj, rfl, rfl, hq⟩ := hrel
                have hq0 : 0 ≤ q := by rw [hq.out]; exact valN_nonneg _
                rcases Nat.eq_zero_or_pos j with h0 | h0
                · subst h0
                  have hq1 : q ≤ 9223372036854775807 := by
                    rw [hq.out]
                    have := valN_lt_of (xs := (xs.take (k + 1)).drop 0) (k := 9) (by rw [List.length_drop, List.length_take]; omega)
                    omega
                  have hqe : Hid (q = valN (xs.take (k + 1))) := by have := hq.out; exact (by simpa using this : q = valN (xs.take (k + 1)))
                  by_cases hbig : q ≤ 4611686018427387903
                  · go_wp2
                    go_ret3
                    exact ⟨ret_v3 (rd_ok' hL.out hlt HX.out (by omega) hzz.out hqe.out (by omega) (by omega)), rfl⟩
                  · go_wp2
                    go_ret3
                    exact ⟨ret_v3 (rd_big' hL.out hlt HX.out (by omega) hqe.out (by omega)), rfl⟩
                · obtain ⟨i, rfl⟩ : ∃ i, j = i + 1 := ⟨j - 1, by omega⟩
                  obtain ⟨b', off', y, hA, hy, hwf, hc'⟩ := H.out.get (j := i) (by omega)
                  injection hA with hA
                  injection hA with hA1 hA2
                  subst hA1 hA2
                  obtain ⟨hy0, hy1⟩ := u8_bounds hwf
                  have hbk := back_step (s := k) (by omega : i ≤ k) hy
                  have hq2 : q ≤ 72057594037927935 := by rw [hq.out]; exact back_lt hlt
                  rw [← hq.out] at hbk
                  have HB := Lib.hid hbk
                  clear hbk hy hwf hc
                  have hi1 : (((i + 1 : Nat) : Int) - 1) = (i : Int) := by omega
                  rw [hi1]
                  clear hi1
                  go_wp2
                  go_round
                  case rel => exact ⟨i, _, by omega, rfl, rfl, HB.out⟩
                  case measure => simp [intOf]
      · obtain rfl : k = n := by omega
        have hk9 : ((k : Int) == 9) = false := by simp; omega
        go_wp2
        go_ret3
        exact ⟨ret_v3 (rd_short hL.out hlt (List.getElem?_eq_none (by have := H.out.1; omega))), rfl⟩
    · obtain rfl : k = 9 := by omega
      by_cases hkl : 9 < n
      all_goals
        go_wp2
        go_ret3
        exact ⟨ret_v3 (rd_long hL.out), rfl⟩
end Go.Proofs.Ytekhmfliaojabaa
