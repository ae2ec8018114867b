/- Walks: floor, sign and cross of package exact (program). -/
import Derived.Test.YteoijnaljkagfaaE1
namespace Go.Proofs.Yteoijnaljkagfaa
open Go.RowKit

theorem flN_floor {s : Bool} {n d : Nat} {q : Rat} (hd : 0 < d) (h : ratV s n d = q) : flN s n d = q.floor.natAbs := by rw [← h, floor_ratV s n d hd, sgn_abs]

set_option maxHeartbeats 1000000 in
theorem xfloor_ok (v : Value) (q : Rat) (L : Nat) (w : World) (h : NumX w v q L) (hL : L ≤ 1099511627775) (h0 : -1152921504606846976 ≤ q.floor) (h1 : q.floor ≤ 1152921504606846976) :
    Calls Try.prog 84 #[v] w fun e w' => e = .returned (.tuple #[.int .i64 q.floor, .bool true]) ∧ Ext w w' := by
  obtain ⟨s, n, d, hv, hd, hq, f1, f2⟩ := h
  have HC := Lib.hid (fun W (hX : Ext w W) => floor_in v s n d L W (hv.ext hX) hd f1 hL (by rw [flN_floor hd hq]; omega))
  rw [hq] at HC
  obtain ⟨A1, l1, c1, A2, l2, c2, rfl, _⟩ := hv.open
  obtain ⟨f, hf⟩ : ∃ f, q.floor = f := ⟨_, rfl⟩
  rw [hf] at HC h0 h1 ⊢
  clear hv hq f1 f2 hf
  go_enter Try.func84, Try.ntmps84
  go_wp2_with fail
  refine (HC.out _ ((Ext.refl w).alloc _)).mono ?_
  rintro e w2 ⟨rfl, hX⟩
  have HX := Lib.hid (Ext.trans ((Ext.refl w).alloc _) hX)
  clear hX
  go_wp2
  go_ret2
  exact ⟨rfl, HX.out⟩

set_option maxHeartbeats 1000000 in
theorem xfloor_no (v : Value) (q : Rat) (L : Nat) (w : World) (h : NumX w v q L) (hL : L ≤ 1099511627775) (h0 : q.floor < -1152921504606846976 ∨ 1152921504606846976 < q.floor) :
    Calls Try.prog 84 #[v] w fun e w' => e = .returned (.tuple #[.int .i64 0, .bool false]) ∧ Ext w w' := by
  obtain ⟨s, n, d, hv, hd, hq, f1, f2⟩ := h
  by_cases hN : flN s n d ≤ 4611686018427387904
  · have HC := Lib.hid (fun W (hX : Ext w W) => floor_in v s n d L W (hv.ext hX) hd f1 hL hN)
    rw [flN_floor hd hq] at hN
    rw [hq] at HC
    obtain ⟨A1, l1, c1, A2, l2, c2, rfl, _⟩ := hv.open
    obtain ⟨f, hf⟩ : ∃ f, q.floor = f := ⟨_, rfl⟩
    rw [hf] at HC h0 hN
    have hn1 : -4611686018427387904 ≤ f := by omega
    have hn2 : f ≤ 4611686018427387904 := by omega
    clear hv hq f1 f2 hf hN
    rcases h0 with h0 | h0
    · go_enter Try.func84, Try.ntmps84
      go_wp2_with fail
      refine (HC.out _ ((Ext.refl w).alloc _)).mono ?_
      rintro e w2 ⟨rfl, hX⟩
      have HX := Lib.hid (Ext.trans ((Ext.refl w).alloc _) hX)
      clear hX
      go_wp2
      go_ret2
      exact ⟨rfl, HX.out⟩
    · have h0' : ¬ f < -1152921504606846976 := by omega
      go_enter Try.func84, Try.ntmps84
      go_wp2_with fail
      refine (HC.out _ ((Ext.refl w).alloc _)).mono ?_
      rintro e w2 ⟨rfl, hX⟩
      have HX := Lib.hid (Ext.trans ((Ext.refl w).alloc _) hX)
      clear hX
      go_wp2
      go_ret2
      exact ⟨rfl, HX.out⟩
  · have HC := Lib.hid (fun W (hX : Ext w W) => floor_out v s n d L W (hv.ext hX) hd f1 hL (by omega))
    obtain ⟨A1, l1, c1, A2, l2, c2, rfl, _⟩ := hv.open
    clear hv hq f1 f2 hN h0
    go_enter Try.func84, Try.ntmps84
    go_wp2_with fail
    refine (HC.out _ ((Ext.refl w).alloc _)).mono ?_
    rintro e w2 ⟨rfl, hX⟩
    have HX := Lib.hid (Ext.trans ((Ext.refl w).alloc _) hX)
    clear hX
    go_wp2
    go_ret2
    exact ⟨rfl, HX.out⟩

/-- The sign of an integer. -/
def sgI (n : Int) : Int := if n < 0 then -1 else if 0 < n then 1 else 0
set_option maxHeartbeats 400000 in
theorem isign_any (n : Int) (w : World) : Calls Try.prog 73 #[.int .i64 n] w fun e w' => e = .returned (.int .i64 (sgI n)) ∧ w = w' := by
  by_cases h1 : n < 0
  · have e : sgI n = -1 := by simp [sgI, h1]
    rw [e]
    clear e
    go_enter Try.func73, Try.ntmps73
    go_wp2
    go_ret
    exact ⟨rfl, rfl⟩
  · by_cases h2 : 0 < n
    · have e : sgI n = 1 := by simp [sgI, h1, h2]
      rw [e]
      clear e
      go_enter Try.func73, Try.ntmps73
      go_wp2
      go_ret
      exact ⟨rfl, rfl⟩
    · have e : sgI n = 0 := by simp [sgI, h1, h2]
      rw [e]
      clear e
      go_enter Try.func73, Try.ntmps73
      go_wp2
      go_ret
      exact ⟨rfl, rfl⟩
end Go.Proofs.Yteoijnaljkagfaa
