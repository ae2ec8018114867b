/- Walks: what the reference's Number, and Signed of both, return. Condition: the slice reads as bytes and is not too long. -/
import Derived.Test.YtekhmfliaojabaaJoin
namespace Go.Proofs.Ytekhmfliaojabaa
open Go.RowKit

set_option maxHeartbeats 1000000 in
theorem numberR_ok (A : Option Addr) (n c : Nat) (xs : List Int) (m : Int) (w : World) (h : Ints .u8 w A n xs) (hnc : n ≤ c) (hc : c ≤ 9223372036854775807) (hn : n ≤ 1000000) (h0 : 0 ≤ m) (h1 : m ≤ 4611686018427387903) :
    Calls Try.prog 24 #[.slice A n c, .int .i64 m] w (RetBytes w (xs ++ enc m) 0) := by
  have H := Lib.hid h
  have hs := EncAt.start h0 h1
  have HS := Lib.hid hs
  have HL : Hid (xs.length = n) := h.1
  clear h hs
  go_enter Try.func24, Try.ntmps24
  go_wp2_with fail
  have hx : Ext w (w.alloc (.cells #[.slice A n c] 22)) := (Ext.refl w).alloc _
  refine (joined_any _ _ _ [xs] _ (Lists.one (At.new w [.slice A n c] _) ⟨A, n, c, rfl, H.out.ext hx, hnc, hc⟩) (by omega) (by have := HL.out; simp; omega)).mono ?_
  rintro e w1 ⟨A1, n1, c1, rfl, hown1, hext1⟩
  have HE := Lib.hid (hx.trans hext1)
  have HO := Lib.hid (hown1.mono hx.size)
  clear hx hext1 hown1
  go_wp2
  go_loopg [1, 6] m.toNat (fun g q v wr => ∃ (m' : Int) (pre : List Int), g = m'.toNat ∧ q = .int .i64 m' ∧ Hid (EncAt m pre m') ∧ m' ≤ 4611686018427387903 ∧ wr.ownsRow w.heap.size 5 1 v (n + pre.length) ((xs ++ pre).map (.int .u8)) ∧ Ext w wr)
  case atStart =>
    refine ⟨m, [], rfl, rfl, HS.out, h1, ?_, HE.out⟩
    have e := HO.out.len
    have := HL.out
    have := HO.out.own
    simp at e
    subst e
    rw [HL.out] at this
    simpa [HL.out] using this
  case round =>
    obtain ⟨m', pre, rfl, rfl, hE, hm1, hown, hext⟩ := hrel
    have hm0 := hE.out.pos
    have hpl := hE.out.len
    obtain ⟨A1, c1, rfl⟩ := own_slice hown
    have HH := Lib.hid hext
    clear hext
    by_cases hge : 128 ≤ m'
    · go_wp2_with (at_builtin; refine wpList_app _ elB rfl _ _ rfl w.heap.size _ _ _ rfl (hown.alloc _) _ 1 1 [.int .u8 (m' % 128 + 128)] rfl rfl (At.new _ [_] _) (by simp [Value.oneCell']) (by omega) (by unfold maxLen; omega) (by have := HH.out.size; simp; omega) ?_; intro v1 w1 hown1 hgr1 _)
      go_roundg ((m' / 128).toNat)
      case rel =>
        refine ⟨m' / 128, pre ++ [m' % 128 + 128], rfl, rfl, hE.out.step hge, by omega, ?_, HH.out.push hown hgr1⟩
        simpa [Nat.add_assoc] using hown1
      case measure => omega
    · go_wp2_with (at_builtin; refine wpList_app _ elB rfl _ _ rfl w.heap.size _ _ _ rfl (hown.alloc _) _ 1 1 [.int .u8 m'] rfl rfl (At.new _ [_] _) (by simp [Value.oneCell']) (by omega) (by unfold maxLen; omega) (by have := HH.out.size; simp; omega) ?_; intro v1 w1 hown1 hgr1 _)
      go_ret2
      obtain ⟨A2, c2, rfl⟩ := own_slice hown1
      refine ⟨A2, _, c2, rfl, ⟨?_, ?_, wf_app H.out.2.1 (enc_byte h0 h1)⟩, HH.out.push hown hgr1⟩
      · have e := hE.out.done (by omega)
        rw [← e]
        simpa using hown1
      · rw [← hE.out.done (by omega)]
        have := HL.out
        simp; omega

set_option maxHeartbeats 400000 in
theorem numberR_bad (A : Option Addr) (n c : Nat) (m : Int) (w : World) (h : m < 0 ∨ 4611686018427387903 < m) :
    Calls Try.prog 24 #[.slice A n c, .int .i64 m] w fun e w' => e = .returned (.tuple #[.slice none 0 0, .int .i64 2]) ∧ w = w' := by
  rcases h with h | h
  · go_enter Try.func24, Try.ntmps24
    go_wp2
    go_ret2
    exact ⟨rfl, rfl⟩
  · have h' : ¬ m < 0 := by omega
    go_enter Try.func24, Try.ntmps24
    go_wp2
    go_ret2
    exact ⟨rfl, rfl⟩

/-- The signed number as a number without a sign. -/
def zig (m : Int) : Int := if m < 0 then -2 * m - 1 else 2 * m

set_option maxHeartbeats 400000 in
theorem signed_ok (A : Option Addr) (n c : Nat) (xs : List Int) (m : Int) (w : World) (h : Ints .u8 w A n xs) (hn : n ≤ 1000000) (h0 : -2305843009213693952 ≤ m) (h1 : m ≤ 2305843009213693951) :
    Calls Try.prog 25 #[.slice A n c, .int .i64 m] w (RetBytes w (xs ++ enc (zig m)) 0) := by
  have H := Lib.hid h
  clear h
  by_cases hneg : m < 0
  · have e : Hid (zig m = -2 * (m + 1) + 1) := by unfold zig; rw [if_pos hneg]; show -2 * m - 1 = -2 * (m + 1) + 1; omega
    go_enter Try.func25, Try.ntmps25
    go_wp2_with fail
    refine (number_ok A n c xs _ w H.out hn (by omega) (by omega)).mono ?_
    rintro e w1 ⟨A1, n1, c1, rfl, hown1, hext1⟩
    have HO := Lib.hid hown1
    have HE := Lib.hid hext1
    clear hown1 hext1
    go_wp2
    go_ret2
    exact ⟨A1, n1, c1, rfl, by rw [e.out]; exact HO.out, HE.out⟩
  · have e : Hid (zig m = 2 * m) := by unfold zig; rw [if_neg hneg]; rfl
    go_enter Try.func25, Try.ntmps25
    go_wp2_with fail
    refine (number_ok A n c xs _ w H.out hn (by omega) (by omega)).mono ?_
    rintro e w1 ⟨A1, n1, c1, rfl, hown1, hext1⟩
    have HO := Lib.hid hown1
    have HE := Lib.hid hext1
    clear hown1 hext1
    go_wp2
    go_ret2
    exact ⟨A1, n1, c1, rfl, by rw [e.out]; exact HO.out, HE.out⟩

set_option maxHeartbeats 400000 in
theorem signed_bad (A : Option Addr) (n c : Nat) (m : Int) (w : World) (h : m < -2305843009213693952 ∨ 2305843009213693951 < m) :
    Calls Try.prog 25 #[.slice A n c, .int .i64 m] w fun e w' => e = .returned (.tuple #[.slice none 0 0, .int .i64 2]) ∧ w = w' := by
  rcases h with h | h
  · go_enter Try.func25, Try.ntmps25
    go_wp2
    go_ret2
    exact ⟨rfl, rfl⟩
  · have h' : ¬ m < -2305843009213693952 := by omega
    go_enter Try.func25, Try.ntmps25
    go_wp2
    go_ret2
    exact ⟨rfl, rfl⟩

set_option maxHeartbeats 400000 in
theorem signedR_ok (A : Option Addr) (n c : Nat) (xs : List Int) (m : Int) (w : World) (h : Ints .u8 w A n xs) (hnc : n ≤ c) (hc : c ≤ 9223372036854775807) (hn : n ≤ 1000000) (h0 : -2305843009213693952 ≤ m) (h1 : m ≤ 2305843009213693951) :
    Calls Try.prog 26 #[.slice A n c, .int .i64 m] w (RetBytes w (xs ++ enc (zig m)) 0) := by
  have H := Lib.hid h
  clear h
  by_cases hneg : m < 0
  · have e : Hid (zig m = -2 * m - 1) := by unfold zig; rw [if_pos hneg]; rfl
    go_enter Try.func26, Try.ntmps26
    go_wp2_with fail
    refine (numberR_ok A n c xs _ w H.out hnc hc hn (by omega) (by omega)).mono ?_
    rintro e w1 ⟨A1, n1, c1, rfl, hown1, hext1⟩
    have HO := Lib.hid hown1
    have HE := Lib.hid hext1
    clear hown1 hext1
    go_wp2
    go_ret2
    exact ⟨A1, n1, c1, rfl, by rw [e.out]; exact HO.out, HE.out⟩
  · have e : Hid (zig m = 2 * m) := by unfold zig; rw [if_neg hneg]; rfl
    go_enter Try.func26, Try.ntmps26
    go_wp2_with fail
    refine (numberR_ok A n c xs _ w H.out hnc hc hn (by omega) (by omega)).mono ?_
    rintro e w1 ⟨A1, n1, c1, rfl, hown1, hext1⟩
    have HO := Lib.hid hown1
    have HE := Lib.hid hext1
    clear hown1 hext1
    go_wp2
    go_ret2
    exact ⟨A1, n1, c1, rfl, by rw [e.out]; exact HO.out, HE.out⟩

set_option maxHeartbeats 400000 in
theorem signedR_bad (A : Option Addr) (n c : Nat) (m : Int) (w : World) (h : m < -2305843009213693952 ∨ 2305843009213693951 < m) :
    Calls Try.prog 26 #[.slice A n c, .int .i64 m] w fun e w' => e = .returned (.tuple #[.slice none 0 0, .int .i64 2]) ∧ w = w' := by
  rcases h with h | h
  · go_enter Try.func26, Try.ntmps26
    go_wp2
    go_ret2
    exact ⟨rfl, rfl⟩
  · have h' : ¬ m < -2305843009213693952 := by omega
    go_enter Try.func26, Try.ntmps26
    go_wp2
    go_ret2
    exact ⟨rfl, rfl⟩

/-- What Number and Signed give: the bytes and the error. -/
def numO (xs : List Int) (m : Int) : List Int × Int := if 0 ≤ m ∧ m ≤ 4611686018427387903 then (xs ++ enc m, 0) else ([], 2)
def sigO (xs : List Int) (m : Int) : List Int × Int := if -2305843009213693952 ≤ m ∧ m ≤ 2305843009213693951 then (xs ++ enc (zig m), 0) else ([], 2)

theorem retNil {w : World} {e : Ending} {w' : World} (h : e = .returned (.tuple #[.slice none 0 0, .int .i64 2]) ∧ w = w') : RetBytes w [] 2 e w' := by
  obtain ⟨rfl, rfl⟩ := h
  exact ⟨none, 0, 0, rfl, ⟨World.ownsRow_nil _ _ _ _, rfl, by simp⟩, Ext.refl _⟩

section
variable (A : Option Addr) (n c : Nat) (xs : List Int) (m : Int) (w : World) (h : Ints .u8 w A n xs) (hnc : n ≤ c) (hc : c ≤ 9223372036854775807) (hn : n ≤ 1000000)
include h hn
theorem number_any : Calls Try.prog 23 #[.slice A n c, .int .i64 m] w (RetBytes w (numO xs m).1 (numO xs m).2) := by
  unfold numO
  split
  · rename_i hm; exact number_ok A n c xs m w h hn hm.1 hm.2
  · rename_i hm; exact (number_bad A n c m w (by omega)).mono fun _ _ => retNil
theorem signed_any : Calls Try.prog 25 #[.slice A n c, .int .i64 m] w (RetBytes w (sigO xs m).1 (sigO xs m).2) := by
  unfold sigO
  split
  · rename_i hm; exact signed_ok A n c xs m w h hn hm.1 hm.2
  · rename_i hm; exact (signed_bad A n c m w (by omega)).mono fun _ _ => retNil
include hnc hc
theorem numberR_any : Calls Try.prog 24 #[.slice A n c, .int .i64 m] w (RetBytes w (numO xs m).1 (numO xs m).2) := by
  unfold numO
  split
  · rename_i hm; exact numberR_ok A n c xs m w h hnc hc hn hm.1 hm.2
  · rename_i hm; exact (numberR_bad A n c m w (by omega)).mono fun _ _ => retNil
theorem signedR_any : Calls Try.prog 26 #[.slice A n c, .int .i64 m] w (RetBytes w (sigO xs m).1 (sigO xs m).2) := by
  unfold sigO
  split
  · rename_i hm; exact signedR_ok A n c xs m w h hnc hc hn hm.1 hm.2
  · rename_i hm; exact (signedR_bad A n c m w (by omega)).mono fun _ _ => retNil
end

/-! Reading back. -/
theorem lead_encF (f : Nat) (m : Int) (tail : List Int) (h0 : 0 ≤ m) (h1 : m < 128 ^ (f + 1)) :
    ∃ k, Lead k (encF f m ++ tail) ∧ (encF f m).length = k + 1 ∧ (∃ x, (encF f m ++ tail)[k]? = some x ∧ x < 128 ∧ (0 < k → x ≠ 0)) ∧ valN (encF f m) = m := by
  induction f generalizing m with
  | zero =>
    simp at h1
    exact ⟨0, Lead.zero _, rfl, ⟨m, rfl, by omega, by omega⟩, by simp [encF, valN]; omega⟩
  | succ f ih =>
    by_cases hm : 128 ≤ m
    · obtain ⟨k, hL, hl, ⟨x, hx, hx1, hx2⟩, hv⟩ := ih (m / 128) (by omega) (by rw [Int.pow_succ] at h1; omega)
      rw [encF_more hm]
      refine ⟨k + 1, ?_, by simp [hl], ⟨x, by simpa using hx, hx1, fun _ => ?_⟩, ?_⟩
      · intro j hj
        cases j with
        | zero => exact ⟨_, rfl, by omega⟩
        | succ j => obtain ⟨y, hy, hy1⟩ := hL j (by omega); exact ⟨y, by simpa using hy, hy1⟩
      · rcases Nat.eq_zero_or_pos k with h2 | h2
        · subst h2
          have : encF f (m / 128) = [m / 128] := by
            cases f with
            | zero => rfl
            | succ f =>
              by_cases h3 : 128 ≤ m / 128
              · rw [encF_more h3] at hl; simp at hl
                cases f <;> simp [encF] at hl; split at hl <;> simp at hl
              · exact encF_last (by omega)
          rw [this] at hx
          simp at hx
          omega
        · exact hx2 h2
      · simp only [valN, hv]; omega
    · rw [encF_last (by omega)]
      exact ⟨0, Lead.zero _, rfl, ⟨m, rfl, by omega, by omega⟩, by simp [valN]; omega⟩

theorem rd_enc {m : Int} (tail : List Int) (h0 : 0 ≤ m) (h1 : m ≤ 4611686018427387903) : rd (enc m ++ tail) = (m, ((enc m).length : Int), 0) := by
  obtain ⟨k, hL, hl, ⟨x, hx, hx1, hx2⟩, hv⟩ := lead_encF 9 m tail h0 (by simp; omega)
  have hlen : k + 1 ≤ 10 := by rw [← hl]; exact encF_length 9 m
  have ht : (enc m ++ tail).take (k + 1) = enc m := by
    unfold enc; rw [← hl]; simp
  have hv' : valN ((enc m ++ tail).take (k + 1)) = m := by rw [ht]; exact hv
  have hk : k < 9 := by
    rcases Nat.lt_or_ge k 9 with h | h
    · exact h
    · -- ten groups denote a number of 64 bits or more
      exfalso
      have h9 : k = 9 := by omega
      subst h9
      have : ∀ f (m : Int), 0 ≤ m → (encF f m).length = f + 1 → 128 ^ f ≤ m ∨ f = 0 := by
        intro f
        induction f with
        | zero => intro m _ _; exact .inr rfl
        | succ f ih =>
          intro m hm hl
          left
          by_cases hg : 128 ≤ m
          · rw [encF_more hg] at hl
            simp at hl
            rcases ih (m / 128) (by omega) (by omega) with h | h
            · rw [Int.pow_succ]; omega
            · subst h; simpa using hg
          · rw [encF_last (by omega)] at hl; simp at hl
      rcases this 9 m h0 hl with h | h
      · have : (128 : Int) ^ 9 = 9223372036854775808 := by decide
        omega
      · omega
  rw [show enc m ++ tail = encF 9 m ++ tail from rfl, rd_ok hL hk hx hx1 (fun h => hx2 h.1 h.2) (by show valN ((enc m ++ tail).take (k + 1)) ≤ _; rw [hv']; exact h1)]
  show (valN ((enc m ++ tail).take (k + 1)), _, _) = _
  rw [hv']
  have : ((enc m).length : Int) = k + 1 := by unfold enc; rw [hl]; simp
  rw [this]

theorem zig_range {m : Int} (h0 : -2305843009213693952 ≤ m) (h1 : m ≤ 2305843009213693951) : 0 ≤ zig m ∧ zig m ≤ 4611686018427387903 := by
  unfold zig; split <;> omega

theorem rdS_enc {m : Int} (tail : List Int) (h0 : -2305843009213693952 ≤ m) (h1 : m ≤ 2305843009213693951) : rdS (enc (zig m) ++ tail) = (m, ((enc (zig m)).length : Int), 0) := by
  have hz := zig_range h0 h1
  have h := rd_enc tail hz.1 hz.2
  unfold rdS
  rw [h]
  simp only
  have e : (if zig m % 2 = 1 then -(zig m / 2) - 1 else zig m / 2) = m := by
    unfold zig
    split <;> split <;> omega
  rw [if_pos trivial, e]
end Go.Proofs.Ytekhmfliaojabaa
