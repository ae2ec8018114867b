/- Lemmas of the proof that follows (Canon, part 8): walks of functions by contract, and plain lemmas. Conditions: none. -/
import Derived.Test.YteoijnaljkagfaaCanonG
namespace Go.Proofs.Yteoijnaljkagfaa
open Go.RowKit

set_option maxRecDepth 100000 in
set_option maxHeartbeats 400000 in
theorem length_any (A : Option Addr) (n c : Nat) (xs : List Int) (w : World) (h : Ints .u32 w A n xs) (hnm : n ≤ 9223372036854775807) :
    Calls Try.prog 82 #[.slice A n c] w fun e w' => ∃ m : Nat, e = .returned (.int .i64 (m : Int)) ∧ m ≤ n ∧ w = w' := by
  have H := Lib.hid h
  clear h
  go_enter Try.func82, Try.ntmps82
  go_wp2
  go_loopg [3] n (fun g v wr => ∃ m : Nat, m = g ∧ m ≤ n ∧ v = .int .i64 (m : Int) ∧ w = wr)
  case atStart => exact ⟨n, rfl, Nat.le_refl _, rfl, rfl⟩
  case round =>
    obtain ⟨m, rfl, hm, rfl, rfl⟩ := hrel
    rcases Nat.eq_zero_or_pos m with h0 | h0
    · subst h0
      go_wp2
      go_ret
      exact ⟨0, rfl, by omega, rfl⟩
    · obtain ⟨k, rfl⟩ : ∃ k, m = k + 1 := ⟨m - 1, by omega⟩
      obtain ⟨b, off, x, rfl, hx, hwf, hc⟩ := H.out.get (j := k) (by omega)
      obtain ⟨hx0, hx1⟩ := u32_bounds hwf
      have hkc : ((k + 1 : Nat) : Int) = (k : Int) + 1 := by omega
      have hk0 : (0 : Int) ≤ (k : Int) := by omega
      have hkn : (k : Int) < (n : Int) := by omega
      rw [hkc]
      clear hx hwf
      by_cases hz : x = 0
      · have hzb : (x == 0) = true := by simpa using hz
        clear hz hkc
        go_wp2
        go_roundg k
        case rel => exact ⟨k, rfl, by omega, rfl, rfl⟩
        case measure => omega
      · have hzb : (x == 0) = false := by simpa using hz
        have HC := Lib.hid hkc
        clear hz hkc
        go_wp2
        go_ret
        exact ⟨k + 1, by rw [HC.out]; rfl, hm, rfl⟩
/-- Some numbers in a block. -/
def RatsAt (w : World) (g n : Nat) : Prop := ∀ j, j < n → ∃ A l c xs B m k ys, w.cell? ⟨g, j * 3 + 1, none⟩ = some (.slice A l c) ∧ w.cell? ⟨g, j * 3 + 2, none⟩ = some (.slice B m k) ∧ Ints .u32 w A l xs ∧ Ints .u32 w B m ys ∧ l ≤ 9223372036854775807 ∧ m ≤ 9223372036854775807
theorem RatsAt.ext {w w' : World} {g n : Nat} (h : RatsAt w g n) (he : Ext w w') : RatsAt w' g n := fun j hj => by
  obtain ⟨A, l, c, xs, B, m, k, ys, h1, h2, h3, h4, h5⟩ := h j hj
  exact ⟨A, l, c, xs, B, m, k, ys, he.cell h1, he.cell h2, h3.ext he, h4.ext he, h5⟩


set_option maxRecDepth 100000 in
set_option maxHeartbeats 4000000 in
theorem heavy_any (g n : Nat) (w : World) (h : RatsAt w g n) (hn : n ≤ 1000) :
    Calls Try.prog 27 #[.slice (some ⟨g, 0, none⟩) n n] w fun e w' => ∃ b : Bool, e = .returned (.bool b) ∧ Ext w w' := by
  have H := Lib.hid h
  clear h
  go_enter Try.func27, Try.ntmps27
  go_wp2
  go_loopg [3, 4] n (fun g' s3 s4 wr => ∃ (k : Nat) (b : Bool), g' = n - k ∧ k ≤ n ∧ s4 = .int .i64 (k : Int) ∧ s3 = .bool b ∧ Hid (Ext w wr))
  case atStart => exact ⟨0, false, rfl, by omega, rfl, rfl, Ext.refl w⟩
  case round =>
    obtain ⟨k, b, rfl, hk, rfl, rfl, HX⟩ := hrel
    by_cases hlt : k < n
    · have hkn : (k : Int) < (n : Int) := by omega
      have hk0 : (0 : Int) ≤ (k : Int) := by omega
      obtain ⟨A, l, c, xs, B, m, c2, ys, y1, y2, ha, hb, hl, hm⟩ := H.out.ext HX.out k hlt
      have HA := Lib.hid ha
      have HB := Lib.hid hb
      clear ha hb
      by_cases h1 : (400 : Int) < (l : Int)
      · go_wp2
        go_ret
        first | exact ⟨_, rfl, HX.out⟩ | exact ⟨.inr rfl, HX.out⟩ | exact ⟨.inl rfl, HX.out⟩
      by_cases h2 : (400 : Int) < (m : Int)
      · go_wp2
        go_ret
        first | exact ⟨_, rfl, HX.out⟩ | exact ⟨.inr rfl, HX.out⟩ | exact ⟨.inl rfl, HX.out⟩
      cases b
      · go_wp2_with fail
        refine (length_any A l c xs _ HA.out hl).mono ?_
        rintro e _ ⟨x1, rfl, hx1, rfl⟩
        by_cases h3 : (12 : Int) < (x1 : Int)
        · go_wp2
          go_roundg (n - (k + 1))
          case rel => exact ⟨k + 1, _, rfl, by omega, by go_num, rfl, HX.out⟩
          case measure => omega
        go_wp2_with fail
        refine (length_any B m c2 ys _ HB.out hm).mono ?_
        rintro e _ ⟨x2, rfl, hx2, rfl⟩
        by_cases h4 : (12 : Int) < (x2 : Int)
        · go_wp2
          go_roundg (n - (k + 1))
          case rel => exact ⟨k + 1, _, rfl, by omega, by go_num, rfl, HX.out⟩
          case measure => omega
        · go_wp2
          go_roundg (n - (k + 1))
          case rel => exact ⟨k + 1, _, rfl, by omega, by go_num, rfl, HX.out⟩
          case measure => omega
      · go_wp2
        go_roundg (n - (k + 1))
        case rel => exact ⟨k + 1, _, rfl, by omega, by go_num, rfl, HX.out⟩
        case measure => omega
    · obtain rfl : n = k := by omega
      cases b
      · go_wp2
        go_ret
        first | exact ⟨_, rfl, HX.out⟩ | exact ⟨.inr rfl, HX.out⟩ | exact ⟨.inl rfl, HX.out⟩
      · go_wp2
        obtain ⟨wo, rfl⟩ : ∃ wo : World, wo = wr := ⟨_, rfl⟩
        go_loopg [5] n (fun g' s5 wr => ∃ k : Nat, g' = n - k ∧ k ≤ n ∧ s5 = .int .i64 (k : Int) ∧ Hid (Ext w wr))
        case atStart => exact ⟨0, rfl, by omega, rfl, HX.out⟩
        case round =>
          clear HX
          obtain ⟨k, rfl, hk, rfl, HX⟩ := hrel
          by_cases hlt : k < n
          · have hkn : (k : Int) < (n : Int) := by omega
            have hk0 : (0 : Int) ≤ (k : Int) := by omega
            obtain ⟨A, l, c, xs, B, m, c2, ys, y1, y2, ha, hb, hl, hm⟩ := H.out.ext HX.out k hlt
            have HA := Lib.hid ha
            have HB := Lib.hid hb
            clear ha hb
            go_wp2_with fail
            refine (length_any B m c2 ys _ HB.out hm).mono ?_
            rintro e _ ⟨x2, rfl, hx2, rfl⟩
            by_cases h3 : (2 : Int) < (x2 : Int)
            · by_cases h4 : (1 : Int) < (n : Int)
              · go_wp2
                go_ret
                first | exact ⟨_, rfl, HX.out⟩ | exact ⟨.inr rfl, HX.out⟩ | exact ⟨.inl rfl, HX.out⟩
              · go_wp2_with fail
                refine (length_any A l c xs _ HA.out hl).mono ?_
                rintro e _ ⟨x1, rfl, hx1, rfl⟩
                by_cases h5 : (2 : Int) < (x1 : Int)
                · go_wp2
                  go_ret
                  first | exact ⟨_, rfl, HX.out⟩ | exact ⟨.inr rfl, HX.out⟩ | exact ⟨.inl rfl, HX.out⟩
                · go_wp2
                  go_roundg (n - (k + 1))
                  case rel => exact ⟨k + 1, rfl, by omega, by go_num, HX.out⟩
                  case measure => omega
            · go_wp2
              go_roundg (n - (k + 1))
              case rel => exact ⟨k + 1, rfl, by omega, by go_num, HX.out⟩
              case measure => omega
          · obtain rfl : n = k := by omega
            go_wp2
            go_ret
            first | exact ⟨_, rfl, HX.out⟩ | exact ⟨.inr rfl, HX.out⟩ | exact ⟨.inl rfl, HX.out⟩
end Go.Proofs.Yteoijnaljkagfaa
namespace Go.Proofs.Yteoijnaljkagfaa
open Go.RowKit

theorem enc_digit {x : Int} (h0 : 0 ≤ x) (h1 : x < 128) (s : List Int) : Utf8.encode x ++ strOfNums s = strOfNums (x :: s) := by
  have hv : Utf8.valid x = true := by simp [Utf8.valid]; omega
  have hc : x.toNat < 0x80 := by omega
  have e : Utf8.encode x = ⟨#[UInt8.ofNat x.toNat]⟩ := by simp [Utf8.encode, hv, hc]
  rw [e]
  apply ByteArray.ext
  simp [strOfNums, ByteArray.data_append]
def digs (es : List Int) : List Int := (es.map (48 + ·)).reverse
theorem digs_snoc (es : List Int) (x : Int) : digs (es ++ [x]) = (48 + x) :: digs es := by simp [digs]
theorem str_digs {es : List Int} {x : Int} {b : ByteArray} (h0 : 0 ≤ x) (h1 : x < 10) (hb : b = strOfNums (digs es)) : Utf8.encode (48 + x) ++ b = strOfNums (digs (es ++ [x])) := by
  rw [digs_snoc, hb]; exact enc_digit (by omega) (by omega) _
theorem str_size (es : List Int) : (strOfNums (digs es)).size = es.length := by simp [strOfNums, ByteArray.size, digs]
theorem enc_size {x : Int} (h0 : 0 ≤ x) (h1 : x < 10) : (Utf8.encode (48 + x)).size = 1 := by
  have hv : Utf8.valid (48 + x) = true := by simp [Utf8.valid]; omega
  have hc : (48 + x).toNat < 0x80 := by omega
  simp [Utf8.encode, hv, hc, ByteArray.size]

set_option maxRecDepth 100000 in
set_option maxHeartbeats 2000000 in
theorem decimal_any (va : Value) (n L M : Nat) (w : World) (ha : Z16 w va n) (fn : Fit 65536 n M) (hM : M ≤ 400000) (f : Fit 4294967296 n L) (hL : L ≤ 1000000) :
    Calls Try.prog 94 #[va] w (RetDec w n) := by
  obtain ⟨A, l, c, rfl, hz, hl0⟩ := Z16.open ha
  have HZ := Lib.hid hz
  have HFN := Lib.hid fn
  have HF := Lib.hid f
  clear ha hz fn f
  by_cases h0 : l = 0
  · have hn := hl0.1 h0
    subst h0 hn
    go_enter Try.func94, Try.ntmps94
    go_wp2
    go_ret
    exact ⟨[48], rfl, .inl ⟨rfl, rfl⟩, Ext.refl _⟩
  have hnp : 0 < n := by
    rcases Nat.eq_zero_or_pos n with h | h
    · exact absurd (hl0.2 h) h0
    · exact h
  have HNP := Lib.hid hnp
  have hlb : ((l : Int) == 0) = false := by simp; omega
  clear hl0 hnp
  go_enter Try.func94, Try.ntmps94
  go_wp2
  clear h0 hlb
  go_loopg [0, 3] n (fun g s0 s3 wr => ∃ (m : Nat) (es : List Int) (b : ByteArray), m = g ∧ m ≤ n ∧ Hid (Z16 wr s0 m) ∧ s3 = .string b ∧ Hid (b = strOfNums (digs es)) ∧ Hid (Dg 10 es) ∧ Hid (m = 0 → Nm es) ∧ Hid (val 10 es + 10 ^ es.length * (m : Int) = n) ∧ Hid (Ext w wr))
  case atStart => exact ⟨n, [], _, rfl, Nat.le_refl _, HZ.out, rfl, rfl, Dg.nil, fun h => absurd h (by have := HNP.out; omega), by show _ = _; simp [val], Ext.refl w⟩
  case round =>
    obtain ⟨m, es, b, rfl, hm, HM, rfl, HB, HD, HNM, HV, HX⟩ := hrel
    clear HZ
    obtain ⟨A2, l2, c2, rfl, hz2, hl2⟩ := Z16.open HM.out
    have HM := Lib.hid hz2
    clear hz2
    by_cases h0 : l2 = 0
    · have hm0 := hl2.1 h0
      subst h0 hm0
      have HE : Hid (val 10 es = n) := by have := HV.out; show _ = _; simpa using this
      have HN1 := Lib.hid (HNM.out rfl)
      clear hl2 HNM
      go_wp2
      go_ret
      exact ⟨_, by rw [HB.out]; rfl, .inr ⟨by have := HNP.out; omega, es, ⟨HD.out, HN1.out, HE.out⟩, rfl⟩, HX.out⟩
    have hmp : 0 < m := by
      rcases Nat.eq_zero_or_pos m with h | h
      · exact absurd (hl2.2 h) h0
      · exact h
    have hlI : (0 : Int) < (l2 : Int) := by omega
    have hlN : 0 < l2 := by omega
    clear hl2 h0
    go_wp2_with fail
    refine (rshort_any _ m M 10000 _ HM.out (HFN.out.le hm) (by omega) (by omega) (by omega)).mono ?_
    rintro e w1 ⟨v, rfl, hv, hX⟩
    obtain ⟨A3, l3, c3, rfl, hz3, hl3⟩ := Z16.open hv
    have HX1 := Lib.hid (HX.out.trans hX)
    clear hX hv HX
    rw [show (10000 : Int).toNat = 10000 from rfl] at hz3 hl3
    obtain ⟨q, hq⟩ : ∃ q, m / 10000 = q := ⟨_, rfl⟩
    obtain ⟨r, hr⟩ : ∃ r : Int, (m : Int) % 10000 = r := ⟨_, rfl⟩
    rw [hq] at hz3 hl3
    rw [hr]
    have hmqr : (m : Int) = r + 10000 * (q : Int) := by omega
    have hr0 : 0 ≤ r := by omega
    have hr1 : r < 10000 := by omega
    have hqm : q < m := by omega
    have HQ := Lib.hid hz3
    have HL3 := Lib.hid hl3
    have HI : Hid (val 10 es + 10 ^ es.length * (r + 10 ^ 4 * (q : Int)) = n) := by
      have := HV.out
      rw [hmqr] at this
      exact this
    have HNZ : Hid (q = 0 → r = 0 → Nm es) := fun h1 h2 => by omega
    have HP := Lib.hid hmp
    clear hz3 hl3 hq hr hmqr hmp HV HNM HM
    go_wp2_with fail
    obtain ⟨wo, rfl⟩ : ∃ x : World, x = w1 := ⟨_, rfl⟩
    clear hlI hlN
    go_loopg [3, 5, 6] 4 (fun g s3 s5 s6 wr => ∃ (k : Nat) (es : List Int) (b : ByteArray) (r : Int), k = g ∧ k ≤ 4 ∧ s6 = .int .i64 (4 - (k : Int)) ∧ s5 = .int .i64 r ∧ s3 = .string b ∧ 0 ≤ r ∧ r < 10000 ∧ Hid (r < 10 ^ k) ∧ Hid (b = strOfNums (digs es)) ∧ Hid (Dg 10 es) ∧ Hid (q = 0 → r = 0 → Nm es) ∧ Hid (val 10 es + 10 ^ es.length * (r + 10 ^ k * (q : Int)) = n) ∧ wo = wr)
    case atStart => exact ⟨4, es, b, r, rfl, Nat.le_refl _, rfl, rfl, rfl, hr0, hr1, by show r < _; omega, HB.out, HD.out, HNZ.out, HI.out, rfl⟩
    case round =>
      clear HB HD HNZ HI hr0 hr1
      obtain ⟨k, es, b, r, rfl, hk, rfl, rfl, rfl, hr0, hr1, HR, HB, HD, HNZ, HI, rfl⟩ := hrel
      by_cases hgo : 0 < k ∧ (0 < q ∨ 0 < r)
      · obtain ⟨hk0, hqr⟩ := hgo
        obtain ⟨j, rfl⟩ : ∃ j, k = j + 1 := ⟨k - 1, by omega⟩
        obtain ⟨hd1, hd2, hd3, hd4⟩ := dec_step HD.out hr0 HR.out HI.out
        have hx0 : 0 ≤ r % 10 := by omega
        have hx1 : r % 10 < 10 := by omega
        have HB1 := Lib.hid (str_digs hx0 hx1 HB.out)
        have HR1 := Lib.hid hd3
        have HD1 := Lib.hid hd1
        have HI1 := Lib.hid hd4
        have HN1 : Hid (q = 0 → r / 10 = 0 → Nm (es ++ [r % 10])) := fun h1 h2 => Nm.snoc (by omega)
        have hes : es.length < 32 * L + 1 := by
          have h10 : (0 : Int) < 10 ^ (j + 1) := Int.pow_pos (by omega)
          have hq0 : (0 : Int) ≤ 10 ^ (j + 1) * (q : Int) := Int.mul_nonneg (by omega) (by omega)
          have hqq : q = 0 ∨ (10 : Int) ^ (j + 1) * 1 ≤ 10 ^ (j + 1) * (q : Int) := by
            rcases Nat.eq_zero_or_pos q with h | h
            · exact .inl h
            · exact .inr (Int.mul_le_mul_of_nonneg_left (by omega) (by omega))
          have hp : 0 < r + 10 ^ (j + 1) * (q : Int) := by
            rcases hqq with h | h
            · subst h; simp; omega
            · omega
          obtain ⟨t, ht⟩ : ∃ t : Nat, r + 10 ^ (j + 1) * (q : Int) = (t : Int) := ⟨(r + 10 ^ (j + 1) * (q : Int)).toNat, by omega⟩
          have hI := HI.out
          rw [ht] at hI hp
          exact dec_len HF.out HD.out hI (by omega)
        have hbs : b.size = es.length := by rw [HB.out]; exact str_size es
        have hes1 : (Utf8.encode (48 + r % 10)).size = 1 := enc_size hx0 hx1
        have hsz : ¬ 9223372036854775807 < (Utf8.encode (48 + r % 10)).size + b.size := by rw [hes1]; omega
        have hsz2 : ¬ 9223372036854775807 < 1 + b.size := by omega
        have hwr : IntKind.i32.wrap (48 + r % 10) = 48 + r % 10 := by rw [IntKind.wrap_i32]; omega
        have hk4 : (4 : Int) - ((j + 1 : Nat) : Int) < 4 := by omega
        clear hd1 hd2 hd3 hd4 hbs
        by_cases hq0 : 0 < q
        · have hl : 0 < l3 := by
            rcases Nat.eq_zero_or_pos l3 with h | h
            · have := HL3.out.1 h; omega
            · exact h
          have hlI : (0 : Int) < (l3 : Int) := by omega
          clear hqr hq0
          go_wp2
          go_roundg j
          case rel => exact ⟨j, es ++ [r % 10], _, r / 10, rfl, by omega, by go_num, rfl, rfl, by omega, by omega, HR1.out, HB1.out, HD1.out, HN1.out, HI1.out, rfl⟩
          case measure => omega
        · have hl : l3 = 0 := HL3.out.2 (by omega)
          have hrp : 0 < r := by omega
          clear hqr
          subst hl
          go_wp2
          go_roundg j
          case rel => exact ⟨j, es ++ [r % 10], _, r / 10, rfl, by omega, by go_num, rfl, rfl, by omega, by omega, HR1.out, HB1.out, HD1.out, HN1.out, HI1.out, rfl⟩
          case measure => omega
      · have hend : (k = 0 ∧ r = 0) ∨ (0 < k ∧ q = 0 ∧ r = 0) := by
          have := HR.out
          rcases Nat.eq_zero_or_pos k with h | h
          · subst h; simp at this; omega
          · right; omega
        have hr00 : r = 0 := by omega
        have HN2 : Hid (q = 0 → Nm es) := fun h => HNZ.out h hr00
        subst hr00
        have HE : Hid (val 10 es + 10 ^ es.length * (q : Int) = n) := by
          show _ = _
          have h := HI.out
          rw [Int.zero_add] at h
          rcases hend with ⟨h1, _⟩ | ⟨_, h1, _⟩
          · rw [h1, Int.pow_zero, Int.one_mul] at h; exact h
          · rw [h1] at h ⊢; simpa using h
        rcases hend with ⟨h1, _⟩ | ⟨h2, h1, _⟩
        · subst h1
          rw [show (4 : Int) - ((0 : Nat) : Int) = 4 by omega]
          go_wp2
          go_roundg q
          case rel => exact ⟨q, es, b, rfl, by omega, HQ.out, rfl, HB.out, HD.out, HN2.out, HE.out, HX1.out⟩
          case measure => exact hqm
        · have hl : l3 = 0 := HL3.out.2 h1
          have hk4 : (4 : Int) - (k : Int) < 4 := by omega
          have HH1 := Lib.hid h1
          clear h1
          subst hl
          go_wp2
          go_roundg q
          case rel => exact ⟨q, es, b, rfl, by omega, HQ.out, rfl, HB.out, HD.out, HN2.out, HE.out, HX1.out⟩
          case measure => exact hqm
end Go.Proofs.Yteoijnaljkagfaa
namespace Go.Proofs.Yteoijnaljkagfaa
open Go.RowKit

/-- A result of the program, with its error. -/
def ResX (w : World) (v : Value) (er : Int) (q : Rat) : Prop := (er = 0 ∧ RatC w v q ∧ FitQW q) ∨ (er ≠ 0 ∧ v = zeroR)
theorem ResX.ext {w w' : World} {v : Value} {er : Int} {q : Rat} (h : ResX w v er q) (he : Ext w w') : ResX w' v er q := by
  rcases h with ⟨h1, h2, h3⟩ | h
  · exact .inl ⟨h1, h2.ext he, h3⟩
  · exact .inr h
theorem ResX.open {w : World} {v : Value} {er : Int} {q : Rat} (h : ResX w v er q) : ∃ s A l c B m k, v = .agg #[.bool s, .slice A l c, .slice B m k] := by
  rcases h with ⟨_, h, _⟩ | ⟨_, rfl⟩
  · exact h.open
  · exact ⟨_, _, _, _, _, _, _, rfl⟩
/-- A result of the reference, with its error. -/
def ResQ (w : World) (v : Value) (er : Int) (q : Rat) : Prop := ∃ s A l c B m k, v = .agg #[.bool s, .slice A l c, .slice B m k] ∧ (er = 0 → QZ w v q)
theorem ResQ.ext {w w' : World} {v : Value} {er : Int} {q : Rat} (h : ResQ w v er q) (he : Ext w w') : ResQ w' v er q := by
  obtain ⟨s, A, l, c, B, m, k, h1, h2⟩ := h
  exact ⟨s, A, l, c, B, m, k, h1, fun h => (h2 h).ext he⟩
theorem ResQ.open {w : World} {v : Value} {er : Int} {q : Rat} (h : ResQ w v er q) : ∃ s A l c B m k, v = .agg #[.bool s, .slice A l c, .slice B m k] := by
  obtain ⟨s, A, l, c, B, m, k, h1, h2⟩ := h
  exact ⟨s, A, l, c, B, m, k, h1⟩
section
variable {w : World} {va vb : Value} {q r : Rat} {er : Int}
theorem fitR_512 (h : FitQ q 256) : FitR q 512 := by
  have h2 := fitR_double h
  rw [show 2 * 256 = 512 from rfl] at h2
  exact h2
end

end Go.Proofs.Yteoijnaljkagfaa
namespace Go.Proofs.Yteoijnaljkagfaa
open Go.RowKit

theorem ratsAt_one {w : World} {g : Nat} {T : TypeId} {s : Bool} {A B : Option Addr} {l c m k : Nat} {neg : Bool} {xs ys : List Int} (hB : Blk w g T #[.bool s, .slice A l c, .slice B m k]) (h : RatV w (.agg #[.bool s, .slice A l c, .slice B m k]) neg xs ys) : RatsAt w g 1 := by
  obtain ⟨A1, l1, c1, B1, m1, k1, e, h1, h2, h3, h4, h5, h6⟩ := h
  simp only [Value.agg.injEq, Array.mk.injEq, List.cons.injEq, Value.bool.injEq, Value.slice.injEq, and_true] at e
  obtain ⟨rfl, ⟨rfl, rfl, rfl⟩, rfl, rfl, rfl⟩ := e
  intro j hj
  obtain rfl : j = 0 := by omega
  exact ⟨_, _, _, _, _, _, _, _, hB.cell 1, hB.cell 2, h1, h4, by omega, by omega⟩
end Go.Proofs.Yteoijnaljkagfaa
