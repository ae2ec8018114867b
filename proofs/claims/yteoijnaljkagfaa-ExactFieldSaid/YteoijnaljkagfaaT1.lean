/- Plain: the decimal digits of a number, and when a number's words stay as they are while another row grows; and the walk of word once more, with the block of its result. -/
import Derived.Test.YteoijnaljkagfaaN4
namespace Go.Proofs.Yteoijnaljkagfaa
open Go.RowKit

/-- The bytes of the decimal text of n. -/
def Dec (n : Nat) (s : List Int) : Prop := (n = 0 ∧ s = [48]) ∨ (n ≠ 0 ∧ ∃ xs, Rep 10 xs n ∧ s = (xs.map (48 + ·)).reverse)
theorem Dec.unique {n : Nat} {s t : List Int} (h : Dec n s) (k : Dec n t) : s = t := by
  rcases h with ⟨h0, rfl⟩ | ⟨h0, xs, hx, rfl⟩ <;> rcases k with ⟨k0, rfl⟩ | ⟨k0, ys, hy, rfl⟩
  · rfl
  · exact absurd h0 k0
  · exact absurd k0 h0
  · rw [Rep.unique (by omega) hx hy]

/-- A slice's words do not lie in the block 'row'. -/
def Sep (v : Value) (row : Option Nat) : Prop := ∀ A n c, v = .slice A n c → 0 < n → ∀ b off, A = some ⟨b, off, none⟩ → row ≠ some b
theorem Sep.nil (v : Value) : Sep v none := fun _ _ _ _ _ _ _ _ h => by cases h
theorem NatV.grown {k : IntKind} {B : Int} {w w' : World} {v : Value} {n : Nat} {row : Option Nat} (h : NatV k B w v n) (hg : w.grownBy w' row) (hs : Sep v row) : NatV k B w' v n := by
  obtain ⟨A, m, c, xs, rfl, ⟨h1, h2, h3⟩, h4⟩ := h
  refine ⟨A, m, c, xs, rfl, ⟨h1, h2, fun hn => ?_⟩, h4⟩
  obtain ⟨b, off, hA, hc⟩ := h3 hn
  have hm : 0 < m := by
    rw [← h1]; rcases xs with _ | ⟨x, xs⟩
    · simp at hn
    · simp
  refine ⟨b, off, hA, fun j v hv => ?_⟩
  have hcell := hc j v hv
  rw [← hcell]
  exact World.cell?_of_block (w := w) (hg.block b (World.block_lt_of_cell? w _ hcell) (fun e => hs A m c rfl hm b off hA e.symm))
theorem Sep.new {k : IntKind} {B : Int} {w : World} {v : Value} {n : Nat} (h : NatV k B w v n) {s : Nat} (hs : w.heap.size ≤ s) : Sep v (some s) := by
  obtain ⟨A, m, c, xs, rfl, ⟨h1, h2, h3⟩, h4⟩ := h
  intro A' n' c' e hn b off hA hb
  injection e with e1 e2 e3
  subst e1 e2 e3
  rcases xs with _ | ⟨x, xs⟩
  · simp at h1; omega
  · obtain ⟨b', off', hA', hc⟩ := h3 (by simp)
    rw [hA] at hA'
    injection hA' with hA'
    injection hA' with hb' _ _
    subst hb'
    have := World.block_lt_of_cell? w _ (hc 0 _ rfl)
    injection hb with hb
    simp only at this
    omega
theorem Sep.fresh {w : World} {base : Nat} {e : TypeId} {size m c l : Nat} {v : Value} {vs : List Value} (h : w.ownsRow base e size v l vs) : Sep (.slice (some ⟨w.heap.size, 0, none⟩) m c) v.ownBlock := by
  intro A' n' c' e' hn b off hA hb
  injection e' with e1 e2 e3
  subst e1
  injection hA with hA
  injection hA with hA
  subst hA
  rcases h.2 with ⟨rfl, _⟩ | ⟨g, cap, cur, rfl, hg, hb', _⟩
  · cases hb
  · have : g = w.heap.size := by simpa [Value.ownBlock] using hb
    subst this
    have := Array.getElem?_eq_some_iff.1 hb'
    obtain ⟨h1, _⟩ := this
    omega

/-- What word returns, with the block of the quotient. -/
def RetWS (w : World) (q : Nat) (r : Int) (e : Ending) (w' : World) : Prop := ∃ m c, e = .returned (.tuple #[.slice (some ⟨w.heap.size, 0, none⟩) m c, .int .u32 r]) ∧ W32 w' (.slice (some ⟨w.heap.size, 0, none⟩) m c) q ∧ Ext w w'

set_option maxHeartbeats 1000000 in
theorem word_sep (va : Value) (n La : Nat) (d : Int) (w : World) (ha : W32 w va n) (hn : Fit 4294967296 n La) (hL : La ≤ 1099511627776) (hd0 : 0 < d) (hd1 : d ≤ 4294967295) :
    Calls Try.prog 135 #[va, .int .u32 d] w (RetWS w (n / d.toNat) ((n : Int) % d)) := by
  obtain ⟨A, la, ca, xs, rfl, hA, hrx, hca, hcam⟩ := ha
  have hla := hn.len (by omega) hrx
  rw [hA.1] at hla
  have HA := Lib.hid hA
  have HN := Lib.hid hrx
  have HLA : Hid (xs.length = la) := hA.1
  clear hA hrx hn
  go_enter Try.func135, Try.ntmps135
  go_wp2_with (at_make; refine wpList_mk _ elW rfl rfl _ _ rfl w.heap.size _ _ _ _ la la rfl rfl (by omega) (by omega) (Nat.le_refl _) (by omega) (by unfold maxLen; omega) (Nat.le_refl _) ?_; intro w1 hown1 hext1 hsz1)
  have HO1 := Lib.hid (OwnS.made hown1)
  have HX1 := Lib.hid hext1
  clear hown1 hext1 hsz1
  go_loopg [7, 8] (la + 1) (fun g rs i wr => ∃ (k : Nat) (r : Int) (out : List Int), g = k + 1 ∧ k ≤ la ∧ i = .int .i64 ((k : Int) - 1) ∧ rs = .int .u64 r ∧ 0 ≤ r ∧ r < d ∧ OwnS .u32 79 w.heap.size wr (some ⟨w.heap.size, 0, none⟩) la la out ∧ Hid (val 4294967296 (xs.drop k) = d * val 4294967296 (out.drop k) + r) ∧ Ext w wr)
  case atStart => exact ⟨la, 0, _, rfl, Nat.le_refl _, rfl, rfl, by omega, hd0, HO1.out, by
    rw [List.drop_eq_nil_of_le (by rw [HLA.out]; exact Nat.le_refl _), List.drop_eq_nil_of_le (by simp)]; simp [Hid, val], HX1.out⟩
  case round =>
    obtain ⟨k, r, out, rfl, hk, rfl, rfl, hr0, hr1, hO, hI, hX⟩ := hrel
    have HX := Lib.hid hX
    have HO := Lib.hid hO
    clear hX hO
    rcases Nat.eq_zero_or_pos k with h0 | h0
    · subst h0
      rw [show (((0 : Nat) : Int) - 1) = -1 by omega]
      have hv := hI.out
      rw [List.drop_zero, List.drop_zero, HN.out.2.2] at hv
      have hvn := val_nonneg (B := 4294967296) (by omega) (dg32 HO.out.ints)
      obtain ⟨q, hq⟩ := Int.eq_ofNat_of_zero_le hvn
      have e1 : (n : Int) / d = q := by rw [hv, hq, Int.add_comm, Int.add_mul_ediv_left _ _ (by omega), Int.ediv_eq_zero_of_lt hr0 hr1]; omega
      have e2 : (n : Int) % d = r := by rw [hv, Int.add_comm, Int.add_mul_emod_self_left]; exact Int.emod_eq_of_lt hr0 hr1
      have e3 : n / d.toNat = q := by
        have h1 : ((n / d.toNat : Nat) : Int) = (n : Int) / (d.toNat : Int) := Int.natCast_ediv ..
        rw [Int.toNat_of_nonneg (by omega), e1] at h1; omega
      have E2 := Lib.hid e2
      have E3 := Lib.hid e3
      have HV := Lib.hid hq
      clear hv hvn hq e1 e2 e3
      have hrw : IntKind.u32.wrap r = r := IntWalk.u32_in _ (by omega)
      go_wp2_with fail
      refine (norm_any _ _ _ _ _ HO.out.ints (by omega) (by omega)).mono ?_
      rintro e w' ⟨m, hm, hN, hv, rfl, rfl⟩
      have HW := Lib.hid (RetNorm.natv (N := q) (c := la) HO.out.ints hm hN hv HV.out (by omega) (by omega))
      clear hm hN hv
      go_wp2
      go_ret2
      exact ⟨_, _, by rw [E2.out]; rfl, by rw [E3.out]; exact HW.out, HX.out⟩
    · obtain ⟨i, rfl⟩ : ∃ i, k = i + 1 := ⟨k - 1, by omega⟩
      obtain ⟨b1, o1, x, hAe, hx, hwf, hcx⟩ := (HA.out.ext HX.out).get (j := i) (by omega)
      subst hAe
      obtain ⟨hx0, hx1⟩ := u32_bounds hwf
      obtain ⟨g, z, hg, hz, _, hcz, hfz, _, hst⟩ := HO.out.store (j := i) (by omega)
      obtain rfl : w.heap.size = g := by injection hg with hg; injection hg
      have hi1 : (((i + 1 : Nat) : Int) - 1) = (i : Int) := by omega
      have hi2 : (i : Int) < (la : Int) := by omega
      have hi0 : (0 : Int) ≤ (i : Int) := by omega
      rw [hi1]
      have hor : bits .or .u64 (r * 4294967296) x = r * 4294967296 + x := or64_add 32 (by omega) (by omega) (by omega) (by omega)
      obtain ⟨hq1, hq0⟩ := word_digit ⟨hr0, hr1⟩ ⟨hx0, hx1⟩
      have HI := Lib.hid (word_step (d := d) (r := r) (t := r * 4294967296 + x) hI.out (by rw [HO.out.len]; omega) hx rfl)
      obtain ⟨t, ht⟩ : ∃ t, r * 4294967296 + x = t := ⟨_, rfl⟩
      have ht0 : 0 ≤ t := by omega
      have ht1 : t ≤ 18446744073709551615 := by omega
      rw [ht] at hor hq1 hq0 HI
      have HS := Lib.hid (hst.out (t / d) (wf32 (by omega)))
      have hm0 := Int.emod_nonneg t (show d ≠ 0 by omega)
      have hm1 := Int.emod_lt_of_pos t hd0
      clear hx hwf hz hg hi1 hst ht
      go_wp2
      go_roundg (i + 1)
      case rel => exact ⟨i, t % d, _, rfl, by omega, by go_num, rfl, hm0, hm1, HS.out, HI.out, HX.out.setCell (Nat.le_refl _) _⟩
      case measure => omega

/-- One decimal digit more. -/
theorem dec_step {es : List Int} {r N : Int} {m j : Nat} (hd : Dg 10 es) (hr : 0 ≤ r) (hr1 : r < 10 ^ (j + 1)) (h : val 10 es + 10 ^ es.length * (r + 10 ^ (j + 1) * (m : Int)) = N) :
    Dg 10 (es ++ [r % 10]) ∧ 0 ≤ r / 10 ∧ r / 10 < 10 ^ j ∧ val 10 (es ++ [r % 10]) + 10 ^ (es ++ [r % 10]).length * (r / 10 + 10 ^ j * (m : Int)) = N := by
  refine ⟨hd.append (Dg.one (by omega)), by omega, ?_, ?_⟩
  · rw [Int.pow_succ] at hr1; omega
  · rw [val_snoc, List.length_append, List.length_singleton, Int.pow_succ, ← h]
    have e : r = r % 10 + 10 * (r / 10) := by omega
    generalize hq : r / 10 = q at *
    generalize r % 10 = s at *
    subst e
    rw [Int.pow_succ]
    grind
theorem dec_len {es : List Int} {n m L : Nat} (hn : Fit 4294967296 n L) (hd : Dg 10 es) (h : val 10 es + 10 ^ es.length * (m : Int) = n) (hm : 0 < m) : es.length < 32 * L + 1 := by
  have h0 := val_nonneg (B := 10) (by omega) hd
  have h1 : (10 : Int) ^ es.length ≤ n := by
    have : (10 : Int) ^ es.length * 1 ≤ 10 ^ es.length * (m : Int) := Int.mul_le_mul_of_nonneg_left (by omega) (Int.le_of_lt (Int.pow_pos (by omega)))
    omega
  have h2 : (2 : Int) ^ es.length ≤ 10 ^ es.length := by
    have : (2 : Nat) ^ es.length ≤ 10 ^ es.length := Nat.pow_le_pow_left (by omega) _
    exact_mod_cast this
  have h3 : (4294967296 : Int) ^ L = 2 ^ (32 * L) := by rw [Int.pow_mul]; rfl
  unfold Fit at hn
  rw [h3] at hn
  rcases Nat.lt_or_ge es.length (32 * L + 1) with h4 | h4
  · exact h4
  · have := pow_le (B := 2) (a := 32 * L) (b := es.length) (by omega) (by omega)
    omega
/-- The reversal half done. -/
def RevAt (xs ys : List Int) (i : Nat) : Prop := ys.length = xs.length ∧ ∀ k, k < xs.length → ys[k]? = if k < i ∨ xs.length - 1 - i < k then xs[xs.length - 1 - k]? else xs[k]?
theorem RevAt.zero (xs : List Int) : RevAt xs xs 0 := ⟨rfl, fun k hk => by rw [if_neg (by omega)]⟩
theorem RevAt.done {xs ys : List Int} {i : Nat} (h : RevAt xs ys i) (hi : xs.length ≤ i + (i + 1)) : ys = xs.reverse := by
  apply List.ext_getElem?
  intro k
  rcases Nat.lt_or_ge k xs.length with hk | hk
  · rw [h.2 k hk, List.getElem?_reverse hk]
    split
    · rfl
    · have : k = xs.length - 1 - k := by omega
      rw [← this]
  · rw [List.getElem?_eq_none (by rw [h.1]; exact hk), List.getElem?_eq_none (by simpa using hk)]
theorem RevAt.step {xs ys : List Int} {i j : Nat} {x y : Int} (h : RevAt xs ys i) (hij : i + j + 1 = xs.length) (hlt : i < j) (hx : ys[i]? = some x) (hy : ys[j]? = some y) : RevAt xs ((ys.set i y).set j x) (i + 1) := by
  refine ⟨by simpa using h.1, fun k hk => ?_⟩
  have hl := h.1
  rw [h.2 i (by omega), if_neg (by omega)] at hx
  rw [h.2 j (by omega), if_neg (by omega)] at hy
  rw [List.getElem?_set, List.getElem?_set]
  by_cases h1 : j = k
  · subst h1
    rw [if_pos rfl, if_pos (by simp; omega), if_pos (by omega), show xs.length - 1 - j = i by omega, hx]
  · rw [if_neg h1]
    by_cases h2 : i = k
    · subst h2
      rw [if_pos rfl, if_pos (by omega), if_pos (by omega), show xs.length - 1 - i = j by omega, hy]
    · rw [if_neg h2, h.2 k hk]
      by_cases h3 : k < i ∨ xs.length - 1 - i < k
      · rw [if_pos h3, if_pos (by omega)]
      · rw [if_neg h3, if_neg (by omega)]
end Go.Proofs.Yteoijnaljkagfaa
