/- Walks: number32 (program) and big (reference): the number of bytes, the most significant one first. Condition: the slice reads as bytes and has enough of them. -/
import Derived.Test.YtekhmfliaojabaaChecked
import Derived.Test.YtekhmfliaojabaaBase
namespace Go.Proofs.Ytekhmfliaojabaa
open Go.RowKit

/-- The number that bytes denote, the most significant one first. -/
def bigN (xs : List Int) : Int := xs.foldl (fun n x => n * 256 + x) 0
theorem bigN_snoc (xs : List Int) (x : Int) : bigN (xs ++ [x]) = bigN xs * 256 + x := by simp [bigN]
theorem bigN_fold {xs : List Int} (h : ∀ x ∈ xs, 0 ≤ x ∧ x ≤ 255) (a : Int) (ha : 0 ≤ a) : 0 ≤ xs.foldl (fun n x => n * 256 + x) a ∧ xs.foldl (fun n x => n * 256 + x) a < (a + 1) * 256 ^ xs.length := by
  induction xs generalizing a with
  | nil => simp; omega
  | cons x xs ih =>
    have hx := h x (List.mem_cons_self ..)
    have := ih (fun y hy => h y (List.mem_cons_of_mem _ hy)) (a * 256 + x) (by omega)
    refine ⟨this.1, Int.lt_of_lt_of_le this.2 ?_⟩
    rw [List.length_cons, Int.pow_succ, Int.mul_comm (256 ^ xs.length) 256, ← Int.mul_assoc]
    exact Int.mul_le_mul_of_nonneg_right (by omega) (Int.pow_nonneg (by omega))
theorem bigN_range {xs : List Int} (h : ∀ x ∈ xs, 0 ≤ x ∧ x ≤ 255) : 0 ≤ bigN xs ∧ bigN xs < 256 ^ xs.length := by
  have := bigN_fold h 0 (by omega)
  simpa [bigN] using this
theorem bigN_take_succ {xs : List Int} {k : Nat} {x : Int} (h : xs[k]? = some x) : bigN (xs.take (k + 1)) = bigN (xs.take k) * 256 + x := by
  rw [List.take_add_one, h]; exact bigN_snoc _ _
theorem bigN_four (x0 x1 x2 x3 : Int) : bigN [x0, x1, x2, x3] = x0 * 16777216 + x1 * 65536 + x2 * 256 + x3 := by simp [bigN]; omega

theorem or32_add (i a b : Nat) (ha : a % 2 ^ i = 0) (hb : b < 2 ^ i) (hs : a + b < 4294967296) : bits .or .u32 (a : Int) (b : Int) = ((a + b : Nat) : Int) := by
  rw [u32_or_nat a b (by omega) (by omega), nat_join i a b ha hb]
theorem or_four {x0 x1 x2 x3 : Int} (h0 : 0 ≤ x0 ∧ x0 ≤ 255) (h1 : 0 ≤ x1 ∧ x1 ≤ 255) (h2 : 0 ≤ x2 ∧ x2 ≤ 255) (h3 : 0 ≤ x3 ∧ x3 ≤ 255) :
    bits .or .u32 (bits .or .u32 (bits .or .u32 (x0 * 16777216) (x1 * 65536)) (x2 * 256)) x3 = bigN [x0, x1, x2, x3] := by
  obtain ⟨a0, rfl⟩ := Int.eq_ofNat_of_zero_le h0.1
  obtain ⟨a1, rfl⟩ := Int.eq_ofNat_of_zero_le h1.1
  obtain ⟨a2, rfl⟩ := Int.eq_ofNat_of_zero_le h2.1
  obtain ⟨a3, rfl⟩ := Int.eq_ofNat_of_zero_le h3.1
  have e0 : ((a0 : Int) * 16777216) = ((a0 * 16777216 : Nat) : Int) := by simp
  have e1 : ((a1 : Int) * 65536) = ((a1 * 65536 : Nat) : Int) := by simp
  have e2 : ((a2 : Int) * 256) = ((a2 * 256 : Nat) : Int) := by simp
  rw [e0, e1, e2, or32_add 24 _ _ (by omega) (by omega) (by omega), or32_add 16 _ _ (by omega) (by omega) (by omega), or32_add 8 _ _ (by omega) (by omega) (by omega), bigN_four]
  omega

set_option maxHeartbeats 400000 in
theorem number32_at (b off n c : Nat) (x0 x1 x2 x3 : Int) (w : World) (hn : 4 ≤ n) (hb0 : 0 ≤ x0 ∧ x0 ≤ 255) (hb1 : 0 ≤ x1 ∧ x1 ≤ 255) (hb2 : 0 ≤ x2 ∧ x2 ≤ 255) (hb3 : 0 ≤ x3 ∧ x3 ≤ 255)
    (hc0 : w.cell? ⟨b, off, none⟩ = some (.int .u8 x0)) (hc1 : w.cell? ⟨b, off + 1, none⟩ = some (.int .u8 x1)) (hc2 : w.cell? ⟨b, off + 2, none⟩ = some (.int .u8 x2)) (hc3 : w.cell? ⟨b, off + 3, none⟩ = some (.int .u8 x3)) :
    Calls Try.prog 72 #[.slice (some ⟨b, off, none⟩) n c] w fun e w' => e = .returned (.int .u32 (bigN [x0, x1, x2, x3])) ∧ ∃ m, w' = w.drewN m := by
  have hor := Lib.hid (or_four hb0 hb1 hb2 hb3)
  obtain ⟨ha0, hb0⟩ := hb0
  obtain ⟨ha1, hb1⟩ := hb1
  obtain ⟨ha2, hb2⟩ := hb2
  obtain ⟨ha3, hb3⟩ := hb3
  have e0 : (0 : Int) < (n : Int) := by omega
  have e1 : (1 : Int) < (n : Int) := by omega
  have e2 : (2 : Int) < (n : Int) := by omega
  have e3 : (3 : Int) < (n : Int) := by omega
  go_enter Try.func72, Try.ntmps72
  go_wp2
  go_quiet (fail)
  go_wp2
  go_ret
  refine ⟨?_, nq, rfl⟩
  rw [← hor.out]
  rfl

theorem take_four {xs : List Int} (h : 4 ≤ xs.length) : ∃ x0 x1 x2 x3, xs[0]? = some x0 ∧ xs[1]? = some x1 ∧ xs[2]? = some x2 ∧ xs[3]? = some x3 ∧ xs.take 4 = [x0, x1, x2, x3] := by
  match xs, h with
  | x0 :: x1 :: x2 :: x3 :: xs, _ => exact ⟨x0, x1, x2, x3, rfl, rfl, rfl, rfl, rfl⟩

theorem number32_any (A : Option Addr) (n c : Nat) (xs : List Int) (w : World) (h : Ints .u8 w A n xs) (hn : 4 ≤ n) :
    Calls Try.prog 72 #[.slice A n c] w fun e w' => e = .returned (.int .u32 (bigN (xs.take 4))) ∧ ∃ m, w' = w.drewN m := by
  obtain ⟨x0, x1, x2, x3, h0, h1, h2, h3, ht⟩ := take_four (by rw [h.1]; exact hn)
  have hb : ∀ x ∈ xs, 0 ≤ x ∧ x ≤ 255 := fun x hx => u8_bounds (h.2.1 x hx)
  have ho := h.2.2 (by intro e; have := h.1; rw [List.map_eq_nil_iff] at e; subst e; simp at this; omega)
  obtain ⟨b, off, rfl, hc⟩ := ho
  rw [ht]
  have g : ∀ j x, xs[j]? = some x → w.cell? ⟨b, off + j, none⟩ = some (.int .u8 x) := fun j x hx => hc j _ (by rw [List.getElem?_map, hx]; rfl)
  exact number32_at b off n c x0 x1 x2 x3 w hn (hb _ (List.mem_of_getElem? h0)) (hb _ (List.mem_of_getElem? h1)) (hb _ (List.mem_of_getElem? h2)) (hb _ (List.mem_of_getElem? h3)) (g 0 _ h0) (g 1 _ h1) (g 2 _ h2) (g 3 _ h3)

set_option maxHeartbeats 400000 in
theorem big_any (A : Option Addr) (n c : Nat) (xs : List Int) (w : World) (h : Ints .u8 w A n xs) (hn : n ≤ 4) :
    Calls Try.prog 73 #[.slice A n c] w fun e w' => e = .returned (.int .u64 (bigN xs)) ∧ w = w' := by
  have H := Lib.hid h
  have hb : Hid (∀ x ∈ xs, 0 ≤ x ∧ x ≤ 255) := fun x hx => u8_bounds (h.2.1 x hx)
  clear h
  go_enter Try.func73, Try.ntmps73
  go_wp2
  go_loopg [3, 7] n (fun g s i wr => ∃ (k : Nat) (v : Int), g = n - k ∧ k ≤ n ∧ i = .int .i64 k ∧ s = .int .u64 v ∧ v = bigN (xs.take k) ∧ w = wr)
  case atStart => exact ⟨0, 0, rfl, by omega, rfl, rfl, by simp [bigN], rfl⟩
  case round =>
    obtain ⟨k, v, rfl, hk, rfl, rfl, hv, rfl⟩ := hrel
    have HV := Lib.hid hv
    clear hv
    by_cases hlt : k < n
    · obtain ⟨bl, off, x, rfl, hx, hwf, hc⟩ := H.out.get hlt
      obtain ⟨hx0, hx1⟩ := u8_bounds hwf
      have HX := Lib.hid hx
      clear hx hwf
      have hr := bigN_range (xs := xs.take k) (fun x hx => hb.out x (List.mem_of_mem_take hx))
      rw [← HV.out] at hr
      obtain ⟨hv0, hv1⟩ := hr
      have hv2 : v ≤ 16777215 := by
        have e : (xs.take k).length ≤ 3 := by rw [List.length_take]; omega
        have : (256 : Int) ^ (xs.take k).length ≤ 256 ^ 3 := by
          have h1 := Nat.pow_le_pow_right (n := 256) (by omega) e
          have e1 : ((256 ^ (xs.take k).length : Nat) : Int) = 256 ^ (xs.take k).length := by simp
          have e2 : ((256 ^ 3 : Nat) : Int) = 256 ^ 3 := by simp
          omega
        have : (256 : Int) ^ 3 = 16777216 := by decide
        omega
      clear hv1
      go_wp2
      go_roundg (n - (k + 1))
      case rel => exact ⟨k + 1, _, rfl, by omega, by go_num, rfl, by rw [bigN_take_succ HX.out, HV.out], rfl⟩
      case measure => omega
    · go_wp2
      go_ret
      refine ⟨?_, rfl⟩
      have ht : xs.take k = xs := List.take_of_length_le (by have := H.out.1; omega)
      have hv := HV.out
      rw [ht] at hv
      rw [← hv]
      rfl
end Go.Proofs.Ytekhmfliaojabaa
