/- Natural numbers in memory: a slice of words that is the normal form of a number ('NatV'); how many words a number has ('Fit'); storing into a row of the call's own. -/
import Derived.Test.YteoijnaljkagfaaBase2
import Derived.Test.YteoijnaljkagfaaDig
namespace Go.Proofs.Yteoijnaljkagfaa
open Go.RowKit

/-- n has at most L digits. -/
def Fit (B : Int) (n L : Nat) : Prop := (n : Int) < B ^ L
section
variable {B : Int} {n m a b L : Nat} {xs : List Int}
theorem Fit.mul (hB : 0 < B) (h : Fit B n a) (k : Fit B m b) : Fit B (n * m) (a + b) := by
  unfold Fit at *
  rw [Int.pow_add, Int.natCast_mul]
  have h1 : (n : Int) * m ≤ n * B ^ b := Int.mul_le_mul_of_nonneg_left (by omega) (by omega)
  have h2 : (n : Int) * B ^ b < B ^ a * B ^ b := Int.mul_lt_mul_of_pos_right h (pow_pos' hB b)
  omega
theorem Fit.mono (hB : 1 ≤ B) (h : Fit B n a) (hl : a ≤ b) : Fit B n b := by
  have := pow_le (B := B) hB hl
  unfold Fit at *; omega
theorem Fit.le (h : Fit B n a) (hl : m ≤ n) : Fit B m a := by unfold Fit at *; omega
theorem Fit.add (hB : 2 ≤ B) (h : Fit B n a) (k : Fit B m a) : Fit B (n + m) (a + 1) := by
  unfold Fit at *
  rw [Int.pow_succ]
  have hp := pow_pos' (B := B) (by omega) a
  have : B ^ a * 2 ≤ B ^ a * B := Int.mul_le_mul_of_nonneg_left hB (Int.le_of_lt hp)
  omega
theorem Fit.of_rep (hB : 1 < B) (h : Rep B xs n) : Fit B n xs.length := h.lt hB
theorem Fit.len (hB : 1 < B) (h : Fit B n L) (hr : Rep B xs n) : xs.length ≤ L := hr.len_le hB h
theorem Fit.one (hB : 1 < B) (h : 0 < L) : Fit B 1 L := by
  have := pow_le (B := B) (a := 1) (b := L) (by omega) h
  unfold Fit; rw [Int.pow_succ, Int.pow_zero] at this; omega
theorem Fit.zero (hB : 0 < B) : Fit B 0 L := by have := pow_pos' hB L; unfold Fit; omega
end

/-- A value that is a slice of words, the normal form of n. -/
def NatV (k : IntKind) (B : Int) (w : World) (v : Value) (n : Nat) : Prop :=
  ∃ A m c xs, v = .slice A m c ∧ Ints k w A m xs ∧ Rep B xs n ∧ m ≤ c ∧ c ≤ 9223372036854775807
theorem NatV.ext {k : IntKind} {B : Int} {w w' : World} {v : Value} {n : Nat} (h : NatV k B w v n) (he : Ext w w') : NatV k B w' v n := by
  obtain ⟨A, m, c, xs, h1, h2, h3⟩ := h
  exact ⟨A, m, c, xs, h1, h2.ext he, h3⟩
theorem NatV.zero {k : IntKind} {B : Int} {w : World} : NatV k B w (.slice none 0 0) 0 := ⟨none, 0, 0, [], rfl, Ints.nil, Rep.nil, by omega, by omega⟩

/-- What a call returns that makes a number. -/
def RetN (k : IntKind) (B : Int) (w : World) (n : Nat) (e : Ending) (w' : World) : Prop := ∃ v, e = .returned v ∧ NatV k B w' v n ∧ Ext w w'

/-- Storing at place j of a row of the call's own. -/
theorem OwnS.store {k : IntKind} {e : TypeId} {base : Nat} {w : World} {A : Option Addr} {n c : Nat} {xs : List Int} (h : OwnS k e base w A n c xs) {j : Nat} (hj : j < n) :
    ∃ g x, A = some ⟨g, 0, none⟩ ∧ xs[j]? = some x ∧ (Lit.int k x).wf = true ∧ w.cell? ⟨g, j, none⟩ = some (.int k x) ∧ w.frozen? ⟨g, j, none⟩ = false ∧ base ≤ g ∧
      Hid (∀ u, (Lit.int k u).wf = true → OwnS k e base (w.setCell ⟨g, j, none⟩ (.int k u)) A n c (xs.set j u)) := by
  have hj' : j < xs.length := by rw [h.len]; exact hj
  have hown := h.own
  rcases hown.2 with ⟨_, h0⟩ | ⟨g, cap, cur, hv, hg, _⟩
  · omega
  · injection hv with hA _ _
    subst hA
    have hc := hown.cellAt j (by omega)
    rw [List.getElem?_map, List.getElem?_eq_getElem hj'] at hc
    refine ⟨g, xs[j], rfl, List.getElem?_eq_getElem hj', h.wf _ (List.getElem_mem hj'), hc, hown.frozenAt j, hg, fun u hu => ⟨?_, by rw [List.length_set, h.len], fun x hx => ?_⟩⟩
    · have := (hown.stored j (.int k u)).1
      rwa [← List.map_set] at this
    · rcases List.mem_or_eq_of_mem_set hx with hx | hx
      · exact h.wf x hx
      · subst hx; exact hu
theorem OwnS.get {k : IntKind} {e : TypeId} {base : Nat} {w : World} {A : Option Addr} {n c : Nat} {xs : List Int} (h : OwnS k e base w A n c xs) {j : Nat} (hj : j < n) :
    ∃ g x, A = some ⟨g, 0, none⟩ ∧ xs[j]? = some x ∧ (Lit.int k x).wf = true ∧ w.cell? ⟨g, j, none⟩ = some (.int k x) := by
  obtain ⟨g, x, h1, h2, h3, h4, _⟩ := h.store hj
  exact ⟨g, x, h1, h2, h3, h4⟩
/-- A beginning of a row of the call's own. -/
theorem OwnS.front {k : IntKind} {e : TypeId} {base : Nat} {w : World} {A : Option Addr} {n c : Nat} {xs : List Int} (h : OwnS k e base w A n c xs) {m : Nat} (hm : m ≤ n) : OwnS k e base w A m c (xs.take m) := by
  refine ⟨⟨by simp [h.len]; omega, ?_⟩, by rw [List.length_take, h.len]; omega, fun x hx => h.wf x (List.mem_of_mem_take hx)⟩
  rcases h.own.2 with ⟨hv, h0⟩ | ⟨g, cap, cur, hv, hg, hb, h1, h2, h3, h4⟩
  · injection hv with hA hn hc
    subst hA hc
    obtain rfl : m = 0 := by omega
    exact .inl ⟨rfl, rfl⟩
  · injection hv with hA hn hc
    subst hA hc
    refine .inr ⟨g, c, cur, rfl, hg, hb, by omega, h2, h3, ?_⟩
    simp only [Nat.mul_one] at h4 ⊢
    rw [List.map_take, ← h4, List.take_take, Nat.min_eq_left hm]
theorem OwnS.natv {k : IntKind} {e : TypeId} {base : Nat} {w : World} {A : Option Addr} {n c : Nat} {xs : List Int} {B : Int} {N : Nat} (h : OwnS k e base w A n c xs) (hr : Rep B xs N) : NatV k B w (.slice A n c) N :=
  ⟨A, n, c, xs, rfl, h.ints, hr, h.cap.1, h.cap.2⟩
/-- The row that 'make' makes. -/
theorem OwnS.made {k : IntKind} {e : TypeId} {base : Nat} {w : World} {g n c : Nat} (h : w.ownsRow base e 1 (.slice (some ⟨g, 0, none⟩) n c) n (List.replicate n (.int k 0))) : OwnS k e base w (some ⟨g, 0, none⟩) n c (List.replicate n 0) := by
  refine ⟨by simpa using h, by simp, fun x hx => ?_⟩
  have := (List.mem_replicate.1 hx).2
  subst this
  cases k <;> decide
end Go.Proofs.Yteoijnaljkagfaa
