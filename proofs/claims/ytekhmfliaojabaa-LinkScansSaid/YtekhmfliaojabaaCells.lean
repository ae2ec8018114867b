/- Lists of structs in memory, over whatever relation between the cells of one element and the element. Plain lemmas over the model. -/
import Derived.Test.YtekhmfliaojabaaBase2
namespace Go.Proofs.Ytekhmfliaojabaa
open Go.RowKit

/-- The cells 'vs' are those of the elements 'xs', one behind the other. -/
def CsR {α : Type} (R : List Value → α → Prop) : List Value → List α → Prop
  | vs, [] => vs = []
  | vs, x :: xs => ∃ cs rest, vs = cs ++ rest ∧ R cs x ∧ CsR R rest xs
section
variable {α : Type} {R R' : List Value → α → Prop} {vs cs : List Value} {xs : List α} {x : α}
theorem CsR.imp (h : CsR R vs xs) (hi : ∀ cs x, R cs x → R' cs x) : CsR R' vs xs := by
  induction xs generalizing vs with
  | nil => exact h
  | cons y ys ih =>
    obtain ⟨cs, rest, h1, h2, h3⟩ := h
    exact ⟨cs, rest, h1, hi _ _ h2, ih h3⟩
theorem CsR.nil : CsR R [] [] := rfl
theorem CsR.snoc (h : CsR R vs xs) (hx : R cs x) : CsR R (vs ++ cs) (xs ++ [x]) := by
  induction xs generalizing vs with
  | nil =>
    obtain rfl : vs = [] := h
    exact ⟨cs, [], by simp, hx, rfl⟩
  | cons y ys ih =>
    obtain ⟨ds, rest, rfl, h2, h3⟩ := h
    exact ⟨ds, rest ++ cs, by simp, h2, ih h3⟩
theorem CsR.append {us : List Value} {ys : List α} (h : CsR R vs xs) (k : CsR R us ys) : CsR R (vs ++ us) (xs ++ ys) := by
  induction xs generalizing vs with
  | nil =>
    obtain rfl : vs = [] := h
    exact k
  | cons y zs ih =>
    obtain ⟨ds, rest, rfl, h2, h3⟩ := h
    exact ⟨ds, rest ++ us, by simp, h2, ih h3⟩
theorem CsR.len {k : Nat} (h : CsR R vs xs) (hk : ∀ cs x, R cs x → cs.length = k) : vs.length = xs.length * k := by
  induction xs generalizing vs with
  | nil => obtain rfl : vs = [] := h; simp
  | cons y ys ih =>
    obtain ⟨cs, rest, rfl, h2, h3⟩ := h
    rw [List.length_append, hk _ _ h2, ih h3, List.length_cons, Nat.succ_mul]; omega
theorem CsR.one (h : CsR R vs xs) (hk : ∀ cs x, R cs x → ∀ u ∈ cs, u.oneCell' = true) : ∀ u ∈ vs, u.oneCell' = true := by
  induction xs generalizing vs with
  | nil => obtain rfl : vs = [] := h; simp
  | cons y ys ih =>
    obtain ⟨cs, rest, rfl, h2, h3⟩ := h
    intro u hu
    rcases List.mem_append.1 hu with hu | hu
    · exact hk _ _ h2 u hu
    · exact ih h3 u hu
theorem CsR.get {k : Nat} (h : CsR R vs xs) (hk : ∀ cs x, R cs x → cs.length = k) {j : Nat} (hj : xs[j]? = some x) : ∃ cs, R cs x ∧ ∀ i u, cs[i]? = some u → vs[j * k + i]? = some u := by
  induction xs generalizing vs j with
  | nil => simp at hj
  | cons y ys ih =>
    obtain ⟨cs, rest, rfl, h2, h3⟩ := h
    cases j with
    | zero =>
      simp at hj
      subst hj
      refine ⟨cs, h2, fun i u hu => ?_⟩
      have hi := (List.getElem?_eq_some_iff.1 hu).1
      rw [Nat.zero_mul, Nat.zero_add, List.getElem?_append_left hi, hu]
    | succ j =>
      obtain ⟨ds, h4, h5⟩ := ih h3 (by simpa using hj)
      refine ⟨ds, h4, fun i u hu => ?_⟩
      have hl := hk _ _ h2
      rw [Nat.succ_mul, List.getElem?_append_right (by omega), ← h5 i u hu]
      congr 1; omega
end

theorem At.new' (w : World) (vs : List Value) (t : TypeId) {N : Nat} (h : w.heap.size = N) : At (w.alloc (.cells vs.toArray t)) (some ⟨N, 0, none⟩) vs := by
  subst h; exact At.new w vs t

/-- Two rows of different element types never share a block. -/
theorem own_ne {w : World} {base base' : Nat} {e e' : TypeId} {size size' n n' : Nat} {v v' : Value} {vs vs' : List Value} (h : w.ownsRow base e size v n vs) (h' : w.ownsRow base' e' size' v' n' vs') (hne : e ≠ e') : v.ownBlock = none ∨ v.ownBlock ≠ v'.ownBlock := by
  rcases h.2 with ⟨rfl, _⟩ | ⟨g, cap, cur, rfl, _, hg, _⟩
  · exact .inl rfl
  · right
    rcases h'.2 with ⟨rfl, _⟩ | ⟨g', cap', cur', rfl, _, hg', _⟩
    · simp [Value.ownBlock]
    · intro he
      simp [Value.ownBlock] at he
      subst he
      rw [hg] at hg'
      injection hg' with hg'
      injection hg' with _ h3
      exact hne h3
theorem OwnS.kept {k : IntKind} {e e' : TypeId} {base base' size' n n' c : Nat} {w w' : World} {A : Option Addr} {xs : List Int} {v' : Value} {vs' : List Value} (h : OwnS k e base w A n c xs) (h' : w.ownsRow base' e' size' v' n' vs') (hne : e ≠ e') (hg : w.grownBy w' v'.ownBlock) : OwnS k e base w' A n c xs :=
  ⟨h.own.kept hg (own_ne h.own h' hne), h.len, h.wf⟩
end Go.Proofs.Ytekhmfliaojabaa
