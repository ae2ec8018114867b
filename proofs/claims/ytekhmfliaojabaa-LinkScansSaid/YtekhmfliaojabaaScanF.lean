/- Plain: what Scan finds in bytes ('scan'); lists of frames in memory. -/
import Derived.Test.YtekhmfliaojabaaPackF
import Derived.Test.YtekhmfliaojabaaDamage
import Derived.Test.YtekhmfliaojabaaCells
namespace Go.Proofs.Ytekhmfliaojabaa
open Go.RowKit

/-- What goes before what is found behind it. -/
def preS (fs : List Fr) (s : Nat) (r : List Fr × Nat × Nat) : List Fr × Nat × Nat := (fs ++ r.1, s + r.2.1, r.2.2)
theorem preS_preS (fs gs : List Fr) (s t : Nat) (r : List Fr × Nat × Nat) : preS fs s (preS gs t r) = preS (fs ++ gs) (s + t) r := by
  simp [preS, Nat.add_assoc]
theorem preS_nil (r : List Fr × Nat × Nat) : preS [] 0 r = r := by simp [preS]

def scn : Nat → List Int → List Fr × Nat × Nat
  | 0, xs => ([], 0, xs.length)
  | f + 1, xs => if (unp xs).2.2 = 21 then ([], 0, xs.length) else if (unp xs).2.2 = 0 then preS [(unp xs).1] 0 (scn f (xs.drop (12 + szN xs))) else preS [] 1 (scn f (xs.drop 1))

/-- What Scan finds: the frames, how many bytes were skipped, how many are left. -/
def scan (xs : List Int) : List Fr × Nat × Nat := scn xs.length xs

theorem unp_nil : unp [] = (fr0, 0, 21) := unp_none rfl

theorem scn_more : ∀ (f : Nat) (xs : List Int), xs.length ≤ f → scn f xs = scn xs.length xs := by
  intro f
  induction f using Nat.strongRecOn with
  | _ f ih =>
    intro xs hl
    rcases Nat.eq_or_lt_of_le hl with h | h
    · rw [h]
    · cases f with
      | zero => omega
      | succ f =>
        cases hx : xs.length with
        | zero =>
          obtain rfl : xs = [] := List.eq_nil_of_length_eq_zero hx
          simp [scn, unp_nil]
        | succ m =>
          simp only [scn]
          have h1 : scn f (xs.drop 1) = scn m (xs.drop 1) := by
            rw [ih f (by omega) (xs.drop 1) (by simp; omega)]
            rw [show (xs.drop 1).length = m by simp; omega]
          by_cases he : (unp xs).2.2 = 0
          · have hg := unp_good he
            have h2 : scn f (xs.drop (12 + szN xs)) = scn m (xs.drop (12 + szN xs)) := by
              rw [ih f (by omega) _ (by simp; omega), ← ih m (by omega) _ (by simp; omega)]
            rw [h2]; simp [he]
          · rw [h1]; simp only [he, if_false]

theorem scan_short {xs : List Int} (h : (unp xs).2.2 = 21) : scan xs = ([], 0, xs.length) := by
  unfold scan
  cases hx : xs.length with
  | zero => simp [scn, hx]
  | succ m => simp [scn, h, hx]
theorem scan_ok {xs : List Int} (h : (unp xs).2.2 = 0) : scan xs = preS [(unp xs).1] 0 (scan (xs.drop (12 + szN xs))) := by
  have hg := unp_good h
  unfold scan
  cases hx : xs.length with
  | zero => omega
  | succ m =>
    simp only [scn, h]
    rw [scn_more m _ (by simp; omega)]
    simp
theorem scan_skip {xs : List Int} (h0 : (unp xs).2.2 ≠ 0) (h1 : (unp xs).2.2 ≠ 21) : scan xs = preS [] 1 (scan (xs.drop 1)) := by
  unfold scan
  cases hx : xs.length with
  | zero =>
    obtain rfl : xs = [] := List.eq_nil_of_length_eq_zero hx
    rw [unp_nil] at h1; simp at h1
  | succ m =>
    simp only [scn, h0, h1, if_false]
    rw [scn_more m _ (by simp; omega), show (xs.drop 1).length = m by simp; omega]

/-- Where a scan stands: at place k, the frames fs were found and s bytes were skipped. -/
def ScanAt (xs : List Int) (k : Nat) (fs : List Fr) (s : Nat) : Prop := k ≤ xs.length ∧ scan xs = preS fs s (scan (xs.drop k))
theorem ScanAt.start (xs : List Int) : ScanAt xs 0 [] 0 := ⟨by omega, by simp [preS]⟩
theorem ScanAt.done {xs : List Int} {k s : Nat} {fs : List Fr} (h : ScanAt xs k fs s) (he : (unp (xs.drop k)).2.2 = 21) : scan xs = (fs, s, xs.length - k) := by
  rw [h.2, scan_short he]; simp [preS]
theorem ScanAt.found {xs : List Int} {k s : Nat} {fs : List Fr} (h : ScanAt xs k fs s) (he : (unp (xs.drop k)).2.2 = 0) : ScanAt xs (k + (12 + szN (xs.drop k))) (fs ++ [(unp (xs.drop k)).1]) s := by
  have hg := unp_good he
  refine ⟨by have := h.1; simp at hg; omega, ?_⟩
  rw [h.2, scan_ok he, preS_preS, List.drop_drop]; simp
theorem ScanAt.skip {xs : List Int} {k s : Nat} {fs : List Fr} (h : ScanAt xs k fs s) (h0 : (unp (xs.drop k)).2.2 ≠ 0) (h1 : (unp (xs.drop k)).2.2 ≠ 21) : ScanAt xs (k + 1) fs (s + 1) := by
  have hk : k < xs.length := by
    rcases Nat.lt_or_ge k xs.length with hk | hk
    · exact hk
    · rw [List.drop_eq_nil_of_le hk, unp_nil] at h1; simp at h1
  refine ⟨by omega, ?_⟩
  rw [h.2, scan_skip h0 h1, preS_preS, List.drop_drop]; simp

theorem unp_len {xs : List Int} (h : (unp xs).2.2 = 0) : (unp xs).2.1 = 12 + (szN xs : Int) := by
  have hg := unp_good h
  by_cases h0 : xs.getD 0 0 = 165
  · rw [unp_ok h0 hg.1 hg.2.1 hg.2.2.1]
  · rw [unp_mark (by omega) h0] at h; simp at h

/-! Frames in memory. -/
/-- Three cells that hold a frame. -/
def FrC (w : World) (cs : List Value) (f : Fr) : Prop := ∃ A n c, cs = [.int .i64 f.stream, .int .i64 f.seq, .slice A n c] ∧ Ints .u8 w A n f.body ∧ n ≤ c ∧ c ≤ 9223372036854775807
/-- Three cells that hold a frame whose bytes lie in a row of their own. -/
def FrO (base : Nat) (w : World) (cs : List Value) (f : Fr) : Prop := ∃ A n c, cs = [.int .i64 f.stream, .int .i64 f.seq, .slice A n c] ∧ OwnS .u8 5 base w A n c f.body
section
variable {w w' : World} {base : Nat} {cs : List Value} {f : Fr}
theorem FrC.ext (h : FrC w cs f) (he : Ext w w') : FrC w' cs f := by
  obtain ⟨A, n, c, h1, h2, h3⟩ := h
  exact ⟨A, n, c, h1, h2.ext he, h3⟩
theorem FrC.len (h : FrC w cs f) : cs.length = 3 := by
  obtain ⟨A, n, c, rfl, _⟩ := h; rfl
theorem FrC.one (h : FrC w cs f) : ∀ u ∈ cs, u.oneCell' = true := by
  obtain ⟨A, n, c, rfl, _⟩ := h
  simp [Value.oneCell']
theorem FrO.ext (h : FrO base w cs f) (he : Ext w w') : FrO base w' cs f := by
  obtain ⟨A, n, c, h1, h2⟩ := h
  exact ⟨A, n, c, h1, h2.ext he⟩
theorem FrO.frc (h : FrO base w cs f) : FrC w cs f := by
  obtain ⟨A, n, c, h1, h2⟩ := h
  exact ⟨A, n, c, h1, h2.ints, h2.cap⟩
theorem FrO.kept {base' size' n' : Nat} {e' : TypeId} {v' : Value} {vs' : List Value} (h : FrO base w cs f) (h' : w.ownsRow base' e' size' v' n' vs') (hne : 5 ≠ e') (hg : w.grownBy w' v'.ownBlock) : FrO base w' cs f := by
  obtain ⟨A, n, c, h1, h2⟩ := h
  exact ⟨A, n, c, h1, h2.kept h' hne hg⟩
end
/-- A slice of frames reads as 'fs'. -/
def Frs (w : World) (A : Option Addr) (n : Nat) (fs : List Fr) : Prop := fs.length = n ∧ ∃ vs, CsR (FrC w) vs fs ∧ At w A vs
theorem Frs.ext {w w' : World} {A : Option Addr} {n : Nat} {fs : List Fr} (h : Frs w A n fs) (he : Ext w w') : Frs w' A n fs := by
  obtain ⟨h1, vs, h2, h3⟩ := h
  exact ⟨h1, vs, h2.imp fun _ _ h => h.ext he, h3.ext he⟩
theorem Frs.get {w : World} {A : Option Addr} {n : Nat} {fs : List Fr} (h : Frs w A n fs) {j : Nat} (hj : j < n) : ∃ b off f A' n' c', A = some ⟨b, off, none⟩ ∧ fs[j]? = some f ∧ w.cell? ⟨b, off + j * 3, none⟩ = some (.int .i64 f.stream) ∧ w.cell? ⟨b, off + j * 3 + 1, none⟩ = some (.int .i64 f.seq) ∧ w.cell? ⟨b, off + j * 3 + 2, none⟩ = some (.slice A' n' c') ∧ Ints .u8 w A' n' f.body ∧ n' ≤ c' ∧ c' ≤ 9223372036854775807 := by
  obtain ⟨h1, vs, h2, h3⟩ := h
  have hf : fs[j]? = some fs[j] := List.getElem?_eq_getElem (by omega)
  obtain ⟨cs, ⟨A', n', c', rfl, h4⟩, h5⟩ := h2.get (fun _ _ h => h.len) hf
  obtain ⟨b, off, hA, hc⟩ := h3 (by intro e; subst e; have := h5 0 _ rfl; simp at this)
  refine ⟨b, off, _, A', n', c', hA, hf, hc _ _ (h5 0 _ rfl), ?_, ?_, h4⟩
  · rw [Nat.add_assoc]; exact hc _ _ (h5 1 _ rfl)
  · rw [Nat.add_assoc]; exact hc _ _ (h5 2 _ rfl)
end Go.Proofs.Ytekhmfliaojabaa
