/- Lemmas of the proof that follows (TopTransfer, part 3): walks of functions by contract, and plain lemmas. Conditions: none. -/
import Derived.Test.YtekhmfliaojabaaTopTransferB
namespace Go.Proofs.Ytekhmfliaojabaa
open Go.RowKit

/-- What goes before what is found behind it. -/
def preS (fs : List Fr) (s : Nat) (r : List Fr × Nat × Nat) : List Fr × Nat × Nat := (fs ++ r.1, s + r.2.1, r.2.2)
theorem preS_preS (fs gs : List Fr) (s t : Nat) (r : List Fr × Nat × Nat) : preS fs s (preS gs t r) = preS (fs ++ gs) (s + t) r := by
  simp [preS, Nat.add_assoc]
def scn : Nat → List Int → List Fr × Nat × Nat
  | 0, xs => ([], 0, xs.length)
  | f + 1, xs => if (unp xs).2.2 = 21 then ([], 0, xs.length) else if (unp xs).2.2 = 0 then preS [(unp xs).1] 0 (scn f (xs.drop (12 + szN xs))) else preS [] 1 (scn f (xs.drop 1))

/-- What Scan finds: the frames, how many bytes were skipped, how many are left. -/
def scan (xs : List Int) : List Fr × Nat × Nat := scn xs.length xs

theorem unp_nil : unp [] = (fr0, 0, 21) := unp_none rfl

theorem scn_more : ∀ (f : Nat) (xs : List Int), xs.length ≤ f → scn f xs = scn xs.length xs := by
  intro f
  induction f using Nat.strongRecOn with
  | _ f ih =>
    intro xs hl
    rcases Nat.eq_or_lt_of_le hl with h | h
    · rw [h]
    · cases f with
      | zero => omega
      | succ f =>
        cases hx : xs.length with
        | zero =>
          obtain rfl : xs = [] := List.eq_nil_of_length_eq_zero hx
          simp [scn, unp_nil]
        | succ m =>
          simp only [scn]
          have h1 : scn f (xs.drop 1) = scn m (xs.drop 1) := by
            rw [ih f (by omega) (xs.drop 1) (by simp; omega)]
            rw [show (xs.drop 1).length = m by simp; omega]
          by_cases he : (unp xs).2.2 = 0
          · have hg := unp_good he
            have h2 : scn f (xs.drop (12 + szN xs)) = scn m (xs.drop (12 + szN xs)) := by
              rw [ih f (by omega) _ (by simp; omega), ← ih m (by omega) _ (by simp; omega)]
            rw [h2]; simp [he]
          · rw [h1]; simp only [he, if_false]

theorem scan_short {xs : List Int} (h : (unp xs).2.2 = 21) : scan xs = ([], 0, xs.length) := by
  unfold scan
  cases hx : xs.length with
  | zero => simp [scn, hx]
  | succ m => simp [scn, h, hx]
theorem scan_ok {xs : List Int} (h : (unp xs).2.2 = 0) : scan xs = preS [(unp xs).1] 0 (scan (xs.drop (12 + szN xs))) := by
  have hg := unp_good h
  unfold scan
  cases hx : xs.length with
  | zero => omega
  | succ m =>
    simp only [scn, h]
    rw [scn_more m _ (by simp; omega)]
    simp
theorem scan_skip {xs : List Int} (h0 : (unp xs).2.2 ≠ 0) (h1 : (unp xs).2.2 ≠ 21) : scan xs = preS [] 1 (scan (xs.drop 1)) := by
  unfold scan
  cases hx : xs.length with
  | zero =>
    obtain rfl : xs = [] := List.eq_nil_of_length_eq_zero hx
    rw [unp_nil] at h1; simp at h1
  | succ m =>
    simp only [scn, h0, h1, if_false]
    rw [scn_more m _ (by simp; omega), show (xs.drop 1).length = m by simp; omega]

/-- Where a scan stands: at place k, the frames fs were found and s bytes were skipped. -/
def ScanAt (xs : List Int) (k : Nat) (fs : List Fr) (s : Nat) : Prop := k ≤ xs.length ∧ scan xs = preS fs s (scan (xs.drop k))
theorem ScanAt.start (xs : List Int) : ScanAt xs 0 [] 0 := ⟨by omega, by simp [preS]⟩
theorem ScanAt.done {xs : List Int} {k s : Nat} {fs : List Fr} (h : ScanAt xs k fs s) (he : (unp (xs.drop k)).2.2 = 21) : scan xs = (fs, s, xs.length - k) := by
  rw [h.2, scan_short he]; simp [preS]
theorem ScanAt.found {xs : List Int} {k s : Nat} {fs : List Fr} (h : ScanAt xs k fs s) (he : (unp (xs.drop k)).2.2 = 0) : ScanAt xs (k + (12 + szN (xs.drop k))) (fs ++ [(unp (xs.drop k)).1]) s := by
  have hg := unp_good he
  refine ⟨by have := h.1; simp at hg; omega, ?_⟩
  rw [h.2, scan_ok he, preS_preS, List.drop_drop]; simp
theorem ScanAt.skip {xs : List Int} {k s : Nat} {fs : List Fr} (h : ScanAt xs k fs s) (h0 : (unp (xs.drop k)).2.2 ≠ 0) (h1 : (unp (xs.drop k)).2.2 ≠ 21) : ScanAt xs (k + 1) fs (s + 1) := by
  have hk : k < xs.length := by
    rcases Nat.lt_or_ge k xs.length with hk | hk
    · exact hk
    · rw [List.drop_eq_nil_of_le hk, unp_nil] at h1; simp at h1
  refine ⟨by omega, ?_⟩
  rw [h.2, scan_skip h0 h1, preS_preS, List.drop_drop]; simp

theorem unp_len {xs : List Int} (h : (unp xs).2.2 = 0) : (unp xs).2.1 = 12 + (szN xs : Int) := by
  have hg := unp_good h
  by_cases h0 : xs.getD 0 0 = 165
  · rw [unp_ok h0 hg.1 hg.2.1 hg.2.2.1]
  · rw [unp_mark (by omega) h0] at h; simp at h

/-- Three cells that hold a frame. -/
def FrC (w : World) (cs : List Value) (f : Fr) : Prop := ∃ A n c, cs = [.int .i64 f.stream, .int .i64 f.seq, .slice A n c] ∧ Ints .u8 w A n f.body ∧ n ≤ c ∧ c ≤ 9223372036854775807
/-- Three cells that hold a frame whose bytes lie in a row of their own. -/
def FrO (base : Nat) (w : World) (cs : List Value) (f : Fr) : Prop := ∃ A n c, cs = [.int .i64 f.stream, .int .i64 f.seq, .slice A n c] ∧ OwnS .u8 5 base w A n c f.body
section
variable {w w' : World} {base : Nat} {cs : List Value} {f : Fr}
theorem FrC.ext (h : FrC w cs f) (he : Ext w w') : FrC w' cs f := by
  obtain ⟨A, n, c, h1, h2, h3⟩ := h
  exact ⟨A, n, c, h1, h2.ext he, h3⟩
theorem FrC.len (h : FrC w cs f) : cs.length = 3 := by
  obtain ⟨A, n, c, rfl, _⟩ := h; rfl
theorem FrC.one (h : FrC w cs f) : ∀ u ∈ cs, u.oneCell' = true := by
  obtain ⟨A, n, c, rfl, _⟩ := h
  simp [Value.oneCell']
theorem FrO.ext (h : FrO base w cs f) (he : Ext w w') : FrO base w' cs f := by
  obtain ⟨A, n, c, h1, h2⟩ := h
  exact ⟨A, n, c, h1, h2.ext he⟩
theorem FrO.frc (h : FrO base w cs f) : FrC w cs f := by
  obtain ⟨A, n, c, h1, h2⟩ := h
  exact ⟨A, n, c, h1, h2.ints, h2.cap⟩
theorem FrO.kept {base' size' n' : Nat} {e' : TypeId} {v' : Value} {vs' : List Value} (h : FrO base w cs f) (h' : w.ownsRow base' e' size' v' n' vs') (hne : 5 ≠ e') (hg : w.grownBy w' v'.ownBlock) : FrO base w' cs f := by
  obtain ⟨A, n, c, h1, h2⟩ := h
  exact ⟨A, n, c, h1, h2.kept h' hne hg⟩
end
/-- A slice of frames reads as 'fs'. -/
def Frs (w : World) (A : Option Addr) (n : Nat) (fs : List Fr) : Prop := fs.length = n ∧ ∃ vs, CsR (FrC w) vs fs ∧ At w A vs
theorem Frs.ext {w w' : World} {A : Option Addr} {n : Nat} {fs : List Fr} (h : Frs w A n fs) (he : Ext w w') : Frs w' A n fs := by
  obtain ⟨h1, vs, h2, h3⟩ := h
  exact ⟨h1, vs, h2.imp fun _ _ h => h.ext he, h3.ext he⟩
theorem Frs.get {w : World} {A : Option Addr} {n : Nat} {fs : List Fr} (h : Frs w A n fs) {j : Nat} (hj : j < n) : ∃ b off f A' n' c', A = some ⟨b, off, none⟩ ∧ fs[j]? = some f ∧ w.cell? ⟨b, off + j * 3, none⟩ = some (.int .i64 f.stream) ∧ w.cell? ⟨b, off + j * 3 + 1, none⟩ = some (.int .i64 f.seq) ∧ w.cell? ⟨b, off + j * 3 + 2, none⟩ = some (.slice A' n' c') ∧ Ints .u8 w A' n' f.body ∧ n' ≤ c' ∧ c' ≤ 9223372036854775807 := by
  obtain ⟨h1, vs, h2, h3⟩ := h
  have hf : fs[j]? = some fs[j] := List.getElem?_eq_getElem (by omega)
  obtain ⟨cs, ⟨A', n', c', rfl, h4⟩, h5⟩ := h2.get (fun _ _ h => h.len) hf
  obtain ⟨b, off, hA, hc⟩ := h3 (by intro e; subst e; have := h5 0 _ rfl; simp at this)
  refine ⟨b, off, _, A', n', c', hA, hf, hc _ _ (h5 0 _ rfl), ?_, ?_, h4⟩
  · rw [Nat.add_assoc]; exact hc _ _ (h5 1 _ rfl)
  · rw [Nat.add_assoc]; exact hc _ _ (h5 2 _ rfl)
end Go.Proofs.Ytekhmfliaojabaa
namespace Go.Proofs.Ytekhmfliaojabaa
open Go.ChangeShapes Go.WideShapes Go.ChangeAt Go.RowKit Go.Joins

theorem listN3 {α : Type} {cs : List α} (h : cs.length = 3) : ∃ c0 c1 c2, cs = [c0, c1, c2] := by
  match cs, h with
  | [c0, c1, c2], _ => exact ⟨c0, c1, c2, rfl⟩
/-- The cells of a value of type Fault. -/
def FaultE (W : World) (cs : List Value) (f : Int × Int × Int) : Prop := cs = [.int .i64 f.1, .int .i64 f.2.1, .int .i64 f.2.2] ∧ (-9223372036854775808 ≤ f.1 ∧ f.1 ≤ 9223372036854775807) ∧ (-9223372036854775808 ≤ f.2.1 ∧ f.2.1 ≤ 9223372036854775807) ∧ (-9223372036854775808 ≤ f.2.2 ∧ f.2.2 ≤ 9223372036854775807)
set_option maxRecDepth 100000 in
set_option maxHeartbeats 1000000 in
theorem fault_el {W : World} {H : Type} {enc : TypeId × Value → H} {fuel : Nat} {cs : List Value} {z : DataW H × List MemPlace} {b : Nat} {sp : Nat → Bool} {hd : Bool}
    (hl : cs.length = 3) (hf' : DataW.trod enc Try.prog W b sp hd fuel 114 cs = some z) : ∃ f, FaultE W cs f := by
  obtain ⟨c0, c1, c2, rfl⟩ := listN3 hl
  obtain ⟨xs1, n1, _, _, _, hl1, hg1⟩ := DataW.trod_struct Try.underlying114 hf'
  have g1_0 : DataW.trod enc Try.prog W b sp hd n1 3 [c0] = xs1[0]? := by
    have h := hg1 0 _ rfl
    rw [show Try.prog.cellsOf _ = 1 by kernel_rfl] at h
    exact h
  rw [List.getElem?_eq_getElem (by rw [hl1]; decide)] at g1_0
  obtain ⟨vc0, ec0, _, wc0⟩ := DataW.trod_int Try.underlying3 g1_0
  simp only [List.cons.injEq, and_true] at ec0
  subst ec0
  have g1_1 : DataW.trod enc Try.prog W b sp hd n1 3 [c1] = xs1[1]? := by
    have h := hg1 1 _ rfl
    rw [show Try.prog.cellsOf _ = 1 by kernel_rfl] at h
    exact h
  rw [List.getElem?_eq_getElem (by rw [hl1]; decide)] at g1_1
  obtain ⟨vc1, ec1, _, wc1⟩ := DataW.trod_int Try.underlying3 g1_1
  simp only [List.cons.injEq, and_true] at ec1
  subst ec1
  have g1_2 : DataW.trod enc Try.prog W b sp hd n1 3 [c2] = xs1[2]? := by
    have h := hg1 2 _ rfl
    rw [show Try.prog.cellsOf _ = 1 by kernel_rfl] at h
    exact h
  rw [List.getElem?_eq_getElem (by rw [hl1]; decide)] at g1_2
  obtain ⟨vc2, ec2, _, wc2⟩ := DataW.trod_int Try.underlying3 g1_2
  simp only [List.cons.injEq, and_true] at ec2
  subst ec2
  exact ⟨(vc0, vc1, vc2), rfl, i64_bounds wc0, i64_bounds wc1, i64_bounds wc2⟩

/-- The cells of a value of type Frame. -/
def FrameE (W : World) (cs : List Value) (f : Int × Int × List Int) : Prop := ∃ (A2 : Option Addr) (l2 c2 : Nat), cs = [.int .i64 f.1, .int .i64 f.2.1, .slice A2 l2 c2] ∧ (-9223372036854775808 ≤ f.1 ∧ f.1 ≤ 9223372036854775807) ∧ (-9223372036854775808 ≤ f.2.1 ∧ f.2.1 ≤ 9223372036854775807) ∧ (Ints .u8 W A2 l2 f.2.2 ∧ l2 ≤ c2 ∧ c2 ≤ 9223372036854775807)
/-- The cells of a value of type Send. -/
def SendE (W : World) (cs : List Value) (f : Int × Int × List Int × List Int) : Prop := ∃ (A2 : Option Addr) (l2 c2 : Nat), ∃ (A3 : Option Addr) (l3 c3 : Nat), cs = [.int .i64 f.1, .int .i64 f.2.1, .slice A2 l2 c2, .slice A3 l3 c3] ∧ (-9223372036854775808 ≤ f.1 ∧ f.1 ≤ 9223372036854775807) ∧ (-9223372036854775808 ≤ f.2.1 ∧ f.2.1 ≤ 9223372036854775807) ∧ (Ints .u8 W A2 l2 f.2.2.1 ∧ l2 ≤ c2 ∧ c2 ≤ 9223372036854775807) ∧ (Ints .i64 W A3 l3 f.2.2.2 ∧ l3 ≤ c3 ∧ c3 ≤ 9223372036854775807)
/-- The cells of a value of type Call. -/
def CallE (W : World) (cs : List Value) (f : Int × Int × Int × List Int) : Prop := ∃ (A3 : Option Addr) (l3 c3 : Nat), cs = [.int .i64 f.1, .int .i64 f.2.1, .int .i64 f.2.2.1, .slice A3 l3 c3] ∧ (-9223372036854775808 ≤ f.1 ∧ f.1 ≤ 9223372036854775807) ∧ (-9223372036854775808 ≤ f.2.1 ∧ f.2.1 ≤ 9223372036854775807) ∧ (-9223372036854775808 ≤ f.2.2.1 ∧ f.2.2.1 ≤ 9223372036854775807) ∧ (Ints .u8 W A3 l3 f.2.2.2 ∧ l3 ≤ c3 ∧ c3 ≤ 9223372036854775807)
/-- A slice of byte strings that came in. -/
theorem lists_open {W : World} {H : Type} {enc : TypeId × Value → H} {a : Option Addr} {len cap : Nat} {d : DataW H} {p : List MemPlace} {b : Nat} {sp : Nat → Bool} {hd : Bool}
    (h : DataW.Trod enc Try.prog W b sp hd 32 (.slice a len cap) d p) : ∃ xss, Lists .u8 W a len xss ∧ len ≤ cap ∧ cap ≤ 9223372036854775807 := by
  obtain ⟨fuel, hf⟩ := h
  obtain ⟨xss, vs, h1, h2, h3, h4, h5⟩ := slice_trod (k := 1) (R := fun cs xs => ∃ v, cs = [v] ∧ SlV .u8 W v xs) Try.underlying32 (by kernel_rfl) (fun cs x h => by obtain ⟨v, rfl, _⟩ := h; rfl) (fun fuel cs z hl hz => by
    obtain ⟨A, n, c, rfl⟩ := slice_form Try.underlying22 hz
    obtain ⟨xs, hI, h1, h2⟩ := ints_trod Try.underlying22 Try.underlying5 (by kernel_rfl) hz
    exact ⟨xs, _, rfl, A, n, c, rfl, hI, h1, h2⟩) hf
  have hvl := h2.len (k := 1) (fun cs x h => by obtain ⟨v, rfl, _⟩ := h; rfl)
  refine ⟨xss, ⟨h1, vs, by omega, h3, fun j v xs hv hx => ?_⟩, h4, h5⟩
  obtain ⟨cs, ⟨v', rfl, hs⟩, hg⟩ := h2.get (k := 1) (fun cs x h => by obtain ⟨v, rfl, _⟩ := h; rfl) hx
  have := hg 0 v' rfl
  rw [Nat.mul_one, Nat.add_zero, hv] at this
  exact (Option.some.inj this) ▸ hs
theorem flts_open {W : World} {H : Type} {enc : TypeId × Value → H} {a : Option Addr} {len cap : Nat} {fuel : Nat} {y : DataW H × List MemPlace} {b : Nat} {sp : Nat → Bool} {hd : Bool}
    (hf : DataW.trod enc Try.prog W b sp hd fuel 33 [.slice a len cap] = some y) : ∃ fs, Flts W a len fs ∧ len ≤ cap ∧ cap ≤ 9223372036854775807 := by
  obtain ⟨xs, vs, h1, h2, h3, h4, h5⟩ := slice_trod (k := 3) (R := fun cs f => FltC cs f ∧ FltIn f) Try.underlying33 (by kernel_rfl) (fun cs x h => by rw [h.1]; rfl) (fun fuel cs z hl hz => by
    obtain ⟨f, h1, h2, h3, h4⟩ := fault_el hl hz
    exact ⟨⟨f.1, f.2.1, f.2.2⟩, h1, h2, h3, h4⟩) hf
  have hin : ∀ (vs : List Value) (fs : List Flt), CsR (fun cs f => FltC cs f ∧ FltIn f) vs fs → ∀ f ∈ fs, FltIn f := by
    intro vs fs
    induction fs generalizing vs with
    | nil => simp
    | cons f fs ih =>
      rintro ⟨cs, rest, rfl, ⟨_, h⟩, hr⟩ g hg
      rcases List.mem_cons.1 hg with rfl | hg
      · exact h
      · exact ih _ hr g hg
  exact ⟨xs, ⟨h1, hin vs xs h2, vs, h2.imp fun _ _ h => h.1, h3⟩, h4, h5⟩
end Go.Proofs.Ytekhmfliaojabaa
namespace Go.Proofs.Ytekhmfliaojabaa
open Go.RowKit

structure Snd where
  stream : Int
  window : Int
  acked : Nat
  bodies : List (List Int)
/-- Records with their numbers. -/
def keyed {α : Type} (n : Int) : List α → List (Int × α)
  | [] => []
  | x :: xs => (n, x) :: keyed (n + 1) xs
def pendK (s : Snd) : List (Int × List Int) := keyed s.acked (s.bodies.drop s.acked)
def frS (s : Int) (p : Int × List Int) : Fr := ⟨s, p.1, p.2⟩
def pendS (s : Snd) : List Fr := (pendK s).map (frS s.stream)
def offerS (s : Snd) (b : List Int) : Snd × Fr × Int :=
  if 1024 < b.length then (s, fr0, 2)
  else if s.window ≤ (s.bodies.length : Int) - s.acked then (s, fr0, 29)
  else ({ s with bodies := s.bodies ++ [b] }, ⟨s.stream, s.bodies.length, b⟩, 0)
def ackS (s : Snd) (n : Int) : Snd × Int := if n < s.acked ∨ (s.bodies.length : Int) < n then (s, 2) else ({ s with acked := n.toNat }, 0)
structure SndOk (s : Snd) : Prop where
  stream : 0 ≤ s.stream ∧ s.stream ≤ 255
  window : 1 ≤ s.window ∧ s.window ≤ 64
  acked : s.acked ≤ s.bodies.length
  room : (s.bodies.length : Int) - s.acked ≤ s.window
  body : ∀ b ∈ s.bodies, b.length ≤ 1024 ∧ ∀ x ∈ b, (Lit.int .u8 x).wf = true

theorem keyed_len {α : Type} (n : Int) (l : List α) : (keyed n l).length = l.length := by
  induction l generalizing n with
  | nil => rfl
  | cons x l ih => simp [keyed, ih]
theorem keyed_append {α : Type} (n : Int) (l m : List α) : keyed n (l ++ m) = keyed n l ++ keyed (n + l.length) m := by
  induction l generalizing n with
  | nil => simp [keyed]
  | cons x l ih =>
    simp only [List.cons_append, keyed, ih, List.length_cons]
    congr 3; omega
theorem keyed_get {α : Type} (n : Int) (l : List α) (j : Nat) : (keyed n l)[j]? = (l[j]?).map fun x => (n + j, x) := by
  induction l generalizing n j with
  | nil => simp [keyed]
  | cons x l ih =>
    cases j with
    | zero => simp [keyed]
    | succ j =>
      simp only [keyed, List.getElem?_cons_succ, ih]
      congr 1; funext y; congr 1; omega
theorem keyed_ge {α : Type} {n : Int} {l : List α} {p : Int × α} (h : p ∈ keyed n l) : n ≤ p.1 ∧ p.1 < n + l.length := by
  obtain ⟨j, hj⟩ := List.getElem?_of_mem h
  rw [keyed_get] at hj
  obtain ⟨x, hx, rfl⟩ := Option.map_eq_some_iff.1 hj
  have := (List.getElem?_eq_some_iff.1 hx).1
  simp only; omega
theorem keyed_find {α : Type} (n : Int) (l : List α) (x : Int) : (keyed n l).find? (fun p => p.1 == x) = if n ≤ x then (l[(x - n).toNat]?).map (fun v => (x, v)) else none := by
  induction l generalizing n with
  | nil => simp [keyed]
  | cons y l ih =>
    simp only [keyed]
    by_cases h : n = x
    · subst h
      rw [List.find?_cons_of_pos (by simp), if_pos (Int.le_refl _)]
      simp
    · rw [List.find?_cons_of_neg (by simpa using h), ih]
      by_cases h1 : n ≤ x
      · rw [if_pos h1, if_pos (by omega)]
        obtain ⟨k, hk⟩ : ∃ k : Nat, (x - n).toNat = k + 1 := ⟨(x - n).toNat - 1, by omega⟩
        rw [hk, List.getElem?_cons_succ, show (x - (n + 1)).toNat = k by omega]
      · rw [if_neg h1, if_neg (by omega)]
theorem keyed_strike {α : Type} (n : Int) (l : List α) : (keyed n l).filter (fun p => !(p.1 == n)) = keyed (n + 1) (l.drop 1) := by
  cases l with
  | nil => rfl
  | cons x l =>
    simp only [keyed, List.drop_succ_cons, List.drop_zero]
    rw [List.filter_cons_of_neg (by simp), List.filter_eq_self]
    intro p hp
    have := keyed_ge hp
    have : p.1 ≠ n := by omega
    simpa using this
theorem pendK_find {s : Snd} (h : s.acked ≤ s.bodies.length) (x : Int) : (pendK s).find? (fun p => p.1 == x) = if (s.acked : Int) ≤ x ∧ x < s.bodies.length then some (x, s.bodies.getD x.toNat []) else none := by
  unfold pendK
  rw [keyed_find]
  by_cases h1 : (s.acked : Int) ≤ x
  · rw [if_pos h1, List.getElem?_drop, show s.acked + (x - s.acked).toNat = x.toNat by omega]
    by_cases h2 : x < s.bodies.length
    · rw [if_pos ⟨h1, h2⟩]
      have h3 : x.toNat < s.bodies.length := by omega
      simp [List.getD, List.getElem?_eq_getElem h3]
    · rw [if_neg (by omega), List.getElem?_eq_none (by omega)]
      rfl
  · rw [if_neg h1, if_neg (by omega)]
theorem pendK_len {s : Snd} : (pendK s).length = s.bodies.length - s.acked := by unfold pendK; rw [keyed_len, List.length_drop]
theorem pendK_snoc {s : Snd} (h : s.acked ≤ s.bodies.length) (b : List Int) : pendK { s with bodies := s.bodies ++ [b] } = pendK s ++ [((s.bodies.length : Int), b)] := by
  unfold pendK
  simp only
  rw [List.drop_append_of_le_length h, keyed_append]
  simp only [keyed, List.length_drop]
  congr 3; omega
theorem pendK_strike (s : Snd) : (pendK s).filter (fun p => !(p.1 == (s.acked : Int))) = pendK { s with acked := s.acked + 1 } := by
  unfold pendK
  rw [keyed_strike, List.drop_drop]
  simp only
  congr 1

theorem offerS_ok {s : Snd} {b : List Int} (h : SndOk s) (hb : ∀ x ∈ b, (Lit.int .u8 x).wf = true) : SndOk (offerS s b).1 := by
  unfold offerS
  split
  · exact h
  · split
    · exact h
    · rename_i h1 h2
      refine ⟨h.stream, h.window, by have := h.acked; simp; omega, by simp only [List.length_append, List.length_cons, List.length_nil]; omega, fun x hx => ?_⟩
      rcases List.mem_append.1 hx with hx | hx
      · exact h.body x hx
      · simp at hx; subst hx; exact ⟨by omega, hb⟩
theorem ackS_ok {s : Snd} (n : Int) (h : SndOk s) : SndOk (ackS s n).1 := by
  unfold ackS
  split
  · exact h
  · have := h.acked; have := h.room
    exact ⟨h.stream, h.window, by simp only; omega, by simp only; omega, h.body⟩
end Go.Proofs.Ytekhmfliaojabaa
namespace Go.Proofs.Ytekhmfliaojabaa
open Go.RowKit

/-- How an element reads: as itself. -/
def mR (v : Value) : Option (DataW Value × List MemPlace) := some (.held v, [])
/-- What stands at a key. -/
def look (l : List (Int × Value)) (x : Int) : Option Value := (l.find? fun p => p.1 == x).map Prod.snd
theorem look_snoc {l : List (Int × Value)} {x : Int} {v : Value} (h : look l x = none) (y : Int) : look (l ++ [(x, v)]) y = if y = x then some v else look l y := by
  unfold look at h ⊢
  rw [List.find?_append]
  by_cases e : y = x
  · subst e
    rw [Option.map_eq_none_iff] at h
    rw [h]
    simp
  · rw [if_neg e]
    have : ([(x, v)] : List (Int × Value)).find? (fun p => p.1 == y) = none := by simp; exact fun h => e h.symm
    rw [this]; simp
theorem look_strike (l : List (Int × Value)) (x y : Int) : look (l.filter fun p => !(p.1 == x)) y = if y = x then none else look l y := by
  unfold look
  induction l with
  | nil => simp
  | cons p l ih =>
    by_cases h : p.1 = x
    · have : (!(p.1 == x)) = false := by simp [h]
      rw [List.filter_cons_of_neg (by simp [h]), ih]
      by_cases e : y = x
      · rw [if_pos e, if_pos e]
      · rw [if_neg e, if_neg e, List.find?_cons_of_neg (by simp; rw [h]; exact fun q => e q.symm)]
    · rw [List.filter_cons_of_pos (by simp [h])]
      by_cases e : p.1 = y
      · rw [List.find?_cons_of_pos (by simp [e]), List.find?_cons_of_pos (by simp [e]), if_neg (by rw [← e]; exact h)]
      · rw [List.find?_cons_of_neg (by simp [e]), List.find?_cons_of_neg (by simp [e]), ih]
theorem look_none {l : List (Int × Value)} {x : Int} : look l x = none ↔ x ∉ l.map Prod.fst := by
  unfold look
  rw [Option.map_eq_none_iff, List.find?_eq_none]
  constructor
  · intro h hm
    obtain ⟨p, hp, rfl⟩ := List.mem_map.1 hm
    exact h p hp (by simp)
  · intro h p hp e
    exact h (List.mem_map.2 ⟨p, hp, by simpa using e⟩)
theorem nodup_snoc {l : List (Int × Value)} (hn : (l.map Prod.fst).Nodup) {x : Int} {v : Value} (h : look l x = none) : ((l ++ [(x, v)]).map Prod.fst).Nodup := by
  rw [List.map_append, List.nodup_append]
  refine ⟨hn, by simp, fun a ha b hb => ?_⟩
  simp at hb
  subst hb
  rintro rfl
  exact look_none.1 h ha
theorem nodup_strike {l : List (Int × Value)} (hn : (l.map Prod.fst).Nodup) (x : Int) : ((l.filter fun p => !(p.1 == x)).map Prod.fst).Nodup :=
  hn.sublist (List.filter_sublist.map _)
theorem length_strike' {l : List (Int × Value)} (hn : (l.map Prod.fst).Nodup) {x : Int} {v : Value} (h : look l x = some v) : (l.filter fun p => !(p.1 == x)).length + 1 = l.length := by
  induction l with
  | nil => simp [look] at h
  | cons p l ih =>
    simp only [List.map_cons, List.nodup_cons] at hn
    by_cases e : p.1 = x
    · rw [List.filter_cons_of_neg (by simp [e]), List.length_cons]
      have : l.filter (fun p => !(p.1 == x)) = l := by
        rw [List.filter_eq_self]
        intro q hq
        have : q.1 ≠ x := fun e' => hn.1 (by rw [e, ← e']; exact List.mem_map.2 ⟨q, hq, rfl⟩)
        simpa using this
      rw [this]
    · rw [List.filter_cons_of_pos (by simp [e]), List.length_cons, List.length_cons]
      have : look l x = some v := by
        unfold look at h ⊢
        rwa [List.find?_cons_of_neg (by simp [e])] at h
      rw [ih hn.2 this]

theorem own_tight {P : Program} {k : TypeId} {w : World} {b n m : Nat} {D : DataW Value} (h : w.ownsMap P k mR b n D) (hm : Maps.size D ≤ m) : w.ownsMap P k mR b m D := by
  obtain ⟨es, clock, hb, F, hs, rfl⟩ := h
  exact ⟨es, clock, hb, F, by simpa [Maps.size, length_sorted] using hm, rfl⟩

/-- Block 'b' is a map of just these keys with these values. -/
structure MapL (P : Program) (k : TypeId) (w : World) (b : Nat) (l : List (Int × Value)) : Prop where
  own : ∃ D, w.ownsMap P k mR b l.length D ∧ (∀ x z, D.atKey (.int .i64 x) z = ((look l x).map DataW.held).getD z) ∧ Maps.size D = l.length
  apart : (l.map Prod.fst).Nodup

section
variable {P : Program} {k : TypeId} {w w' : World} {b : Nat} {l l' : List (Int × Value)}
theorem MapL.lt (h : MapL P k w b l) : b < w.heap.size := by obtain ⟨D, h1, _⟩ := h.own; exact h1.lt
theorem MapL.kept {row : Option Nat} (h : MapL P k w b l) (hg : w.grownBy w' row) (hne : some b ≠ row) : MapL P k w' b l := by obtain ⟨D, h1, h2⟩ := h.own; exact ⟨⟨D, h1.kept hg hne, h2⟩, h.apart⟩
theorem MapL.ext (h : MapL P k w b l) (he : Ext w w') : MapL P k w' b l := h.kept (he.row none) (by simp)
theorem MapL.keeps {L : List Nat} (h : MapL P k w b l) (hk : Keeps L w w') (hn : b ∉ L) : MapL P k w' b l := by
  obtain ⟨⟨D, h1, h2⟩, h3⟩ := h
  have hl := h1.lt
  obtain ⟨es, clock, hb, r⟩ := h1
  exact ⟨⟨D, ⟨es, clock, (hk.block b hl hn).trans hb, r⟩, h2⟩, h3⟩
theorem MapL.setCell (h : MapL P k w b l) {a : Addr} (ha : b ≠ a.block) (u : Value) : MapL P k (w.setCell a u) b l := by obtain ⟨D, h1, h2⟩ := h.own; exact ⟨⟨D, h1.setCell ha u, h2⟩, h.apart⟩
theorem MapL.drew (h : MapL P k w b l) : MapL P k w.drew b l := by obtain ⟨D, h1, h2⟩ := h.own; exact ⟨⟨D, h1.drew, h2⟩, h.apart⟩
theorem MapL.made (w : World) (P : Program) (k : TypeId) : MapL P k (w.alloc (.map #[] 0)) w.heap.size [] := ⟨⟨_, World.ownsMap_made w P k mR, fun _ _ => rfl, rfl⟩, by simp⟩
theorem MapL.notRow (h : MapL P k w b l) (t : TypeId) : NoRow t w b := by
  obtain ⟨D, ⟨es, c, hb, _⟩, _⟩ := h.own
  exact NoRow.of_map hb
theorem MapL.ne_blk {g : Nat} {t : TypeId} {cs : Array Value} (h : MapL P k w b l) (hB : Blk w g t cs) : g ≠ b := by
  rintro rfl
  exact h.notRow t _ _ hB
theorem MapL.ne_row {te : TypeId} {base size m : Nat} {v : Value} {vs : List Value} (h : MapL P k w b l) (hB : w.ownsRow base te size v m vs) : some b ≠ v.ownBlock := by
  intro e
  rcases hB.2 with ⟨rfl, _⟩ | ⟨g, cap, cur, rfl, _, hg, _⟩
  · simp [Value.ownBlock] at e
  · simp [Value.ownBlock] at e
    subst e
    exact h.notRow te _ _ hg

variable (K : Maps.Keyed P k) {t e : TypeId} (ht : P.underlying t = some (.map k e))
theorem has_of {D : DataW Value} {l : List (Int × Value)} (h : ∀ x z, D.atKey (.int .i64 x) z = ((look l x).map DataW.held).getD z) (x : Int) : Maps.has D (.int .i64 x) = (look l x).isSome := by
  cases hl : look l x with
  | none => exact Maps.has_false_of_atKey fun z => by rw [h, hl]; rfl
  | some v => exact Maps.has_true_of_atKey (y := .held v) fun z => by rw [h, hl]; rfl
include K ht
/-- 'v, ok := m[x]'. -/
theorem MapL.run_look (h : MapL P k w b l) {z : Value} (hz : (zeroValue e).run P w = .ok z w) {x : Int} (hkey : keyOf P k (.int .i64 x) = some (.int .i64 x)) :
    (Instr.lookup t (.map (some b)) (.int .i64 x) true).run P w = .ok (.tuple #[(look l x).getD z, .bool (look l x).isSome]) w := by
  obtain ⟨⟨D, h1, h2, h3⟩, h4⟩ := h
  obtain ⟨v, ps, hrun, hv⟩ := h1.look_ok K ht hz (zd := .held z) (zp := []) rfl hkey
  rw [h2] at hv
  have : v = (look l x).getD z := by
    injection hv with hv
    injection hv with hv _
    cases hl : look l x with
    | none => rw [hl] at hv; injection hv
    | some u => rw [hl] at hv; injection hv
  subst this
  rw [hrun, has_of h2]
/-- 'm[x]'. -/
theorem MapL.run_at (h : MapL P k w b l) {z : Value} (hz : (zeroValue e).run P w = .ok z w) {x : Int} (hkey : keyOf P k (.int .i64 x) = some (.int .i64 x)) :
    (Instr.lookup t (.map (some b)) (.int .i64 x) false).run P w = .ok ((look l x).getD z) w := by
  obtain ⟨⟨D, h1, h2, h3⟩, h4⟩ := h
  obtain ⟨v, ps, hrun, hv⟩ := h1.lookup K ht hz (zd := .held z) (zp := []) rfl hkey
  rw [h2] at hv
  have : v = (look l x).getD z := by
    injection hv with hv
    injection hv with hv _
    cases hl : look l x with
    | none => rw [hl] at hv; injection hv
    | some u => rw [hl] at hv; injection hv
  subst this
  exact hrun
/-- 'm[x] = v', x a new key. -/
theorem MapL.run_put (h : MapL P k w b l) (hn : l.length < maxLen) {x : Int} {v : Value} (hkey : keyOf P k (.int .i64 x) = some (.int .i64 x)) (hl : look l x = none) :
    ∃ w', (Instr.mapUpdate t (.map (some b)) (.int .i64 x) v).run P w = .ok () w' ∧ MapL P k w' b (l ++ [(x, v)]) ∧ w.grownBy w' (some b) := by
  obtain ⟨⟨D, h1, h2, h3⟩, h4⟩ := h
  obtain ⟨w', hrun, h5, h6⟩ := h1.store K ht hn (d := .held v) (ps := []) hkey rfl (val := v)
  refine ⟨w', hrun, ⟨⟨_, by rw [List.length_append]; exact h5, fun y z => ?_, ?_⟩, nodup_snoc h4 hl⟩, h6.grown⟩
  · by_cases e : y = x
    · subst e
      rw [Maps.atKey_put_same h1.isMap (K.key hkey), look_snoc hl, if_pos rfl]; rfl
    · rw [Maps.atKey_put_other (by intro e'; injection e' with _ e'; exact e e'), look_snoc hl, if_neg e, h2]
  · rw [Maps.size_put (h1.tidy K), has_of h2, hl]; simp [h3]
/-- 'delete(m, x)', x a key that is there. -/
theorem MapL.run_del (h : MapL P k w b l) {x : Int} {v : Value} (hkey : keyOf P k (.int .i64 x) = some (.int .i64 x)) (hl : look l x = some v) (ty : TypeId) :
    ∃ w', (Builtin.delete_ #[t, k] ty #[.map (some b), .int .i64 x]).run P w = .ok (.tuple #[]) w' ∧ MapL P k w' b (l.filter fun p => !(p.1 == x)) ∧ w.grownBy w' (some b) := by
  obtain ⟨⟨D, h1, h2, h3⟩, h4⟩ := h
  obtain ⟨w', hrun, h5, h6⟩ := h1.drop K ht hkey ty
  refine ⟨w', hrun, ⟨⟨_, own_tight h5 (by
    have h7 := Maps.size_del (k := .int .i64 x) (h1.tidy K)
    rw [has_of h2, hl] at h7
    have h8 := length_strike' h4 hl
    simp at h7
    omega), fun y z => ?_, ?_⟩, nodup_strike h4 x⟩, h6.grown⟩
  · rw [look_strike]
    by_cases e : y = x
    · subst e
      rw [Maps.atKey_del_same, if_pos rfl]; rfl
    · rw [Maps.atKey_del_other (by intro e'; injection e' with _ e'; exact e e'), if_neg e, h2]
  · have h7 := Maps.size_del (k := .int .i64 x) (h1.tidy K)
    rw [has_of h2, hl] at h7
    have h8 := length_strike' h4 hl
    simp at h7
    omega
end

section
variable {P : Program} (w : World) {ops : Array Oper} {rest : List Oper} {o : Oper} {a : Act} {Q : Exit → Act → World → Prop} {k : TypeId} {b : Nat} {l : List (Int × Value)}
theorem keyOf_i64 {P : Program} {k : TypeId} (hk : P.underlying k = some (.int .i64)) {x : Int} (hx : -9223372036854775808 ≤ x ∧ x ≤ 9223372036854775807) : keyOf P k (.int .i64 x) = some (.int .i64 x) := by
  have : (Lit.int .i64 x).wf = true := by simp [Lit.wf, IntKind.min, IntKind.max, IntKind.bits, IntKind.signed]; omega
  simp [keyOf, mapKey, hk, this]
/-- 'm[x] = v', a new key. -/
theorem wpList_put_new (hg : o.guard = none) (m x v : Operand) (t : TypeId) (hop : o.op = Op.mapUpdate t m x v) (e : TypeId) (K : Maps.Keyed P k) (hk : P.underlying k = some (.int .i64)) (ht : P.underlying t = some (.map k e))
    (hm : a.eval m = .map (some b)) (hown : MapL P k w b l) (hn : l.length < maxLen) (X : Int) (V : Value) (hx : a.eval x = .int .i64 X) (hv : a.eval v = V) (hX : -9223372036854775808 ≤ X ∧ X ≤ 9223372036854775807) (hl : look l X = none)
    (hK : ∀ w', MapL P k w' b (l ++ [(X, V)]) → w.grownBy w' (some b) → wpList P ops Q rest (a.put o.dst undef) w') : wpList P ops Q (o :: rest) a w := by
  refine wpList_plain hg fun K' hK' => ?_
  obtain ⟨w', hrun, r1, r2⟩ := hown.run_put K ht hn (v := V) (keyOf_i64 hk hX) hl
  unfold Oper.wp
  simp [execOp, hop, hm, hx, hv, hrun, Result.andThen]
  exact hK' _ _ (hK w' r1 r2)
/-- 'delete(m, x)', the key is there. -/
theorem wpList_del_yes (hg : o.guard = none) (m x : Operand) (t : TypeId) (hop : o.op = Op.call { callee := Callee.builtin Builtin.delete, args := #[m, x], argTypes := #[t, k] }) (e : TypeId) (K : Maps.Keyed P k) (hk : P.underlying k = some (.int .i64)) (ht : P.underlying t = some (.map k e))
    (hm : a.eval m = .map (some b)) (hown : MapL P k w b l) (X : Int) (hx : a.eval x = .int .i64 X) (hX : -9223372036854775808 ≤ X ∧ X ≤ 9223372036854775807) (v : Value) (hl : look l X = some v)
    (hK : ∀ w', MapL P k w' b (l.filter fun p => !(p.1 == X)) → w.grownBy w' (some b) → wpList P ops Q rest (a.put o.dst (.tuple #[])) w') : wpList P ops Q (o :: rest) a w := by
  refine wpList_plain hg fun K' hK' => ?_
  obtain ⟨w', hrun, r1, r2⟩ := hown.run_del K ht (keyOf_i64 hk hX) hl o.type
  unfold Oper.wp
  simp [execOp, hop, resolve, invoke, builtin, hm, hx, hrun, Result.andThen]
  exact hK' _ _ (hK w' r1 r2)
end
end Go.Proofs.Ytekhmfliaojabaa
namespace Go.Proofs.Ytekhmfliaojabaa
open Go.RowKit

/-- A value that is a frame whose bytes lie in a row of their own. -/
def FrVO (base : Nat) (w : World) (v : Value) (f : Fr) : Prop := ∃ A n c, v = .agg #[.int .i64 f.stream, .int .i64 f.seq, .slice A n c] ∧ OwnS .u8 5 base w A n c f.body
theorem FrVO.ext {base : Nat} {w w' : World} {v : Value} {f : Fr} (h : FrVO base w v f) (he : Ext w w') : FrVO base w' v f := by obtain ⟨A, n, c, h1, h2⟩ := h; exact ⟨A, n, c, h1, h2.ext he⟩
theorem FrVO.keeps {L : List Nat} {base : Nat} {w w' : World} {v : Value} {f : Fr} (h : FrVO base w v f) (hk : Keeps L w w') (hn : ∀ g ∈ L, NoRow 5 w g) : FrVO base w' v f := by obtain ⟨A, n, c, h1, h2⟩ := h; exact ⟨A, n, c, h1, h2.keeps hk hn⟩
theorem FrVO.zero (base : Nat) (w : World) : FrVO base w (.agg #[.int .i64 0, .int .i64 0, .slice none 0 0]) fr0 := ⟨none, 0, 0, rfl, World.ownsRow_nil _ _ _ _, rfl, by simp [fr0]⟩

theorem Blk.away {w w' : World} {L : List Nat} {g : Nat} {t : TypeId} {cs : Array Value} (h : Blk w g t cs) (hk : Keeps L w w') (hn : ∀ k ∈ L, NoRow t w k) : Blk w' g t cs :=
  h.keeps hk fun hl => hn g hl _ _ h

/-- The program's sender: block g, map m. -/
structure SndP (base : Nat) (w : World) (g m : Nat) (s : Snd) : Prop where
  blk : Blk w g 98 #[.int .i64 s.stream, .int .i64 s.window, .int .i64 s.acked, .int .i64 s.bodies.length, .map (some m)]
  map : ∃ l, MapL Try.prog 3 w m l ∧ F2 (fun p q => p.1 = q.1 ∧ BodyV base w p.2 q.2) l (pendK s)
  lo : base ≤ g ∧ base ≤ m
  ok : SndOk s
section
variable {base : Nat} {w w' : World} {g m : Nat} {s : Snd}
theorem SndP.ext (h : SndP base w g m s) (he : Ext w w') : SndP base w' g m s := by
  obtain ⟨h1, ⟨l, h2, h3⟩, h4, h5⟩ := h
  exact ⟨h1.ext he, ⟨l, h2.ext he, h3.imp fun _ _ _ h => ⟨h.1, h.2.ext he⟩⟩, h4, h5⟩
theorem SndP.keeps {L : List Nat} (h : SndP base w g m s) (hk : Keeps L w w') (n1 : ∀ k ∈ L, NoRow 98 w k) (n2 : m ∉ L) (n3 : ∀ k ∈ L, NoRow 5 w k) : SndP base w' g m s := by
  obtain ⟨h1, ⟨l, h2, h3⟩, h4, h5⟩ := h
  exact ⟨h1.away hk n1, ⟨l, h2.keeps hk n2, h3.imp fun _ _ _ h => ⟨h.1, h.2.keeps hk n3⟩⟩, h4, h5⟩
theorem SndP.lt (h : SndP base w g m s) : g < w.heap.size ∧ m < w.heap.size := ⟨h.blk.lt, by obtain ⟨l, h2, _⟩ := h.map; exact h2.lt⟩
theorem SndP.base_le (h : SndP base w g m s) : base ≤ w.heap.size := by have := h.lt; have := h.lo; omega
/-- The blocks that a sender's methods write into hold no rows of other types. -/
theorem SndP.far (h : SndP base w g m s) (t : TypeId) (ht : 98 ≠ t) : ∀ k ∈ [g, m], NoRow t w k := by
  intro k hk
  simp at hk
  rcases hk with rfl | rfl
  · exact NoRow.of_blk h.blk ht
  · obtain ⟨l, h2, _⟩ := h.map; exact h2.notRow t
theorem SndP.new {w0 : World} (h : SndP base w g m s) (hb : w0.heap.size ≤ base) : ∀ k ∈ [g, m], w0.heap.size ≤ k := by
  intro k hk
  have := h.lo
  simp at hk
  rcases hk with rfl | rfl <;> omega
/-- What the map holds. -/
theorem SndP.find_ (h : SndP base w g m s) (l : List (Int × Value)) (h3 : F2 (fun p q => p.1 = q.1 ∧ BodyV base w p.2 q.2) l (pendK s)) (q : Nat) (h1 : s.acked ≤ q) (h2 : q < s.bodies.length) : ∃ v, look l q = some v ∧ BodyV base w v (s.bodies.getD q []) := by
  have hf := pendK_find h.ok.acked (q : Int)
  rw [if_pos (by omega), Int.toNat_natCast] at hf
  rcases h3.find (p := fun p => p.1 == (q : Int)) (q := fun p => p.1 == (q : Int)) (fun p p' h => by rw [h.1]) with ⟨_, hb⟩ | ⟨p, p', ha, hb, hr⟩
  · rw [hb] at hf; cases hf
  · rw [hb] at hf
    injection hf with hf
    subst hf
    exact ⟨p.2, by unfold Proofs.Ytekhmfliaojabaa.look; rw [ha]; rfl, hr.2⟩
theorem SndP.free_ (h : SndP base w g m s) (l : List (Int × Value)) (h3 : F2 (fun p q => p.1 = q.1 ∧ BodyV base w p.2 q.2) l (pendK s)) : look l (s.bodies.length : Int) = none := by
  have hf := pendK_find h.ok.acked (s.bodies.length : Int)
  rw [if_neg (by omega)] at hf
  rcases h3.find (p := fun p => p.1 == (s.bodies.length : Int)) (q := fun p => p.1 == (s.bodies.length : Int)) (fun p p' h => by rw [h.1]) with ⟨ha, _⟩ | ⟨p, p', ha, hb, hr⟩
  · unfold Proofs.Ytekhmfliaojabaa.look; rw [ha]; rfl
  · rw [hb] at hf; cases hf
theorem SndP.len {l : List (Int × Value)} (h : SndP base w g m s) (h3 : F2 (fun p q => p.1 = q.1 ∧ BodyV base w p.2 q.2) l (pendK s)) : l.length = s.bodies.length - s.acked := by rw [h3.len, pendK_len]
end

/-- The reference's sender: block g, the row v. -/
structure SndR (base : Nat) (w : World) (g : Nat) (v : Value) (s : Snd) : Prop where
  blk : Blk w g 118 #[.int .i64 s.stream, .int .i64 s.window, .int .i64 s.acked, v]
  row : ∃ vs, w.ownsRow base 22 1 v s.bodies.length vs ∧ F2 (BodyV base w) vs s.bodies
  lo : base ≤ g
  ok : SndOk s
section
variable {base : Nat} {w w' : World} {g : Nat} {v : Value} {s : Snd}
theorem SndR.ext (h : SndR base w g v s) (he : Ext w w') : SndR base w' g v s := by
  obtain ⟨h1, ⟨l, h2, h3⟩, h4, h5⟩ := h
  exact ⟨h1.ext he, ⟨l, World.ownsRow.ext' h2 he, h3.imp fun _ _ _ h => h.ext he⟩, h4, h5⟩
theorem SndR.keeps {L : List Nat} (h : SndR base w g v s) (hk : Keeps L w w') (n1 : ∀ k ∈ L, NoRow 118 w k) (n2 : ∀ k ∈ L, NoRow 22 w k) (n3 : ∀ k ∈ L, NoRow 5 w k) : SndR base w' g v s := by
  obtain ⟨h1, ⟨l, h2, h3⟩, h4, h5⟩ := h
  refine ⟨h1.away hk n1, ⟨l, ownsRow_keeps h2 hk fun k hv hl => ?_, h3.imp fun _ _ _ h => h.keeps hk n3⟩, h4, h5⟩
  rcases h2.2 with ⟨rfl, _⟩ | ⟨g', cap, cur, rfl, _, hg, _⟩
  · simp [Value.ownBlock] at hv
  · simp [Value.ownBlock] at hv
    subst hv
    exact n2 _ hl _ _ hg
theorem SndR.lt (h : SndR base w g v s) : g < w.heap.size := h.blk.lt
theorem SndR.base_le (h : SndR base w g v s) : base ≤ w.heap.size := by have := h.lt; have := h.lo; omega
theorem SndR.far (h : SndR base w g v s) (t : TypeId) (ht : 118 ≠ t) (ht' : 22 ≠ t) : ∀ k ∈ g :: v.ownBlock.toList, NoRow t w k := by
  intro k hk
  simp only [List.mem_cons, Option.mem_toList] at hk
  rcases hk with rfl | hk
  · exact NoRow.of_blk h.blk ht
  · obtain ⟨l, h2, _⟩ := h.row; exact NoRow.of_own h2 hk ht'
theorem SndR.new {w0 : World} (h : SndR base w g v s) (hb : w0.heap.size ≤ base) : ∀ k ∈ g :: v.ownBlock.toList, w0.heap.size ≤ k := by
  intro k hk
  have := h.lo
  simp only [List.mem_cons, Option.mem_toList] at hk
  rcases hk with rfl | hk
  · omega
  · obtain ⟨l, h2, _⟩ := h.row
    rcases h2.2 with ⟨rfl, _⟩ | ⟨g', cap, cur, rfl, hb', hg, _⟩
    · simp [Value.ownBlock] at hk
    · simp [Value.ownBlock] at hk
      omega
theorem SndR.noMap {P : Program} {k : TypeId} {m : Nat} {l : List (Int × Value)} (h : SndR base w g v s) (hm : MapL P k w m l) : m ∉ g :: v.ownBlock.toList := by
  intro hk
  simp only [List.mem_cons, Option.mem_toList] at hk
  rcases hk with rfl | hk
  · exact hm.notRow _ _ _ h.blk
  · obtain ⟨l, h2, _⟩ := h.row
    exact hm.ne_row h2 hk.symm
theorem SndR.ne (h : SndR base w g v s) : some g ≠ v.ownBlock := by
  obtain ⟨l, h2, _⟩ := h.row
  intro e
  exact NoRow.of_own h2 e.symm (show 22 ≠ 118 by decide) _ _ h.blk
end
/-- What the one sender's methods do leaves the other sender. -/
theorem SndP.away {base base' : Nat} {w w' : World} {g m g' : Nat} {v : Value} {s s' : Snd} (h : SndP base w g m s) (h' : SndR base' w g' v s') (hk : Keeps (g' :: v.ownBlock.toList) w w') : SndP base w' g m s := by
  obtain ⟨l, h2, _⟩ := h.map
  exact h.keeps hk (h'.far _ (by decide) (by decide)) (h'.noMap h2) (h'.far _ (by decide) (by decide))
theorem SndR.away {base base' : Nat} {w w' : World} {g m g' : Nat} {v : Value} {s s' : Snd} (h : SndR base w g' v s) (h' : SndP base' w g m s') (hk : Keeps [g, m] w w') : SndR base w' g' v s :=
  h.keeps hk (h'.far _ (by decide)) (h'.far _ (by decide)) (h'.far _ (by decide))
end Go.Proofs.Ytekhmfliaojabaa
namespace Go.Proofs.Ytekhmfliaojabaa
open Go.RowKit

section
variable {P : Program}
theorem run_app0 (w : World) {t e : TypeId} {size bytes : Nat} {z : Value} (E : Elem P t e size bytes z) (ty : TypeId) (base g : Nat)
    (hown : w.ownsRow base e size (.slice (some ⟨g, 0, none⟩) 0 0) 0 [])
    (A : Option Addr) (m c : Nat) (news : List Value) (hl : news.length = m * size) (hat : At w A news) (h1 : ∀ u ∈ news, u.oneCell' = true)
    (hbytes : m * bytes ≤ 140737488355328) (h63 : m ≤ maxLen) (hbase : base ≤ w.heap.size) :
    ∃ v' w', (Builtin.append_ #[t, t] ty #[.slice (some ⟨g, 0, none⟩) 0 0, .slice A m c]).run P w = .ok v' w' ∧ w'.ownsRow base e size v' m news ∧ Ext w w' := by
  obtain ⟨i, hi, hz, hs, hb⟩ := E.info
  rcases Nat.eq_zero_or_pos m with rfl | hm
  · obtain rfl : news = [] := List.eq_nil_of_length_eq_zero (by simpa using hl)
    refine ⟨_, w, ?_, hown, Ext.refl w⟩
    rcases A with _ | ad <;> simp [Builtin.append_, run_underlying E.und, sizeOf, typeInfo, hi, Builtin.lenOf, Builtin.firstCells, storeCells, loadCells, loadCellsFrom]
  · have hp := E.pos
    have hne : news ≠ [] := by
      intro h
      subst h
      have h0 : m * size = 0 := by simpa using hl.symm
      rcases Nat.mul_eq_zero.1 h0 with h | h <;> omega
    obtain ⟨b, off, rfl, _⟩ := hat hne
    have hnews := hat.add ⟨b, off, none⟩ rfl
    have hmax : m ≤ 9223372036854775807 := by simp only [maxLen] at h63; omega
    obtain ⟨v', w', hr, h2, h3, _, h5⟩ := run_append_own_at (P := P) w base t ty e i z size bytes E.und hi hz hs hb E.cells E.pos _ 0 [] hown ⟨b, off, none⟩ m c news hl hnews h1 (by omega) (by simpa using hbytes) hbase
    have hr' := run_append_grow (P := P) w t ty e i z E.und hi hz ⟨g, 0, none⟩ 0 0 [] (by rw [hs]; exact hown.1) (hown.cells (g := g) rfl) ⟨b, off, none⟩ m c news (by rw [hs]; exact hl) hnews (by omega) (by omega) (by rw [hb]; exact growslice_fits (by omega) (by simpa using hbytes))
    refine ⟨v', w', hr, by simpa using h2, ?_⟩
    rw [hr'] at hr
    injection hr with e1 e2
    subst e2
    exact (Ext.refl w).drew.alloc _
/-- An operation that is always done, whose value is known. -/
theorem jop_run {ops : Array Oper} {o : Oper} {b : Act} {W W' : World} {K : Act → World → Prop} {Q' : Exit → Act → World → Prop} {v' : Value} (hg : o.guard = none) (hrun : (execOp b.eval o).run P W = .ok (.value v') W') (hK : K (b.put o.dst v') W') :
    if Region.wanted o (yielded ops b.tmps) then o.wp P b W K Q' else K (b.put o.dst undef) W := by
  simp only [Region.wanted, hg, if_true, Oper.wp, hrun]
  exact hK
/-- 'append(s, x...)' in a region that draws its order. -/
theorem jop_app {ops : Array Oper} {o : Oper} {b : Act} {W W' : World} {K : Act → World → Prop} {Q' : Exit → Act → World → Prop} {t : TypeId} {i j : Tmp} {v u v' : Value} (hg : o.guard = none)
    (ho : o.op = .call { callee := .builtin .append, args := #[.tmp i, .tmp j], argTypes := #[t, t] }) (hi : b.tmps[i]? = some v) (hj : b.tmps[j]? = some u)
    (hrun : (Builtin.append_ #[t, t] o.type #[v, u]).run P W = .ok v' W') (hK : K (b.put o.dst v') W') :
    if Region.wanted o (yielded ops b.tmps) then o.wp P b W K Q' else K (b.put o.dst undef) W := by
  refine jop_run hg ?_ hK
  have e1 : b.eval (.tmp i) = v := by simp [Act.eval, hi]
  have e2 : b.eval (.tmp j) = u := by simp [Act.eval, hj]
  unfold execOp
  simp only [ho, resolve, invoke, builtin, Sem.run_bind, Sem.run_pure, Result.andThen_ok, List.map_toArray, List.map_cons, List.map_nil, e1, e2, hrun]
end
end Go.Proofs.Ytekhmfliaojabaa
namespace Go.Proofs.Ytekhmfliaojabaa
open Go.RowKit

theorem keyed_int : Maps.Keyed Try.prog 3 := Maps.int_keyed Try.underlying3
theorem und_int : Try.prog.underlying 3 = some (.int .i64) := by kernel_rfl
theorem und_mapB : Try.prog.underlying 96 = some (.map 3 22) := by kernel_rfl
theorem zero_B (w : World) : (zeroValue 22).run Try.prog w = .ok (.slice none 0 0) w := by kernel_rfl
/-- What is a row without elements. -/
def Row0 (base : Nat) (W : World) (v : Value) : Prop := ∃ gq, v = .slice (some ⟨gq, 0, none⟩) 0 0 ∧ W.ownsRow base 5 1 (.slice (some ⟨gq, 0, none⟩) 0 0) 0 []
theorem Row0.ext {base : Nat} {W W' : World} {v : Value} (h : Row0 base W v) (hX : Ext W W') : Row0 base W' v := by obtain ⟨gq, h1, h2⟩ := h; exact ⟨gq, h1, World.ownsRow.ext' h2 hX⟩
theorem Row0.new {base : Nat} {W : World} (hb : base ≤ W.heap.size) : Row0 base (W.alloc (.cells #[] 5)) (.slice (some ⟨W.heap.size, 0, none⟩) 0 0) := ⟨_, rfl, World.ownsRow_lit W #[] 0 hb (by unfold maxLen; omega) rfl⟩
/-- A frame behind the region that makes it. -/
def FrM (base : Nat) (W : World) (v : Value) (st q : Int) (xs : List Int) : Prop := ∃ A n c, v = .agg #[.int .i64 st, .int .i64 q, .slice A n c] ∧ OwnS .u8 5 base W A n c xs
theorem FrM.ext {base : Nat} {W W' : World} {v : Value} {st q : Int} {xs : List Int} (h : FrM base W v st q xs) (hX : Ext W W') : FrM base W' v st q xs := by obtain ⟨A, n, c, h1, h2⟩ := h; exact ⟨A, n, c, h1, h2.ext hX⟩

set_option maxRecDepth 100000 in
set_option maxHeartbeats 2000000 in
theorem frameP_r1 (g m z : Nat) (st : Int) (l : List (Int × Value)) (Ab : Option Addr) (n c : Nat) (xs : List Int) (w : World) (f0 : w.cell? ⟨g, 0, none⟩ = some (.int .i64 st)) (f4 : w.cell? ⟨g, 4, none⟩ = some (.map (some m))) (hM : MapL Try.prog 3 w m l) (hl : look l (z : Int) = some (.slice Ab n c)) (hz : z ≤ 5000000000) (hI : Ints .u8 w Ab n xs) (hn : n ≤ 1000000) (a : Act) (Q : Exit → Act → World → Prop) (hsize : 19 ≤ a.tmps.size)
    (s0 : a.tmps[0]? = some (.pointer (some ⟨g, 0, none⟩)))
    (s1 : a.tmps[1]? = some (.int .i64 (z : Int)))
    (hend : ∀ (xv0 xv1 xv2 xv3 xv4 xv5 xv6 xv7 xv8 xv9 xv10 xv11 xv12 xv13 : Value) (W : World), (xv0 = .pointer (some ⟨g, 0, none⟩)) → (xv1 = .pointer (some ⟨g, 0, none⟩)) → (xv2 = .pointer (some ⟨g, 0, none⟩)) → (xv3 = .int .i64 st) → (xv4 = .int .i64 (z : Int)) → (Row0 w.heap.size W xv5) → (xv6 = .pointer (some ⟨g, 0, none⟩)) → (xv7 = .pointer (some ⟨g, 0, none⟩)) → (xv8 = .pointer (some ⟨g, 4, none⟩)) → (xv9 = .map (some m)) → (xv10 = .int .i64 (z : Int)) → (xv11 = .slice Ab n c) → (BodyV w.heap.size W xv12 xs) → (FrM w.heap.size W xv13 st z xs) → Ext w W → wpList Try.prog (rops Try.f75 1).toArray Q ((rops Try.f75 1).drop 14) ((((((((((((((a.put (some 5) xv0).put (some 6) xv1).put (some 7) xv2).put (some 8) xv3).put (some 9) xv4).put (some 10) xv5).put (some 11) xv6).put (some 12) xv7).put (some 13) xv8).put (some 14) xv9).put (some 15) xv10).put (some 16) xv11).put (some 17) xv12).put (some 18) xv13) W) :
    (Code.region 1 (rops Try.f75 1).toArray true).wp Try.prog Q a w := by
  have hmono : ∀ (W W' : World) (j : Nat) (u : Value), Ext W W' → (fun (i : Nat) (v : Value) (W : World) => match i with
    | 0 => v = .pointer (some ⟨g, 0, none⟩)
    | 1 => v = .pointer (some ⟨g, 0, none⟩)
    | 2 => v = .pointer (some ⟨g, 0, none⟩)
    | 3 => v = .int .i64 st
    | 4 => v = .int .i64 (z : Int)
    | 5 => Row0 w.heap.size W v
    | 6 => v = .pointer (some ⟨g, 0, none⟩)
    | 7 => v = .pointer (some ⟨g, 0, none⟩)
    | 8 => v = .pointer (some ⟨g, 4, none⟩)
    | 9 => v = .map (some m)
    | 10 => v = .int .i64 (z : Int)
    | 11 => v = .slice Ab n c
    | 12 => BodyV w.heap.size W v xs
    | 13 => FrM w.heap.size W v st z xs
    | _ => True) j u W → (fun (i : Nat) (v : Value) (W : World) => match i with
    | 0 => v = .pointer (some ⟨g, 0, none⟩)
    | 1 => v = .pointer (some ⟨g, 0, none⟩)
    | 2 => v = .pointer (some ⟨g, 0, none⟩)
    | 3 => v = .int .i64 st
    | 4 => v = .int .i64 (z : Int)
    | 5 => Row0 w.heap.size W v
    | 6 => v = .pointer (some ⟨g, 0, none⟩)
    | 7 => v = .pointer (some ⟨g, 0, none⟩)
    | 8 => v = .pointer (some ⟨g, 4, none⟩)
    | 9 => v = .map (some m)
    | 10 => v = .int .i64 (z : Int)
    | 11 => v = .slice Ab n c
    | 12 => BodyV w.heap.size W v xs
    | 13 => FrM w.heap.size W v st z xs
    | _ => True) j u W' := by
    intro W W' j u hX h
    match j, h with
    | 0, h => exact h
    | 1, h => exact h
    | 2, h => exact h
    | 3, h => exact h
    | 4, h => exact h
    | 5, h => exact Row0.ext h hX
    | 6, h => exact h
    | 7, h => exact h
    | 8, h => exact h
    | 9, h => exact h
    | 10, h => exact h
    | 11, h => exact h
    | 12, h => exact BodyV.ext h hX
    | 13, h => exact FrM.ext h hX
    | _ + 14, h => exact h
  have hsz : ∀ d, some d ∈ ([some 5, some 6, some 7, some 8, some 9, some 10, some 11, some 12, some 13, some 14, some 15, some 16, some 17, some 18] : List (Option Tmp)) → d < a.tmps.size := slots_lt (by decide) hsize
  refine wp_region_j 14 [some 5, some 6, some 7, some 8, some 9, some 10, some 11, some 12, some 13, some 14, some 15, some 16, some 17, some 18] [[], [0], [1], [2], [], [], [], [6], [7], [8], [], [9, 10], [5, 11], [3, 4, 12]] [[], [], [], [], [], [], [], [], [], [], [], [], [], []] (fun (i : Nat) (v : Value) (W : World) => match i with
    | 0 => v = .pointer (some ⟨g, 0, none⟩)
    | 1 => v = .pointer (some ⟨g, 0, none⟩)
    | 2 => v = .pointer (some ⟨g, 0, none⟩)
    | 3 => v = .int .i64 st
    | 4 => v = .int .i64 (z : Int)
    | 5 => Row0 w.heap.size W v
    | 6 => v = .pointer (some ⟨g, 0, none⟩)
    | 7 => v = .pointer (some ⟨g, 0, none⟩)
    | 8 => v = .pointer (some ⟨g, 4, none⟩)
    | 9 => v = .map (some m)
    | 10 => v = .int .i64 (z : Int)
    | 11 => v = .slice Ab n c
    | 12 => BodyV w.heap.size W v xs
    | 13 => FrM w.heap.size W v st z xs
    | _ => True) (fun _ W => Ext w W) (by kernel_rfl) (by kernel_rfl) hsz (fun _ _ _ _ h => h) ((Ext.refl w).drew) ?_ ?_
  · clear hend
    simp only [rops, Try.f75, regOf, Option.bind_some, Nat.reduceBEq, if_true, if_false, Bool.false_eq_true, Option.getD_some]
    simp only [List.take_succ_cons, List.take_zero]
    refine ⟨?_, ?_, ?_, ?_, ?_, ?_, ?_, ?_, ?_, ?_, ?_, ?_, ?_, ?_, trivial⟩
    · intro done us W hJ hdep haft hnot b hb hb' K hK Q'
      have e0 := (hb' 0 (by simp)).trans s0
      clear hb hb'
      go_simp
      exact hK _ _ rfl (fun _ _ _ h => h) hJ
    · intro done us W hJ hdep haft hnot b hb hb' K hK Q'
      simp only [List.getD_cons_succ, List.getD_cons_zero, List.mem_cons, List.not_mem_nil, or_false, forall_eq_or_imp, forall_eq] at hdep
      have e5 := hb 0 5 rfl
      have d0 := hdep
      rw [d0.1] at e5
      clear hb hb' hdep d0
      go_simp
      exact hK _ _ rfl (fun _ _ _ h => h) hJ
    · intro done us W hJ hdep haft hnot b hb hb' K hK Q'
      simp only [List.getD_cons_succ, List.getD_cons_zero, List.mem_cons, List.not_mem_nil, or_false, forall_eq_or_imp, forall_eq] at hdep
      have e6 := hb 1 6 rfl
      have d1 := hdep
      rw [d1.1] at e6
      clear hb hb' hdep d1
      go_simp
      exact hK _ _ rfl (fun _ _ _ h => h) hJ
    · intro done us W hJ hdep haft hnot b hb hb' K hK Q'
      simp only [List.getD_cons_succ, List.getD_cons_zero, List.mem_cons, List.not_mem_nil, or_false, forall_eq_or_imp, forall_eq] at hdep
      have e7 := hb 2 7 rfl
      have d2 := hdep
      rw [d2.1] at e7
      clear hb hb' hdep d2
      have q := Ext.cell hJ f0
      go_simp
      exact hK _ _ rfl (fun _ _ _ h => h) hJ
    · intro done us W hJ hdep haft hnot b hb hb' K hK Q'
      have e1 := (hb' 1 (by simp)).trans s1
      clear hb hb'
      go_simp
      exact hK _ _ rfl (fun _ _ _ h => h) hJ
    · intro done us W hJ hdep haft hnot b hb hb' K hK Q'
      clear hb hb'
      have ho := Row0.new (W := W) (Ext.size hJ)
      go_simp
      exact hK _ _ ho (fun j u _ h => hmono _ _ j u ((Ext.refl _).alloc _) h) (Ext.alloc hJ _)
    · intro done us W hJ hdep haft hnot b hb hb' K hK Q'
      have e0 := (hb' 0 (by simp)).trans s0
      clear hb hb'
      go_simp
      exact hK _ _ rfl (fun _ _ _ h => h) hJ
    · intro done us W hJ hdep haft hnot b hb hb' K hK Q'
      simp only [List.getD_cons_succ, List.getD_cons_zero, List.mem_cons, List.not_mem_nil, or_false, forall_eq_or_imp, forall_eq] at hdep
      have e11 := hb 6 11 rfl
      have d6 := hdep
      rw [d6.1] at e11
      clear hb hb' hdep d6
      go_simp
      exact hK _ _ rfl (fun _ _ _ h => h) hJ
    · intro done us W hJ hdep haft hnot b hb hb' K hK Q'
      simp only [List.getD_cons_succ, List.getD_cons_zero, List.mem_cons, List.not_mem_nil, or_false, forall_eq_or_imp, forall_eq] at hdep
      have e12 := hb 7 12 rfl
      have d7 := hdep
      rw [d7.1] at e12
      clear hb hb' hdep d7
      go_simp
      exact hK _ _ rfl (fun _ _ _ h => h) hJ
    · intro done us W hJ hdep haft hnot b hb hb' K hK Q'
      simp only [List.getD_cons_succ, List.getD_cons_zero, List.mem_cons, List.not_mem_nil, or_false, forall_eq_or_imp, forall_eq] at hdep
      have e13 := hb 8 13 rfl
      have d8 := hdep
      rw [d8.1] at e13
      clear hb hb' hdep d8
      have q := Ext.cell hJ f4
      go_simp
      exact hK _ _ rfl (fun _ _ _ h => h) hJ
    · intro done us W hJ hdep haft hnot b hb hb' K hK Q'
      have e1 := (hb' 1 (by simp)).trans s1
      clear hb hb'
      go_simp
      exact hK _ _ rfl (fun _ _ _ h => h) hJ
    · intro done us W hJ hdep haft hnot b hb hb' K hK Q'
      simp only [List.getD_cons_succ, List.getD_cons_zero, List.mem_cons, List.not_mem_nil, or_false, forall_eq_or_imp, forall_eq] at hdep
      have e14 := hb 9 14 rfl
      have e15 := hb 10 15 rfl
      have d9 := hdep.1
      have d10 := hdep.2
      rw [d9.1] at e14
      rw [d10.1] at e15
      clear hb hb' hdep d9 d10
      have q := (MapL.ext hM hJ).run_at keyed_int und_mapB (zero_B _) (keyOf_i64 und_int (x := (z : Int)) (by omega))
      rw [hl] at q
      simp only [Option.getD_some] at q
      go_simp
      exact hK _ _ rfl (fun _ _ _ h => h) hJ
    · intro done us W hJ hdep haft hnot b hb hb' K hK Q'
      simp only [List.getD_cons_succ, List.getD_cons_zero, List.mem_cons, List.not_mem_nil, or_false, forall_eq_or_imp, forall_eq] at hdep
      have e10 := hb 5 10 rfl
      have e16 := hb 11 16 rfl
      have d5 := hdep.1
      have d11 := hdep.2
      rw [d11.1] at e16
      clear hb hb' hdep d11
      obtain ⟨gq, e', ho⟩ := d5.1
      rw [e'] at e10
      obtain ⟨v', w', q, ho', hX⟩ := run_app0 (P := Try.prog) W elB 22 w.heap.size gq ho Ab n c (xs.map (.int .u8)) (by rw [List.length_map, hI.1]; omega) (Ints.ext hI hJ).2.2 (ints_oneCell _ _) (by omega) (by unfold maxLen; omega) (Ext.size hJ)
      obtain ⟨A', c', rfl⟩ := own_slice ho'
      exact jop_app rfl rfl e10 e16 q (hK _ _ ⟨A', _, c', rfl, ho', hI.1, hI.2.1⟩ (fun j u _ h => hmono _ _ j u hX h) (Ext.trans hJ hX))
    · intro done us W hJ hdep haft hnot b hb hb' K hK Q'
      simp only [List.getD_cons_succ, List.getD_cons_zero, List.mem_cons, List.not_mem_nil, or_false, forall_eq_or_imp, forall_eq] at hdep
      have e8 := hb 3 8 rfl
      have e9 := hb 4 9 rfl
      have e17 := hb 12 17 rfl
      have d3 := hdep.1
      have d4 := hdep.2.1
      have d12 := hdep.2.2
      rw [d3.1] at e8
      rw [d4.1] at e9
      clear hb hb' hdep d3 d4
      have e9 := e9
      have h12 := d12.1
      obtain ⟨A', n', c', e', ho⟩ := h12
      rw [e'] at e17
      go_simp
      exact hK _ _ ⟨A', n', c', rfl, ho⟩ (fun _ _ _ h => h) hJ
  · intro us W hV hJ
    exact hend (us 0) (us 1) (us 2) (us 3) (us 4) (us 5) (us 6) (us 7) (us 8) (us 9) (us 10) (us 11) (us 12) (us 13) W (hV 0 (by omega)) (hV 1 (by omega)) (hV 2 (by omega)) (hV 3 (by omega)) (hV 4 (by omega)) (hV 5 (by omega)) (hV 6 (by omega)) (hV 7 (by omega)) (hV 8 (by omega)) (hV 9 (by omega)) (hV 10 (by omega)) (hV 11 (by omega)) (hV 12 (by omega)) (hV 13 (by omega)) hJ
set_option maxRecDepth 100000 in
set_option maxHeartbeats 2000000 in
theorem frameP_any (base g m q : Nat) (s : Snd) (w : World) (h : SndP base w g m s) (h1 : s.acked ≤ q) (h2 : q < s.bodies.length) (h3 : s.bodies.length ≤ 5000000000) :
    Calls Try.prog 75 #[.pointer (some ⟨g, 0, none⟩), .int .i64 (q : Int)] w (fun e w' => ∃ v, e = .returned v ∧ FrVO w.heap.size w' v ⟨s.stream, q, s.bodies.getD q []⟩ ∧ Ext w w') := by
  obtain ⟨l, hM, hF⟩ := h.map
  obtain ⟨v, hl, hB⟩ := h.find_ l hF q h1 h2
  obtain ⟨Ab, n, c, rfl, hO⟩ := hB
  have hb : n ≤ 1024 := by
    have hm := (h.ok.body (s.bodies.getD q []) (by simp [List.getD, List.getElem?_eq_getElem h2])).1
    have := hO.len
    omega
  have HM := Lib.hid hM
  have HL := Lib.hid hl
  have HI := Lib.hid hO.ints
  have HB := Lib.hid h.blk
  clear hF hO hM hl h
  have hXe : Ext w (w.alloc (.cells #[.int .i64 0, .int .i64 0, .slice none 0 0] 38)) := ((Ext.refl w).alloc _)
  have kt : Blk (w.alloc (.cells #[.int .i64 0, .int .i64 0, .slice none 0 0] 38)) w.heap.size 38 #[.int .i64 0, .int .i64 0, .slice none 0 0] := Blk.at_ (by simp)
  go_enter Try.func75, Try.ntmps75
  go_wp2_with fail
  generalize (w.alloc (.cells #[.int .i64 0, .int .i64 0, .slice none 0 0] 38)) = w1 at hXe kt ⊢
  have HX := Lib.hid hXe
  clear hXe
  have Kt := Lib.hid kt
  clear kt
  replace HM := Lib.hid (HM.out.ext HX.out)
  replace HI := Lib.hid (HI.out.ext HX.out)
  replace HB := Lib.hid (HB.out.ext HX.out)
  have HY := HX
  refine frameP_r1 g m q s.stream l Ab n c (s.bodies.getD q []) w1 (HB.out.cell 0) (HB.out.cell 4) HM.out HL.out (by omega) HI.out (by omega) _ _ (by simp) rfl rfl ?_
  rintro xv0 xv1 xv2 xv3 xv4 xv5 xv6 xv7 xv8 xv9 xv10 xv11 xv12 xv13 w2 rfl rfl rfl rfl rfl _ rfl rfl rfl rfl rfl rfl _ ⟨A2, n2, c2, rfl, ho2⟩ hXW
  simp only [rops, Try.f75, regOf, Option.bind_some, Nat.reduceBEq, if_true, if_false, Bool.false_eq_true, Option.getD_some, List.drop_succ_cons, List.drop_zero]
  simp only [Act.put, List.setIfInBounds_toArray, List.set_cons_succ, List.set_cons_zero]
  replace HX := Lib.hid (HX.out.trans hXW)
  replace HM := Lib.hid (HM.out.ext hXW)
  replace HI := Lib.hid (HI.out.ext hXW)
  replace HB := Lib.hid (HB.out.ext hXW)
  replace Kt := Lib.hid (Kt.out.ext hXW)
  clear hXW
  have HO := Lib.hid ho2
  clear ho2
  have ct0 : w2.cell? ⟨w.heap.size, 0, none⟩ = some (.int .i64 0) := Kt.out.cell 0
  have ft0 : w2.frozen? ⟨w.heap.size, 0, none⟩ = false := Kt.out.free 0
  have ct1 : w2.cell? ⟨w.heap.size, 1, none⟩ = some (.int .i64 0) := Kt.out.cell 1
  have ft1 : w2.frozen? ⟨w.heap.size, 1, none⟩ = false := Kt.out.free 1
  have ct2 : w2.cell? ⟨w.heap.size, 2, none⟩ = some (.slice none 0 0) := Kt.out.cell 2
  have ft2 : w2.frozen? ⟨w.heap.size, 2, none⟩ = false := Kt.out.free 2
  go_wp2
  refine bodyPost_ret (v := .agg #[.int .i64 s.stream, .int .i64 (q : Int), .slice A2 n2 c2]) (by simp [results, Try.results75, go_sem, *]) rfl ?_
  exact ⟨_, rfl, ⟨A2, n2, c2, rfl, (HO.out.keeps ((((Keeps.refl [w.heap.size] w2).setCell (.inl (by simp)) _).setCell (.inl (by simp)) _).setCell (.inl (by simp)) _) (by intro k hk; simp at hk; subst hk; exact NoRow.of_blk Kt.out (by decide))).mono (by have := HY.out.size; omega)⟩, ((HX.out.setCell (Nat.le_refl _) _).setCell (Nat.le_refl _) _).setCell (Nat.le_refl _) _⟩

end Go.Proofs.Ytekhmfliaojabaa
namespace Go.Proofs.Ytekhmfliaojabaa
open Go.RowKit

theorem Keeps.put3 (L : List Nat) (w : World) {t : Nat} (ht : t ∈ L) (x y z : Value) : Keeps L w (((w.setCell ⟨t, 0, none⟩ x).setCell ⟨t, 1, none⟩ y).setCell ⟨t, 2, none⟩ z) :=
  (((Keeps.refl L w).setCell (.inl ht) _).setCell (.inl ht) _).setCell (.inl ht) _
theorem SndP.put3 {base : Nat} {w : World} {g m t : Nat} {s : Snd} {T : TypeId} {cs : Array Value} (h : SndP base w g m s) (hT : Blk w t T cs) (h1 : T ≠ 98) (h2 : T ≠ 5) (x y z : Value) : SndP base (((w.setCell ⟨t, 0, none⟩ x).setCell ⟨t, 1, none⟩ y).setCell ⟨t, 2, none⟩ z) g m s :=
  h.keeps (Keeps.put3 [t] w (by simp) x y z) (by intro k hk; simp at hk; subst hk; exact NoRow.of_blk hT h1) (by
    simp; rintro rfl; obtain ⟨l, hM, _⟩ := h.map; exact hM.notRow _ _ _ hT) (by intro k hk; simp at hk; subst hk; exact NoRow.of_blk hT h2)
theorem OwnS.put3 {base : Nat} {w : World} {A : Option Addr} {n c t : Nat} {xs : List Int} {T : TypeId} {cs : Array Value} (h : OwnS .u8 5 base w A n c xs) (hT : Blk w t T cs) (h2 : T ≠ 5) (x y z : Value) : OwnS .u8 5 base (((w.setCell ⟨t, 0, none⟩ x).setCell ⟨t, 1, none⟩ y).setCell ⟨t, 2, none⟩ z) A n c xs :=
  h.keeps (Keeps.put3 [t] w (by simp) x y z) (by intro k hk; simp at hk; subst hk; exact NoRow.of_blk hT h2)
theorem Keeps.fresh3 {L : List Nat} {w0 w : World} (h : Keeps L w0 w) {t : Nat} (ht : w0.heap.size ≤ t) (x y z : Value) : Keeps L w0 (((w.setCell ⟨t, 0, none⟩ x).setCell ⟨t, 1, none⟩ y).setCell ⟨t, 2, none⟩ z) :=
  ((h.setCell (.inr ht) _).setCell (.inr ht) _).setCell (.inr ht) _
theorem SndP.grow {base : Nat} {w : World} {g m : Nat} {s : Snd} {l : List (Int × Value)} {v : Value} {xs : List Int} (hB : Blk w g 98 #[.int .i64 s.stream, .int .i64 s.window, .int .i64 s.acked, .int .i64 s.bodies.length, .map (some m)])
    (hM : MapL Try.prog 3 w m (l ++ [((s.bodies.length : Int), v)])) (hF : F2 (fun p q => p.1 = q.1 ∧ BodyV base w p.2 q.2) l (pendK s)) (hO : BodyV base w v xs) (lo : base ≤ g ∧ base ≤ m) (hac : s.acked ≤ s.bodies.length) (ok : SndOk { s with bodies := s.bodies ++ [xs] }) :
    SndP base (w.setCell ⟨g, 3, none⟩ (.int .i64 ((s.bodies.length : Int) + 1))) g m { s with bodies := s.bodies ++ [xs] } := by
  have hgm : g ≠ m := hM.ne_blk hB
  have hK : Keeps [g] w (w.setCell ⟨g, 3, none⟩ (.int .i64 ((s.bodies.length : Int) + 1))) := (Keeps.refl _ _).setCell (.inl (by simp)) _
  have hN : ∀ k ∈ [g], NoRow 5 w k := by intro k hk; simp at hk; subst hk; exact NoRow.of_blk hB (by decide)
  refine ⟨?_, ⟨_, hM.setCell (by simpa using hgm.symm) _, ?_⟩, lo, ok⟩
  · have := hB.set 3 (.int .i64 ((s.bodies.length : Int) + 1))
    simpa using this
  · rw [pendK_snoc hac]
    exact (hF.snoc (a := ((s.bodies.length : Int), v)) (b := ((s.bodies.length : Int), xs)) ⟨rfl, hO⟩).imp fun p q _ h => ⟨h.1, h.2.keeps hK hN⟩

set_option maxRecDepth 100000 in
set_option maxHeartbeats 2000000 in
theorem noneP_any (g : Nat) (x : Int) (w : World) (h : w.cell? ⟨g, 1, none⟩ = some (.int .i64 x)) (h0 : x ≠ 0) :
    Calls Try.prog 74 #[.pointer (some ⟨g, 0, none⟩)] w (fun e w' => e = .returned (.bool false) ∧ w = w') := by
  have hne : (x == 0) = false := by simpa using h0
  have hnp : ((some (⟨g, 0, none⟩ : Addr)) == none) = false := by simp
  clear h0
  go_enter Try.func74, Try.ntmps74
  go_wp2
  go_ret
  exact ⟨rfl, rfl⟩

set_option maxRecDepth 100000 in
set_option maxHeartbeats 2000000 in
theorem offerP_r3n (g na nl z : Nat) (wn : Int) (w : World) (f1 : w.cell? ⟨g, 1, none⟩ = some (.int .i64 wn)) (f2 : w.cell? ⟨g, 2, none⟩ = some (.int .i64 (na : Int))) (f3 : w.cell? ⟨g, 3, none⟩ = some (.int .i64 (nl : Int))) (hz : Hid (nl = na + z)) (hn : nl ≤ 1000000) (hw : (z : Int) < wn) (a : Act) (Q : Exit → Act → World → Prop) (hsize : 36 ≤ a.tmps.size)
    (s0 : a.tmps[0]? = some (.pointer (some ⟨g, 0, none⟩)))
    (hend : ∀ (xv0 xv1 xv2 xv3 xv4 xv5 xv6 xv7 xv8 xv9 xv10 xv11 xv12 xv13 xv14 xv15 xv16 xv17 xv18 xv19 xv20 : Value) (W : World), (xv0 = .pointer (some ⟨g, 0, none⟩)) → (xv1 = .pointer (some ⟨g, 0, none⟩)) → (xv2 = .pointer (some ⟨g, 3, none⟩)) → (xv3 = .int .i64 (nl : Int)) → (xv4 = .pointer (some ⟨g, 0, none⟩)) → (xv5 = .pointer (some ⟨g, 0, none⟩)) → (xv6 = .pointer (some ⟨g, 2, none⟩)) → (xv7 = .int .i64 (na : Int)) → (xv8 = .int .i64 (z : Int)) → (xv9 = .pointer (some ⟨g, 0, none⟩)) → (xv10 = .pointer (some ⟨g, 0, none⟩)) → (xv11 = .pointer (some ⟨g, 1, none⟩)) → (xv12 = .int .i64 wn) → (xv13 = .bool false) → (xv14 = .bool false) → (xv15 = .pointer (some ⟨g, 0, none⟩)) → (xv16 = .pointer (some ⟨g, 0, none⟩)) → (xv17 = .pointer (some ⟨g, 3, none⟩)) → (xv18 = .int .i64 (nl : Int)) → (xv19 = .bool false) → (xv20 = .bool false) → Ext w W → wpList Try.prog (rops Try.f36 3).toArray Q ((rops Try.f36 3).drop 21) (((((((((((((((((((((a.put (some 15) xv0).put (some 16) xv1).put (some 17) xv2).put (some 18) xv3).put (some 19) xv4).put (some 20) xv5).put (some 21) xv6).put (some 22) xv7).put (some 23) xv8).put (some 24) xv9).put (some 25) xv10).put (some 26) xv11).put (some 27) xv12).put (some 28) xv13).put (some 29) xv14).put (some 30) xv15).put (some 31) xv16).put (some 32) xv17).put (some 33) xv18).put (some 34) xv19).put (some 35) xv20) W) :
    (Code.region 3 (rops Try.f36 3).toArray true).wp Try.prog Q a w := by
  have hmono : ∀ (W W' : World) (j : Nat) (u : Value), Ext W W' → (fun (i : Nat) (v : Value) (W : World) => match i with
    | 0 => v = .pointer (some ⟨g, 0, none⟩)
    | 1 => v = .pointer (some ⟨g, 0, none⟩)
    | 2 => v = .pointer (some ⟨g, 3, none⟩)
    | 3 => v = .int .i64 (nl : Int)
    | 4 => v = .pointer (some ⟨g, 0, none⟩)
    | 5 => v = .pointer (some ⟨g, 0, none⟩)
    | 6 => v = .pointer (some ⟨g, 2, none⟩)
    | 7 => v = .int .i64 (na : Int)
    | 8 => v = .int .i64 (z : Int)
    | 9 => v = .pointer (some ⟨g, 0, none⟩)
    | 10 => v = .pointer (some ⟨g, 0, none⟩)
    | 11 => v = .pointer (some ⟨g, 1, none⟩)
    | 12 => v = .int .i64 wn
    | 13 => v = .bool false
    | 14 => v = .bool false
    | 15 => v = .pointer (some ⟨g, 0, none⟩)
    | 16 => v = .pointer (some ⟨g, 0, none⟩)
    | 17 => v = .pointer (some ⟨g, 3, none⟩)
    | 18 => v = .int .i64 (nl : Int)
    | 19 => v = .bool false
    | 20 => v = .bool false
    | _ => True) j u W → (fun (i : Nat) (v : Value) (W : World) => match i with
    | 0 => v = .pointer (some ⟨g, 0, none⟩)
    | 1 => v = .pointer (some ⟨g, 0, none⟩)
    | 2 => v = .pointer (some ⟨g, 3, none⟩)
    | 3 => v = .int .i64 (nl : Int)
    | 4 => v = .pointer (some ⟨g, 0, none⟩)
    | 5 => v = .pointer (some ⟨g, 0, none⟩)
    | 6 => v = .pointer (some ⟨g, 2, none⟩)
    | 7 => v = .int .i64 (na : Int)
    | 8 => v = .int .i64 (z : Int)
    | 9 => v = .pointer (some ⟨g, 0, none⟩)
    | 10 => v = .pointer (some ⟨g, 0, none⟩)
    | 11 => v = .pointer (some ⟨g, 1, none⟩)
    | 12 => v = .int .i64 wn
    | 13 => v = .bool false
    | 14 => v = .bool false
    | 15 => v = .pointer (some ⟨g, 0, none⟩)
    | 16 => v = .pointer (some ⟨g, 0, none⟩)
    | 17 => v = .pointer (some ⟨g, 3, none⟩)
    | 18 => v = .int .i64 (nl : Int)
    | 19 => v = .bool false
    | 20 => v = .bool false
    | _ => True) j u W' := by
    intro W W' j u hX h
    match j, h with
    | 0, h => exact h
    | 1, h => exact h
    | 2, h => exact h
    | 3, h => exact h
    | 4, h => exact h
    | 5, h => exact h
    | 6, h => exact h
    | 7, h => exact h
    | 8, h => exact h
    | 9, h => exact h
    | 10, h => exact h
    | 11, h => exact h
    | 12, h => exact h
    | 13, h => exact h
    | 14, h => exact h
    | 15, h => exact h
    | 16, h => exact h
    | 17, h => exact h
    | 18, h => exact h
    | 19, h => exact h
    | 20, h => exact h
    | _ + 21, h => exact h
  have hsz : ∀ d, some d ∈ ([some 15, some 16, some 17, some 18, some 19, some 20, some 21, some 22, some 23, some 24, some 25, some 26, some 27, some 28, some 29, some 30, some 31, some 32, some 33, some 34, some 35] : List (Option Tmp)) → d < a.tmps.size := slots_lt (by decide) hsize
  refine wp_region_j 21 [some 15, some 16, some 17, some 18, some 19, some 20, some 21, some 22, some 23, some 24, some 25, some 26, some 27, some 28, some 29, some 30, some 31, some 32, some 33, some 34, some 35] [[], [0], [1], [2], [], [4], [5], [6], [3, 7], [], [9], [10], [11], [8, 12], [13], [14], [14, 15], [14, 16], [14, 17], [14, 18], [14, 19]] [[], [], [], [], [], [], [], [], [], [], [], [], [], [], [], [], [], [], [], [], []] (fun (i : Nat) (v : Value) (W : World) => match i with
    | 0 => v = .pointer (some ⟨g, 0, none⟩)
    | 1 => v = .pointer (some ⟨g, 0, none⟩)
    | 2 => v = .pointer (some ⟨g, 3, none⟩)
    | 3 => v = .int .i64 (nl : Int)
    | 4 => v = .pointer (some ⟨g, 0, none⟩)
    | 5 => v = .pointer (some ⟨g, 0, none⟩)
    | 6 => v = .pointer (some ⟨g, 2, none⟩)
    | 7 => v = .int .i64 (na : Int)
    | 8 => v = .int .i64 (z : Int)
    | 9 => v = .pointer (some ⟨g, 0, none⟩)
    | 10 => v = .pointer (some ⟨g, 0, none⟩)
    | 11 => v = .pointer (some ⟨g, 1, none⟩)
    | 12 => v = .int .i64 wn
    | 13 => v = .bool false
    | 14 => v = .bool false
    | 15 => v = .pointer (some ⟨g, 0, none⟩)
    | 16 => v = .pointer (some ⟨g, 0, none⟩)
    | 17 => v = .pointer (some ⟨g, 3, none⟩)
    | 18 => v = .int .i64 (nl : Int)
    | 19 => v = .bool false
    | 20 => v = .bool false
    | _ => True) (fun _ W => Ext w W) (by kernel_rfl) (by kernel_rfl) hsz (fun _ _ _ _ h => h) ((Ext.refl w).drew) ?_ ?_
  · clear hend
    simp only [rops, Try.f36, regOf, Option.bind_some, Nat.reduceBEq, if_true, if_false, Bool.false_eq_true, Option.getD_some]
    simp only [List.take_succ_cons, List.take_zero]
    refine ⟨?_, ?_, ?_, ?_, ?_, ?_, ?_, ?_, ?_, ?_, ?_, ?_, ?_, ?_, ?_, ?_, ?_, ?_, ?_, ?_, ?_, trivial⟩
    · intro done us W hJ hdep haft hnot b hb hb' K hK Q'
      have e0 := (hb' 0 (by simp)).trans s0
      clear hb hb'
      go_simp
      exact hK _ _ rfl (fun _ _ _ h => h) hJ
    · intro done us W hJ hdep haft hnot b hb hb' K hK Q'
      simp only [List.getD_cons_succ, List.getD_cons_zero, List.mem_cons, List.not_mem_nil, or_false, forall_eq_or_imp, forall_eq] at hdep
      have e15 := hb 0 15 rfl
      have d0 := hdep
      rw [d0.1] at e15
      clear hb hb' hdep d0
      go_simp
      exact hK _ _ rfl (fun _ _ _ h => h) hJ
    · intro done us W hJ hdep haft hnot b hb hb' K hK Q'
      simp only [List.getD_cons_succ, List.getD_cons_zero, List.mem_cons, List.not_mem_nil, or_false, forall_eq_or_imp, forall_eq] at hdep
      have e16 := hb 1 16 rfl
      have d1 := hdep
      rw [d1.1] at e16
      clear hb hb' hdep d1
      go_simp
      exact hK _ _ rfl (fun _ _ _ h => h) hJ
    · intro done us W hJ hdep haft hnot b hb hb' K hK Q'
      simp only [List.getD_cons_succ, List.getD_cons_zero, List.mem_cons, List.not_mem_nil, or_false, forall_eq_or_imp, forall_eq] at hdep
      have e17 := hb 2 17 rfl
      have d2 := hdep
      rw [d2.1] at e17
      clear hb hb' hdep d2
      have q := Ext.cell hJ f3
      go_simp
      exact hK _ _ rfl (fun _ _ _ h => h) hJ
    · intro done us W hJ hdep haft hnot b hb hb' K hK Q'
      have e0 := (hb' 0 (by simp)).trans s0
      clear hb hb'
      go_simp
      exact hK _ _ rfl (fun _ _ _ h => h) hJ
    · intro done us W hJ hdep haft hnot b hb hb' K hK Q'
      simp only [List.getD_cons_succ, List.getD_cons_zero, List.mem_cons, List.not_mem_nil, or_false, forall_eq_or_imp, forall_eq] at hdep
      have e19 := hb 4 19 rfl
      have d4 := hdep
      rw [d4.1] at e19
      clear hb hb' hdep d4
      go_simp
      exact hK _ _ rfl (fun _ _ _ h => h) hJ
    · intro done us W hJ hdep haft hnot b hb hb' K hK Q'
      simp only [List.getD_cons_succ, List.getD_cons_zero, List.mem_cons, List.not_mem_nil, or_false, forall_eq_or_imp, forall_eq] at hdep
      have e20 := hb 5 20 rfl
      have d5 := hdep
      rw [d5.1] at e20
      clear hb hb' hdep d5
      go_simp
      exact hK _ _ rfl (fun _ _ _ h => h) hJ
    · intro done us W hJ hdep haft hnot b hb hb' K hK Q'
      simp only [List.getD_cons_succ, List.getD_cons_zero, List.mem_cons, List.not_mem_nil, or_false, forall_eq_or_imp, forall_eq] at hdep
      have e21 := hb 6 21 rfl
      have d6 := hdep
      rw [d6.1] at e21
      clear hb hb' hdep d6
      have q := Ext.cell hJ f2
      go_simp
      exact hK _ _ rfl (fun _ _ _ h => h) hJ
    · intro done us W hJ hdep haft hnot b hb hb' K hK Q'
      simp only [List.getD_cons_succ, List.getD_cons_zero, List.mem_cons, List.not_mem_nil, or_false, forall_eq_or_imp, forall_eq] at hdep
      have e18 := hb 3 18 rfl
      have e22 := hb 7 22 rfl
      have d3 := hdep.1
      have d7 := hdep.2
      rw [d3.1] at e18
      rw [d7.1] at e22
      clear hb hb' hdep d3 d7
      have qw : IntKind.i64.wrap ((nl : Int) - (na : Int)) = (z : Int) := (IntWalk.i64_in _ (by have := hz.out; omega)).trans (by have := hz.out; omega)
      go_simp
      exact hK _ _ rfl (fun _ _ _ h => h) hJ
    · intro done us W hJ hdep haft hnot b hb hb' K hK Q'
      have e0 := (hb' 0 (by simp)).trans s0
      clear hb hb'
      go_simp
      exact hK _ _ rfl (fun _ _ _ h => h) hJ
    · intro done us W hJ hdep haft hnot b hb hb' K hK Q'
      simp only [List.getD_cons_succ, List.getD_cons_zero, List.mem_cons, List.not_mem_nil, or_false, forall_eq_or_imp, forall_eq] at hdep
      have e24 := hb 9 24 rfl
      have d9 := hdep
      rw [d9.1] at e24
      clear hb hb' hdep d9
      go_simp
      exact hK _ _ rfl (fun _ _ _ h => h) hJ
    · intro done us W hJ hdep haft hnot b hb hb' K hK Q'
      simp only [List.getD_cons_succ, List.getD_cons_zero, List.mem_cons, List.not_mem_nil, or_false, forall_eq_or_imp, forall_eq] at hdep
      have e25 := hb 10 25 rfl
      have d10 := hdep
      rw [d10.1] at e25
      clear hb hb' hdep d10
      go_simp
      exact hK _ _ rfl (fun _ _ _ h => h) hJ
    · intro done us W hJ hdep haft hnot b hb hb' K hK Q'
      simp only [List.getD_cons_succ, List.getD_cons_zero, List.mem_cons, List.not_mem_nil, or_false, forall_eq_or_imp, forall_eq] at hdep
      have e26 := hb 11 26 rfl
      have d11 := hdep
      rw [d11.1] at e26
      clear hb hb' hdep d11
      have q := Ext.cell hJ f1
      go_simp
      exact hK _ _ rfl (fun _ _ _ h => h) hJ
    · intro done us W hJ hdep haft hnot b hb hb' K hK Q'
      simp only [List.getD_cons_succ, List.getD_cons_zero, List.mem_cons, List.not_mem_nil, or_false, forall_eq_or_imp, forall_eq] at hdep
      have e23 := hb 8 23 rfl
      have e27 := hb 12 27 rfl
      have d8 := hdep.1
      have d12 := hdep.2
      rw [d8.1] at e23
      rw [d12.1] at e27
      clear hb hb' hdep d8 d12
      go_simp
      exact hK _ _ (by first | rfl | (congr 1; exact decide_eq_false (by omega))) (fun _ _ _ h => h) hJ
    · intro done us W hJ hdep haft hnot b hb hb' K hK Q'
      simp only [List.getD_cons_succ, List.getD_cons_zero, List.mem_cons, List.not_mem_nil, or_false, forall_eq_or_imp, forall_eq] at hdep
      have e28 := hb 13 28 rfl
      have d13 := hdep
      rw [d13.1] at e28
      clear hb hb' hdep d13
      go_simp
      exact hK _ _ rfl (fun _ _ _ h => h) hJ
    · intro done us W hJ hdep haft hnot b hb hb' K hK Q'
      simp only [List.getD_cons_succ, List.getD_cons_zero, List.mem_cons, List.not_mem_nil, or_false, forall_eq_or_imp, forall_eq] at hdep
      have e0 := (hb' 0 (by simp)).trans s0
      have e29 := hb 14 29 rfl
      have d14 := hdep
      rw [d14.1] at e29
      clear hb hb' hdep d14
      go_simp
      exact hK _ _ rfl (fun _ _ _ h => h) hJ
    · intro done us W hJ hdep haft hnot b hb hb' K hK Q'
      simp only [List.getD_cons_succ, List.getD_cons_zero, List.mem_cons, List.not_mem_nil, or_false, forall_eq_or_imp, forall_eq] at hdep
      have e29 := hb 14 29 rfl
      have e30 := hb 15 30 rfl
      have d14 := hdep.1
      have d15 := hdep.2
      rw [d14.1] at e29
      rw [d15.1] at e30
      clear hb hb' hdep d14 d15
      go_simp
      exact hK _ _ rfl (fun _ _ _ h => h) hJ
    · intro done us W hJ hdep haft hnot b hb hb' K hK Q'
      simp only [List.getD_cons_succ, List.getD_cons_zero, List.mem_cons, List.not_mem_nil, or_false, forall_eq_or_imp, forall_eq] at hdep
      have e29 := hb 14 29 rfl
      have e31 := hb 16 31 rfl
      have d14 := hdep.1
      have d16 := hdep.2
      rw [d14.1] at e29
      rw [d16.1] at e31
      clear hb hb' hdep d14 d16
      go_simp
      exact hK _ _ rfl (fun _ _ _ h => h) hJ
    · intro done us W hJ hdep haft hnot b hb hb' K hK Q'
      simp only [List.getD_cons_succ, List.getD_cons_zero, List.mem_cons, List.not_mem_nil, or_false, forall_eq_or_imp, forall_eq] at hdep
      have e29 := hb 14 29 rfl
      have e32 := hb 17 32 rfl
      have d14 := hdep.1
      have d17 := hdep.2
      rw [d14.1] at e29
      rw [d17.1] at e32
      clear hb hb' hdep d14 d17
      have q := Ext.cell hJ f3
      go_simp
      exact hK _ _ rfl (fun _ _ _ h => h) hJ
    · intro done us W hJ hdep haft hnot b hb hb' K hK Q'
      simp only [List.getD_cons_succ, List.getD_cons_zero, List.mem_cons, List.not_mem_nil, or_false, forall_eq_or_imp, forall_eq] at hdep
      have e29 := hb 14 29 rfl
      have e33 := hb 18 33 rfl
      have d14 := hdep.1
      have d18 := hdep.2
      rw [d14.1] at e29
      rw [d18.1] at e33
      clear hb hb' hdep d14 d18
      go_simp
      exact hK _ _ (by first | rfl | (congr 1; exact decide_eq_false (by omega))) (fun _ _ _ h => h) hJ
    · intro done us W hJ hdep haft hnot b hb hb' K hK Q'
      simp only [List.getD_cons_succ, List.getD_cons_zero, List.mem_cons, List.not_mem_nil, or_false, forall_eq_or_imp, forall_eq] at hdep
      have e29 := hb 14 29 rfl
      have e34 := hb 19 34 rfl
      have d14 := hdep.1
      have d19 := hdep.2
      rw [d14.1] at e29
      rw [d19.1] at e34
      clear hb hb' hdep d14 d19
      go_simp
      exact hK _ _ rfl (fun _ _ _ h => h) hJ
  · intro us W hV hJ
    exact hend (us 0) (us 1) (us 2) (us 3) (us 4) (us 5) (us 6) (us 7) (us 8) (us 9) (us 10) (us 11) (us 12) (us 13) (us 14) (us 15) (us 16) (us 17) (us 18) (us 19) (us 20) W (hV 0 (by omega)) (hV 1 (by omega)) (hV 2 (by omega)) (hV 3 (by omega)) (hV 4 (by omega)) (hV 5 (by omega)) (hV 6 (by omega)) (hV 7 (by omega)) (hV 8 (by omega)) (hV 9 (by omega)) (hV 10 (by omega)) (hV 11 (by omega)) (hV 12 (by omega)) (hV 13 (by omega)) (hV 14 (by omega)) (hV 15 (by omega)) (hV 16 (by omega)) (hV 17 (by omega)) (hV 18 (by omega)) (hV 19 (by omega)) (hV 20 (by omega)) hJ
set_option maxRecDepth 100000 in
set_option maxHeartbeats 2000000 in
theorem offerP_r3y (g na nl z : Nat) (wn : Int) (w : World) (f1 : w.cell? ⟨g, 1, none⟩ = some (.int .i64 wn)) (f2 : w.cell? ⟨g, 2, none⟩ = some (.int .i64 (na : Int))) (f3 : w.cell? ⟨g, 3, none⟩ = some (.int .i64 (nl : Int))) (hz : Hid (nl = na + z)) (hn : nl ≤ 1000000) (hw : wn ≤ (z : Int)) (a : Act) (Q : Exit → Act → World → Prop) (hsize : 36 ≤ a.tmps.size)
    (s0 : a.tmps[0]? = some (.pointer (some ⟨g, 0, none⟩)))
    (hend : ∀ (xv0 xv1 xv2 xv3 xv4 xv5 xv6 xv7 xv8 xv9 xv10 xv11 xv12 xv13 xv14 xv15 xv16 xv17 xv18 xv19 xv20 : Value) (W : World), (xv0 = .pointer (some ⟨g, 0, none⟩)) → (xv1 = .pointer (some ⟨g, 0, none⟩)) → (xv2 = .pointer (some ⟨g, 3, none⟩)) → (xv3 = .int .i64 (nl : Int)) → (xv4 = .pointer (some ⟨g, 0, none⟩)) → (xv5 = .pointer (some ⟨g, 0, none⟩)) → (xv6 = .pointer (some ⟨g, 2, none⟩)) → (xv7 = .int .i64 (na : Int)) → (xv8 = .int .i64 (z : Int)) → (xv9 = .pointer (some ⟨g, 0, none⟩)) → (xv10 = .pointer (some ⟨g, 0, none⟩)) → (xv11 = .pointer (some ⟨g, 1, none⟩)) → (xv12 = .int .i64 wn) → (xv13 = .bool true) → (xv14 = .bool true) → (xv15 = undef) → (xv16 = undef) → (xv17 = undef) → (xv18 = undef) → (xv19 = undef) → (xv20 = .bool true) → Ext w W → wpList Try.prog (rops Try.f36 3).toArray Q ((rops Try.f36 3).drop 21) (((((((((((((((((((((a.put (some 15) xv0).put (some 16) xv1).put (some 17) xv2).put (some 18) xv3).put (some 19) xv4).put (some 20) xv5).put (some 21) xv6).put (some 22) xv7).put (some 23) xv8).put (some 24) xv9).put (some 25) xv10).put (some 26) xv11).put (some 27) xv12).put (some 28) xv13).put (some 29) xv14).put (some 30) xv15).put (some 31) xv16).put (some 32) xv17).put (some 33) xv18).put (some 34) xv19).put (some 35) xv20) W) :
    (Code.region 3 (rops Try.f36 3).toArray true).wp Try.prog Q a w := by
  have hmono : ∀ (W W' : World) (j : Nat) (u : Value), Ext W W' → (fun (i : Nat) (v : Value) (W : World) => match i with
    | 0 => v = .pointer (some ⟨g, 0, none⟩)
    | 1 => v = .pointer (some ⟨g, 0, none⟩)
    | 2 => v = .pointer (some ⟨g, 3, none⟩)
    | 3 => v = .int .i64 (nl : Int)
    | 4 => v = .pointer (some ⟨g, 0, none⟩)
    | 5 => v = .pointer (some ⟨g, 0, none⟩)
    | 6 => v = .pointer (some ⟨g, 2, none⟩)
    | 7 => v = .int .i64 (na : Int)
    | 8 => v = .int .i64 (z : Int)
    | 9 => v = .pointer (some ⟨g, 0, none⟩)
    | 10 => v = .pointer (some ⟨g, 0, none⟩)
    | 11 => v = .pointer (some ⟨g, 1, none⟩)
    | 12 => v = .int .i64 wn
    | 13 => v = .bool true
    | 14 => v = .bool true
    | 15 => v = undef
    | 16 => v = undef
    | 17 => v = undef
    | 18 => v = undef
    | 19 => v = undef
    | 20 => v = .bool true
    | _ => True) j u W → (fun (i : Nat) (v : Value) (W : World) => match i with
    | 0 => v = .pointer (some ⟨g, 0, none⟩)
    | 1 => v = .pointer (some ⟨g, 0, none⟩)
    | 2 => v = .pointer (some ⟨g, 3, none⟩)
    | 3 => v = .int .i64 (nl : Int)
    | 4 => v = .pointer (some ⟨g, 0, none⟩)
    | 5 => v = .pointer (some ⟨g, 0, none⟩)
    | 6 => v = .pointer (some ⟨g, 2, none⟩)
    | 7 => v = .int .i64 (na : Int)
    | 8 => v = .int .i64 (z : Int)
    | 9 => v = .pointer (some ⟨g, 0, none⟩)
    | 10 => v = .pointer (some ⟨g, 0, none⟩)
    | 11 => v = .pointer (some ⟨g, 1, none⟩)
    | 12 => v = .int .i64 wn
    | 13 => v = .bool true
    | 14 => v = .bool true
    | 15 => v = undef
    | 16 => v = undef
    | 17 => v = undef
    | 18 => v = undef
    | 19 => v = undef
    | 20 => v = .bool true
    | _ => True) j u W' := by
    intro W W' j u hX h
    match j, h with
    | 0, h => exact h
    | 1, h => exact h
    | 2, h => exact h
    | 3, h => exact h
    | 4, h => exact h
    | 5, h => exact h
    | 6, h => exact h
    | 7, h => exact h
    | 8, h => exact h
    | 9, h => exact h
    | 10, h => exact h
    | 11, h => exact h
    | 12, h => exact h
    | 13, h => exact h
    | 14, h => exact h
    | 15, h => exact h
    | 16, h => exact h
    | 17, h => exact h
    | 18, h => exact h
    | 19, h => exact h
    | 20, h => exact h
    | _ + 21, h => exact h
  have hsz : ∀ d, some d ∈ ([some 15, some 16, some 17, some 18, some 19, some 20, some 21, some 22, some 23, some 24, some 25, some 26, some 27, some 28, some 29, some 30, some 31, some 32, some 33, some 34, some 35] : List (Option Tmp)) → d < a.tmps.size := slots_lt (by decide) hsize
  refine wp_region_j 21 [some 15, some 16, some 17, some 18, some 19, some 20, some 21, some 22, some 23, some 24, some 25, some 26, some 27, some 28, some 29, some 30, some 31, some 32, some 33, some 34, some 35] [[], [0], [1], [2], [], [4], [5], [6], [3, 7], [], [9], [10], [11], [8, 12], [13], [14], [14, 15], [14, 16], [14, 17], [14, 18], [14, 19]] [[], [], [], [], [], [], [], [], [], [], [], [], [], [], [], [], [], [], [], [], []] (fun (i : Nat) (v : Value) (W : World) => match i with
    | 0 => v = .pointer (some ⟨g, 0, none⟩)
    | 1 => v = .pointer (some ⟨g, 0, none⟩)
    | 2 => v = .pointer (some ⟨g, 3, none⟩)
    | 3 => v = .int .i64 (nl : Int)
    | 4 => v = .pointer (some ⟨g, 0, none⟩)
    | 5 => v = .pointer (some ⟨g, 0, none⟩)
    | 6 => v = .pointer (some ⟨g, 2, none⟩)
    | 7 => v = .int .i64 (na : Int)
    | 8 => v = .int .i64 (z : Int)
    | 9 => v = .pointer (some ⟨g, 0, none⟩)
    | 10 => v = .pointer (some ⟨g, 0, none⟩)
    | 11 => v = .pointer (some ⟨g, 1, none⟩)
    | 12 => v = .int .i64 wn
    | 13 => v = .bool true
    | 14 => v = .bool true
    | 15 => v = undef
    | 16 => v = undef
    | 17 => v = undef
    | 18 => v = undef
    | 19 => v = undef
    | 20 => v = .bool true
    | _ => True) (fun _ W => Ext w W) (by kernel_rfl) (by kernel_rfl) hsz (fun _ _ _ _ h => h) ((Ext.refl w).drew) ?_ ?_
  · clear hend
    simp only [rops, Try.f36, regOf, Option.bind_some, Nat.reduceBEq, if_true, if_false, Bool.false_eq_true, Option.getD_some]
    simp only [List.take_succ_cons, List.take_zero]
    refine ⟨?_, ?_, ?_, ?_, ?_, ?_, ?_, ?_, ?_, ?_, ?_, ?_, ?_, ?_, ?_, ?_, ?_, ?_, ?_, ?_, ?_, trivial⟩
    · intro done us W hJ hdep haft hnot b hb hb' K hK Q'
      have e0 := (hb' 0 (by simp)).trans s0
      clear hb hb'
      go_simp
      exact hK _ _ rfl (fun _ _ _ h => h) hJ
    · intro done us W hJ hdep haft hnot b hb hb' K hK Q'
      simp only [List.getD_cons_succ, List.getD_cons_zero, List.mem_cons, List.not_mem_nil, or_false, forall_eq_or_imp, forall_eq] at hdep
      have e15 := hb 0 15 rfl
      have d0 := hdep
      rw [d0.1] at e15
      clear hb hb' hdep d0
      go_simp
      exact hK _ _ rfl (fun _ _ _ h => h) hJ
    · intro done us W hJ hdep haft hnot b hb hb' K hK Q'
      simp only [List.getD_cons_succ, List.getD_cons_zero, List.mem_cons, List.not_mem_nil, or_false, forall_eq_or_imp, forall_eq] at hdep
      have e16 := hb 1 16 rfl
      have d1 := hdep
      rw [d1.1] at e16
      clear hb hb' hdep d1
      go_simp
      exact hK _ _ rfl (fun _ _ _ h => h) hJ
    · intro done us W hJ hdep haft hnot b hb hb' K hK Q'
      simp only [List.getD_cons_succ, List.getD_cons_zero, List.mem_cons, List.not_mem_nil, or_false, forall_eq_or_imp, forall_eq] at hdep
      have e17 := hb 2 17 rfl
      have d2 := hdep
      rw [d2.1] at e17
      clear hb hb' hdep d2
      have q := Ext.cell hJ f3
      go_simp
      exact hK _ _ rfl (fun _ _ _ h => h) hJ
    · intro done us W hJ hdep haft hnot b hb hb' K hK Q'
      have e0 := (hb' 0 (by simp)).trans s0
      clear hb hb'
      go_simp
      exact hK _ _ rfl (fun _ _ _ h => h) hJ
    · intro done us W hJ hdep haft hnot b hb hb' K hK Q'
      simp only [List.getD_cons_succ, List.getD_cons_zero, List.mem_cons, List.not_mem_nil, or_false, forall_eq_or_imp, forall_eq] at hdep
      have e19 := hb 4 19 rfl
      have d4 := hdep
      rw [d4.1] at e19
      clear hb hb' hdep d4
      go_simp
      exact hK _ _ rfl (fun _ _ _ h => h) hJ
    · intro done us W hJ hdep haft hnot b hb hb' K hK Q'
      simp only [List.getD_cons_succ, List.getD_cons_zero, List.mem_cons, List.not_mem_nil, or_false, forall_eq_or_imp, forall_eq] at hdep
      have e20 := hb 5 20 rfl
      have d5 := hdep
      rw [d5.1] at e20
      clear hb hb' hdep d5
      go_simp
      exact hK _ _ rfl (fun _ _ _ h => h) hJ
    · intro done us W hJ hdep haft hnot b hb hb' K hK Q'
      simp only [List.getD_cons_succ, List.getD_cons_zero, List.mem_cons, List.not_mem_nil, or_false, forall_eq_or_imp, forall_eq] at hdep
      have e21 := hb 6 21 rfl
      have d6 := hdep
      rw [d6.1] at e21
      clear hb hb' hdep d6
      have q := Ext.cell hJ f2
      go_simp
      exact hK _ _ rfl (fun _ _ _ h => h) hJ
    · intro done us W hJ hdep haft hnot b hb hb' K hK Q'
      simp only [List.getD_cons_succ, List.getD_cons_zero, List.mem_cons, List.not_mem_nil, or_false, forall_eq_or_imp, forall_eq] at hdep
      have e18 := hb 3 18 rfl
      have e22 := hb 7 22 rfl
      have d3 := hdep.1
      have d7 := hdep.2
      rw [d3.1] at e18
      rw [d7.1] at e22
      clear hb hb' hdep d3 d7
      have qw : IntKind.i64.wrap ((nl : Int) - (na : Int)) = (z : Int) := (IntWalk.i64_in _ (by have := hz.out; omega)).trans (by have := hz.out; omega)
      go_simp
      exact hK _ _ rfl (fun _ _ _ h => h) hJ
    · intro done us W hJ hdep haft hnot b hb hb' K hK Q'
      have e0 := (hb' 0 (by simp)).trans s0
      clear hb hb'
      go_simp
      exact hK _ _ rfl (fun _ _ _ h => h) hJ
    · intro done us W hJ hdep haft hnot b hb hb' K hK Q'
      simp only [List.getD_cons_succ, List.getD_cons_zero, List.mem_cons, List.not_mem_nil, or_false, forall_eq_or_imp, forall_eq] at hdep
      have e24 := hb 9 24 rfl
      have d9 := hdep
      rw [d9.1] at e24
      clear hb hb' hdep d9
      go_simp
      exact hK _ _ rfl (fun _ _ _ h => h) hJ
    · intro done us W hJ hdep haft hnot b hb hb' K hK Q'
      simp only [List.getD_cons_succ, List.getD_cons_zero, List.mem_cons, List.not_mem_nil, or_false, forall_eq_or_imp, forall_eq] at hdep
      have e25 := hb 10 25 rfl
      have d10 := hdep
      rw [d10.1] at e25
      clear hb hb' hdep d10
      go_simp
      exact hK _ _ rfl (fun _ _ _ h => h) hJ
    · intro done us W hJ hdep haft hnot b hb hb' K hK Q'
      simp only [List.getD_cons_succ, List.getD_cons_zero, List.mem_cons, List.not_mem_nil, or_false, forall_eq_or_imp, forall_eq] at hdep
      have e26 := hb 11 26 rfl
      have d11 := hdep
      rw [d11.1] at e26
      clear hb hb' hdep d11
      have q := Ext.cell hJ f1
      go_simp
      exact hK _ _ rfl (fun _ _ _ h => h) hJ
    · intro done us W hJ hdep haft hnot b hb hb' K hK Q'
      simp only [List.getD_cons_succ, List.getD_cons_zero, List.mem_cons, List.not_mem_nil, or_false, forall_eq_or_imp, forall_eq] at hdep
      have e23 := hb 8 23 rfl
      have e27 := hb 12 27 rfl
      have d8 := hdep.1
      have d12 := hdep.2
      rw [d8.1] at e23
      rw [d12.1] at e27
      clear hb hb' hdep d8 d12
      go_simp
      exact hK _ _ (by first | rfl | (congr 1; exact decide_eq_true (by omega))) (fun _ _ _ h => h) hJ
    · intro done us W hJ hdep haft hnot b hb hb' K hK Q'
      simp only [List.getD_cons_succ, List.getD_cons_zero, List.mem_cons, List.not_mem_nil, or_false, forall_eq_or_imp, forall_eq] at hdep
      have e28 := hb 13 28 rfl
      have d13 := hdep
      rw [d13.1] at e28
      clear hb hb' hdep d13
      go_simp
      exact hK _ _ rfl (fun _ _ _ h => h) hJ
    · intro done us W hJ hdep haft hnot b hb hb' K hK Q'
      simp only [List.getD_cons_succ, List.getD_cons_zero, List.mem_cons, List.not_mem_nil, or_false, forall_eq_or_imp, forall_eq] at hdep
      have e0 := (hb' 0 (by simp)).trans s0
      have e29 := hb 14 29 rfl
      have d14 := hdep
      rw [d14.1] at e29
      clear hb hb' hdep d14
      go_simp
      exact hK _ _ rfl (fun _ _ _ h => h) hJ
    · intro done us W hJ hdep haft hnot b hb hb' K hK Q'
      simp only [List.getD_cons_succ, List.getD_cons_zero, List.mem_cons, List.not_mem_nil, or_false, forall_eq_or_imp, forall_eq] at hdep
      have e29 := hb 14 29 rfl
      have e30 := hb 15 30 rfl
      have d14 := hdep.1
      have d15 := hdep.2
      rw [d14.1] at e29
      rw [d15.1] at e30
      clear hb hb' hdep d14 d15
      go_simp
      exact hK _ _ rfl (fun _ _ _ h => h) hJ
    · intro done us W hJ hdep haft hnot b hb hb' K hK Q'
      simp only [List.getD_cons_succ, List.getD_cons_zero, List.mem_cons, List.not_mem_nil, or_false, forall_eq_or_imp, forall_eq] at hdep
      have e29 := hb 14 29 rfl
      have e31 := hb 16 31 rfl
      have d14 := hdep.1
      have d16 := hdep.2
      rw [d14.1] at e29
      rw [d16.1] at e31
      clear hb hb' hdep d14 d16
      go_simp
      exact hK _ _ rfl (fun _ _ _ h => h) hJ
    · intro done us W hJ hdep haft hnot b hb hb' K hK Q'
      simp only [List.getD_cons_succ, List.getD_cons_zero, List.mem_cons, List.not_mem_nil, or_false, forall_eq_or_imp, forall_eq] at hdep
      have e29 := hb 14 29 rfl
      have e32 := hb 17 32 rfl
      have d14 := hdep.1
      have d17 := hdep.2
      rw [d14.1] at e29
      rw [d17.1] at e32
      clear hb hb' hdep d14 d17
      go_simp
      exact hK _ _ rfl (fun _ _ _ h => h) hJ
    · intro done us W hJ hdep haft hnot b hb hb' K hK Q'
      simp only [List.getD_cons_succ, List.getD_cons_zero, List.mem_cons, List.not_mem_nil, or_false, forall_eq_or_imp, forall_eq] at hdep
      have e29 := hb 14 29 rfl
      have e33 := hb 18 33 rfl
      have d14 := hdep.1
      have d18 := hdep.2
      rw [d14.1] at e29
      rw [d18.1] at e33
      clear hb hb' hdep d14 d18
      go_simp
      exact hK _ _ rfl (fun _ _ _ h => h) hJ
    · intro done us W hJ hdep haft hnot b hb hb' K hK Q'
      simp only [List.getD_cons_succ, List.getD_cons_zero, List.mem_cons, List.not_mem_nil, or_false, forall_eq_or_imp, forall_eq] at hdep
      have e29 := hb 14 29 rfl
      have e34 := hb 19 34 rfl
      have d14 := hdep.1
      have d19 := hdep.2
      rw [d14.1] at e29
      rw [d19.1] at e34
      clear hb hb' hdep d14 d19
      go_simp
      exact hK _ _ rfl (fun _ _ _ h => h) hJ
  · intro us W hV hJ
    exact hend (us 0) (us 1) (us 2) (us 3) (us 4) (us 5) (us 6) (us 7) (us 8) (us 9) (us 10) (us 11) (us 12) (us 13) (us 14) (us 15) (us 16) (us 17) (us 18) (us 19) (us 20) W (hV 0 (by omega)) (hV 1 (by omega)) (hV 2 (by omega)) (hV 3 (by omega)) (hV 4 (by omega)) (hV 5 (by omega)) (hV 6 (by omega)) (hV 7 (by omega)) (hV 8 (by omega)) (hV 9 (by omega)) (hV 10 (by omega)) (hV 11 (by omega)) (hV 12 (by omega)) (hV 13 (by omega)) (hV 14 (by omega)) (hV 15 (by omega)) (hV 16 (by omega)) (hV 17 (by omega)) (hV 18 (by omega)) (hV 19 (by omega)) (hV 20 (by omega)) hJ
set_option maxRecDepth 100000 in
set_option maxHeartbeats 2000000 in
theorem offerP_r6 (g m nl : Nat) (Ab : Option Addr) (n c : Nat) (xs : List Int) (w : World) (f4 : w.cell? ⟨g, 4, none⟩ = some (.map (some m))) (hI : Ints .u8 w Ab n xs) (hn : n ≤ 1000000) (a : Act) (Q : Exit → Act → World → Prop) (hsize : 49 ≤ a.tmps.size)
    (s0 : a.tmps[0]? = some (.pointer (some ⟨g, 0, none⟩)))
    (s1 : a.tmps[1]? = some (.slice Ab n c))
    (s6 : a.tmps[6]? = some (.int .i64 (nl : Int)))
    (hend : ∀ (xv0 xv1 xv2 xv3 xv4 xv5 xv6 xv7 : Value) (W : World), (xv0 = .pointer (some ⟨g, 0, none⟩)) → (xv1 = .pointer (some ⟨g, 0, none⟩)) → (xv2 = .pointer (some ⟨g, 4, none⟩)) → (xv3 = .map (some m)) → (xv4 = .int .i64 (nl : Int)) → (Row0 w.heap.size W xv5) → (xv6 = .slice Ab n c) → (BodyV w.heap.size W xv7 xs) → Ext w W → wpList Try.prog (rops Try.f36 6).toArray Q ((rops Try.f36 6).drop 8) ((((((((a.put (some 41) xv0).put (some 42) xv1).put (some 43) xv2).put (some 44) xv3).put (some 45) xv4).put (some 46) xv5).put (some 47) xv6).put (some 48) xv7) W) :
    (Code.region 6 (rops Try.f36 6).toArray true).wp Try.prog Q a w := by
  have hmono : ∀ (W W' : World) (j : Nat) (u : Value), Ext W W' → (fun (i : Nat) (v : Value) (W : World) => match i with
    | 0 => v = .pointer (some ⟨g, 0, none⟩)
    | 1 => v = .pointer (some ⟨g, 0, none⟩)
    | 2 => v = .pointer (some ⟨g, 4, none⟩)
    | 3 => v = .map (some m)
    | 4 => v = .int .i64 (nl : Int)
    | 5 => Row0 w.heap.size W v
    | 6 => v = .slice Ab n c
    | 7 => BodyV w.heap.size W v xs
    | _ => True) j u W → (fun (i : Nat) (v : Value) (W : World) => match i with
    | 0 => v = .pointer (some ⟨g, 0, none⟩)
    | 1 => v = .pointer (some ⟨g, 0, none⟩)
    | 2 => v = .pointer (some ⟨g, 4, none⟩)
    | 3 => v = .map (some m)
    | 4 => v = .int .i64 (nl : Int)
    | 5 => Row0 w.heap.size W v
    | 6 => v = .slice Ab n c
    | 7 => BodyV w.heap.size W v xs
    | _ => True) j u W' := by
    intro W W' j u hX h
    match j, h with
    | 0, h => exact h
    | 1, h => exact h
    | 2, h => exact h
    | 3, h => exact h
    | 4, h => exact h
    | 5, h => exact Row0.ext h hX
    | 6, h => exact h
    | 7, h => exact BodyV.ext h hX
    | _ + 8, h => exact h
  have hsz : ∀ d, some d ∈ ([some 41, some 42, some 43, some 44, some 45, some 46, some 47, some 48] : List (Option Tmp)) → d < a.tmps.size := slots_lt (by decide) hsize
  refine wp_region_j 8 [some 41, some 42, some 43, some 44, some 45, some 46, some 47, some 48] [[], [0], [1], [2], [], [], [], [5, 6]] [[], [], [], [], [], [], [], []] (fun (i : Nat) (v : Value) (W : World) => match i with
    | 0 => v = .pointer (some ⟨g, 0, none⟩)
    | 1 => v = .pointer (some ⟨g, 0, none⟩)
    | 2 => v = .pointer (some ⟨g, 4, none⟩)
    | 3 => v = .map (some m)
    | 4 => v = .int .i64 (nl : Int)
    | 5 => Row0 w.heap.size W v
    | 6 => v = .slice Ab n c
    | 7 => BodyV w.heap.size W v xs
    | _ => True) (fun _ W => Ext w W) (by kernel_rfl) (by kernel_rfl) hsz (fun _ _ _ _ h => h) ((Ext.refl w).drew) ?_ ?_
  · clear hend
    simp only [rops, Try.f36, regOf, Option.bind_some, Nat.reduceBEq, if_true, if_false, Bool.false_eq_true, Option.getD_some]
    simp only [List.take_succ_cons, List.take_zero]
    refine ⟨?_, ?_, ?_, ?_, ?_, ?_, ?_, ?_, trivial⟩
    · intro done us W hJ hdep haft hnot b hb hb' K hK Q'
      have e0 := (hb' 0 (by simp)).trans s0
      clear hb hb'
      go_simp
      exact hK _ _ rfl (fun _ _ _ h => h) hJ
    · intro done us W hJ hdep haft hnot b hb hb' K hK Q'
      simp only [List.getD_cons_succ, List.getD_cons_zero, List.mem_cons, List.not_mem_nil, or_false, forall_eq_or_imp, forall_eq] at hdep
      have e41 := hb 0 41 rfl
      have d0 := hdep
      rw [d0.1] at e41
      clear hb hb' hdep d0
      go_simp
      exact hK _ _ rfl (fun _ _ _ h => h) hJ
    · intro done us W hJ hdep haft hnot b hb hb' K hK Q'
      simp only [List.getD_cons_succ, List.getD_cons_zero, List.mem_cons, List.not_mem_nil, or_false, forall_eq_or_imp, forall_eq] at hdep
      have e42 := hb 1 42 rfl
      have d1 := hdep
      rw [d1.1] at e42
      clear hb hb' hdep d1
      go_simp
      exact hK _ _ rfl (fun _ _ _ h => h) hJ
    · intro done us W hJ hdep haft hnot b hb hb' K hK Q'
      simp only [List.getD_cons_succ, List.getD_cons_zero, List.mem_cons, List.not_mem_nil, or_false, forall_eq_or_imp, forall_eq] at hdep
      have e43 := hb 2 43 rfl
      have d2 := hdep
      rw [d2.1] at e43
      clear hb hb' hdep d2
      have q := Ext.cell hJ f4
      go_simp
      exact hK _ _ rfl (fun _ _ _ h => h) hJ
    · intro done us W hJ hdep haft hnot b hb hb' K hK Q'
      have e6 := (hb' 6 (by simp)).trans s6
      clear hb hb'
      go_simp
      exact hK _ _ rfl (fun _ _ _ h => h) hJ
    · intro done us W hJ hdep haft hnot b hb hb' K hK Q'
      clear hb hb'
      have ho := Row0.new (W := W) (Ext.size hJ)
      go_simp
      exact hK _ _ ho (fun j u _ h => hmono _ _ j u ((Ext.refl _).alloc _) h) (Ext.alloc hJ _)
    · intro done us W hJ hdep haft hnot b hb hb' K hK Q'
      have e1 := (hb' 1 (by simp)).trans s1
      clear hb hb'
      go_simp
      exact hK _ _ rfl (fun _ _ _ h => h) hJ
    · intro done us W hJ hdep haft hnot b hb hb' K hK Q'
      simp only [List.getD_cons_succ, List.getD_cons_zero, List.mem_cons, List.not_mem_nil, or_false, forall_eq_or_imp, forall_eq] at hdep
      have e46 := hb 5 46 rfl
      have e47 := hb 6 47 rfl
      have d5 := hdep.1
      have d6 := hdep.2
      rw [d6.1] at e47
      clear hb hb' hdep d6
      obtain ⟨gq, e', ho⟩ := d5.1
      rw [e'] at e46
      obtain ⟨v', w', q, ho', hX⟩ := run_app0 (P := Try.prog) W elB 22 w.heap.size gq ho Ab n c (xs.map (.int .u8)) (by rw [List.length_map, hI.1]; omega) (Ints.ext hI hJ).2.2 (ints_oneCell _ _) (by omega) (by unfold maxLen; omega) (Ext.size hJ)
      obtain ⟨A', c', rfl⟩ := own_slice ho'
      exact jop_app rfl rfl e46 e47 q (hK _ _ ⟨A', _, c', rfl, ho', hI.1, hI.2.1⟩ (fun j u _ h => hmono _ _ j u hX h) (Ext.trans hJ hX))
  · intro us W hV hJ
    exact hend (us 0) (us 1) (us 2) (us 3) (us 4) (us 5) (us 6) (us 7) W (hV 0 (by omega)) (hV 1 (by omega)) (hV 2 (by omega)) (hV 3 (by omega)) (hV 4 (by omega)) (hV 5 (by omega)) (hV 6 (by omega)) (hV 7 (by omega)) hJ
set_option maxRecDepth 100000 in
set_option maxHeartbeats 2000000 in
theorem offerP_any (base g m : Nat) (s : Snd) (Ab : Option Addr) (n c : Nat) (xs : List Int) (w : World) (h : SndP base w g m s) (hI : Ints .u8 w Ab n xs) (hn : n ≤ 1000000) (h3 : s.bodies.length ≤ 1000000) :
    Calls Try.prog 36 #[.pointer (some ⟨g, 0, none⟩), .slice Ab n c] w (fun e w' => ∃ v, e = .returned (.tuple #[v, .int .i64 (offerS s xs).2.2]) ∧ FrVO w.heap.size w' v (offerS s xs).2.1 ∧ SndP base w' g m (offerS s xs).1 ∧ Keeps [g, m] w w') := by
  have HS := Lib.hid h
  have HI := Lib.hid hI
  have HB := Lib.hid h.blk
  obtain ⟨lw0, lw1⟩ := h.ok.window
  have la := h.ok.acked
  have lb := h.base_le
  clear h hI
  have hXe : Ext w (w.alloc (.cells #[.int .i64 0, .int .i64 0, .slice none 0 0] 38)) := ((Ext.refl w).alloc _)
  have kt : Blk (w.alloc (.cells #[.int .i64 0, .int .i64 0, .slice none 0 0] 38)) w.heap.size 38 #[.int .i64 0, .int .i64 0, .slice none 0 0] := Blk.at_ (by simp)
  go_enter Try.func36, Try.ntmps36
  go_wp2_with fail
  generalize (w.alloc (.cells #[.int .i64 0, .int .i64 0, .slice none 0 0] 38)) = w1 at hXe kt ⊢
  have HX := Lib.hid hXe
  clear hXe
  have Kt := Lib.hid kt
  clear kt
  replace HS := Lib.hid (HS.out.ext HX.out)
  replace HI := Lib.hid (HI.out.ext HX.out)
  replace HB := Lib.hid (HB.out.ext HX.out)
  refine (noneP_any g s.window _ (HB.out.cell 1) (by omega)).mono ?_
  rintro e _ ⟨rfl, rfl⟩
  obtain ⟨z, hz⟩ : ∃ z, s.bodies.length = s.acked + z := ⟨s.bodies.length - s.acked, by omega⟩
  have HZ := Lib.hid hz
  have hz0 : s.acked + z ≤ s.bodies.length := by omega
  have hz1 : s.bodies.length ≤ s.acked + z := by omega
  clear hz
  by_cases hlen : 1024 < n
  · have hgt : decide ((1024 : Int) < (n : Int)) = true := decide_eq_true (by omega)
    have ct0 : w1.cell? ⟨w.heap.size, 0, none⟩ = some (.int .i64 0) := Kt.out.cell 0
    have ft0 : w1.frozen? ⟨w.heap.size, 0, none⟩ = false := Kt.out.free 0
    have ct1 : w1.cell? ⟨w.heap.size, 1, none⟩ = some (.int .i64 0) := Kt.out.cell 1
    have ft1 : w1.frozen? ⟨w.heap.size, 1, none⟩ = false := Kt.out.free 1
    have ct2 : w1.cell? ⟨w.heap.size, 2, none⟩ = some (.slice none 0 0) := Kt.out.cell 2
    have ft2 : w1.frozen? ⟨w.heap.size, 2, none⟩ = false := Kt.out.free 2
    go_wp2
    refine bodyPost_ret (v := .tuple #[.agg #[.int .i64 0, .int .i64 0, .slice none 0 0], .int .i64 2]) (by simp [results, Try.results36, go_sem, *]) rfl ?_
    have e : offerS s xs = (s, fr0, 2) := by unfold offerS; rw [if_pos (by rw [HI.out.1]; exact hlen)]
    rw [e]
    exact ⟨_, rfl, ⟨none, 0, 0, rfl, World.ownsRow_nil _ _ _ _, rfl, by simp [fr0]⟩, HS.out.put3 Kt.out (by decide) (by decide) _ _ _, (Keeps.of_ext HX.out _).fresh3 (Nat.le_refl _) _ _ _⟩
  · have hgt : decide ((1024 : Int) < (n : Int)) = false := decide_eq_false (by omega)
    have hlx : ¬ 1024 < xs.length := by rw [HI.out.1]; exact hlen
    by_cases hw : s.window ≤ (z : Int)
    · have hfull : s.window ≤ (s.bodies.length : Int) - s.acked := by omega
      go_wp2_with fail
      refine offerP_r3y g s.acked s.bodies.length z s.window _ (HB.out.cell 1) (HB.out.cell 2) (HB.out.cell 3) HZ h3 hw _ _ (by simp) rfl ?_
      rintro xv0 xv1 xv2 xv3 xv4 xv5 xv6 xv7 xv8 xv9 xv10 xv11 xv12 xv13 xv14 xv15 xv16 xv17 xv18 xv19 xv20 w2 rfl rfl rfl rfl rfl rfl rfl rfl rfl rfl rfl rfl rfl rfl rfl rfl rfl rfl rfl rfl rfl hXW
      simp only [rops, Try.f36, regOf, Option.bind_some, Nat.reduceBEq, if_true, if_false, Bool.false_eq_true, Option.getD_some, List.drop_succ_cons, List.drop_zero]
      simp only [Act.put, List.setIfInBounds_toArray, List.set_cons_succ, List.set_cons_zero]
      replace HX := Lib.hid (HX.out.trans hXW)
      replace HS := Lib.hid (HS.out.ext hXW)
      replace HI := Lib.hid (HI.out.ext hXW)
      replace HB := Lib.hid (HB.out.ext hXW)
      replace Kt := Lib.hid (Kt.out.ext hXW)
      clear hXW
      have ct0 : w2.cell? ⟨w.heap.size, 0, none⟩ = some (.int .i64 0) := Kt.out.cell 0
      have ft0 : w2.frozen? ⟨w.heap.size, 0, none⟩ = false := Kt.out.free 0
      have ct1 : w2.cell? ⟨w.heap.size, 1, none⟩ = some (.int .i64 0) := Kt.out.cell 1
      have ft1 : w2.frozen? ⟨w.heap.size, 1, none⟩ = false := Kt.out.free 1
      have ct2 : w2.cell? ⟨w.heap.size, 2, none⟩ = some (.slice none 0 0) := Kt.out.cell 2
      have ft2 : w2.frozen? ⟨w.heap.size, 2, none⟩ = false := Kt.out.free 2
      go_wp2
      refine bodyPost_ret (v := .tuple #[.agg #[.int .i64 0, .int .i64 0, .slice none 0 0], .int .i64 29]) (by simp [results, Try.results36, go_sem, *]) rfl ?_
      have e : offerS s xs = (s, fr0, 29) := by unfold offerS; rw [if_neg hlx, if_pos hfull]
      rw [e]
      exact ⟨_, rfl, ⟨none, 0, 0, rfl, World.ownsRow_nil _ _ _ _, rfl, by simp [fr0]⟩, HS.out.put3 Kt.out (by decide) (by decide) _ _ _, (Keeps.of_ext HX.out _).fresh3 (Nat.le_refl _) _ _ _⟩
    · have hfull : ¬ s.window ≤ (s.bodies.length : Int) - s.acked := by omega
      go_wp2_with fail
      refine offerP_r3n g s.acked s.bodies.length z s.window _ (HB.out.cell 1) (HB.out.cell 2) (HB.out.cell 3) HZ h3 (by omega) _ _ (by simp) rfl ?_
      rintro xv0 xv1 xv2 xv3 xv4 xv5 xv6 xv7 xv8 xv9 xv10 xv11 xv12 xv13 xv14 xv15 xv16 xv17 xv18 xv19 xv20 w2 rfl rfl rfl rfl rfl rfl rfl rfl rfl rfl rfl rfl rfl rfl rfl rfl rfl rfl rfl rfl rfl hXW
      simp only [rops, Try.f36, regOf, Option.bind_some, Nat.reduceBEq, if_true, if_false, Bool.false_eq_true, Option.getD_some, List.drop_succ_cons, List.drop_zero]
      simp only [Act.put, List.setIfInBounds_toArray, List.set_cons_succ, List.set_cons_zero]
      replace HX := Lib.hid (HX.out.trans hXW)
      replace HS := Lib.hid (HS.out.ext hXW)
      replace HI := Lib.hid (HI.out.ext hXW)
      replace HB := Lib.hid (HB.out.ext hXW)
      replace Kt := Lib.hid (Kt.out.ext hXW)
      clear hXW
      have f3 := HB.out.cell 3
      have hy2 := HX.out.size
      go_upto_region 6 with (fail)
      refine offerP_r6 g m s.bodies.length Ab n c xs _ (HB.out.cell 4) HI.out (by omega) _ _ (by simp) rfl rfl rfl ?_
      rintro xv0 xv1 xv2 xv3 xv4 xv5 xv6 xv7 w3 rfl rfl rfl rfl rfl _ rfl ⟨A2, n2, c2, rfl, ho2⟩ hXW
      simp only [rops, Try.f36, regOf, Option.bind_some, Nat.reduceBEq, if_true, if_false, Bool.false_eq_true, Option.getD_some, List.drop_succ_cons, List.drop_zero]
      simp only [Act.put, List.setIfInBounds_toArray, List.set_cons_succ, List.set_cons_zero]
      replace HX := Lib.hid (HX.out.trans hXW)
      replace HS := Lib.hid (HS.out.ext hXW)
      replace HI := Lib.hid (HI.out.ext hXW)
      replace HB := Lib.hid (HB.out.ext hXW)
      replace Kt := Lib.hid (Kt.out.ext hXW)
      clear hXW
      have HO := Lib.hid ho2
      clear ho2
      obtain ⟨l, hM, hF⟩ := HS.out.map
      have hll := HS.out.len hF
      have hl0 := HS.out.free_ l hF
      clear f3
      refine wpList_put_new _ rfl (.tmp 44) (.tmp 45) (.tmp 48) 96 rfl 22 keyed_int und_int und_mapB rfl hM (by unfold maxLen; omega) (s.bodies.length : Int) (.slice A2 n2 c2) rfl rfl (by omega) hl0 ?_
      intro w5 hM5 hG5
      have hgm : g ≠ m := hM.ne_blk HB.out
      have hK5 : Keeps [m] w3 w5 := Keeps.of_grown hG5 (by rintro k ⟨⟩; simp)
      have hN5 : ∀ k ∈ [m], NoRow 5 w3 k := by intro k hk; simp at hk; subst hk; exact hM.notRow _
      have hB5 := HB.out.grown hG5 (by simpa using hgm)
      have hT5 := Kt.out.grown hG5 (by have := hM.ne_blk Kt.out; simpa using this)
      have hO5 := HO.out.keeps hK5 hN5
      have hF5 := hF.imp fun p q _ h => And.intro h.1 (h.2.keeps hK5 hN5)
      have hK0 : Keeps [g, m] w w5 := (Keeps.of_ext HX.out _).grown hG5 (by rintro k ⟨⟩; simp)
      have hgt : g ≠ w.heap.size := by have := HS.out.lt; have hl := HX.out.size; intro e; subst e; have := HB.out; have h2 := Kt.out; exact absurd (show some _ = some _ from this.symm.trans h2) (by simp)
      have f3 := hB5.cell 3
      have z3 := hB5.free 3
      go_wp2_with fail
      have ho := offerS_ok (b := xs) HS.out.ok HI.out.2.1
      have eo : offerS s xs = ({ s with bodies := s.bodies ++ [xs] }, ⟨s.stream, s.bodies.length, xs⟩, 0) := by unfold offerS; rw [if_neg hlx, if_neg (by omega)]
      rw [eo] at ho
      have HE := Lib.hid eo
      have hS6 := SndP.grow hB5 hM5 hF5 ⟨A2, n2, c2, rfl, hO5.mono (by omega)⟩ HS.out.lo la ho
      have hT6 := hT5.far (p := ⟨g, 3, none⟩) (by simpa using hgt.symm) (.int .i64 ((s.bodies.length : Int) + 1))
      have hK6 := hK0.setCell (p := ⟨g, 3, none⟩) (.inl (by simp)) (.int .i64 ((s.bodies.length : Int) + 1))
      clear f3 z3 hB5 hM5 hF5 hO5 hT5 hK5 hN5 hK0 hG5
      generalize w5.setCell ⟨g, 3, none⟩ (.int .i64 ((s.bodies.length : Int) + 1)) = w6 at hS6 hT6 hK6 ⊢
      refine (frameP_any base g m s.bodies.length _ w6 hS6 la (by simp) (by simp; omega)).mono ?_
      rintro e w7 ⟨v, rfl, ⟨A3, n3, c3, rfl, hO7⟩, hX7⟩
      have hS7 := Lib.hid (hS6.ext hX7)
      have hT7 := Lib.hid (hT6.ext hX7)
      have hK7 := Lib.hid (hK6.trans (Keeps.of_ext hX7 _))
      have HO7 := Lib.hid hO7
      have hz6 := Lib.hid hK6.size
      clear hS6 hT6 hK6 hX7 hO7 eo ho
      have c0 := hT7.out.cell 0
      have c1 := hT7.out.cell 1
      have c2 := hT7.out.cell 2
      have f0 := hT7.out.free 0
      have f1 := hT7.out.free 1
      have f2 := hT7.out.free 2
      go_wp2
      refine bodyPost_ret (v := .tuple #[.agg #[.int .i64 s.stream, .int .i64 (s.bodies.length : Int), .slice A3 n3 c3], .int .i64 0]) (by simp [results, Try.results36, go_sem, *]) rfl ?_
      rw [HE.out]
      refine ⟨_, rfl, ⟨A3, n3, c3, rfl, ?_⟩, hS7.out.put3 hT7.out (by decide) (by decide) _ _ _, hK7.out.fresh3 (Nat.le_refl _) _ _ _⟩
      have hg : (s.bodies ++ [xs]).getD s.bodies.length [] = xs := by simp [List.getD]
      rw [← hg]
      exact (HO7.out.put3 hT7.out (by decide) _ _ _).mono hz6.out

end Go.Proofs.Ytekhmfliaojabaa
