/- Lemmas of the proof that follows (Finds, part 2): walks of functions by contract, and plain lemmas. Conditions: none. -/
import Derived.Test.YtekhmfliaojabaaFindsA
namespace Go.Proofs.Ytekhmfliaojabaa
open Go.RowKit

/-- What goes before what is found behind it. -/
def preS (fs : List Fr) (s : Nat) (r : List Fr × Nat × Nat) : List Fr × Nat × Nat := (fs ++ r.1, s + r.2.1, r.2.2)
theorem preS_preS (fs gs : List Fr) (s t : Nat) (r : List Fr × Nat × Nat) : preS fs s (preS gs t r) = preS (fs ++ gs) (s + t) r := by
  simp [preS, Nat.add_assoc]
def scn : Nat → List Int → List Fr × Nat × Nat
  | 0, xs => ([], 0, xs.length)
  | f + 1, xs => if (unp xs).2.2 = 21 then ([], 0, xs.length) else if (unp xs).2.2 = 0 then preS [(unp xs).1] 0 (scn f (xs.drop (12 + szN xs))) else preS [] 1 (scn f (xs.drop 1))

/-- What Scan finds: the frames, how many bytes were skipped, how many are left. -/
def scan (xs : List Int) : List Fr × Nat × Nat := scn xs.length xs

theorem unp_nil : unp [] = (fr0, 0, 21) := unp_none rfl

theorem scn_more : ∀ (f : Nat) (xs : List Int), xs.length ≤ f → scn f xs = scn xs.length xs := by
  intro f
  induction f using Nat.strongRecOn with
  | _ f ih =>
    intro xs hl
    rcases Nat.eq_or_lt_of_le hl with h | h
    · rw [h]
    · cases f with
      | zero => omega
      | succ f =>
        cases hx : xs.length with
        | zero =>
          obtain rfl : xs = [] := List.eq_nil_of_length_eq_zero hx
          simp [scn, unp_nil]
        | succ m =>
          simp only [scn]
          have h1 : scn f (xs.drop 1) = scn m (xs.drop 1) := by
            rw [ih f (by omega) (xs.drop 1) (by simp; omega)]
            rw [show (xs.drop 1).length = m by simp; omega]
          by_cases he : (unp xs).2.2 = 0
          · have hg := unp_good he
            have h2 : scn f (xs.drop (12 + szN xs)) = scn m (xs.drop (12 + szN xs)) := by
              rw [ih f (by omega) _ (by simp; omega), ← ih m (by omega) _ (by simp; omega)]
            rw [h2]; simp [he]
          · rw [h1]; simp only [he, if_false]

theorem scan_short {xs : List Int} (h : (unp xs).2.2 = 21) : scan xs = ([], 0, xs.length) := by
  unfold scan
  cases hx : xs.length with
  | zero => simp [scn, hx]
  | succ m => simp [scn, h, hx]
theorem scan_ok {xs : List Int} (h : (unp xs).2.2 = 0) : scan xs = preS [(unp xs).1] 0 (scan (xs.drop (12 + szN xs))) := by
  have hg := unp_good h
  unfold scan
  cases hx : xs.length with
  | zero => omega
  | succ m =>
    simp only [scn, h]
    rw [scn_more m _ (by simp; omega)]
    simp
theorem scan_skip {xs : List Int} (h0 : (unp xs).2.2 ≠ 0) (h1 : (unp xs).2.2 ≠ 21) : scan xs = preS [] 1 (scan (xs.drop 1)) := by
  unfold scan
  cases hx : xs.length with
  | zero =>
    obtain rfl : xs = [] := List.eq_nil_of_length_eq_zero hx
    rw [unp_nil] at h1; simp at h1
  | succ m =>
    simp only [scn, h0, h1, if_false]
    rw [scn_more m _ (by simp; omega), show (xs.drop 1).length = m by simp; omega]

/-- Where a scan stands: at place k, the frames fs were found and s bytes were skipped. -/
def ScanAt (xs : List Int) (k : Nat) (fs : List Fr) (s : Nat) : Prop := k ≤ xs.length ∧ scan xs = preS fs s (scan (xs.drop k))
theorem ScanAt.start (xs : List Int) : ScanAt xs 0 [] 0 := ⟨by omega, by simp [preS]⟩
theorem ScanAt.done {xs : List Int} {k s : Nat} {fs : List Fr} (h : ScanAt xs k fs s) (he : (unp (xs.drop k)).2.2 = 21) : scan xs = (fs, s, xs.length - k) := by
  rw [h.2, scan_short he]; simp [preS]
theorem ScanAt.found {xs : List Int} {k s : Nat} {fs : List Fr} (h : ScanAt xs k fs s) (he : (unp (xs.drop k)).2.2 = 0) : ScanAt xs (k + (12 + szN (xs.drop k))) (fs ++ [(unp (xs.drop k)).1]) s := by
  have hg := unp_good he
  refine ⟨by have := h.1; simp at hg; omega, ?_⟩
  rw [h.2, scan_ok he, preS_preS, List.drop_drop]; simp
theorem ScanAt.skip {xs : List Int} {k s : Nat} {fs : List Fr} (h : ScanAt xs k fs s) (h0 : (unp (xs.drop k)).2.2 ≠ 0) (h1 : (unp (xs.drop k)).2.2 ≠ 21) : ScanAt xs (k + 1) fs (s + 1) := by
  have hk : k < xs.length := by
    rcases Nat.lt_or_ge k xs.length with hk | hk
    · exact hk
    · rw [List.drop_eq_nil_of_le hk, unp_nil] at h1; simp at h1
  refine ⟨by omega, ?_⟩
  rw [h.2, scan_skip h0 h1, preS_preS, List.drop_drop]; simp

theorem unp_len {xs : List Int} (h : (unp xs).2.2 = 0) : (unp xs).2.1 = 12 + (szN xs : Int) := by
  have hg := unp_good h
  by_cases h0 : xs.getD 0 0 = 165
  · rw [unp_ok h0 hg.1 hg.2.1 hg.2.2.1]
  · rw [unp_mark (by omega) h0] at h; simp at h

/-- Three cells that hold a frame. -/
def FrC (w : World) (cs : List Value) (f : Fr) : Prop := ∃ A n c, cs = [.int .i64 f.stream, .int .i64 f.seq, .slice A n c] ∧ Ints .u8 w A n f.body ∧ n ≤ c ∧ c ≤ 9223372036854775807
/-- Three cells that hold a frame whose bytes lie in a row of their own. -/
def FrO (base : Nat) (w : World) (cs : List Value) (f : Fr) : Prop := ∃ A n c, cs = [.int .i64 f.stream, .int .i64 f.seq, .slice A n c] ∧ OwnS .u8 5 base w A n c f.body
section
variable {w w' : World} {base : Nat} {cs : List Value} {f : Fr}
theorem FrC.ext (h : FrC w cs f) (he : Ext w w') : FrC w' cs f := by
  obtain ⟨A, n, c, h1, h2, h3⟩ := h
  exact ⟨A, n, c, h1, h2.ext he, h3⟩
theorem FrC.len (h : FrC w cs f) : cs.length = 3 := by
  obtain ⟨A, n, c, rfl, _⟩ := h; rfl
theorem FrC.one (h : FrC w cs f) : ∀ u ∈ cs, u.oneCell' = true := by
  obtain ⟨A, n, c, rfl, _⟩ := h
  simp [Value.oneCell']
theorem FrO.ext (h : FrO base w cs f) (he : Ext w w') : FrO base w' cs f := by
  obtain ⟨A, n, c, h1, h2⟩ := h
  exact ⟨A, n, c, h1, h2.ext he⟩
theorem FrO.frc (h : FrO base w cs f) : FrC w cs f := by
  obtain ⟨A, n, c, h1, h2⟩ := h
  exact ⟨A, n, c, h1, h2.ints, h2.cap⟩
theorem FrO.kept {base' size' n' : Nat} {e' : TypeId} {v' : Value} {vs' : List Value} (h : FrO base w cs f) (h' : w.ownsRow base' e' size' v' n' vs') (hne : 5 ≠ e') (hg : w.grownBy w' v'.ownBlock) : FrO base w' cs f := by
  obtain ⟨A, n, c, h1, h2⟩ := h
  exact ⟨A, n, c, h1, h2.kept h' hne hg⟩
end
/-- A slice of frames reads as 'fs'. -/
def Frs (w : World) (A : Option Addr) (n : Nat) (fs : List Fr) : Prop := fs.length = n ∧ ∃ vs, CsR (FrC w) vs fs ∧ At w A vs
theorem Frs.ext {w w' : World} {A : Option Addr} {n : Nat} {fs : List Fr} (h : Frs w A n fs) (he : Ext w w') : Frs w' A n fs := by
  obtain ⟨h1, vs, h2, h3⟩ := h
  exact ⟨h1, vs, h2.imp fun _ _ h => h.ext he, h3.ext he⟩
theorem Frs.get {w : World} {A : Option Addr} {n : Nat} {fs : List Fr} (h : Frs w A n fs) {j : Nat} (hj : j < n) : ∃ b off f A' n' c', A = some ⟨b, off, none⟩ ∧ fs[j]? = some f ∧ w.cell? ⟨b, off + j * 3, none⟩ = some (.int .i64 f.stream) ∧ w.cell? ⟨b, off + j * 3 + 1, none⟩ = some (.int .i64 f.seq) ∧ w.cell? ⟨b, off + j * 3 + 2, none⟩ = some (.slice A' n' c') ∧ Ints .u8 w A' n' f.body ∧ n' ≤ c' ∧ c' ≤ 9223372036854775807 := by
  obtain ⟨h1, vs, h2, h3⟩ := h
  have hf : fs[j]? = some fs[j] := List.getElem?_eq_getElem (by omega)
  obtain ⟨cs, ⟨A', n', c', rfl, h4⟩, h5⟩ := h2.get (fun _ _ h => h.len) hf
  obtain ⟨b, off, hA, hc⟩ := h3 (by intro e; subst e; have := h5 0 _ rfl; simp at this)
  refine ⟨b, off, _, A', n', c', hA, hf, hc _ _ (h5 0 _ rfl), ?_, ?_, h4⟩
  · rw [Nat.add_assoc]; exact hc _ _ (h5 1 _ rfl)
  · rw [Nat.add_assoc]; exact hc _ _ (h5 2 _ rfl)
end Go.Proofs.Ytekhmfliaojabaa
namespace Go.Proofs.Ytekhmfliaojabaa
open Go.ChangeShapes Go.WideShapes Go.ChangeAt Go.RowKit Go.Joins

theorem listN3 {α : Type} {cs : List α} (h : cs.length = 3) : ∃ c0 c1 c2, cs = [c0, c1, c2] := by
  match cs, h with
  | [c0, c1, c2], _ => exact ⟨c0, c1, c2, rfl⟩
/-- The cells of a value of type Frame. -/
def FrameE (W : World) (cs : List Value) (f : Int × Int × List Int) : Prop := ∃ (A2 : Option Addr) (l2 c2 : Nat), cs = [.int .i64 f.1, .int .i64 f.2.1, .slice A2 l2 c2] ∧ (-9223372036854775808 ≤ f.1 ∧ f.1 ≤ 9223372036854775807) ∧ (-9223372036854775808 ≤ f.2.1 ∧ f.2.1 ≤ 9223372036854775807) ∧ (Ints .u8 W A2 l2 f.2.2 ∧ l2 ≤ c2 ∧ c2 ≤ 9223372036854775807)
set_option maxRecDepth 100000 in
set_option maxHeartbeats 1000000 in
theorem frameE_el {W : World} {H : Type} {enc : TypeId × Value → H} {fuel : Nat} {cs : List Value} {z : DataW H × List MemPlace} {b : Nat} {sp : Nat → Bool} {hd : Bool}
    (hl : cs.length = 3) (hf' : DataW.trod enc Try.prog W b sp hd fuel 38 cs = some z) : ∃ f, FrameE W cs f := by
  obtain ⟨c0, c1, c2, rfl⟩ := listN3 hl
  obtain ⟨xs1, n1, _, _, _, hl1, hg1⟩ := DataW.trod_struct Try.underlying38 hf'
  have g1_0 : DataW.trod enc Try.prog W b sp hd n1 3 [c0] = xs1[0]? := by
    have h := hg1 0 _ rfl
    rw [show Try.prog.cellsOf _ = 1 by kernel_rfl] at h
    exact h
  rw [List.getElem?_eq_getElem (by rw [hl1]; decide)] at g1_0
  obtain ⟨vc0, ec0, _, wc0⟩ := DataW.trod_int Try.underlying3 g1_0
  simp only [List.cons.injEq, and_true] at ec0
  subst ec0
  have g1_1 : DataW.trod enc Try.prog W b sp hd n1 3 [c1] = xs1[1]? := by
    have h := hg1 1 _ rfl
    rw [show Try.prog.cellsOf _ = 1 by kernel_rfl] at h
    exact h
  rw [List.getElem?_eq_getElem (by rw [hl1]; decide)] at g1_1
  obtain ⟨vc1, ec1, _, wc1⟩ := DataW.trod_int Try.underlying3 g1_1
  simp only [List.cons.injEq, and_true] at ec1
  subst ec1
  have g1_2 : DataW.trod enc Try.prog W b sp hd n1 22 [c2] = xs1[2]? := by
    have h := hg1 2 _ rfl
    rw [show Try.prog.cellsOf _ = 1 by kernel_rfl] at h
    exact h
  rw [List.getElem?_eq_getElem (by rw [hl1]; decide)] at g1_2
  obtain ⟨Ac2, lc2, mc2, ec2⟩ := slice_form Try.underlying22 g1_2
  simp only [List.cons.injEq, and_true] at ec2
  subst ec2
  obtain ⟨vc2, wc2⟩ := ints_trod Try.underlying22 Try.underlying5 (by kernel_rfl) g1_2
  exact ⟨(vc0, vc1, vc2), Ac2, lc2, mc2, rfl, i64_bounds wc0, i64_bounds wc1, wc2⟩

/-- The cells of a value of type Send. -/
def SendE (W : World) (cs : List Value) (f : Int × Int × List Int × List Int) : Prop := ∃ (A2 : Option Addr) (l2 c2 : Nat), ∃ (A3 : Option Addr) (l3 c3 : Nat), cs = [.int .i64 f.1, .int .i64 f.2.1, .slice A2 l2 c2, .slice A3 l3 c3] ∧ (-9223372036854775808 ≤ f.1 ∧ f.1 ≤ 9223372036854775807) ∧ (-9223372036854775808 ≤ f.2.1 ∧ f.2.1 ≤ 9223372036854775807) ∧ (Ints .u8 W A2 l2 f.2.2.1 ∧ l2 ≤ c2 ∧ c2 ≤ 9223372036854775807) ∧ (Ints .i64 W A3 l3 f.2.2.2 ∧ l3 ≤ c3 ∧ c3 ≤ 9223372036854775807)
/-- The cells of a value of type Call. -/
def CallE (W : World) (cs : List Value) (f : Int × Int × Int × List Int) : Prop := ∃ (A3 : Option Addr) (l3 c3 : Nat), cs = [.int .i64 f.1, .int .i64 f.2.1, .int .i64 f.2.2.1, .slice A3 l3 c3] ∧ (-9223372036854775808 ≤ f.1 ∧ f.1 ≤ 9223372036854775807) ∧ (-9223372036854775808 ≤ f.2.1 ∧ f.2.1 ≤ 9223372036854775807) ∧ (-9223372036854775808 ≤ f.2.2.1 ∧ f.2.2.1 ≤ 9223372036854775807) ∧ (Ints .u8 W A3 l3 f.2.2.2 ∧ l3 ≤ c3 ∧ c3 ≤ 9223372036854775807)
end Go.Proofs.Ytekhmfliaojabaa
namespace Go.Proofs.Ytekhmfliaojabaa
open Go.RowKit

structure Snd where
  stream : Int
  window : Int
  acked : Nat
  bodies : List (List Int)
/-- Records with their numbers. -/
def keyed {α : Type} (n : Int) : List α → List (Int × α)
  | [] => []
  | x :: xs => (n, x) :: keyed (n + 1) xs
def pendK (s : Snd) : List (Int × List Int) := keyed s.acked (s.bodies.drop s.acked)
structure SndOk (s : Snd) : Prop where
  stream : 0 ≤ s.stream ∧ s.stream ≤ 255
  window : 1 ≤ s.window ∧ s.window ≤ 64
  acked : s.acked ≤ s.bodies.length
  room : (s.bodies.length : Int) - s.acked ≤ s.window
  body : ∀ b ∈ s.bodies, b.length ≤ 1024 ∧ ∀ x ∈ b, (Lit.int .u8 x).wf = true

theorem keyed_len {α : Type} (n : Int) (l : List α) : (keyed n l).length = l.length := by
  induction l generalizing n with
  | nil => rfl
  | cons x l ih => simp [keyed, ih]
theorem pendK_len {s : Snd} : (pendK s).length = s.bodies.length - s.acked := by unfold pendK; rw [keyed_len, List.length_drop]
end Go.Proofs.Ytekhmfliaojabaa
namespace Go.Proofs.Ytekhmfliaojabaa
open Go.RowKit

/-- How an element reads: as itself. -/
def mR (v : Value) : Option (DataW Value × List MemPlace) := some (.held v, [])
/-- What stands at a key. -/
def look (l : List (Int × Value)) (x : Int) : Option Value := (l.find? fun p => p.1 == x).map Prod.snd
/-- Block 'b' is a map of just these keys with these values. -/
structure MapL (P : Program) (k : TypeId) (w : World) (b : Nat) (l : List (Int × Value)) : Prop where
  own : ∃ D, w.ownsMap P k mR b l.length D ∧ (∀ x z, D.atKey (.int .i64 x) z = ((look l x).map DataW.held).getD z) ∧ Maps.size D = l.length
  apart : (l.map Prod.fst).Nodup

section
variable {P : Program} {k : TypeId} {w w' : World} {b : Nat} {l l' : List (Int × Value)}
theorem MapL.lt (h : MapL P k w b l) : b < w.heap.size := by obtain ⟨D, h1, _⟩ := h.own; exact h1.lt
theorem MapL.kept {row : Option Nat} (h : MapL P k w b l) (hg : w.grownBy w' row) (hne : some b ≠ row) : MapL P k w' b l := by obtain ⟨D, h1, h2⟩ := h.own; exact ⟨⟨D, h1.kept hg hne, h2⟩, h.apart⟩
theorem MapL.ext (h : MapL P k w b l) (he : Ext w w') : MapL P k w' b l := h.kept (he.row none) (by simp)
theorem MapL.keeps {L : List Nat} (h : MapL P k w b l) (hk : Keeps L w w') (hn : b ∉ L) : MapL P k w' b l := by
  obtain ⟨⟨D, h1, h2⟩, h3⟩ := h
  have hl := h1.lt
  obtain ⟨es, clock, hb, r⟩ := h1
  exact ⟨⟨D, ⟨es, clock, (hk.block b hl hn).trans hb, r⟩, h2⟩, h3⟩
theorem MapL.setCell (h : MapL P k w b l) {a : Addr} (ha : b ≠ a.block) (u : Value) : MapL P k (w.setCell a u) b l := by obtain ⟨D, h1, h2⟩ := h.own; exact ⟨⟨D, h1.setCell ha u, h2⟩, h.apart⟩
theorem MapL.drew (h : MapL P k w b l) : MapL P k w.drew b l := by obtain ⟨D, h1, h2⟩ := h.own; exact ⟨⟨D, h1.drew, h2⟩, h.apart⟩
theorem MapL.made (w : World) (P : Program) (k : TypeId) : MapL P k (w.alloc (.map #[] 0)) w.heap.size [] := ⟨⟨_, World.ownsMap_made w P k mR, fun _ _ => rfl, rfl⟩, by simp⟩
theorem MapL.notRow (h : MapL P k w b l) (t : TypeId) : NoRow t w b := by
  obtain ⟨D, ⟨es, c, hb, _⟩, _⟩ := h.own
  exact NoRow.of_map hb
theorem MapL.ne_row {te : TypeId} {base size m : Nat} {v : Value} {vs : List Value} (h : MapL P k w b l) (hB : w.ownsRow base te size v m vs) : some b ≠ v.ownBlock := by
  intro e
  rcases hB.2 with ⟨rfl, _⟩ | ⟨g, cap, cur, rfl, _, hg, _⟩
  · simp [Value.ownBlock] at e
  · simp [Value.ownBlock] at e
    subst e
    exact h.notRow te _ _ hg

variable (K : Maps.Keyed P k) {t e : TypeId} (ht : P.underlying t = some (.map k e))
end

section
variable {P : Program} (w : World) {ops : Array Oper} {rest : List Oper} {o : Oper} {a : Act} {Q : Exit → Act → World → Prop} {k : TypeId} {b : Nat} {l : List (Int × Value)}
end
end Go.Proofs.Ytekhmfliaojabaa
namespace Go.Proofs.Ytekhmfliaojabaa
open Go.RowKit

/-- A value that is a frame whose bytes lie in a row of their own. -/
def FrVO (base : Nat) (w : World) (v : Value) (f : Fr) : Prop := ∃ A n c, v = .agg #[.int .i64 f.stream, .int .i64 f.seq, .slice A n c] ∧ OwnS .u8 5 base w A n c f.body
theorem FrVO.ext {base : Nat} {w w' : World} {v : Value} {f : Fr} (h : FrVO base w v f) (he : Ext w w') : FrVO base w' v f := by obtain ⟨A, n, c, h1, h2⟩ := h; exact ⟨A, n, c, h1, h2.ext he⟩
theorem FrVO.keeps {L : List Nat} {base : Nat} {w w' : World} {v : Value} {f : Fr} (h : FrVO base w v f) (hk : Keeps L w w') (hn : ∀ g ∈ L, NoRow 5 w g) : FrVO base w' v f := by obtain ⟨A, n, c, h1, h2⟩ := h; exact ⟨A, n, c, h1, h2.keeps hk hn⟩
theorem FrVO.zero (base : Nat) (w : World) : FrVO base w (.agg #[.int .i64 0, .int .i64 0, .slice none 0 0]) fr0 := ⟨none, 0, 0, rfl, World.ownsRow_nil _ _ _ _, rfl, by simp [fr0]⟩

theorem Blk.away {w w' : World} {L : List Nat} {g : Nat} {t : TypeId} {cs : Array Value} (h : Blk w g t cs) (hk : Keeps L w w') (hn : ∀ k ∈ L, NoRow t w k) : Blk w' g t cs :=
  h.keeps hk fun hl => hn g hl _ _ h

/-- The program's sender: block g, map m. -/
structure SndP (base : Nat) (w : World) (g m : Nat) (s : Snd) : Prop where
  blk : Blk w g 98 #[.int .i64 s.stream, .int .i64 s.window, .int .i64 s.acked, .int .i64 s.bodies.length, .map (some m)]
  map : ∃ l, MapL Try.prog 3 w m l ∧ F2 (fun p q => p.1 = q.1 ∧ BodyV base w p.2 q.2) l (pendK s)
  lo : base ≤ g ∧ base ≤ m
  ok : SndOk s
section
variable {base : Nat} {w w' : World} {g m : Nat} {s : Snd}
theorem SndP.ext (h : SndP base w g m s) (he : Ext w w') : SndP base w' g m s := by
  obtain ⟨h1, ⟨l, h2, h3⟩, h4, h5⟩ := h
  exact ⟨h1.ext he, ⟨l, h2.ext he, h3.imp fun _ _ _ h => ⟨h.1, h.2.ext he⟩⟩, h4, h5⟩
theorem SndP.keeps {L : List Nat} (h : SndP base w g m s) (hk : Keeps L w w') (n1 : ∀ k ∈ L, NoRow 98 w k) (n2 : m ∉ L) (n3 : ∀ k ∈ L, NoRow 5 w k) : SndP base w' g m s := by
  obtain ⟨h1, ⟨l, h2, h3⟩, h4, h5⟩ := h
  exact ⟨h1.away hk n1, ⟨l, h2.keeps hk n2, h3.imp fun _ _ _ h => ⟨h.1, h.2.keeps hk n3⟩⟩, h4, h5⟩
theorem SndP.lt (h : SndP base w g m s) : g < w.heap.size ∧ m < w.heap.size := ⟨h.blk.lt, by obtain ⟨l, h2, _⟩ := h.map; exact h2.lt⟩
/-- The blocks that a sender's methods write into hold no rows of other types. -/
theorem SndP.far (h : SndP base w g m s) (t : TypeId) (ht : 98 ≠ t) : ∀ k ∈ [g, m], NoRow t w k := by
  intro k hk
  simp at hk
  rcases hk with rfl | rfl
  · exact NoRow.of_blk h.blk ht
  · obtain ⟨l, h2, _⟩ := h.map; exact h2.notRow t
theorem SndP.new {w0 : World} (h : SndP base w g m s) (hb : w0.heap.size ≤ base) : ∀ k ∈ [g, m], w0.heap.size ≤ k := by
  intro k hk
  have := h.lo
  simp at hk
  rcases hk with rfl | rfl <;> omega
theorem SndP.len {l : List (Int × Value)} (h : SndP base w g m s) (h3 : F2 (fun p q => p.1 = q.1 ∧ BodyV base w p.2 q.2) l (pendK s)) : l.length = s.bodies.length - s.acked := by rw [h3.len, pendK_len]
end

/-- The reference's sender: block g, the row v. -/
structure SndR (base : Nat) (w : World) (g : Nat) (v : Value) (s : Snd) : Prop where
  blk : Blk w g 118 #[.int .i64 s.stream, .int .i64 s.window, .int .i64 s.acked, v]
  row : ∃ vs, w.ownsRow base 22 1 v s.bodies.length vs ∧ F2 (BodyV base w) vs s.bodies
  lo : base ≤ g
  ok : SndOk s
section
variable {base : Nat} {w w' : World} {g : Nat} {v : Value} {s : Snd}
theorem SndR.ext (h : SndR base w g v s) (he : Ext w w') : SndR base w' g v s := by
  obtain ⟨h1, ⟨l, h2, h3⟩, h4, h5⟩ := h
  exact ⟨h1.ext he, ⟨l, World.ownsRow.ext' h2 he, h3.imp fun _ _ _ h => h.ext he⟩, h4, h5⟩
theorem SndR.keeps {L : List Nat} (h : SndR base w g v s) (hk : Keeps L w w') (n1 : ∀ k ∈ L, NoRow 118 w k) (n2 : ∀ k ∈ L, NoRow 22 w k) (n3 : ∀ k ∈ L, NoRow 5 w k) : SndR base w' g v s := by
  obtain ⟨h1, ⟨l, h2, h3⟩, h4, h5⟩ := h
  refine ⟨h1.away hk n1, ⟨l, ownsRow_keeps h2 hk fun k hv hl => ?_, h3.imp fun _ _ _ h => h.keeps hk n3⟩, h4, h5⟩
  rcases h2.2 with ⟨rfl, _⟩ | ⟨g', cap, cur, rfl, _, hg, _⟩
  · simp [Value.ownBlock] at hv
  · simp [Value.ownBlock] at hv
    subst hv
    exact n2 _ hl _ _ hg
theorem SndR.lt (h : SndR base w g v s) : g < w.heap.size := h.blk.lt
theorem SndR.far (h : SndR base w g v s) (t : TypeId) (ht : 118 ≠ t) (ht' : 22 ≠ t) : ∀ k ∈ g :: v.ownBlock.toList, NoRow t w k := by
  intro k hk
  simp only [List.mem_cons, Option.mem_toList] at hk
  rcases hk with rfl | hk
  · exact NoRow.of_blk h.blk ht
  · obtain ⟨l, h2, _⟩ := h.row; exact NoRow.of_own h2 hk ht'
theorem SndR.new {w0 : World} (h : SndR base w g v s) (hb : w0.heap.size ≤ base) : ∀ k ∈ g :: v.ownBlock.toList, w0.heap.size ≤ k := by
  intro k hk
  have := h.lo
  simp only [List.mem_cons, Option.mem_toList] at hk
  rcases hk with rfl | hk
  · omega
  · obtain ⟨l, h2, _⟩ := h.row
    rcases h2.2 with ⟨rfl, _⟩ | ⟨g', cap, cur, rfl, hb', hg, _⟩
    · simp [Value.ownBlock] at hk
    · simp [Value.ownBlock] at hk
      omega
theorem SndR.noMap {P : Program} {k : TypeId} {m : Nat} {l : List (Int × Value)} (h : SndR base w g v s) (hm : MapL P k w m l) : m ∉ g :: v.ownBlock.toList := by
  intro hk
  simp only [List.mem_cons, Option.mem_toList] at hk
  rcases hk with rfl | hk
  · exact hm.notRow _ _ _ h.blk
  · obtain ⟨l, h2, _⟩ := h.row
    exact hm.ne_row h2 hk.symm
end
/-- What the one sender's methods do leaves the other sender. -/
theorem SndP.away {base base' : Nat} {w w' : World} {g m g' : Nat} {v : Value} {s s' : Snd} (h : SndP base w g m s) (h' : SndR base' w g' v s') (hk : Keeps (g' :: v.ownBlock.toList) w w') : SndP base w' g m s := by
  obtain ⟨l, h2, _⟩ := h.map
  exact h.keeps hk (h'.far _ (by decide) (by decide)) (h'.noMap h2) (h'.far _ (by decide) (by decide))
theorem SndR.away {base base' : Nat} {w w' : World} {g m g' : Nat} {v : Value} {s s' : Snd} (h : SndR base w g' v s) (h' : SndP base' w g m s') (hk : Keeps [g, m] w w') : SndR base w' g' v s :=
  h.keeps hk (h'.far _ (by decide)) (h'.far _ (by decide)) (h'.far _ (by decide))
end Go.Proofs.Ytekhmfliaojabaa
namespace Go.Proofs.Ytekhmfliaojabaa
open Go.RowKit

/-- What is a row without elements. -/
def Row0 (base : Nat) (W : World) (v : Value) : Prop := ∃ gq, v = .slice (some ⟨gq, 0, none⟩) 0 0 ∧ W.ownsRow base 5 1 (.slice (some ⟨gq, 0, none⟩) 0 0) 0 []
theorem Row0.ext {base : Nat} {W W' : World} {v : Value} (h : Row0 base W v) (hX : Ext W W') : Row0 base W' v := by obtain ⟨gq, h1, h2⟩ := h; exact ⟨gq, h1, World.ownsRow.ext' h2 hX⟩
theorem Row0.new {base : Nat} {W : World} (hb : base ≤ W.heap.size) : Row0 base (W.alloc (.cells #[] 5)) (.slice (some ⟨W.heap.size, 0, none⟩) 0 0) := ⟨_, rfl, World.ownsRow_lit W #[] 0 hb (by unfold maxLen; omega) rfl⟩
/-- A frame behind the region that makes it. -/
def FrM (base : Nat) (W : World) (v : Value) (st q : Int) (xs : List Int) : Prop := ∃ A n c, v = .agg #[.int .i64 st, .int .i64 q, .slice A n c] ∧ OwnS .u8 5 base W A n c xs
theorem FrM.ext {base : Nat} {W W' : World} {v : Value} {st q : Int} {xs : List Int} (h : FrM base W v st q xs) (hX : Ext W W') : FrM base W' v st q xs := by obtain ⟨A, n, c, h1, h2⟩ := h; exact ⟨A, n, c, h1, h2.ext hX⟩

end Go.Proofs.Ytekhmfliaojabaa
namespace Go.Proofs.Ytekhmfliaojabaa
open Go.RowKit

theorem toI_one : (1 : Int) = toI 1#32 := by decide
theorem toI_full : (4294967295 : Int) = toI 0xffffffff#32 := by decide
theorem rnd_one {v : BitVec 32} (h : v &&& 1#32 = 1#32) : rnd v = (v >>> 1) ^^^ 0xedb88320#32 := by simp [rnd, h]
theorem rnd_zero {v : BitVec 32} (h : ¬ v &&& 1#32 = 1#32) : rnd v = v >>> 1 := by simp [rnd, h]

theorem toI_flip (v : BitVec 32) : bits .xor .u32 IntKind.u32.max (toI v) = toI (~~~ v) := by
  have h1 : IntKind.u32.max = toI 0xffffffff#32 := by decide
  rw [h1, toI_xor]
  apply congrArg
  apply BitVec.eq_of_getLsbD_eq
  intro i hi
  rw [BitVec.getLsbD_xor, BitVec.getLsbD_not]
  have : (0xffffffff#32).getLsbD i = true := by
    have := (by decide : ∀ i, i < 32 → (0xffffffff#32).getLsbD i = true)
    exact this i hi
  rw [this]; simp [hi]

set_option maxHeartbeats 400000 in
theorem checksum_any (A : Option Addr) (n c : Nat) (xs : List Int) (w : World) (h : Ints .u8 w A n xs) (hn : n ≤ 9223372036854775806) :
    Calls Try.prog 51 #[.slice A n c] w fun e w' => e = .returned (.int .u32 (crc xs)) ∧ w = w' := by
  have H := Lib.hid h
  clear h
  go_enter Try.func51, Try.ntmps51
  go_wp2
  go_loopg [3, 8] n (fun g s i wr => ∃ (k : Nat) (v : BitVec 32), g = n - k ∧ k ≤ n ∧ i = .int .i64 k ∧ s = .int .u32 (toI v) ∧ v = crcL 0xffffffff#32 (xs.take k) ∧ w = wr)
  case atStart => exact ⟨0, 0xffffffff#32, rfl, by omega, rfl, by rw [← toI_full], rfl, rfl⟩
  case round =>
    obtain ⟨k, v, rfl, hk, rfl, rfl, hv, rfl⟩ := hrel
    have HV := Lib.hid hv
    clear hv
    obtain ⟨hv0, hv1⟩ := toI_range v
    by_cases hlt : k < n
    · obtain ⟨bl, off, x, rfl, hx, hwf, hc⟩ := H.out.get hlt
      obtain ⟨hx0, hx1⟩ := u8_bounds hwf
      have HX := Lib.hid hx
      clear hx hwf
      have hxor := toI_xor_byte v hx0 hx1
      go_wp2
      go_loopg [3, 16] 8 (fun g s i wr => ∃ (q : Nat) (u : BitVec 32), g = 8 - q ∧ q ≤ 8 ∧ i = .int .i64 q ∧ s = .int .u32 (toI u) ∧ u = rnds q (v ^^^ byteV x) ∧ w = wr)
      case atStart => exact ⟨0, v ^^^ byteV x, rfl, by omega, rfl, rfl, rfl, rfl⟩
      case round =>
        obtain ⟨q, u, rfl, hq, rfl, rfl, hu, rfl⟩ := hrel
        have HU := Lib.hid hu
        clear hu hxor
        obtain ⟨hu0, hu1⟩ := toI_range u
        have hand : bits .and .u32 (toI u) 1 = toI (u &&& 1#32) := toI_and u 1#32
        by_cases hql : q < 8
        · by_cases hb : u &&& 1#32 = 1#32
          · have hbb : (toI (u &&& 1#32) == 1) = true := by rw [hb]; decide
            have HB := Lib.hid hb
            clear hb
            have hr : Hid (bits .xor .u32 (toI u / 2) 3988292384 = toI (rnd u)) := by rw [rnd_one HB.out, ← toI_xor, ← toI_half]; exact rfl
            go_wp2
            go_roundg (8 - (q + 1))
            case rel => exact ⟨q + 1, rnd u, rfl, by omega, by go_num, by rw [hr.out], by rw [rnds_snoc, HU.out], rfl⟩
            case measure => omega
          · have hbb : (toI (u &&& 1#32) == 1) = false := by
              simp only [beq_eq_false_iff_ne, ne_eq]
              intro e
              exact hb (toI_inj (e.trans toI_one))
            have HB := Lib.hid hb
            clear hb
            have hr : Hid (toI u / 2 = toI (rnd u)) := by rw [rnd_zero HB.out, toI_half]; exact rfl
            go_wp2
            go_roundg (8 - (q + 1))
            case rel => exact ⟨q + 1, rnd u, rfl, by omega, by go_num, by rw [hr.out], by rw [rnds_snoc, HU.out], rfl⟩
            case measure => omega
        · obtain rfl : q = 8 := by omega
          go_wp2
          go_roundg (n - (k + 1))
          case rel => exact ⟨k + 1, u, rfl, by omega, by go_num, rfl, by rw [crcL_take_succ _ HX.out, ← HV.out, HU.out]; rfl, rfl⟩
          case measure => omega
    · go_wp2
      go_ret
      refine ⟨?_, rfl⟩
      have ht : xs.take k = xs := List.take_of_length_le (by have := H.out.1; omega)
      have hv := HV.out
      rw [ht] at hv
      show Ending.returned (.int .u32 (bits .xor .u32 IntKind.u32.max (toI v))) = _
      rw [toI_flip, hv]
      rfl

end Go.Proofs.Ytekhmfliaojabaa
namespace Go.Proofs.Ytekhmfliaojabaa
open Go.RowKit

set_option maxHeartbeats 400000 in
theorem unpack_none (A : Option Addr) (c : Nat) (w : World) : Calls Try.prog 31 #[.slice A 0 c] w (RetF w (unp [])) := by
  go_enter Try.func31, Try.ntmps31
  go_wp2
  refine bodyPost_ret (v := .tuple #[.agg #[.int .i64 0, .int .i64 0, .slice none 0 0], .int .i64 0, .int .i64 21]) (by simp [results, Try.results31, go_sem]) rfl ?_
  exact RetF.bad (unp_none rfl) rfl ((Ext.refl w).alloc _)

set_option maxHeartbeats 400000 in
theorem unpack_mark (b off n c : Nat) (xs : List Int) (x : Int) (w : World) (H : Hid (Ints .u8 w (some ⟨b, off, none⟩) n xs)) (hn : 0 < n) (hx : Hid (xs.getD 0 0 = x)) (hne : (x != 165) = true) (hc0 : w.cell? ⟨b, off, none⟩ = some (.int .u8 x)) :
    Calls Try.prog 31 #[.slice (some ⟨b, off, none⟩) n c] w (RetF w (unp xs)) := by
  have hb := World.block_lt_of_cell? w _ hc0
  have h0 : ((n : Int) == 0) = false := by simp; omega
  have e0 : (0 : Int) < (n : Int) := by omega
  simp only at hb
  go_enter Try.func31, Try.ntmps31
  go_wp2
  refine bodyPost_ret (v := .tuple #[.agg #[.int .i64 0, .int .i64 0, .slice none 0 0], .int .i64 0, .int .i64 22]) (by simp [results, Try.results31, go_sem]) rfl ?_
  exact RetF.bad (unp_mark (by rw [H.out.1]; omega) (by rw [hx.out]; simpa using hne)) rfl ((Ext.refl w).alloc _)

set_option maxHeartbeats 400000 in
theorem unpack_short (b off n c : Nat) (xs : List Int) (w : World) (H : Hid (Ints .u8 w (some ⟨b, off, none⟩) n xs)) (hn : 0 < n) (hn8 : n < 8) (hx : Hid (xs.getD 0 0 = 165)) (hc0 : w.cell? ⟨b, off, none⟩ = some (.int .u8 165)) :
    Calls Try.prog 31 #[.slice (some ⟨b, off, none⟩) n c] w (RetF w (unp xs)) := by
  have hb := World.block_lt_of_cell? w _ hc0
  have h0 : ((n : Int) == 0) = false := by simp; omega
  have e0 : (0 : Int) < (n : Int) := by omega
  simp only at hb
  go_enter Try.func31, Try.ntmps31
  go_wp2
  refine bodyPost_ret (v := .tuple #[.agg #[.int .i64 0, .int .i64 0, .slice none 0 0], .int .i64 0, .int .i64 21]) (by simp [results, Try.results31, go_sem]) rfl ?_
  exact RetF.bad (unp_short (by rw [H.out.1]; omega) hx.out (by rw [H.out.1]; omega)) rfl ((Ext.refl w).alloc _)

set_option maxRecDepth 100000 in
set_option maxHeartbeats 2000000 in
theorem unpack_big (b off n c s : Nat) (xs : List Int) (x1 x6 x7 : Int) (w : World) (H : Hid (Ints .u8 w (some ⟨b, off, none⟩) n xs)) (hnc : n ≤ c) (hcm : c ≤ 9223372036854775807) (hn : 8 ≤ n) (hx : Hid (xs.getD 0 0 = 165)) (h1x : Hid (xs.getD 1 0 = x1)) (hb1 : 0 ≤ x1 ∧ x1 ≤ 255) (hs : Hid (szN xs = s)) (hor : bits .or .i64 (x6 * 256) x7 = (s : Int)) (hb6 : 0 ≤ x6 ∧ x6 ≤ 255) (hb7 : 0 ≤ x7 ∧ x7 ≤ 255)
    (hc0 : w.cell? ⟨b, off, none⟩ = some (.int .u8 165)) (hc1 : w.cell? ⟨b, off + 1, none⟩ = some (.int .u8 x1)) (hc6 : w.cell? ⟨b, off + 6, none⟩ = some (.int .u8 x6)) (hc7 : w.cell? ⟨b, off + 7, none⟩ = some (.int .u8 x7)) :
    Calls Try.prog 31 #[.slice (some ⟨b, off, none⟩) n c] w (RetF w (unp xs)) := by
  have hb := World.block_lt_of_cell? w _ hc0
  have h0 : ((n : Int) == 0) = false := by simp; omega
  have e0 : (0 : Int) < (n : Int) := by omega
  have e1 : (1 : Int) < (n : Int) := by omega
  have e6 : (6 : Int) < (n : Int) := by omega
  have e7 : (7 : Int) < (n : Int) := by omega
  obtain ⟨ha6, hb6⟩ := hb6
  obtain ⟨ha7, hb7⟩ := hb7
  simp only at hb
  go_enter Try.func31, Try.ntmps31
  go_wp2
  go_quiet (fail)
  have hX1 : Ext w ((w.alloc (.cells #[.int .i64 0, .int .i64 0, .slice none 0 0] 38)).drewN nq) := ((Ext.refl w).alloc _).drewN _
  have hB1 : Blk ((w.alloc (.cells #[.int .i64 0, .int .i64 0, .slice none 0 0] 38)).drewN nq) w.heap.size 38 #[.int .i64 0, .int .i64 0, .slice none 0 0] := (Blk.new w _ _).drewN _
  generalize (w.alloc (.cells #[.int .i64 0, .int .i64 0, .slice none 0 0] 38)).drewN nq = w1 at hX1 hB1 ⊢
  obtain ⟨r0, r1, r2, f0, f1, f2⟩ := hB1.three
  replace hc1 := hX1.cell hc1
  clear hc0 hc6 hc7
  have HX1 := Lib.hid hX1
  have HB1 := Lib.hid hB1
  clear hX1 hB1
  by_cases h3 : 1024 < s
  · go_wp2
    refine bodyPost_ret (v := .tuple #[.agg #[.int .i64 0, .int .i64 0, .slice none 0 0], .int .i64 0, .int .i64 23]) (by simp [results, Try.results31, go_sem, *]) rfl ?_
    exact RetF.bad (unp_long hx.out (by rw [H.out.1]; omega) (by rw [hs.out]; omega)) rfl (((HX1.out.setCell (Nat.le_refl _) _).setCell (Nat.le_refl _) _).setCell (Nat.le_refl _) _)
  by_cases h4 : n < 12 + s
  · have h4' : (n : Int) < 8 + (s : Int) + 4 := by omega
    go_wp2
    refine bodyPost_ret (v := .tuple #[.agg #[.int .i64 0, .int .i64 0, .slice none 0 0], .int .i64 0, .int .i64 21]) (by simp [results, Try.results31, go_sem, *]) rfl ?_
    exact RetF.bad (unp_cut hx.out (by rw [H.out.1]; omega) (by rw [hs.out]; omega) (by rw [hs.out, H.out.1]; omega)) rfl (((HX1.out.setCell (Nat.le_refl _) _).setCell (Nat.le_refl _) _).setCell (Nat.le_refl _) _)
  have hI := H.out.ext HX1.out
  have hIt : Ints .u8 w1 (some ⟨b, off, none⟩) (8 + s) (xs.take (8 + s)) := hI.take (by omega)
  have hId : Ints .u8 w1 (some ⟨b, off + (8 + s), none⟩) (n - (8 + s)) (xs.drop (8 + s)) := hI.drop (8 + s) (fun _ b' off' e => by injection e with e; injection e with e1 e2; subst e1 e2; rfl)
  have HIt := Lib.hid hIt
  have HId := Lib.hid hId
  clear hI hIt hId
  have hne : ¬ c = 8 + s := by omega
  have hl1 : (8 : Int) + (s : Int) ≤ (n : Int) := by omega
  have hl2 : (8 : Int) + (s : Int) ≤ (c : Int) := by omega
  go_wp2
  have e8 : (0 : Int) ≤ 8 + (s : Int) := by omega
  have e9 : ((8 : Int) + (s : Int)).toNat = 8 + s := by omega
  obtain ⟨q1, hq1⟩ : ∃ q, bigN ((xs.drop (8 + s)).take 4) = q := ⟨_, rfl⟩
  obtain ⟨q2, hq2⟩ : ∃ q, crc (xs.take (8 + s)) = q := ⟨_, rfl⟩
  have H1 : Hid (∀ m, Calls Try.prog 72 #[.slice (some ⟨b, off + (8 + s), none⟩) (n - (8 + s)) (c - (8 + s))] (w1.drewN m) fun e w' => e = .returned (.int .u32 q1) ∧ ∃ k, w' = (w1.drewN m).drewN k) := fun m => by
    rw [← hq1]; exact number32_any _ _ _ _ _ (HId.out.ext ((Ext.refl w1).drewN m)) (by omega)
  have H2 : Hid (∀ m, Calls Try.prog 51 #[.slice (some ⟨b, off, none⟩) (8 + s) c] (w1.drewN m) fun e w' => e = .returned (.int .u32 q2) ∧ w1.drewN m = w') := fun m => by
    rw [← hq2]; exact checksum_any _ _ _ _ _ (HIt.out.ext ((Ext.refl w1).drewN m)) (by omega)
  have HQ1 := Lib.hid hq1
  have HQ2 := Lib.hid hq2
  clear hq1 hq2
  go_quiet ((first | (go_at_call 72; exact Calls.quiet_of (H1.out _)) | (go_at_call 51; exact quiet_left (H2.out _))))
  have hX2 : Ext w (w1.drewN nq) := HX1.out.drewN _
  have hB2 : Blk (w1.drewN nq) w.heap.size 38 #[.int .i64 0, .int .i64 0, .slice none 0 0] := HB1.out.drewN _
  replace hc1 : (w1.drewN nq).cell? ⟨b, off + 1, none⟩ = some (.int .u8 x1) := hc1
  have hId2 : Ints .u8 (w1.drewN nq) (some ⟨b, off + 2, none⟩) (n - 2) (xs.drop 2) := (H.out.ext hX2).drop 2 (fun _ b' off' e => by injection e with e; injection e with e1 e2; subst e1 e2; rfl)
  have hIb : Ints .u8 (w1.drewN nq) (some ⟨b, off, none⟩) n xs := H.out.ext hX2
  generalize w1.drewN nq = w2 at hX2 hB2 hc1 hId2 hIb ⊢
  have HId2 := Lib.hid hId2
  have HIb := Lib.hid hIb
  clear r0 r1 r2 f0 f1 f2 HIt HId H1 H2 HB1 HX1 hId2 hIb
  obtain ⟨r0, r1, r2, f0, f1, f2⟩ := hB2.three
  have HX2 := Lib.hid hX2
  have HB2 := Lib.hid hB2
  clear hX2 hB2
  by_cases hq : q1 = q2
  · subst hq
    go_wp2
    have hc2 : ¬ c = 2 := by omega
    have e2 : (2 : Int) ≤ (n : Int) := by omega
    obtain ⟨q3, hq3⟩ : ∃ q, bigN ((xs.drop 2).take 4) = q := ⟨_, rfl⟩
    have hq3r : 0 ≤ q3 ∧ q3 ≤ 4294967295 := by
      have h1 := bigN_range (xs := (xs.drop 2).take 4) (fun x hx => u8_bounds (H.out.2.1 x (List.mem_of_mem_drop (List.mem_of_mem_take hx))))
      have h2 : ((xs.drop 2).take 4).length = 4 := by rw [List.length_take, List.length_drop, H.out.1]; omega
      rw [h2, hq3] at h1
      have : (256 : Int) ^ 4 = 4294967296 := by decide
      omega
    have H1 : Hid (∀ W, Ext w2 W → Calls Try.prog 72 #[.slice (some ⟨b, off + 2, none⟩) (n - 2) (c - 2)] W fun e w' => e = .returned (.int .u32 q3) ∧ Ext w2 w' ∧ Ext W w') := fun W hW => by
      rw [← hq3]; exact (number32_any _ _ _ _ _ (HId2.out.ext hW) (by omega)).mono fun e w' ⟨he, k, hk⟩ => ⟨he, by rw [hk]; exact hW.drewN _, by rw [hk]; exact (Ext.refl _).drewN _⟩
    have HQ3 := Lib.hid hq3
    clear hq3
    obtain ⟨hq30, hq31⟩ := hq3r
    obtain ⟨hb10, hb11⟩ := hb1
    have hblt := World.block_lt_of_cell? w2 _ hc1
    simp only at hblt
    have hw1 : IntKind.i64.wrap x1 = x1 := IntWalk.i64_in _ (by omega)
    have hw3 : IntKind.i64.wrap q3 = q3 := IntWalk.i64_in _ (by omega)
    go_upto_region 15 with (fail)
    go_cut [7] (fun s7 wx => ∃ g : Nat, s7 = .pointer (some ⟨g, 0, none⟩) ∧ w2.heap.size ≤ g ∧ Blk wx g 38 #[.int .i64 x1, .int .i64 q3, .slice none 0 0] ∧ Ext w2 wx)
    case first =>
      go_region_held3 (fun w' => w'.cell? ⟨b, off + 1, none⟩ = some (.int .u8 x1)) (first | go_keep | exact Ext.cell (by repeat (first | exact Ext.refl _ | assumption | refine Ext.drew ?_ | refine Ext.drewN ?_ _ | refine Ext.alloc ?_ _ | refine Ext.setCell ?_ (Nat.le_refl _) _)) hc1) (first | (go_at_call 72; refine (H1.out _ (by repeat (first | exact Ext.refl _ | refine Ext.drew ?_ | refine Ext.drewN ?_ _ | refine Ext.alloc ?_ _))).mono ?_; rintro e w' ⟨rfl, hE', hE2⟩; (first | (have hbn := Blk.ext (Blk.drew (Blk.new w2 38 #[.int .i64 0, .int .i64 0, .slice none 0 0])) hE2; obtain ⟨t0, t1, t2, t3, t4, t5⟩ := hbn.three; have HBn := Lib.hid hbn; clear hE2 hbn) | clear hE2)))
      · go_wp2_with fail
        go_meet
        exact ⟨w'.heap.size, rfl, hE'.size, Blk.new _ _ _, hE'.alloc _⟩
      · go_wp2_with fail
        go_meet
        exact ⟨w2.heap.size, rfl, Nat.le_refl _, ((HBn.out.set 0 _).set 1 _).set 2 _, ((hE'.setCell (Nat.le_refl _) _).setCell (Nat.le_refl _) _).setCell (Nat.le_refl _) _⟩
    case rest =>
      obtain ⟨g, rfl, hgl, hBg, hXc⟩ := hcut
      have HBg := Lib.hid hBg
      have HB3 := Lib.hid (HB2.out.ext hXc)
      have HX3 := Lib.hid (HX2.out.trans hXc)
      have HIc := Lib.hid (HIb.out.ext hXc)
      have hgne : w.heap.size ≠ g := Nat.ne_of_lt (Nat.lt_of_lt_of_le HB2.out.lt hgl)
      have hbw : b < wc.heap.size := Nat.lt_of_lt_of_le hblt hXc.size
      clear H1 hc1 hXc hBg hblt
      obtain ⟨body, hbody⟩ : ∃ l, (xs.take (8 + s)).drop 8 = l := ⟨_, rfl⟩
      have hI8 : Ints .u8 wc (some ⟨b, off + 8, none⟩) s body := by
        have h8 := (HIc.out.take (m := 8 + s) (by omega)).drop 8 (A' := some ⟨b, off + 8, none⟩) (fun _ b' off' e => by injection e with e; injection e with e1 e2; subst e1 e2; rfl)
        rw [hbody] at h8
        have e : 8 + s - 8 = s := by omega
        rw [e] at h8
        exact h8
      have HI8 := Lib.hid hI8
      have HBO := Lib.hid hbody
      clear hI8 hbody
      have hc8 : ¬ c = 8 := by omega
      go_wp2_with (at_builtin; refine wpList_app _ elB rfl _ _ rfl wc.heap.size (.slice (some ⟨wc.heap.size, 0, none⟩) 0 0) 0 [] rfl (World.ownsRow_lit wc #[] 0 (Nat.le_refl _) (by unfold maxLen; omega) rfl) (some ⟨b, off + 8, none⟩) s (c - 8) (body.map (.int .u8)) rfl (by rw [List.length_map, HI8.out.1]; omega) (HI8.out.ext ((Ext.refl wc).alloc _)).2.2 (ints_oneCell _ _) (by omega) (by unfold maxLen; omega) (by simp) ?_; intro v6 w6 hown6 hgr6 hdj; clear hdj; have hX6 : Ext wc w6 := ((Ext.refl wc).alloc _).grown hgr6 (fun k hk => by simp [Value.ownBlock] at hk; omega); have HO6 := Lib.hid hown6; have HX6 := Lib.hid hX6; clear hown6 hgr6 hX6; obtain ⟨r0, r1, r2, f0, f1, f2⟩ := (HB3.out.ext HX6.out).three; obtain ⟨s0, s1, s2, t0, t1, t2⟩ := (HBg.out.ext HX6.out).three; obtain ⟨A6, c6, hv6⟩ := own_slice HO6.out; rw [hv6]; rw [hv6] at HO6; clear hv6)
      refine bodyPost_ret (v := .tuple #[.agg #[.int .i64 x1, .int .i64 q3, .slice A6 (0 + s) c6], .int .i64 (8 + (s : Int) + 4), .int .i64 0]) (by simp [results, Try.results31, go_sem, *]) rfl ?_
      rw [unp_ok hx.out (by rw [hs.out]; omega) (by rw [hs.out, H.out.1]; omega) (by rw [hs.out, HQ1.out, HQ2.out])]
      have hgc : g < wc.heap.size := HBg.out.lt
      have hwc : w.heap.size < wc.heap.size := HB3.out.lt
      have hg2 : w.heap.size ≤ g := Nat.le_trans HX2.out.size hgl
      refine ⟨A6, 0 + s, c6, ?_, ⟨?_, ?_, ?_⟩, ?_⟩
      · simp only [h1x.out, HQ3.out, hs.out]
        rw [show (12 : Int) + (s : Int) = 8 + (s : Int) + 4 by omega]
      · simp only [hs.out, HBO.out]
        have := HO6.out
        simp only [List.nil_append] at this
        exact World.ownsRow.mono' (ownsRow_setCell_below (ownsRow_setCell_below (ownsRow_setCell_below (ownsRow_setCell_below this hgc _) hwc _) hwc _) hwc _) (Nat.le_of_lt hwc)
      · simp only [hs.out, HBO.out]
        rw [HI8.out.1]; omega
      · simp only [hs.out, HBO.out]
        exact HI8.out.2.1
      · exact ((((HX3.out.trans HX6.out).setCell hg2 _).setCell (Nat.le_refl _) _).setCell (Nat.le_refl _) _).setCell (Nat.le_refl _) _
  · have hqb : (q1 != q2) = true := by simpa using hq
    go_wp2
    refine bodyPost_ret (v := .tuple #[.agg #[.int .i64 0, .int .i64 0, .slice none 0 0], .int .i64 0, .int .i64 24]) (by simp [results, Try.results31, go_sem, *]) rfl ?_
    exact RetF.bad (unp_sum hx.out (by rw [hs.out]; omega) (by rw [hs.out, H.out.1]; omega) (by rw [hs.out, HQ1.out, HQ2.out]; exact hq)) rfl (((HX2.out.setCell (Nat.le_refl _) _).setCell (Nat.le_refl _) _).setCell (Nat.le_refl _) _)

theorem unpack_any (A : Option Addr) (n c : Nat) (xs : List Int) (w : World) (h : Ints .u8 w A n xs) (hnc : n ≤ c) (hcm : c ≤ 9223372036854775807) :
    Calls Try.prog 31 #[.slice A n c] w (RetF w (unp xs)) := by
  rcases Nat.eq_zero_or_pos n with h0 | h0
  · subst h0
    obtain rfl : xs = [] := List.eq_nil_of_length_eq_zero h.1
    exact unpack_none A c w
  have hb : ∀ x ∈ xs, 0 ≤ x ∧ x ≤ 255 := fun x hx => u8_bounds (h.2.1 x hx)
  obtain ⟨b, off, rfl, hc⟩ := h.2.2 (by intro e; have := h.1; rw [List.map_eq_nil_iff] at e; subst e; simp at this; omega)
  have g : ∀ j, j < n → ∃ x, xs.getD j 0 = x ∧ (0 ≤ x ∧ x ≤ 255) ∧ w.cell? ⟨b, off + j, none⟩ = some (.int .u8 x) := fun j hj => by
    have hj' : j < xs.length := by rw [h.1]; exact hj
    refine ⟨xs[j], by simp [List.getD, List.getElem?_eq_getElem hj'], hb _ (List.getElem_mem hj'), hc j _ ?_⟩
    rw [List.getElem?_map, List.getElem?_eq_getElem hj']; rfl
  obtain ⟨x0, hx0, _, hc0⟩ := g 0 h0
  by_cases hm : x0 = 165
  · subst hm
    by_cases h8 : n < 8
    · exact unpack_short b off n c xs w h h0 h8 hx0 hc0
    · obtain ⟨x1, hx1, hb1, hc1⟩ := g 1 (by omega)
      obtain ⟨x6, hx6, hb6, hc6⟩ := g 6 (by omega)
      obtain ⟨x7, hx7, hb7, hc7⟩ := g 7 (by omega)
      have hsz : ((szN xs : Nat) : Int) = x6 * 256 + x7 := by unfold szN; rw [hx6, hx7]; omega
      exact unpack_big b off n c (szN xs) xs x1 x6 x7 w h hnc hcm (by omega) hx0 hx1 hb1 rfl (by rw [or_size hb6 hb7, hsz]) hb6 hb7 hc0 hc1 hc6 hc7
  · exact unpack_mark b off n c xs x0 w h h0 hx0 (by simpa using hm) hc0
end Go.Proofs.Ytekhmfliaojabaa
namespace Go.Proofs.Ytekhmfliaojabaa
open Go.RowKit

theorem elF : Elem Try.prog 57 38 3 40 (.agg #[.int .i64 0, .int .i64 0, .slice none 0 0]) := Elem.mk' (by kernel_rfl) (by kernel_rfl) rfl (by decide)

/-- What Scan leaves. -/
def RetS (w : World) (r : List Fr × Nat × Nat) (e : Ending) (w' : World) : Prop :=
  ∃ A n c vs, e = .returned (.tuple #[.slice A n c, .int .i64 r.2.1, .int .i64 r.2.2]) ∧ w'.ownsRow w.heap.size 38 3 (.slice A n c) n vs ∧ CsR (FrO w.heap.size w') vs r.1 ∧ r.1.length = n ∧ Ext w w'

theorem RetS.frs {w w' : World} {r : List Fr × Nat × Nat} {A : Option Addr} {n c : Nat} {vs : List Value} (h : w'.ownsRow w.heap.size 38 3 (.slice A n c) n vs) (hv : CsR (FrO w.heap.size w') vs r.1) (hl : r.1.length = n) : Frs w' A n r.1 :=
  ⟨hl, vs, hv.imp fun _ _ h => h.frc, At.of_own h⟩

set_option maxRecDepth 100000 in
set_option maxHeartbeats 2000000 in
theorem scan_any (A : Option Addr) (n c : Nat) (xs : List Int) (w : World) (h : Ints .u8 w A n xs) (hnc : n ≤ c) (hcm : c ≤ 9223372036854775807) (hn : n ≤ 1000000) :
    Calls Try.prog 54 #[.slice A n c] w (RetS w (scan xs)) := by
  have H := Lib.hid h
  have HL : Hid (xs.length = n) := h.1
  clear h
  go_enter Try.func54, Try.ntmps54
  go_wp2_with fail
  go_step3
  go_wp2_with fail
  go_step3
  go_wp2_with fail
  go_loopg [2, 3, 5] n (fun g v s i wr => ∃ (k sk : Nat) (fs : List Fr) (vs : List Value), g = n - k ∧ k ≤ n ∧ i = .int .i64 k ∧ s = .int .i64 sk ∧ sk ≤ k ∧ fs.length ≤ k ∧ ScanAt xs k fs sk ∧ wr.ownsRow w.heap.size 38 3 v fs.length vs ∧ CsR (FrO w.heap.size wr) vs fs ∧ Ext w wr)
  case atStart => exact ⟨0, 0, [], [], rfl, by omega, rfl, rfl, by omega, by simp, ScanAt.start xs, World.ownsRow_nil _ _ _ _, rfl, Ext.refl w⟩
  case round =>
    obtain ⟨k, sk, fs, vs, rfl, hk, rfl, rfl, hsk, hfl, hS, hown, hcs, hX⟩ := hrel
    have HS := Lib.hid hS
    have HC := Lib.hid hcs
    have HX := Lib.hid hX
    clear hS hcs hX
    by_cases hlt : k < n
    · obtain ⟨f, m, er, hu⟩ : ∃ f m er, unp (xs.drop k) = (f, m, er) := ⟨_, _, _, rfl⟩
      obtain ⟨fs0, fq, fb⟩ := f
      obtain ⟨A0, c0, rfl⟩ := own_slice hown
      have HU := Lib.hid hu
      clear hu
      go_wp2_with (first | (refine wpList_cutL (o := ⟨some 16, _, _, _, _, _⟩) _ elB rfl _ _ rfl A n c rfl _ _ k rfl rfl (by omega) hnc ?_; intro A5 hA5))
      have hI5 : Ints .u8 wr A5 (n - k) (xs.drop k) := by
        have hI := H.out.ext HX.out
        refine ⟨by rw [List.length_drop, HL.out], fun x hx => hI.2.1 x (List.mem_of_mem_drop hx), ?_⟩
        have := hA5 wr _ hI.2.2 (by rw [List.length_map, HL.out]; omega)
        rw [Nat.mul_one, ← List.map_drop] at this
        exact this
      refine (unpack_any _ _ _ _ _ hI5 (by omega) (by omega)).mono ?_
      clear hI5 hA5
      rw [HU.out]
      rintro e w1 ⟨A1, n1, c1, rfl, hO1, hX1⟩
      simp only at hO1 ⊢
      have HO1 := Lib.hid (hO1.mono HX.out.size)
      have HX1 := Lib.hid hX1
      have hown1 := World.ownsRow.ext' hown hX1
      have HC1 := Lib.hid (HC.out.imp fun _ _ h => FrO.ext h hX1)
      clear hO1 hX1 hown
      by_cases he0 : er = 0
      · subst he0
        have hul := unp_len (xs := xs.drop k) (by rw [HU.out])
        have hst := HS.out.found (by rw [HU.out])
        have hug := unp_good (xs := xs.drop k) (by rw [HU.out])
        rw [HU.out] at hul hst hug
        simp only at hul hst hug
        obtain ⟨z, hz⟩ : ∃ z, szN (xs.drop k) = z := ⟨_, rfl⟩
        rw [hz] at hul hst hug
        have hzl : 12 + z ≤ n - k := by have := hug.2.1; rw [List.length_drop, HL.out] at this; exact this
        subst hul
        have HST := Lib.hid hst
        clear hst hug hz
        go_wp2_with (at_builtin; refine wpList_app _ elF rfl _ _ rfl w.heap.size (.slice A0 fs.length c0) fs.length vs rfl ((hown1.alloc _).alloc _) _ 1 1 [.int .i64 fs0, .int .i64 fq, .slice A1 n1 c1] rfl rfl (At.new' _ [_, _, _] _ (by simp)) (by simp [Value.oneCell']) (by omega) (by unfold maxLen; omega) (by have := HX.out.size; have := HX1.out.size; simp; omega) ?_; intro v2 w2 hown2 hgr2 hdj; clear hdj)
        go_roundg (n - (k + (12 + z)))
        case rel =>
          have hoa := (hown1.alloc (.cells #[.int .i64 fs0, .int .i64 fq, .slice A1 n1 c1] 38)).alloc (.cells #[.int .i64 fs0, .int .i64 fq, .slice A1 n1 c1] 38)
          have hXa : Ext w1 ((w1.alloc (.cells #[.int .i64 fs0, .int .i64 fq, .slice A1 n1 c1] 38)).alloc (.cells #[.int .i64 fs0, .int .i64 fq, .slice A1 n1 c1] 38)) := ((Ext.refl w1).alloc _).alloc _
          refine ⟨k + (12 + z), sk, fs ++ [⟨fs0, fq, fb⟩], vs ++ [.int .i64 fs0, .int .i64 fq, .slice A1 n1 c1], rfl, by omega, by go_num, rfl, by omega, by simp; omega, HST.out, by simpa using hown2, ?_, ?_⟩
          · refine CsR.snoc (HC1.out.imp fun _ _ h => FrO.kept (FrO.ext h hXa) hoa (by decide) hgr2) ?_
            exact FrO.kept (FrO.ext ⟨A1, n1, c1, rfl, HO1.out⟩ hXa) hoa (by decide) hgr2
          · exact ((HX.out.trans HX1.out).trans hXa).grown hgr2 fun g hg => (hoa.lt g hg).1
        case measure => omega
      · have hb0 : (er == 0) = false := by simpa using he0
        by_cases he1 : er = 21
        · subst he1
          have hdn := HS.out.done (by rw [HU.out])
          have HDN := Lib.hid hdn
          clear hdn
          go_wp2
          rw [Exit.noGoto_ret]
          go_ret3
          refine ⟨A0, fs.length, c0, vs, ?_, hown1.alloc _, ?_, by rw [HDN.out], (HX.out.trans HX1.out).alloc _⟩
          · rw [HDN.out, HL.out]
            simp only
            rw [show ((n - k : Nat) : Int) = (n : Int) - (k : Int) by omega]
            rfl
          · rw [HDN.out]
            exact HC1.out.imp fun _ _ h => FrO.ext h ((Ext.refl _).alloc _)
        · have hb1 : (er == 21) = false := by simpa using he1
          have hst := HS.out.skip (by rw [HU.out]; exact he0) (by rw [HU.out]; exact he1)
          have HST := Lib.hid hst
          clear hst he0 he1
          go_wp2
          go_roundg (n - (k + 1))
          case rel => exact ⟨k + 1, sk + 1, fs, vs, rfl, by omega, by go_num, by go_num, by omega, by omega, HST.out, hown1.alloc _, HC1.out.imp fun _ _ h => FrO.ext h ((Ext.refl _).alloc _), (HX.out.trans HX1.out).alloc _⟩
          case measure => omega
    · obtain rfl : k = n := by omega
      have hdn := HS.out.done (by rw [List.drop_eq_nil_of_le (by rw [HL.out]; omega), unp_nil])
      have HDN := Lib.hid hdn
      clear hdn
      obtain ⟨A0, c0, rfl⟩ := own_slice hown
      go_wp2
      rw [Exit.noGoto_ret]
      go_ret3
      refine ⟨A0, fs.length, c0, vs, ?_, hown, by rw [HDN.out]; exact HC.out, by rw [HDN.out], HX.out⟩
      rw [HDN.out, HL.out]
      simp
end Go.Proofs.Ytekhmfliaojabaa
namespace Go.Proofs.Ytekhmfliaojabaa
open Go.RowKit

/-- A slice of frames in a row of its own. -/
def FrL (base : Nat) (w : World) (v : Value) (fs : List Fr) : Prop := ∃ vs, w.ownsRow base 38 3 v fs.length vs ∧ CsR (FrO base w) vs fs
section
variable {base : Nat} {w w' : World} {v : Value} {fs : List Fr}
theorem FrL.nil (base : Nat) (w : World) : FrL base w (.slice none 0 0) [] := ⟨[], World.ownsRow_nil _ _ _ _, rfl⟩
theorem FrL.ext (h : FrL base w v fs) (he : Ext w w') : FrL base w' v fs := by obtain ⟨vs, h1, h2⟩ := h; exact ⟨vs, World.ownsRow.ext' h1 he, h2.imp fun _ _ h => h.ext he⟩
theorem FrL.frs (h : FrL base w v fs) : ∃ A c, v = .slice A fs.length c ∧ Frs w A fs.length fs ∧ fs.length ≤ c ∧ c ≤ 9223372036854775807 := by
  obtain ⟨vs, h1, h2⟩ := h
  obtain ⟨A, c, rfl⟩ := own_slice h1
  exact ⟨A, c, rfl, ⟨rfl, vs, h2.imp fun _ _ h => h.frc, At.of_own h1⟩, own_cap h1⟩
theorem FrL.snoc {w1 : World} {v1 : Value} {vs : List Value} {st q : Int} {A : Option Addr} {n c : Nat} {xs : List Int} (hv : w.ownsRow base 38 3 v fs.length vs) (hc : CsR (FrO base w) vs fs) (hO : OwnS .u8 5 base w A n c xs)
    (o : Obj) (hown : w1.ownsRow base 38 3 v1 (fs.length + 1) (vs ++ [.int .i64 st, .int .i64 q, .slice A n c])) (hgr : (w.alloc o).grownBy w1 v.ownBlock) : FrL base w1 v1 (fs ++ [⟨st, q, xs⟩]) := by
  have hX : Ext w (w.alloc o) := (Ext.refl w).alloc o
  have hv1 := World.ownsRow.ext' hv hX
  refine ⟨_, by rw [List.length_append]; exact hown, CsR.snoc (hc.imp fun _ _ h => FrO.kept (FrO.ext h hX) hv1 (by decide) hgr) ?_⟩
  exact FrO.kept (FrO.ext ⟨A, n, c, rfl, hO⟩ hX) hv1 (by decide) hgr
end
end Go.Proofs.Ytekhmfliaojabaa
namespace Go.Proofs.Ytekhmfliaojabaa
open Go.RowKit

theorem SndR.slice {base : Nat} {w : World} {g : Nat} {v : Value} {s : Snd} (h : SndR base w g v s) : ∃ A c, v = .slice A s.bodies.length c := by obtain ⟨vs, ho, _⟩ := h.row; exact own_slice ho
end Go.Proofs.Ytekhmfliaojabaa
namespace Go.Proofs.Ytekhmfliaojabaa
open Go.RowKit

/-- A slice of elements of k cells reads as 'xs'. -/
def Els {α : Type} (E : World → List Value → α → Prop) (w : World) (A : Option Addr) (n : Nat) (xs : List α) : Prop := xs.length = n ∧ ∃ vs, CsR (E w) vs xs ∧ At w A vs
theorem Els.get {α : Type} {E : World → List Value → α → Prop} {k : Nat} (hk : ∀ w cs x, E w cs x → cs.length = k) {w : World} {A : Option Addr} {n : Nat} {xs : List α} (h : Els E w A n xs) (hp : 0 < k) {j : Nat} (hj : j < n) :
    ∃ b off f cs, A = some ⟨b, off, none⟩ ∧ xs[j]? = some f ∧ E w cs f ∧ ∀ i u, cs[i]? = some u → w.cell? ⟨b, off + j * k + i, none⟩ = some u := by
  obtain ⟨h1, vs, h2, h3⟩ := h
  have hf : xs[j]? = some xs[j] := List.getElem?_eq_getElem (by omega)
  obtain ⟨cs, h4, h5⟩ := h2.get (hk w) hf
  have hl := hk _ _ _ h4
  obtain ⟨u, hu⟩ : ∃ u, cs[0]? = some u := ⟨cs[0], List.getElem?_eq_getElem (by omega)⟩
  obtain ⟨b, off, hA, hc⟩ := h3 (by intro e; subst e; have := h5 0 _ hu; simp at this)
  exact ⟨b, off, _, cs, hA, hf, h4, fun i u hi => by rw [Nat.add_assoc]; exact hc _ _ (h5 i u hi)⟩
theorem SendE.len (w : World) (cs : List Value) (f : Int × Int × List Int × List Int) (h : SendE w cs f) : cs.length = 4 := by obtain ⟨_, _, _, _, _, _, rfl, _⟩ := h; rfl
theorem CallE.len (w : World) (cs : List Value) (f : Int × Int × Int × List Int) (h : CallE w cs f) : cs.length = 4 := by obtain ⟨_, _, _, rfl, _⟩ := h; rfl
theorem FrameE.len (w : World) (cs : List Value) (f : Int × Int × List Int) (h : FrameE w cs f) : cs.length = 3 := by obtain ⟨_, _, _, rfl, _⟩ := h; rfl

end Go.Proofs.Ytekhmfliaojabaa
namespace Go.Proofs.Ytekhmfliaojabaa
open Go.ChangeShapes Go.WideShapes Go.ChangeAt Go.RowKit Go.Joins

section
variable {W : World} {H : Type} {enc : TypeId × Value → H} {a : Option Addr} {len cap fuel : Nat} {y : DataW H × List MemPlace} {b : Nat} {sp : Nat → Bool} {hd : Bool}
theorem frames_open (hf : DataW.trod enc Try.prog W b sp hd fuel 57 [.slice a len cap] = some y) : ∃ fs, Els FrameE W a len fs ∧ len ≤ cap ∧ cap ≤ 9223372036854775807 := by
  obtain ⟨xs, vs, h1, h2, h3, h4, h5⟩ := slice_trod (k := 3) (R := FrameE W) Try.underlying57 (by kernel_rfl) (FrameE.len W) (fun fuel cs z hl hz => frameE_el hl hz) hf
  exact ⟨xs, ⟨h1, vs, h2, h3⟩, h4, h5⟩
end
end Go.Proofs.Ytekhmfliaojabaa
namespace Go.Proofs.Ytekhmfliaojabaa
open Go.RowKit

theorem scan_nil : scan [] = ([], 0, 0) := scan_short (by rw [unp_nil])
theorem scan_stray (ts rest : List Int) (h : ∀ x ∈ ts, x ≠ 165) : scan (ts ++ rest) = preS [] ts.length (scan rest) := by
  induction ts with
  | nil => simp [preS]
  | cons x ts ih =>
    have hx := h x (List.mem_cons_self ..)
    have hu : unp (x :: (ts ++ rest)) = (fr0, 0, 22) := unp_mark (by simp) (by simpa using hx)
    rw [List.cons_append, scan_skip (by rw [hu]; simp) (by rw [hu]; simp)]
    rw [List.drop_succ_cons, List.drop_zero, ih fun y hy => h y (List.mem_cons_of_mem _ hy), preS_preS]
    simp [Nat.add_comm]
theorem scan_frame {f : Fr} (h : FrOk f) (rest : List Int) : scan (pck f ++ rest) = preS [f] 0 (scan rest) := by
  have hu := unp_pck h rest
  rw [scan_ok (by rw [hu]), hu]
  have hs : szN (pck f ++ rest) = f.body.length := by unfold pck; rw [List.append_assoc]; exact szN_heads _ h.2.2.2.2
  rw [hs, List.drop_left' (by rw [pck_len])]

/-- The bytes that the statement makes: before each valid frame the stray bytes. -/
def strew (ts : List Int) (fs : List Fr) : List Int := (fs.map fun f => ts ++ pck f).flatten
theorem strew_snoc (ts : List Int) (fs : List Fr) (f : Fr) : strew ts (fs ++ [f]) = strew ts fs ++ (ts ++ pck f) := by simp [strew]
theorem scan_strew (ts : List Int) (h : ∀ x ∈ ts, x ≠ 165) (fs : List Fr) (hf : ∀ f ∈ fs, FrOk f) : scan (strew ts fs) = (fs, fs.length * ts.length, 0) := by
  induction fs with
  | nil => simpa [strew] using scan_nil
  | cons f fs ih =>
    have e : strew ts (f :: fs) = ts ++ (pck f ++ strew ts fs) := by simp [strew]
    rw [e, scan_stray ts _ h, scan_frame (hf f (List.mem_cons_self ..)), ih fun g hg => hf g (List.mem_cons_of_mem _ hg)]
    simp [preS, Nat.succ_mul, Nat.add_comm]
end Go.Proofs.Ytekhmfliaojabaa
namespace Go.Proofs.Ytekhmfliaojabaa
open Go.RowKit

set_option maxHeartbeats 400000 in
theorem valid_yes (s q : Int) (A : Option Addr) (n c : Nat) (w : World) (h1 : 0 ≤ s) (h2 : s ≤ 255) (h3 : 0 ≤ q) (h4 : q ≤ 4294967295) (h5 : n ≤ 1024) :
    Calls Try.prog 78 #[.agg #[.int .i64 s, .int .i64 q, .slice A n c]] w fun e w' => e = .returned (.bool true) ∧ Ext w w' := by
  go_enter Try.func78, Try.ntmps78
  go_wp2
  go_ret
  exact ⟨by simp; omega, (Ext.refl w).alloc _⟩
set_option maxHeartbeats 400000 in
theorem valid_no (s q : Int) (A : Option Addr) (n c : Nat) (w : World) (h : ¬ (0 ≤ s ∧ s ≤ 255 ∧ 0 ≤ q ∧ q ≤ 4294967295 ∧ n ≤ 1024)) :
    Calls Try.prog 78 #[.agg #[.int .i64 s, .int .i64 q, .slice A n c]] w fun e w' => e = .returned (.bool false) ∧ Ext w w' := by
  by_cases h1 : 0 ≤ s
  · by_cases h2 : s < 256
    · by_cases h3 : 0 ≤ q
      · by_cases h4 : q ≤ 4294967295
        · have h5 : ¬ n ≤ 1024 := fun h5 => h ⟨h1, by omega, h3, h4, h5⟩
          clear h
          go_enter Try.func78, Try.ntmps78
          go_wp2
          go_ret
          exact ⟨by simp; omega, (Ext.refl w).alloc _⟩
        · clear h
          go_enter Try.func78, Try.ntmps78
          go_wp2
          go_ret
          exact ⟨by simp, (Ext.refl w).alloc _⟩
      · clear h
        go_enter Try.func78, Try.ntmps78
        go_wp2
        go_ret
        exact ⟨by simp, (Ext.refl w).alloc _⟩
    · clear h
      go_enter Try.func78, Try.ntmps78
      go_wp2
      go_ret
      exact ⟨by simp, (Ext.refl w).alloc _⟩
  · clear h
    go_enter Try.func78, Try.ntmps78
    go_wp2
    go_ret
    exact ⟨by simp, (Ext.refl w).alloc _⟩

set_option maxHeartbeats 400000 in
theorem big32_any (w0 : World) (A : Option Addr) (n c : Nat) (vs : List Value) (q : Int) (w : World) (h : w.ownsRow w0.heap.size 5 1 (.slice A n c) n vs) (hx : Ext w0 w) (hn : n ≤ 1000000) (h0 : 0 ≤ q) (h1 : q ≤ 4294967295) :
    Calls Try.prog 81 #[.slice A n c, .int .u32 q] w fun e w' => ∃ A' c', e = .returned (.slice A' (n + 4) c') ∧ w'.ownsRow w0.heap.size 5 1 (.slice A' (n + 4) c') (n + 4) (vs ++ (big4 q).map (.int .u8)) ∧ Ext w0 w' := by
  have HX := Lib.hid hx
  clear hx
  have hb := big4_byte h0 h1
  have e1 : IntKind.u8.wrap (q / 16777216) = q / 16777216 := IntWalk.u8_in _ (by omega)
  have e2 : IntKind.u8.wrap (q / 65536) = q / 65536 % 256 := by rw [IntKind.wrap_u8]
  have e3 : IntKind.u8.wrap (q / 256) = q / 256 % 256 := by rw [IntKind.wrap_u8]
  have e4 : IntKind.u8.wrap q = q % 256 := by rw [IntKind.wrap_u8]
  clear hb
  go_enter Try.func81, Try.ntmps81
  go_wp2_with (at_builtin; refine wpList_app _ elB rfl _ _ rfl w0.heap.size (.slice A n c) n vs rfl (h.alloc _) _ 4 4 ((big4 q).map (.int .u8)) rfl rfl (At.new _ [_, _, _, _] _) (ints_oneCell _ _) (by omega) (by unfold maxLen; omega) (by have := HX.out.size; simp; omega) ?_; intro v1 w1 hown1 hgr1 hdj; clear hdj)
  go_ret
  obtain ⟨A2, c2, rfl⟩ := own_slice hown1
  exact ⟨A2, c2, rfl, hown1, HX.out.push h hgr1⟩

set_option maxRecDepth 100000 in
set_option maxHeartbeats 2000000 in
theorem pack_ok (s q : Int) (A : Option Addr) (n c : Nat) (xs : List Int) (w : World) (h : Ints .u8 w A n xs) (hok : FrOk ⟨s, q, xs⟩) :
    Calls Try.prog 49 #[.agg #[.int .i64 s, .int .i64 q, .slice A n c]] w (RetBytes w (pck ⟨s, q, xs⟩) 0) := by
  have H := Lib.hid h
  have HOK := Lib.hid hok
  obtain ⟨h1, h2, h3, h4, h5⟩ := hok
  simp only at h1 h2 h3 h4 h5
  rw [h.1] at h5
  clear h
  go_enter Try.func49, Try.ntmps49
  go_wp2_with fail
  refine (valid_yes s q A n c _ h1 h2 h3 h4 h5).mono ?_
  rintro e w1 ⟨rfl, hX1⟩
  have hB1 := (Blk.new w 38 #[.int .i64 s, .int .i64 q, .slice A n c]).ext hX1
  have HXw := Lib.hid (((Ext.refl w).alloc _).trans hX1)
  have HB1 := Lib.hid hB1
  have hlt := hB1.lt
  obtain ⟨r0, r1, r2, f0, f1, f2⟩ := hB1.three
  clear hX1 hB1
  go_wp2_with (first | (at_make; refine wpList_mk _ elB rfl rfl _ _ rfl w1.heap.size _ _ _ _ 0 (12 + n) rfl rfl rfl (by omega) (by omega) (by omega) (by unfold maxLen; omega) (Nat.le_refl _) ?_; intro w2 hown2 hext2 hsz2; have HX2 := Lib.hid hext2; obtain ⟨r0, r1, r2, f0, f1, f2⟩ := (HB1.out.ext hext2).three; clear hext2) | (at_builtin; refine wpList_app (o := ⟨some 19, _, _, _, _, _⟩) _ elB rfl _ _ rfl w1.heap.size (.slice (some ⟨w1.heap.size, 0, none⟩) 0 (12 + n)) 0 [] rfl (hown2.alloc _) _ 2 2 [.int .u8 165, .int .u8 s] rfl rfl (At.new _ [_, _] _) (by simp [Value.oneCell']) (by omega) (by unfold maxLen; omega) (by have := HX2.out.size; simp; omega) ?_; intro v3 w3 hown3 hgr3 hdj3; clear hdj3; have HX3 := Lib.hid (HX2.out.push hown2 hgr3); clear hgr3; obtain ⟨r0, r1, r2, f0, f1, f2⟩ := (HB1.out.ext HX3.out).three; obtain ⟨A3, c3, hv3⟩ := own_slice hown3; rw [hv3]; rw [hv3] at hown3; clear hv3))
  simp only [Nat.zero_add, List.nil_append] at hown3
  have hqw : IntKind.u32.wrap q = q := IntWalk.u32_in _ (by omega)
  refine (big32_any w1 _ _ _ _ q w3 hown3 HX3.out (by omega) h3 h4).mono ?_
  rintro e w4 ⟨A4, c4, rfl, hown4, hX4⟩
  have HX4 := Lib.hid hX4
  obtain ⟨r0, r1, r2, f0, f1, f2⟩ := (HB1.out.ext hX4).three
  clear hX4 hown3 hown2 HX3 HX2
  have hw1 : IntKind.u8.wrap ((n : Int) / 256) = (n : Int) / 256 := IntWalk.u8_in _ (by omega)
  have hw2 : IntKind.u8.wrap (n : Int) = (n : Int) % 256 := by rw [IntKind.wrap_u8]
  go_wp2_with (first | (at_builtin; refine wpList_app (o := ⟨some 36, _, _, _, _, _⟩) _ elB rfl _ _ rfl w1.heap.size (.slice A4 (2 + 4) c4) (2 + 4) _ rfl (hown4.alloc _) _ 2 2 [.int .u8 ((n : Int) / 256), .int .u8 ((n : Int) % 256)] rfl rfl (At.new _ [_, _] _) (by simp [Value.oneCell']) (by omega) (by unfold maxLen; omega) (by have := HX4.out.size; simp; omega) ?_; intro v5 w5 hown5 hgr5 hdj5; clear hdj5; have HX5 := Lib.hid (HX4.out.push hown4 hgr5); clear hgr5; obtain ⟨r0, r1, r2, f0, f1, f2⟩ := (HB1.out.ext HX5.out).three; obtain ⟨A5, c5, hv5⟩ := own_slice hown5; rw [hv5]; rw [hv5] at hown5; clear hv5) | (at_builtin; refine wpList_app (o := ⟨some 40, _, _, _, _, _⟩) _ elB rfl _ _ rfl w1.heap.size (.slice A5 (2 + 4 + 2) c5) (2 + 4 + 2) _ rfl hown5 A n c (xs.map (.int .u8)) rfl (by rw [List.length_map, H.out.1]; omega) (H.out.ext (HXw.out.trans HX5.out)).2.2 (ints_oneCell _ _) (by omega) (by unfold maxLen; omega) HX5.out.size ?_; intro v6 w6 hown6 hgr6 hdj6; clear hdj6; have HX6 := Lib.hid (HX5.out.app hown5 hgr6); clear hgr6; obtain ⟨A6, c6, hv6⟩ := own_slice hown6; rw [hv6]; rw [hv6] at hown6; clear hv6))
  have hl : xs.length = n := H.out.1
  have hvs : ((([.int .u8 165, .int .u8 s] ++ (big4 q).map (Value.int .u8)) ++ [.int .u8 ((n : Int) / 256), .int .u8 ((n : Int) % 256)]) ++ xs.map (Value.int .u8)) = (heads ⟨s, q, xs⟩).map (Value.int .u8) := by
    subst hl; simp [heads]
  rw [hvs] at hown6
  have hby := heads_byte HOK.out (fun x hx => u8_bounds (H.out.2.1 x hx))
  have hIh : Ints .u8 w6 A6 (2 + 4 + 2 + n) (heads ⟨s, q, xs⟩) := ⟨by rw [heads_len]; simp only; omega, fun x hx => WalkArith.wf_u8 (hby x hx), At.of_own hown6⟩
  obtain ⟨q6, hq6⟩ : ∃ r, crc (heads ⟨s, q, xs⟩) = r := ⟨_, rfl⟩
  have hcr := crc_range (heads ⟨s, q, xs⟩)
  have hck := checksum_any _ _ c6 _ _ hIh (by omega)
  rw [hq6] at hck hcr
  refine hck.mono ?_
  have HQ6 := Lib.hid hq6
  have HBY := Lib.hid hby
  clear hck hq6 hvs hIh hby r0 r1 r2 f0 f1 f2 HX5 HX4 hown5 hown4
  rintro e w' ⟨rfl, rfl⟩
  go_wp2_with fail
  refine (big32_any w1 _ _ _ _ q6 w6 hown6 HX6.out (by omega) hcr.1 hcr.2).mono ?_
  rintro e w7 ⟨A7, c7, rfl, hown7, hX7⟩
  have HX7 := Lib.hid hX7
  clear hX7 hown6
  go_wp2
  go_ret2
  have hb := pck_byte HOK.out (fun x hx => u8_bounds (H.out.2.1 x hx))
  refine ⟨A7, _, c7, rfl, ⟨?_, ?_, fun x hx => WalkArith.wf_u8 (hb x hx)⟩, HXw.out.trans HX7.out⟩
  · have e : (heads ⟨s, q, xs⟩).map (Value.int .u8) ++ (big4 q6).map (Value.int .u8) = (pck ⟨s, q, xs⟩).map (Value.int .u8) := by
      unfold pck; rw [List.map_append, HQ6.out]
    rw [e] at hown7
    exact World.ownsRow.mono' hown7 HXw.out.size
  · rw [pck_len]; simp only; omega

set_option maxHeartbeats 400000 in
theorem pack_bad (s q : Int) (A : Option Addr) (n c : Nat) (w : World) (h : ¬ (0 ≤ s ∧ s ≤ 255 ∧ 0 ≤ q ∧ q ≤ 4294967295 ∧ n ≤ 1024)) :
    Calls Try.prog 49 #[.agg #[.int .i64 s, .int .i64 q, .slice A n c]] w (RetBytes w [] 20) := by
  have HN := Lib.hid h
  clear h
  go_enter Try.func49, Try.ntmps49
  go_wp2_with fail
  refine (valid_no s q A n c _ HN.out).mono ?_
  rintro e w1 ⟨rfl, hX1⟩
  have HX := Lib.hid (((Ext.refl w).alloc _).trans hX1)
  clear hX1
  go_wp2
  go_ret2
  exact ⟨none, 0, 0, rfl, ⟨World.ownsRow_nil _ _ _ _, rfl, by simp⟩, HX.out⟩

/-- What Pack gives: the bytes and the error. -/
def packO (f : Fr) : List Int × Int := if FrOk f then (pck f, 0) else ([], 20)

theorem pack_any (s q : Int) (A : Option Addr) (n c : Nat) (xs : List Int) (w : World) (h : Ints .u8 w A n xs) :
    Calls Try.prog 49 #[.agg #[.int .i64 s, .int .i64 q, .slice A n c]] w (RetBytes w (packO ⟨s, q, xs⟩).1 (packO ⟨s, q, xs⟩).2) := by
  unfold packO
  by_cases hok : FrOk ⟨s, q, xs⟩
  · rw [if_pos hok]; exact pack_ok s q A n c xs w h hok
  · rw [if_neg hok]
    refine pack_bad s q A n c w ?_
    unfold FrOk at hok
    simpa [h.1] using hok
end Go.Proofs.Ytekhmfliaojabaa
namespace Go.Proofs.Ytekhmfliaojabaa
open Go.RowKit

/-- The act with the values 'us k', 'us (k + 1)', .. in the slots 'ds'. -/
def fillA (a : Act) : List Tmp → (Nat → Value) → Nat → Act
  | [], _, _ => a
  | d :: ds, us, k => fillA (a.put (some d) (us k)) ds us (k + 1)

/-- What one operation must give. -/
def MonoOp (P : Program) (ops : Array Oper) (V : Nat → Value → World → Prop) (D : List (List Nat)) (ds : List Tmp) (a : Act) (w0 : World) (i : Nat) (o : Oper) : Prop :=
  ∀ (us : Nat → Value) (W : World), Ext w0 W → (∀ j ∈ D.getD i [], V j (us j) W) → ∀ K : Act → World → Prop, (∀ v W', V i v W' → Ext W W' → K ((fillA a ds us 0).put o.dst v) W') → ∀ Q' : Exit → Act → World → Prop,
    if Region.wanted o (yielded ops (fillA a ds us 0).tmps) then o.wp P (fillA a ds us 0) W K Q' else K ((fillA a ds us 0).put o.dst undef) W
def MonoAll (P : Program) (ops : Array Oper) (V : Nat → Value → World → Prop) (D : List (List Nat)) (ds : List Tmp) (a : Act) (w0 : World) : Nat → List Oper → Prop
  | _, [] => True
  | i, o :: rest => MonoOp P ops V D ds a w0 i o ∧ MonoAll P ops V D ds a w0 (i + 1) rest

theorem MonoAll.at {P : Program} {ops : Array Oper} {V : Nat → Value → World → Prop} {D : List (List Nat)} {ds : List Tmp} {a : Act} {w0 : World} : ∀ (l : List Oper) (k : Nat), MonoAll P ops V D ds a w0 k l → ∀ i o, l[i]? = some o → MonoOp P ops V D ds a w0 (k + i) o := by
  intro l
  induction l with
  | nil => intro k _ i o h; simp at h
  | cons x l ih =>
    intro k h i o ho
    cases i with
    | zero => simp at ho; subst ho; exact h.1
    | succ i =>
      have := ih (k + 1) h.2 i o (by simpa using ho)
      rw [show k + 1 + i = k + (i + 1) by omega] at this
      exact this

section
variable {P : Program} {l : List Oper} {n : Nat} {ds : List Tmp} {D : List (List Nat)} {V : Nat → Value → World → Prop} {a : Act} {w0 : World} {Q : Exit → Act → World → Prop}

end
end Go.Proofs.Ytekhmfliaojabaa
namespace Go.Proofs.Ytekhmfliaojabaa
open Go.RowKit

set_option maxHeartbeats 400000 in
theorem validR_yes (s q : Int) (A : Option Addr) (n c : Nat) (w : World) (h1 : 0 ≤ s) (h2 : s ≤ 255) (h3 : 0 ≤ q) (h4 : q ≤ 4294967295) (h5 : n ≤ 1024) :
    Calls Try.prog 53 #[.agg #[.int .i64 s, .int .i64 q, .slice A n c]] w fun e w' => e = .returned (.bool true) ∧ Ext w w' := by
  go_enter Try.func53, Try.ntmps53
  go_wp2
  go_ret
  exact ⟨by simp; omega, (Ext.refl w).alloc _⟩
set_option maxHeartbeats 400000 in
theorem validR_no (s q : Int) (A : Option Addr) (n c : Nat) (w : World) (h : ¬ (0 ≤ s ∧ s ≤ 255 ∧ 0 ≤ q ∧ q ≤ 4294967295 ∧ n ≤ 1024)) :
    Calls Try.prog 53 #[.agg #[.int .i64 s, .int .i64 q, .slice A n c]] w fun e w' => e = .returned (.bool false) ∧ Ext w w' := by
  by_cases h1 : 0 ≤ s
  · by_cases h2 : s ≤ 255
    · by_cases h3 : 0 ≤ q
      · by_cases h4 : q ≤ 4294967295
        · have h5 : ¬ n ≤ 1024 := fun h5 => h ⟨h1, by omega, h3, h4, h5⟩
          clear h
          go_enter Try.func53, Try.ntmps53
          go_wp2
          go_ret
          exact ⟨by simp; omega, (Ext.refl w).alloc _⟩
        · clear h
          go_enter Try.func53, Try.ntmps53
          go_wp2
          go_ret
          exact ⟨by simp, (Ext.refl w).alloc _⟩
      · clear h
        go_enter Try.func53, Try.ntmps53
        go_wp2
        go_ret
        exact ⟨by simp, (Ext.refl w).alloc _⟩
    · clear h
      go_enter Try.func53, Try.ntmps53
      go_wp2
      go_ret
      exact ⟨by simp, (Ext.refl w).alloc _⟩
  · clear h
    go_enter Try.func53, Try.ntmps53
    go_wp2
    go_ret
    exact ⟨by simp, (Ext.refl w).alloc _⟩

theorem Lists.two {k : IntKind} {w : World} {A : Option Addr} {u v : Value} {xs ys : List Int} (hat : At w A [u, v]) (h1 : SlV k w u xs) (h2 : SlV k w v ys) : Lists k w A 2 [xs, ys] :=
  ⟨rfl, [u, v], rfl, hat, fun j a zs ha hz => by
    match j with
    | 0 => simp at ha hz; subst ha hz; exact h1
    | 1 => simp at ha hz; subst ha hz; exact h2
    | j + 2 => simp at ha⟩
end Go.Proofs.Ytekhmfliaojabaa
namespace Go.Proofs.Ytekhmfliaojabaa
open Go.RowKit

theorem str_any (w : World) {A : Option Addr} {n c : Nat} {xs : List Int} (h : Ints .u8 w A n xs) :
    (convert 22 9 (.slice A n c)).run Try.prog w = .ok (.string (strOfNums xs)) w := run_str w Try.underlying22 Try.underlying5 Try.underlying9 h

set_option maxHeartbeats 400000 in
theorem sameFrame_eq (s q : Int) (A B : Option Addr) (n c m d : Nat) (xs : List Int) (w : World) (hA : Ints .u8 w A n xs) (hB : Ints .u8 w B m xs) :
    Calls Try.prog 33 #[.agg #[.int .i64 s, .int .i64 q, .slice A n c], .agg #[.int .i64 s, .int .i64 q, .slice B m d]] w fun e w' => e = .returned (.bool true) ∧ Ext w w' := by
  have hx : Ext w ((w.alloc (.cells #[.int .i64 s, .int .i64 q, .slice A n c] 38)).alloc (.cells #[.int .i64 s, .int .i64 q, .slice B m d] 38)) := ((Ext.refl w).alloc _).alloc _
  have q1 := str_any _ (c := c) (hA.ext hx)
  have q2 := str_any _ (c := d) (hB.ext hx)
  obtain ⟨st, hst⟩ : ∃ st, strOfNums xs = st := ⟨_, rfl⟩
  rw [hst] at q1 q2
  have HX := Lib.hid hx
  clear hx hst hA hB
  go_enter Try.func33, Try.ntmps33
  go_wp2
  go_ret
  exact ⟨by simp, HX.out⟩
end Go.Proofs.Ytekhmfliaojabaa
namespace Go.Proofs.Ytekhmfliaojabaa
open Go.RowKit

set_option maxRecDepth 100000 in
set_option maxHeartbeats 1000000 in
theorem sameFrames_eq (A B : Option Addr) (n c d : Nat) (fs : List Fr) (w : World) (hA : Frs w A n fs) (hB : Frs w B n fs) (hn : n ≤ 1000000) :
    Calls Try.prog 40 #[.slice A n c, .slice B n d] w fun e w' => e = .returned (.bool true) ∧ Ext w w' := by
  have HA := Lib.hid hA
  have HB := Lib.hid hB
  clear hA hB
  have hnn : ((n : Int) != (n : Int)) = false := by simp
  go_enter Try.func40, Try.ntmps40
  go_wp2
  go_loopg [13] n (fun g i wr => ∃ k : Nat, g = n - k ∧ k ≤ n ∧ i = .int .i64 k ∧ Ext w wr)
  case atStart => exact ⟨0, rfl, by omega, rfl, Ext.refl w⟩
  case round =>
    obtain ⟨k, rfl, hk, rfl, hX⟩ := hrel
    have HX := Lib.hid hX
    clear hX
    by_cases hlt : k < n
    · obtain ⟨b, o, f, A1, n1, c1, rfl, hf, a0, a1, a2, hI1, hc1, hm1⟩ := (HA.out.ext HX.out).get hlt
      obtain ⟨b', o', f', A2, n2, c2, rfl, hf', b0, b1, b2, hI2, hc2, hm2⟩ := (HB.out.ext HX.out).get hlt
      obtain rfl : f' = f := by rw [hf] at hf'; exact (Option.some.inj hf').symm
      obtain ⟨fs1, fq, fb⟩ := f'
      simp only at a0 a1 a2 b0 b1 b2 hI1 hI2
      have HI1 := Lib.hid hI1
      have HI2 := Lib.hid hI2
      have hk0 : (0 : Int) ≤ (k : Int) := by omega
      have hk1 : (k : Int) < (n : Int) := by omega
      clear hf hf' hI1 hI2
      have HS : Hid (∀ W, Ext wr W → Calls Try.prog 33 #[.agg #[.int .i64 fs1, .int .i64 fq, .slice A1 n1 c1], .agg #[.int .i64 fs1, .int .i64 fq, .slice A2 n2 c2]] W fun e w' => e = .returned (.bool true) ∧ Ext wr w') := fun W hW =>
        (sameFrame_eq fs1 fq A1 A2 n1 c1 n2 c2 fb W (HI1.out.ext hW) (HI2.out.ext hW)).mono fun e w' ⟨he, hx⟩ => ⟨he, hW.trans hx⟩
      go_wp2_with fail
      go_region_held3 (fun w' => w'.cell? ⟨b, o + k * 3, none⟩ = some (.int .i64 fs1) ∧ w'.cell? ⟨b, o + k * 3 + 1, none⟩ = some (.int .i64 fq) ∧ w'.cell? ⟨b, o + k * 3 + 2, none⟩ = some (.slice A1 n1 c1) ∧ w'.cell? ⟨b', o' + k * 3, none⟩ = some (.int .i64 fs1) ∧ w'.cell? ⟨b', o' + k * 3 + 1, none⟩ = some (.int .i64 fq) ∧ w'.cell? ⟨b', o' + k * 3 + 2, none⟩ = some (.slice A2 n2 c2)) (first | go_keep | exact ⟨hE6.cell a0, hE6.cell a1, hE6.cell a2, hE6.cell b0, hE6.cell b1, hE6.cell b2⟩) (first | (go_at_call 33; refine (HS.out _ ((Ext.refl _).drew)).mono ?_; rintro e w6 ⟨rfl, hE6⟩))
      all_goals
        have HE6 := Lib.hid hE6
        clear hE6
        go_wp2
        go_roundg (n - (k + 1))
        case rel => exact ⟨k + 1, rfl, by omega, by go_num, HX.out.trans HE6.out⟩
        case measure => omega
    · go_wp2
      go_ret
      exact ⟨rfl, HX.out⟩
end Go.Proofs.Ytekhmfliaojabaa
namespace Go.Proofs.Ytekhmfliaojabaa
open Go.RowKit

/-- The frames of a list that are valid. -/
def oks (fs : List Fr) : List Fr := fs.filter fun f => decide (FrOk f)
theorem oks_ok (fs : List Fr) : ∀ f ∈ oks fs, FrOk f := fun f hf => by simpa using (List.mem_filter.1 hf).2
theorem oks_take_yes {fs : List Fr} {k : Nat} {f : Fr} (h : fs[k]? = some f) (hf : FrOk f) : oks (fs.take (k + 1)) = oks (fs.take k) ++ [f] := by
  rw [List.take_add_one, h]; simp [oks, hf]
theorem oks_take_no {fs : List Fr} {k : Nat} {f : Fr} (h : fs[k]? = some f) (hf : ¬ FrOk f) : oks (fs.take (k + 1)) = oks (fs.take k) := by
  rw [List.take_add_one, h]; simp [oks, hf]
/-- The bytes that begin no frame. -/
def stray (ts : List Int) : List Int := ts.filter fun x => decide (x ≠ 165)
theorem stray_ne (ts : List Int) : ∀ x ∈ stray ts, x ≠ 165 := fun x hx => by simpa using (List.mem_filter.1 hx).2
theorem stray_take_yes {ts : List Int} {k : Nat} {x : Int} (h : ts[k]? = some x) (hx : x ≠ 165) : stray (ts.take (k + 1)) = stray (ts.take k) ++ [x] := by
  rw [List.take_add_one, h]; simp [stray, hx]
theorem stray_take_no {ts : List Int} {k : Nat} {x : Int} (h : ts[k]? = some x) (hx : x = 165) : stray (ts.take (k + 1)) = stray (ts.take k) := by
  rw [List.take_add_one, h]; simp [stray, hx]
theorem stray_len (ts : List Int) (k : Nat) : (stray (ts.take k)).length ≤ k := Nat.le_trans (List.length_filter_le _ _) (List.length_take_le _ _)
theorem stray_byte {ts : List Int} (h : ∀ x ∈ ts, (Lit.int .u8 x).wf = true) : ∀ x ∈ stray ts, (Lit.int .u8 x).wf = true := fun x hx => h x (List.mem_filter.1 hx).1

theorem ownsRow_away {w w' : World} {L : List Nat} {base size n : Nat} {e : TypeId} {v : Value} {vs : List Value} (h : w.ownsRow base e size v n vs) (hk : Keeps L w w') (hn : ∀ k ∈ L, NoRow e w k) : w'.ownsRow base e size v n vs :=
  ownsRow_keeps h hk fun k hv hl => by
    rcases h.2 with ⟨rfl, _⟩ | ⟨g', cap, cur, rfl, _, hg, _⟩
    · simp [Value.ownBlock] at hv
    · simp [Value.ownBlock] at hv
      subst hv
      exact hn _ hl _ _ hg
def toFr (f : Int × Int × List Int) : Fr := ⟨f.1, f.2.1, f.2.2⟩


set_option maxRecDepth 100000 in
set_option maxHeartbeats 8000000 in
theorem linkFinds_walk (A : Option Addr) (n c : Nat) (fs : List (Int × Int × List Int)) (B : Option Addr) (m d : Nat) (ts : List Int) (w : World) (hE : Els FrameE w A n fs) (hB : Ints .u8 w B m ts) :
    Calls Try.prog 13 #[.slice A n c, .slice B m d] w fun e w' => e = .returned (.bool true) ∧ Ext w w' := by
  have HE := Lib.hid hE
  have HB := Lib.hid hB
  clear hE hB
  have HX := Lib.hid (Ext.refl w)
  by_cases hl : 8 < n
  · go_enter Try.func13, Try.ntmps13
    go_wp2_with fail
    refine (awake _).mono ?_
    rintro e w9 ⟨rfl, hX9⟩
    have HX9 := Lib.hid (HX.out.trans hX9)
    clear hX9
    go_wp2
    go_ret
    exact ⟨rfl, HX9.out⟩
  by_cases hl2 : 32 < m
  · go_enter Try.func13, Try.ntmps13
    go_wp2_with fail
    refine (awake _).mono ?_
    rintro e w9 ⟨rfl, hX9⟩
    have HX9 := Lib.hid (HX.out.trans hX9)
    clear hX9
    go_wp2
    go_ret
    exact ⟨rfl, HX9.out⟩
  have hsl : (stray ts).length ≤ 32 := by
    have := stray_len ts m
    rw [List.take_of_length_le (by rw [HB.out.1]; omega)] at this
    omega
  go_enter Try.func13, Try.ntmps13
  go_wp2_with fail
  go_loopg [5, 6, 7, 28] n (fun g vb vw s i wr => ∃ (k q : Nat) (bs : List Int) (gs : List Fr) (vs : List Value), g = n - k ∧ k ≤ n ∧ i = .int .i64 (k : Int) ∧ gs.length ≤ k ∧ bs.length ≤ gs.length * 1068 ∧ q ≤ gs.length * 32 ∧ s = .int .i64 (q : Int) ∧ Hid (gs = oks ((fs.map toFr).take k)) ∧ Hid (bs = strew (stray ts) gs) ∧ Hid (q = gs.length * (stray ts).length) ∧
    Hid (wr.ownsRow w.heap.size 5 1 vb bs.length (bs.map (.int .u8))) ∧ Hid (∀ x ∈ bs, (Lit.int .u8 x).wf = true) ∧ Hid (wr.ownsRow w.heap.size 38 3 vw gs.length vs) ∧ Hid (CsR (FrC w) vs gs) ∧ Hid (Ext w wr))
  case atStart => exact ⟨0, 0, [], [], [], rfl, by omega, rfl, by simp, by simp, by simp, rfl, Lib.hid rfl, Lib.hid rfl, Lib.hid (by simp), Lib.hid (World.ownsRow_nil _ _ _ _), Lib.hid (by simp), Lib.hid (World.ownsRow_nil _ _ _ _), Lib.hid rfl, HX⟩
  case round =>
    clear HX
    obtain ⟨k, q, bs, gs, vs, rfl, hk, rfl, hgl, hbl, hql, rfl, HG, HBS, HQ, HOB, HW, HOW, HC, HX⟩ := hrel
    obtain ⟨Ab, cb, hvb⟩ := own_slice HOB.out
    subst hvb
    obtain ⟨Aw, cw, hvw⟩ := own_slice HOW.out
    subst hvw
    by_cases hlt : k < n
    · obtain ⟨b, off, f, cs, rfl, hf, ⟨A1, n1, c1, rfl, hq0, hq1, hI1, hn1, hm1⟩, hc⟩ := HE.out.get FrameE.len (by omega) hlt
      obtain ⟨st, sq, xs⟩ := f
      simp only at hq0 hq1 hI1 hc
      have q0 := HX.out.cell (hc 0 _ rfl)
      have q1 := HX.out.cell (hc 1 _ rfl)
      have q2 := HX.out.cell (hc 2 _ rfl)
      rw [Nat.add_zero] at q0
      have HI1 := Lib.hid hI1
      have HFR : Hid ((fs.map toFr)[k]? = some ⟨st, sq, xs⟩) := Lib.hid (by rw [List.getElem?_map, hf]; rfl)
      have hx1 := hI1.1
      have HX1 := Lib.hid hx1
      clear hI1 hf hc hx1
      go_upto_region 9 with (fail)
      clear q0 q1 q2
      have hXa : Ext wr (wr.alloc (.cells #[.int .i64 st, .int .i64 sq, .slice A1 n1 c1] 38)) := (Ext.refl _).alloc _
      have kb := Blk.new wr 38 #[.int .i64 st, .int .i64 sq, .slice A1 n1 c1]
      generalize wr.alloc (.cells #[.int .i64 st, .int .i64 sq, .slice A1 n1 c1] 38) = w3 at hXa kb ⊢
      replace HOB := Lib.hid (World.ownsRow.ext' HOB.out hXa)
      replace HOW := Lib.hid (World.ownsRow.ext' HOW.out hXa)
      replace HX := Lib.hid (HX.out.trans hXa)
      have KF := Lib.hid kb
      clear hXa kb
      have f0 := KF.out.cell 0
      have f1 := KF.out.cell 1
      have f2 := KF.out.cell 2
      go_wp2_with fail
      by_cases hok : FrOk ⟨st, sq, xs⟩
      · obtain ⟨o1, o2, o3, o4, o5⟩ := hok
        simp only at o1 o2 o3 o4 o5
        have HOK : Hid (FrOk ⟨st, sq, xs⟩) := Lib.hid ⟨o1, o2, o3, o4, o5⟩
        have hn5 : n1 ≤ 1024 := by have := HX1.out; omega
        refine (validR_yes st sq A1 n1 c1 _ o1 o2 o3 o4 hn5).mono ?_
        rintro e w4 ⟨rfl, hX4⟩
        replace HOB := Lib.hid (World.ownsRow.ext' HOB.out hX4)
        replace HOW := Lib.hid (World.ownsRow.ext' HOW.out hX4)
        replace HX := Lib.hid (HX.out.trans hX4)
        replace KF := Lib.hid (KF.out.ext hX4)
        clear hX4 f0 f1 f2
        go_wp2_with fail
        go_loopg [5, 7, 37] m (fun g vb s i wq => ∃ (j : Nat) (es : List Int), g = m - j ∧ j ≤ m ∧ i = .int .i64 (j : Int) ∧ es.length ≤ j ∧ s = .int .i64 ((q : Int) + (es.length : Int)) ∧ Hid (es = stray (ts.take j)) ∧ Hid (wq.ownsRow w.heap.size 5 1 vb (bs.length + es.length) ((bs ++ es).map (.int .u8))) ∧ Hid (wq.ownsRow w.heap.size 38 3 (.slice Aw gs.length cw) gs.length vs) ∧ Hid (Blk wq wr.heap.size 38 #[.int .i64 st, .int .i64 sq, .slice A1 n1 c1]) ∧ Hid (Ext w wq))
        case atStart => exact ⟨0, [], rfl, by omega, rfl, by simp, by simp, Lib.hid rfl, Lib.hid (by simpa using HOB.out), HOW, KF, HX⟩
        case round =>
          clear HOB HOW KF HX
          obtain ⟨j, es, rfl, hj, rfl, hej, rfl, HES, HOB, HOW, KF, HX⟩ := hrel
          obtain ⟨Ab, cb, hvb⟩ := own_slice HOB.out
          subst hvb
          by_cases hjm : j < m
          · obtain ⟨b2, off2, x, rfl, hx, hxw, hcx⟩ := (HB.out.ext HX.out).get hjm
            have HXJ := Lib.hid hx
            clear hx hxw
            by_cases hx5 : x = 165
            · subst hx5
              go_wp2
              go_roundg (m - (j + 1))
              case rel => exact ⟨j + 1, es, rfl, by omega, by go_num, by omega, rfl, Lib.hid (by rw [stray_take_no HXJ.out rfl]; exact HES.out), HOB, HOW, KF, HX⟩
              case measure => omega
            · have hne : (x != 165) = true := by simpa using hx5
              have hsz := HX.out.size
              have HX5 := Lib.hid hx5
              clear hx5
              go_wp2_with (at_builtin; refine wpList_app _ elB rfl _ _ rfl w.heap.size (.slice Ab (bs.length + es.length) cb) (bs.length + es.length) _ rfl (HOB.out.alloc _) _ 1 1 [.int .u8 x] rfl rfl (At.new' _ [_] _ rfl) (by simp [Value.oneCell']) (by omega) (by unfold maxLen; omega) (by simp; omega) ?_; intro vb6 w6 hob6 hg6 _)
              go_roundg (m - (j + 1))
              case rel =>
                have hob0 := HOB.out.alloc (.cells #[.int .u8 x] 5)
                have hk6 : Keeps (Value.slice Ab (bs.length + es.length) cb).ownBlock.toList _ w6 := Keeps.of_grown hg6 (fun k hk => by rw [hk]; simp)
                have hn6 : ∀ t, 5 ≠ t → ∀ k ∈ (Value.slice Ab (bs.length + es.length) cb).ownBlock.toList, NoRow t (_root_.Go.World.alloc _ _) k := (fun t ht k hk => NoRow.of_own hob0 (Option.mem_toList.1 hk) ht)
                have hes : (es ++ [x]).length = es.length + 1 := by simp
                refine ⟨j + 1, es ++ [x], rfl, by omega, by go_num, by omega, by rw [hes]; go_num, Lib.hid ?_, Lib.hid ?_, Lib.hid (ownsRow_away (HOW.out.alloc _) hk6 (hn6 _ (by decide))), Lib.hid ((KF.out.alloc _).away hk6 (hn6 _ (by decide))), Lib.hid ((HX.out.alloc _).grown hg6 fun k hk => (hob0.lt k hk).1)⟩
                · rw [stray_take_yes HXJ.out HX5.out, ← HES.out]
                · rw [hes, ← List.append_assoc, List.map_append]
                  exact hob6
              case measure => omega
          · obtain rfl : j = m := by omega
            have hes : es = stray ts := by rw [HES.out, List.take_of_length_le (by rw [HB.out.1]; omega)]
            have hel : es.length ≤ 32 := by omega
            have HES2 := Lib.hid hes
            clear hes
            have f0 := KF.out.cell 0
            have f1 := KF.out.cell 1
            have f2 := KF.out.cell 2
            have hpk : packO ⟨st, sq, xs⟩ = (pck ⟨st, sq, xs⟩, 0) := by unfold packO; rw [if_pos HOK.out]
            have hpl := pck_len ⟨st, sq, xs⟩
            have hP := pack_any st sq A1 n1 c1 xs _ (HI1.out.ext HX.out)
            rw [hpk] at hP
            have HPL := Lib.hid hpl
            clear hpl hpk
            go_wp2_with fail
            refine hP.mono ?_
            rintro e w5 ⟨A5, n5, c5, rfl, hO5, hX5⟩
            simp only at hO5 ⊢
            have HO5 := Lib.hid hO5
            replace HOB := Lib.hid (World.ownsRow.ext' HOB.out hX5)
            replace HOW := Lib.hid (World.ownsRow.ext' HOW.out hX5)
            replace HX := Lib.hid (HX.out.trans hX5)
            replace KF := Lib.hid (KF.out.ext hX5)
            have h5l : n5 ≤ 1036 := by
              have h1 := hO5.len
              have h2 : (pck ⟨st, sq, xs⟩).length = 12 + xs.length := HPL.out
              have h3 := HX1.out
              omega
            have H5L : Hid (n5 = (pck ⟨st, sq, xs⟩).length) := Lib.hid hO5.len.symm
            have hsz5 := HX.out.size
            clear hP hO5 hX5 f0 f1 f2
            have f0 := KF.out.cell 0
            have f1 := KF.out.cell 1
            have f2 := KF.out.cell 2
            go_wp2_with (at_builtin; first | (refine wpList_app _ elB rfl _ _ rfl w.heap.size (.slice Ab (bs.length + es.length) cb) (bs.length + es.length) _ rfl HOB.out A5 n5 c5 _ rfl (by rw [List.length_map, HO5.out.len]; omega) (HO5.out.ints).2.2 (ints_oneCell _ _) (by omega) (by unfold maxLen; omega) hsz5 ?_; intro vb6 w6 hob6 hg6 _; have hk6 : Keeps (Value.slice Ab (bs.length + es.length) cb).ownBlock.toList w5 w6 := Keeps.of_grown hg6 (fun k hk => by rw [hk]; simp); have hn6 : ∀ t, 5 ≠ t → ∀ k ∈ (Value.slice Ab (bs.length + es.length) cb).ownBlock.toList, NoRow t w5 k := (fun t ht k hk => NoRow.of_own HOB.out (Option.mem_toList.1 hk) ht); have HOW6 := Lib.hid (ownsRow_away HOW.out hk6 (hn6 _ (by decide))); have HX6 := Lib.hid (HX.out.grown hg6 fun k hk => (HOB.out.lt k hk).1); have HKF6 := Lib.hid (KF.out.away hk6 (hn6 _ (by decide))); have HOB6 := Lib.hid hob6; have hsz6 := HX6.out.size; clear hob6 hg6 hk6 hn6 f0 f1 f2; have f0 := HKF6.out.cell 0; have f1 := HKF6.out.cell 1; have f2 := HKF6.out.cell 2) | (refine wpList_app _ elF rfl _ _ rfl w.heap.size (.slice Aw gs.length cw) gs.length vs rfl (HOW6.out.alloc _) _ 1 1 [.int .i64 st, .int .i64 sq, .slice A1 n1 c1] rfl rfl (At.new' _ [_, _, _] _ rfl) (by simp [Value.oneCell']) (by omega) (by unfold maxLen; omega) (by simp; omega) ?_; intro vw7 w7 how7 hg7 _))
            go_roundg (n - (k + 1))
            case rel =>
              have how0 := HOW6.out.alloc (.cells #[.int .i64 st, .int .i64 sq, .slice A1 n1 c1] 38)
              have hk7 : Keeps (Value.slice Aw gs.length cw).ownBlock.toList _ w7 := Keeps.of_grown hg7 (fun k hk => by rw [hk]; simp)
              have hn7 : ∀ t, 38 ≠ t → ∀ k ∈ (Value.slice Aw gs.length cw).ownBlock.toList, NoRow t (_root_.Go.World.alloc _ _) k := (fun t ht k hk => NoRow.of_own how0 (Option.mem_toList.1 hk) ht)
              have hgs : (gs ++ [(⟨st, sq, xs⟩ : Fr)]).length = gs.length + 1 := by simp
              have hstr : strew (stray ts) (gs ++ [(⟨st, sq, xs⟩ : Fr)]) = bs ++ es ++ pck ⟨st, sq, xs⟩ := by rw [strew_snoc, ← HBS.out, ← HES2.out, List.append_assoc]
              have hln : (bs ++ es ++ pck (⟨st, sq, xs⟩ : Fr)).length = bs.length + es.length + n5 := by rw [List.length_append, List.length_append, H5L.out]
              have hql2 : (gs ++ [(⟨st, sq, xs⟩ : Fr)]).length * (stray ts).length = q + es.length := by rw [hgs, Nat.succ_mul, ← HQ.out, HES2.out]
              refine ⟨k + 1, q + es.length, bs ++ es ++ pck ⟨st, sq, xs⟩, gs ++ [⟨st, sq, xs⟩], _, rfl, by omega, by go_num, by omega, by omega, by omega, by go_num, Lib.hid ?_, Lib.hid hstr.symm, Lib.hid hql2.symm, Lib.hid ?_, Lib.hid fun x hx => ?_, Lib.hid ?_, Lib.hid (CsR.snoc HC.out ⟨A1, n1, c1, rfl, HI1.out, hn1, hm1⟩), Lib.hid ((HX6.out.alloc _).grown hg7 fun k hk => (how0.lt k hk).1)⟩
              · rw [oks_take_yes HFR.out HOK.out, ← HG.out]
              · rw [hln, List.map_append]
                exact ownsRow_away (HOB6.out.alloc _) hk7 (hn7 _ (by decide))
              · rcases List.mem_append.1 hx with hx | hx
                · rcases List.mem_append.1 hx with hx | hx
                  · exact HW.out x hx
                  · rw [HES2.out] at hx
                    exact stray_byte HB.out.2.1 x hx
                · exact HO5.out.wf x hx
              · rw [hgs]
                exact how7
            case measure => omega
      · have HNK := Lib.hid hok
        have hok2 : ¬ (0 ≤ st ∧ st ≤ 255 ∧ 0 ≤ sq ∧ sq ≤ 4294967295 ∧ n1 ≤ 1024) := by rw [← HX1.out]; exact hok
        clear hok
        refine (validR_no st sq A1 n1 c1 _ hok2).mono ?_
        rintro e w4 ⟨rfl, hX4⟩
        replace HOB := Lib.hid (World.ownsRow.ext' HOB.out hX4)
        replace HOW := Lib.hid (World.ownsRow.ext' HOW.out hX4)
        replace HX := Lib.hid (HX.out.trans hX4)
        clear hX4 f0 f1 f2 hok2
        go_wp2
        go_roundg (n - (k + 1))
        case rel => exact ⟨k + 1, q, bs, gs, vs, rfl, by omega, by go_num, by omega, hbl, hql, rfl, Lib.hid (by rw [oks_take_no HFR.out HNK.out]; exact HG.out), HBS, HQ, HOB, HW, HOW, HC, HX⟩
        case measure => omega
    · obtain rfl : k = n := by omega
      have hbi : Ints .u8 wr Ab bs.length bs := ⟨rfl, HW.out, At.of_own HOB.out⟩
      have hcap := own_cap HOB.out
      have hscan : scan bs = (gs, q, 0) := by
        rw [HBS.out, scan_strew _ (stray_ne ts) _ (by rw [HG.out]; exact oks_ok _), ← HQ.out]
      have hS := scan_any Ab bs.length cb bs wr hbi hcap.1 hcap.2 (by omega)
      rw [hscan] at hS
      clear hbi hscan
      go_wp2_with fail
      refine hS.mono ?_
      rintro e w5 ⟨A5, n5, c5, us, rfl, hu1, hu2, hu3, hX5⟩
      simp only at hu2 hu3 ⊢
      have hf5 := RetS.frs (r := (gs, q, 0)) hu1 hu2 hu3
      have HF5 := Lib.hid hf5
      have HFW : Hid (Frs w5 Aw gs.length gs) := Lib.hid ⟨rfl, vs, HC.out.imp fun _ _ h => h.ext (HX.out.trans hX5), (At.of_own HOW.out).ext hX5⟩
      replace HX := Lib.hid (HX.out.trans hX5)
      have H3 := Lib.hid hu3
      clear hS hu1 hu2 hf5 hX5 hu3
      have h3 := H3.out
      subst h3
      go_wp2_with fail
      refine (sameFrames_eq A5 Aw gs.length c5 cw gs _ HF5.out HFW.out (by omega)).mono ?_
      rintro e w6 ⟨rfl, hX6⟩
      replace HX := Lib.hid (HX.out.trans hX6)
      clear hX6 HF5 HFW
      go_wp2_with fail
      refine (awake _).mono ?_
      rintro e w9 ⟨rfl, hX9⟩
      have HX9 := Lib.hid (HX.out.trans hX9)
      clear hX9
      go_wp2
      go_ret
      exact ⟨rfl, HX9.out⟩

end Go.Proofs.Ytekhmfliaojabaa
