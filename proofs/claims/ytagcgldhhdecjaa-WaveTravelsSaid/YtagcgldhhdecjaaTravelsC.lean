/- Lemmas of the proof that follows (Travels, part 3): walks of functions by contract, and plain lemmas. Conditions: none. -/
import Derived.Test.YtagcgldhhdecjaaTravelsB
namespace Go.Proofs.Ytagcgldhhdecjaa

def liftL (n : Nat) (l : List Int) : List Int := l.map (· + (n : Int))
theorem liftL_getD {n : Nat} {l : List Int} {i : Nat} (h : i < l.length) : (liftL n l).getD i 0 = l.getD i 0 + n := by
  simp [liftL, List.getD, List.getElem?_map, List.getElem?_eq_getElem h]
def Ech.lift (n : Nat) (e : Ech) : Ech := ⟨e.frm, e.til, e.peak, e.level + n, e.top + n⟩
structure HLift (n : Nat) (h h' : Hun) : Prop where
  frm : h'.frm = h.frm
  peak : h'.peak = h.peak
  level : h'.level = h.level + n
  fall : h'.fall = h.fall
  valley : h'.valley = h.valley
  out : h'.out = h.out.map (Ech.lift n)
theorem HLift.step {n : Nat} {h h' : Hun} {l : List Int} {a i : Nat} (s : HLift n h h') (k : HunOk l a i h) (d : Int) (hi : i < l.length) : HLift n (hunS l d h i) (hunS (liftL n l) d h' i) := by
  obtain ⟨f, p, lv, fa, v, o⟩ := h
  obtain ⟨f', p', lv', fa', v', o'⟩ := h'
  obtain ⟨h1, h2, h3, h4, h5, h6⟩ := s
  obtain ⟨k1, k2, k3⟩ := k
  simp only at h1 h2 h3 h4 h5 h6 k1 k2 k3
  subst h1 h2 h3 h4 h5
  subst h6
  have ei := liftL_getD (n := n) hi
  have ep := liftL_getD (n := n) (l := l) (i := p') (by omega)
  have a1 : ∀ x y : Int, (x + (n : Int) < y + n) = (x < y) := fun x y => propext (by omega)
  have a2 : ∀ x y : Int, x + (n : Int) - (y + n) = x - y := fun x y => by omega
  unfold hunS
  simp only
  cases fa'
  · simp only [Bool.false_eq_true, if_false, ei, ep, a1, a2]
    by_cases h1 : l.getD p' 0 < l.getD i 0
    · simp only [if_pos h1]; exact ⟨rfl, rfl, rfl, rfl, rfl, rfl⟩
    · simp only [if_neg h1]
      by_cases h2 : d ≤ l.getD p' 0 - l.getD i 0
      · simp only [if_pos h2]; exact ⟨rfl, rfl, rfl, rfl, rfl, rfl⟩
      · simp only [if_neg h2]; exact ⟨rfl, rfl, rfl, rfl, rfl, rfl⟩
  · have k3 := k3 rfl
    have ev := liftL_getD (n := n) (l := l) (i := v') (by omega)
    simp only [if_true, ei, ev, a1, a2]
    by_cases h1 : l.getD i 0 < l.getD v' 0
    · simp only [if_pos h1]; exact ⟨rfl, rfl, rfl, rfl, rfl, rfl⟩
    · simp only [if_neg h1]
      by_cases h2 : d ≤ l.getD i 0 - l.getD v' 0
      · simp only [if_pos h2]
        exact ⟨rfl, rfl, by simp only; omega, rfl, rfl, by simp only [Hun.close, List.map_append, List.map_cons, List.map_nil, Ech.lift, ep]⟩
      · simp only [if_neg h2]; exact ⟨rfl, rfl, rfl, rfl, rfl, rfl⟩
theorem HLift.steps {n : Nat} {h h' : Hun} {l : List Int} {a i : Nat} (s : HLift n h h') (k : HunOk l a i h) (d : Int) (m : Nat) (hi : i + m ≤ l.length) : HLift n (hunN l d m i h) (hunN (liftL n l) d m i h') ∧ HunOk l a (i + m) (hunN l d m i h) := by
  induction m generalizing i h h' with
  | zero => exact ⟨s, k⟩
  | succ m ih =>
    have := ih (s.step k d (by omega)) (k.step d) (by omega)
    rw [show i + (m + 1) = i + 1 + m by omega]
    exact this
theorem Smp.runs {l : List Int} {lv : Int} : ∀ r ∈ runsP lv 0 l none, r.1 < r.2 ∧ r.2 ≤ l.length := fun r hr => by
  have := runsP_in (st := none) (i := 0) (fun a ha => by cases ha) r hr
  omega
end Go.Proofs.Ytagcgldhhdecjaa
namespace Go.Proofs.Ytagcgldhhdecjaa

def lateL (n : Nat) (b : Int) (l : List Int) : List Int := List.replicate n b ++ l
theorem lateL_getD (n : Nat) (b : Int) (l : List Int) (i : Nat) : (lateL n b l).getD (i + n) 0 = l.getD i 0 := by
  simp [lateL, List.getD, List.getElem?_append_right]
def Ech.shift (n : Nat) (e : Ech) : Ech := ⟨e.frm + n, e.til + n, e.peak + n, e.level, e.top⟩
structure HShift (n : Nat) (h h' : Hun) : Prop where
  frm : h'.frm = h.frm + n
  peak : h'.peak = h.peak + n
  level : h'.level = h.level
  fall : h'.fall = h.fall
  valley : h.fall = true → h'.valley = h.valley + n
  out : h'.out = h.out.map (Ech.shift n)
theorem HShift.close {n : Nat} {b : Int} {h h' : Hun} (s : HShift n h h') (l : List Int) (til : Nat) : h'.close (lateL n b l) (til + n) = (h.close l til).shift n := by
  unfold Hun.close Ech.shift
  rw [s.frm, s.peak, s.level, lateL_getD]
  simp
theorem HShift.step {n : Nat} {b : Int} {h h' : Hun} {l : List Int} (s : HShift n h h') (d : Int) (i : Nat) : HShift n (hunS l d h i) (hunS (lateL n b l) d h' (i + n)) := by
  have hc := s.close (b := b) l h.valley
  obtain ⟨f, p, lv, fa, v, o⟩ := h
  obtain ⟨f', p', lv', fa', v', o'⟩ := h'
  obtain ⟨h1, h2, h3, h4, h5, h6⟩ := s
  simp only at h1 h2 h3 h4 h5 h6 hc
  subst h1 h2 h3 h4
  subst h6
  unfold hunS
  simp only
  cases fa'
  · simp only [Bool.false_eq_true, if_false, lateL_getD]
    by_cases h1 : l.getD p 0 < l.getD i 0
    · simp only [if_pos h1]; exact ⟨rfl, rfl, rfl, rfl, by simp, rfl⟩
    · simp only [if_neg h1]
      by_cases h2 : d ≤ l.getD p 0 - l.getD i 0
      · simp only [if_pos h2]; exact ⟨rfl, rfl, rfl, rfl, by simp, rfl⟩
      · simp only [if_neg h2]; exact ⟨rfl, rfl, rfl, rfl, by simp, rfl⟩
  · obtain rfl := h5 rfl
    simp only [if_true, lateL_getD]
    by_cases h1 : l.getD i 0 < l.getD v 0
    · simp only [if_pos h1]; exact ⟨rfl, rfl, rfl, rfl, by simp, rfl⟩
    · simp only [if_neg h1]
      by_cases h2 : d ≤ l.getD i 0 - l.getD v 0
      · simp only [if_pos h2]
        exact ⟨rfl, rfl, rfl, rfl, by simp, by simp only [List.map_append, List.map_cons, List.map_nil]; rw [hc]⟩
      · simp only [if_neg h2]; exact ⟨rfl, rfl, rfl, rfl, by simp, rfl⟩
theorem HShift.steps {n : Nat} {b : Int} {h h' : Hun} {l : List Int} (s : HShift n h h') (d : Int) (m i : Nat) : HShift n (hunN l d m i h) (hunN (lateL n b l) d m (i + n) h') := by
  induction m generalizing i h h' with
  | zero => exact s
  | succ m ih =>
    have := ih (s.step (b := b) (l := l) d i) (i + 1)
    unfold hunN
    rw [show i + n + 1 = i + 1 + n by omega]
    exact this
end Go.Proofs.Ytagcgldhhdecjaa
namespace Go.Proofs.Ytagcgldhhdecjaa

/-- What holds of an echo that was found. -/
structure EGood (l : List Int) (lv : Int) (e : Ech) (f p t : Nat) : Prop where
  frm : e.frm = f
  til : e.til = t
  peak : e.peak = p
  fp : f ≤ p
  pt : p < t
  tl : t ≤ l.length
  top : e.top = l.getD p 0
  lev : lv ≤ e.level
  le : e.level ≤ e.top
  all : ∀ k, f ≤ k → k < t → lv ≤ l.getD k 0 ∧ l.getD k 0 ≤ e.top ∧ (l.getD k 0 = e.top → p ≤ k)
  start : (f = 0 ∨ l.getD (f - 1) 0 < lv) ∨ l.getD f 0 < e.level
/-- Echoes that lie one behind another from a to b. -/
def ChainE (l : List Int) (lv : Int) : Nat → List Ech → Nat → Prop
  | a, [], b => a = b
  | a, e :: es, b => ∃ p t, EGood l lv e a p t ∧ ChainE l lv t es b
theorem ChainE.snoc {l : List Int} {lv : Int} {a b c p : Nat} {es : List Ech} {e : Ech} (h : ChainE l lv a es b) (he : EGood l lv e b p c) : ChainE l lv a (es ++ [e]) c := by
  induction es generalizing a with
  | nil => obtain rfl : a = b := h; exact ⟨p, c, he, rfl⟩
  | cons x es ih => obtain ⟨p', t, h1, h2⟩ := h; exact ⟨p', t, h1, ih h2⟩
/-- Where the search of a run stands. -/
structure HunInv (l : List Int) (lv d : Int) (a i : Nat) (h : Hun) : Prop where
  chain : ChainE l lv a h.out h.frm
  af : a ≤ h.frm
  fp : h.frm ≤ h.peak
  pi : h.peak < i
  lev : lv ≤ h.level
  le : h.level ≤ l.getD h.peak 0
  all : ∀ k, h.frm ≤ k → k < i → l.getD k 0 ≤ l.getD h.peak 0 ∧ (l.getD k 0 = l.getD h.peak 0 → h.peak ≤ k)
  start : (h.frm = 0 ∨ l.getD (h.frm - 1) 0 < lv) ∨ l.getD h.frm 0 < h.level
  fall : h.fall = true → h.peak < h.valley ∧ h.valley < i ∧ l.getD h.valley 0 + d ≤ l.getD h.peak 0 ∧ ∀ k, h.valley ≤ k → k < i → l.getD h.valley 0 ≤ l.getD k 0 ∧ l.getD k 0 < l.getD h.valley 0 + d
theorem HunInv.close {l : List Int} {lv d : Int} {a i til : Nat} {h : Hun} (k : HunInv l lv d a i h) (hp : h.peak < til) (hi : til ≤ i) (hl : til ≤ l.length) (hb : ∀ k, a ≤ k → k < til → lv ≤ l.getD k 0) : EGood l lv (h.close l til) h.frm h.peak til where
  frm := rfl
  til := rfl
  peak := rfl
  fp := k.fp
  pt := hp
  tl := hl
  top := rfl
  lev := k.lev
  le := k.le
  all := fun j h1 h2 => ⟨hb j (by have := k.af; omega) h2, k.all j h1 (by omega)⟩
  start := k.start
theorem HunInv.step {l : List Int} {lv d : Int} {a i : Nat} {h : Hun} (k : HunInv l lv d a i h) (hd : 1 ≤ d) (hi : i < l.length) (hb : ∀ k, a ≤ k → k ≤ i → lv ≤ l.getD k 0) : HunInv l lv d a (i + 1) (hunS l d h i) := by
  have hc : h.fall = true → EGood l lv (h.close l h.valley) h.frm h.peak h.valley := fun hf => by
    obtain ⟨h1, h2, _⟩ := k.fall hf
    exact k.close h1 (by omega) (by omega) fun j h3 h4 => hb j h3 (by omega)
  obtain ⟨f, p, lev, fa, v, o⟩ := h
  obtain ⟨h1, h2, h3, h4, h5, h6, h7, h8, h9⟩ := k
  simp only at h1 h2 h3 h4 h5 h6 h7 h8 h9 hc
  unfold hunS
  simp only
  cases fa
  · rw [if_neg (by simp)]
    split
    · refine ⟨h1, h2, by simp only; omega, by simp only; omega, h5, by simp only; omega, fun j q1 q2 => ?_, h8, by simp⟩
      simp only
      by_cases e : j = i
      · subst e; exact ⟨by omega, fun _ => by omega⟩
      · have := h7 j q1 (by omega); exact ⟨by omega, fun _ => by omega⟩
    · have hall : ∀ j, f ≤ j → j < i + 1 → l.getD j 0 ≤ l.getD p 0 ∧ (l.getD j 0 = l.getD p 0 → p ≤ j) := fun j q1 q2 => by
        by_cases e : j = i
        · subst e; exact ⟨by omega, fun _ => by omega⟩
        · exact h7 j q1 (by omega)
      split
      · refine ⟨h1, h2, h3, by simp only; omega, h5, h6, hall, h8, fun _ => ⟨h4, by simp only; omega, by simp only; omega, fun j q1 q2 => ?_⟩⟩
        simp only at q1 ⊢
        obtain rfl : j = i := by omega
        exact ⟨by omega, by omega⟩
      · exact ⟨h1, h2, h3, by simp only; omega, h5, h6, hall, h8, by simp⟩
  · obtain ⟨q1, q2, q3, q4⟩ := h9 rfl
    rw [if_pos rfl]
    split
    · rename_i hlt
      refine ⟨h1, h2, h3, by simp only; omega, h5, h6, fun j r1 r2 => ?_, h8, fun _ => ⟨by simp only; omega, by simp only; omega, by simp only; omega, fun j r1 r2 => ?_⟩⟩
      · simp only
        by_cases e : j = i
        · subst e; exact ⟨by omega, fun _ => by omega⟩
        · exact h7 j r1 (by omega)
      · simp only at r1 ⊢
        obtain rfl : j = i := by omega
        exact ⟨by omega, by omega⟩
    · split
      · rename_i hge hdr
        have hlv := hb v (by omega) (by omega)
        have hvv := q4 v (Nat.le_refl _) q2
        refine ⟨h1.snoc (hc rfl), by simp only; omega, by simp only; omega, by simp only; omega, by simp only; omega, by simp only; omega, fun j r1 r2 => ?_, .inr (by simp only; omega), by simp⟩
        simp only at r1 ⊢
        by_cases e : j = i
        · subst e; exact ⟨by omega, fun _ => by omega⟩
        · have := q4 j r1 (by omega); exact ⟨by omega, fun _ => by omega⟩
      · refine ⟨h1, h2, h3, by simp only; omega, h5, h6, fun j r1 r2 => ?_, h8, fun _ => ⟨q1, by simp only; omega, q3, fun j r1 r2 => ?_⟩⟩
        · simp only
          by_cases e : j = i
          · subst e
            have hvv := q4 v (Nat.le_refl _) q2
            exact ⟨by omega, fun _ => by omega⟩
          · exact h7 j r1 (by omega)
        · simp only at r1 ⊢
          by_cases e : j = i
          · subst e; exact ⟨by omega, by omega⟩
          · exact q4 j r1 (by omega)
theorem HunInv.steps {l : List Int} {lv d : Int} {a i : Nat} {h : Hun} (k : HunInv l lv d a i h) (hd : 1 ≤ d) (m : Nat) (hi : i + m ≤ l.length) (hb : ∀ k, a ≤ k → k < i + m → lv ≤ l.getD k 0) : HunInv l lv d a (i + m) (hunN l d m i h) := by
  induction m generalizing i h with
  | zero => exact k
  | succ m ih =>
    rw [show i + (m + 1) = i + 1 + m by omega]
    exact ih (k.step hd (by omega) fun j h1 h2 => hb j h1 (by omega)) (by omega) fun j h1 h2 => hb j h1 (by omega)
theorem hunR_chain {l : List Int} {d lv : Int} {r : Nat × Nat} (hd : 1 ≤ d) (hr : r.1 < r.2 ∧ r.2 ≤ l.length) (hs : r.1 = 0 ∨ l.getD (r.1 - 1) 0 < lv) (hb : ∀ k, r.1 ≤ k → k < r.2 → lv ≤ l.getD k 0) : ChainE l lv r.1 (hunR l d lv r) r.2 := by
  have k0 : HunInv l lv d r.1 (r.1 + 1) (hun0 r.1 lv []) :=
    ⟨rfl, Nat.le_refl _, Nat.le_refl _, Nat.lt_succ_self _, Int.le_refl _, hb r.1 (Nat.le_refl _) hr.1, fun k h1 h2 => by
      simp only [hun0] at h1 ⊢
      obtain rfl : k = r.1 := by omega
      exact ⟨Int.le_refl _, fun _ => Nat.le_refl _⟩, .inl hs, by simp [hun0]⟩
  have k := k0.steps hd (r.2 - (r.1 + 1)) (by omega) fun j h1 h2 => hb j h1 (by omega)
  have e : r.1 + 1 + (r.2 - (r.1 + 1)) = r.2 := by omega
  rw [e] at k
  unfold hunR
  exact k.chain.snoc (k.close k.pi (Nat.le_refl _) hr.2 hb)
/-- An echo in a chain: what lies beside it. -/
theorem ChainE.at {l : List Int} {lv : Int} {a b : Nat} {es : List Ech} (h : ChainE l lv a es b) : ∀ i e, es[i]? = some e → ∃ f p t, EGood l lv e f p t ∧ ((i = 0 ∧ f = a) ∨ ∃ e', 0 < i ∧ es[i - 1]? = some e' ∧ e'.til = (f : Int)) ∧ ((i + 1 = es.length ∧ t = b) ∨ ∃ e', es[i + 1]? = some e' ∧ e'.frm = (t : Int)) := by
  induction es generalizing a with
  | nil => intro i e he; simp at he
  | cons x es ih =>
    obtain ⟨p, t, h1, h2⟩ := h
    intro i e he
    cases i with
    | zero =>
      simp at he
      subst he
      refine ⟨a, p, t, h1, .inl ⟨rfl, rfl⟩, ?_⟩
      cases es with
      | nil => exact .inl ⟨rfl, h2⟩
      | cons y es =>
        obtain ⟨p', t', h3, _⟩ := h2
        exact .inr ⟨y, rfl, h3.frm⟩
    | succ i =>
      obtain ⟨f, p', t', h3, h4, h5⟩ := ih h2 i e (by simpa using he)
      refine ⟨f, p', t', h3, .inr ?_, ?_⟩
      · rcases h4 with ⟨rfl, rfl⟩ | ⟨e', h6, h7, h8⟩
        · exact ⟨x, by omega, by simp, h1.til⟩
        · refine ⟨e', by omega, ?_, h8⟩
          rw [show i + 1 - 1 = i - 1 + 1 by omega]
          simpa using h7
      · rcases h5 with ⟨h6, h7⟩ | ⟨e', h6, h7⟩
        · exact .inl ⟨by simp; omega, h7⟩
        · exact .inr ⟨e', by simpa using h6, h7⟩
/-- The runs are the greatest stretches at or above the level. -/
def RunOk (l : List Int) (lv : Int) (r : Nat × Nat) : Prop := r.1 < r.2 ∧ r.2 ≤ l.length ∧ (∀ k, r.1 ≤ k → k < r.2 → lv ≤ l.getD k 0) ∧ (r.1 = 0 ∨ l.getD (r.1 - 1) 0 < lv) ∧ (r.2 = l.length ∨ l.getD r.2 0 < lv)
theorem runsP_ok {lv : Int} {l : List Int} {i : Nat} {st : Option Nat} (hi : i ≤ l.length) (hst : ∀ a, st = some a → a < i ∧ (∀ k, a ≤ k → k < i → lv ≤ l.getD k 0) ∧ (a = 0 ∨ l.getD (a - 1) 0 < lv)) (hn : st = none → i = 0 ∨ l.getD (i - 1) 0 < lv) : ∀ r ∈ runsP lv i (l.drop i) st, RunOk l lv r := by
  generalize hm : l.length - i = m
  induction m generalizing i st with
  | zero =>
    have : l.drop i = [] := List.drop_of_length_le (by omega)
    rw [this]
    cases st with
    | none => simp [runsP]
    | some a =>
      obtain ⟨h1, h2, h3⟩ := hst a rfl
      intro r hr
      simp [runsP] at hr
      subst hr
      exact ⟨h1, hi, h2, h3, .inl (by simp only; omega)⟩
  | succ m ih =>
    have hlt : i < l.length := by omega
    have hg : l[i]? = some (l.getD i 0) := by simp [List.getD, List.getElem?_eq_getElem hlt]
    rw [drop_get hg]
    cases st with
    | none =>
      by_cases h : lv ≤ l.getD i 0
      · rw [runsP_nh h]
        exact ih (by omega) (fun a ha => by
          injection ha with ha
          subst ha
          exact ⟨by omega, fun k h1 h2 => by (obtain rfl : k = i := by omega); exact h, hn rfl⟩) (by simp) (by omega)
      · rw [runsP_nl (by omega)]
        exact ih (by omega) (fun a ha => by cases ha) (fun _ => .inr (by rw [Nat.add_sub_cancel]; omega)) (by omega)
    | some a =>
      obtain ⟨h1, h2, h3⟩ := hst a rfl
      by_cases h : lv ≤ l.getD i 0
      · rw [runsP_sh h]
        exact ih (by omega) (fun b hb => by
          injection hb with hb
          subst hb
          refine ⟨by omega, fun k q1 q2 => ?_, h3⟩
          by_cases e : k = i
          · subst e; exact h
          · exact h2 k q1 (by omega)) (by simp) (by omega)
      · rw [runsP_sl (by omega)]
        intro r hr
        rcases List.mem_cons.1 hr with rfl | hr
        · exact ⟨h1, by simp only; omega, h2, h3, .inr (by simp only; omega)⟩
        · exact ih (st := none) (by omega) (fun a ha => by cases ha) (fun _ => .inr (by rw [Nat.add_sub_cancel]; omega)) (by omega) r hr
/-- What WaveChains asks of each echo: its like, and what lies beside it. -/
def WellAt (l : List Int) (lv : Int) (L : List Ech) : Prop := ∀ i e, L[i]? = some e → ∃ f p t, EGood l lv e f p t ∧ ((f = 0 ∨ l.getD (f - 1) 0 < lv) ∨ ∃ e', 0 < i ∧ L[i - 1]? = some e' ∧ e'.til = (f : Int)) ∧ ((t = l.length ∨ l.getD t 0 < lv) ∨ ∃ e', L[i + 1]? = some e' ∧ e'.frm = (t : Int))
theorem WellAt.append {l : List Int} {lv : Int} {A B : List Ech} (hA : WellAt l lv A) (hB : WellAt l lv B) : WellAt l lv (A ++ B) := by
  intro i e he
  by_cases hi : i < A.length
  · rw [List.getElem?_append_left hi] at he
    obtain ⟨f, p, t, h1, h2, h3⟩ := hA i e he
    refine ⟨f, p, t, h1, ?_, ?_⟩
    · rcases h2 with h2 | ⟨e', h4, h5, h6⟩
      · exact .inl h2
      · exact .inr ⟨e', h4, by rw [List.getElem?_append_left (by omega)]; exact h5, h6⟩
    · rcases h3 with h3 | ⟨e', h4, h5⟩
      · exact .inl h3
      · have := (List.getElem?_eq_some_iff.1 h4).1
        exact .inr ⟨e', by rw [List.getElem?_append_left this]; exact h4, h5⟩
  · rw [List.getElem?_append_right (by omega)] at he
    obtain ⟨f, p, t, h1, h2, h3⟩ := hB _ e he
    refine ⟨f, p, t, h1, ?_, ?_⟩
    · rcases h2 with h2 | ⟨e', h4, h5, h6⟩
      · exact .inl h2
      · exact .inr ⟨e', by omega, by rw [List.getElem?_append_right (by omega), ← h5]; congr 1; omega, h6⟩
    · rcases h3 with h3 | ⟨e', h4, h5⟩
      · exact .inl h3
      · exact .inr ⟨e', by rw [List.getElem?_append_right (by omega), ← h4]; congr 1; omega, h5⟩
theorem wellAt_all {l : List Int} {d : Det} (hd : 1 ≤ d.drop) : WellAt l (medV l + d.level) (allE l d) := by
  unfold allE
  have hr := runsP_ok (lv := medV l + d.level) (l := l) (i := 0) (st := none) (by omega) (fun a ha => by cases ha) (fun _ => .inl rfl)
  rw [List.drop_zero] at hr
  generalize runsP (medV l + d.level) 0 l none = R at hr
  induction R with
  | nil => intro i e he; simp at he
  | cons r R ih =>
    rw [List.flatMap_cons]
    refine WellAt.append ?_ (ih fun q hq => hr q (by simp [hq]))
    obtain ⟨h1, h2, h3, h4, h5⟩ := hr r (by simp)
    intro i e he
    obtain ⟨f, p, t, k1, k2, k3⟩ := (hunR_chain hd ⟨h1, h2⟩ h4 h3).at i e he
    refine ⟨f, p, t, k1, ?_, ?_⟩
    · rcases k2 with ⟨_, rfl⟩ | k2
      · exact .inl h4
      · exact .inr k2
    · rcases k3 with ⟨_, rfl⟩ | k3
      · exact .inl h5
      · exact .inr k3
theorem good_of_mem {l : List Int} {d : Det} (hd : 1 ≤ d.drop) {e : Ech} (he : e ∈ allE l d) : ∃ f p t, EGood l (medV l + d.level) e f p t := by
  obtain ⟨i, hi⟩ := List.mem_iff_getElem?.1 he
  obtain ⟨f, p, t, h, _⟩ := wellAt_all hd i e hi
  exact ⟨f, p, t, h⟩
end Go.Proofs.Ytagcgldhhdecjaa
namespace Go.Proofs.Ytagcgldhhdecjaa

theorem upTo_spec (l : List Int) (lv : Int) (k i : Nat) : i ≤ upTo l lv k i ∧ upTo l lv k i ≤ i + k ∧ (∀ j, i ≤ j → j < upTo l lv k i → l.getD j 0 < lv) ∧ (upTo l lv k i < i + k → lv ≤ l.getD (upTo l lv k i) 0) := by
  induction k generalizing i with
  | zero => simp only [upTo]; exact ⟨Nat.le_refl _, Nat.le_refl _, fun j h1 h2 => by omega, fun h => by omega⟩
  | succ k ih =>
    unfold upTo
    split
    · rename_i h
      obtain ⟨h1, h2, h3, h4⟩ := ih (i + 1)
      refine ⟨by omega, by omega, fun j q1 q2 => ?_, fun q => h4 (by omega)⟩
      by_cases e : j = i
      · subst e; exact h
      · exact h3 j (by omega) q2
    · exact ⟨Nat.le_refl _, by omega, fun j h1 h2 => by omega, fun _ => by omega⟩
section
variable {l : List Int} {lv : Int} {e : Ech} {f p t : Nat}
theorem EGood.part (h : EGood l lv e f p t) (hs : Smp l) : PartE l e := by
  obtain ⟨h1, h2, h3, h4, h5, h6, _⟩ := h
  exact ⟨hs, by omega, by omega, by omega, by omega⟩
/-- Where an echo crosses its level. -/
theorem EGood.cross (h : EGood l lv e f p t) : f ≤ crossE l e ∧ crossE l e ≤ p ∧ (∀ j, f ≤ j → j < crossE l e → l.getD j 0 < e.level) ∧ e.level ≤ l.getD (crossE l e) 0 := by
  have hc : crossE l e = upTo l e.level (t - f) f := by unfold crossE; rw [h.frm, h.til]; congr 1; omega
  obtain ⟨q1, q2, q3, q4⟩ := upTo_spec l e.level (t - f) f
  rw [← hc] at q1 q2 q3 q4
  have h1 := h.le
  have h2 := h.top
  have h3 := h.pt
  have h4 := h.fp
  have hp : crossE l e ≤ p := by
    rcases Nat.lt_or_ge p (crossE l e) with hh | hh
    · have := q3 p h4 hh; omega
    · exact hh
  exact ⟨q1, hp, q3, q4 (by omega)⟩
/-- The three ways of an echo's time. -/
theorem EGood.time (h : EGood l lv e f p t) (hs : Smp l) : timeF l e = if crossE l e = 0 ∨ e.level ≤ l.getD (crossE l e - 1) 0 then ((0, 0), 32) else ((256 * ((crossE l e : Int) - 1) + 256 * (e.level - l.getD (crossE l e - 1) 0 - 1) / (l.getD (crossE l e) 0 - l.getD (crossE l e - 1) 0),
    256 * ((crossE l e : Int) - 1) + (256 * (e.level - l.getD (crossE l e - 1) 0) + l.getD (crossE l e) 0 - l.getD (crossE l e - 1) 0 - 1) / (l.getD (crossE l e) 0 - l.getD (crossE l e - 1) 0)), 0) := by
  obtain ⟨h1, h2, h3, h4⟩ := h.cross
  have h5 := h.til
  have h6 := h.pt
  unfold timeF
  rw [if_neg (fun hh => hh (h.part hs)), if_neg (by omega)]
end

end Go.Proofs.Ytagcgldhhdecjaa
namespace Go.Proofs.Ytagcgldhhdecjaa

def okR (a b : Int) : Prop := -1152921504606846976 ≤ a ∧ a ≤ b ∧ b ≤ 1152921504606846976
instance (a b : Int) : Decidable (okR a b) := inferInstanceAs (Decidable (_ ∧ _))
def rngLo (d : Det) (x : Int) : Int := d.step * x / 256 + d.delay
def rngHi (d : Det) (x : Int) : Int := -((-(d.step * x)) / 256) + d.delay
def rangeF (a b : Int) (d : Det) : (Int × Int) × Int :=
  if ¬ DetOk d then ((0, 0), 31) else if ¬ okR a b then ((0, 0), 2)
  else if a < -1099511627776 ∨ 1099511627776 < b then ((0, 0), 33)
  else if rngLo d a < 0 ∨ 4194304 < rngHi d b then ((0, 0), 33) else ((rngLo d a, rngHi d b), 0)
structure Ret where
  num : Int
  of : Int
  lo : Int
  hi : Int
  top : Int
  energy : Int
def oneR (l : List Int) (d : Det) (n : Int) (e : Ech) : Option Ret :=
  if (timeF l e).2 ≠ 0 then none
  else if (rangeF (timeF l e).1.1 (timeF l e).1.2 d).2 ≠ 0 then none
  else some ⟨n, 0, (rangeF (timeF l e).1.1 (timeF l e).1.2 d).1.1, (rangeF (timeF l e).1.1 (timeF l e).1.2 d).1.2, e.top, (energyF l e).1⟩
/-- The returns of echoes, numbered from n + 1 on. -/
def retsN (l : List Int) (d : Det) : Nat → List Ech → List Ret
  | _, [] => []
  | n, e :: es => match oneR l d ((n : Int) + 1) e with
    | none => retsN l d n es
    | some r => r :: retsN l d (n + 1) es
def Ret.setOf (n : Nat) (r : Ret) : Ret := ⟨r.num, n, r.lo, r.hi, r.top, r.energy⟩
def retsE (l : List Int) (d : Det) : List Ret := retsN l d 0 ((allE l d).take 15)
def retsF (l : List Int) (d : Det) : List Ret := (retsE l d).map (Ret.setOf (retsE l d).length)
theorem oneR_num {l : List Int} {d : Det} {n : Int} {e : Ech} {r : Ret} (h : oneR l d n e = some r) : r.num = n ∧ r.of = 0 := by
  unfold oneR at h
  split at h
  · cases h
  · split at h
    · cases h
    · injection h with h; subst h; exact ⟨rfl, rfl⟩
theorem retsN_snoc (l : List Int) (d : Det) (n : Nat) (es : List Ech) (e : Ech) : retsN l d n (es ++ [e]) = retsN l d n es ++ (oneR l d (((n + (retsN l d n es).length : Nat) : Int) + 1) e).toList := by
  induction es generalizing n with
  | nil =>
    simp only [List.nil_append, retsN, List.length_nil, Nat.add_zero]
    cases oneR l d ((n : Int) + 1) e <;> rfl
  | cons x es ih =>
    rw [List.cons_append, retsN, retsN]
    cases h : oneR l d ((n : Int) + 1) x with
    | none => simp only; exact ih n
    | some r =>
      simp only
      rw [ih (n + 1), List.cons_append, List.length_cons]
      rw [show n + 1 + (retsN l d (n + 1) es).length = n + ((retsN l d (n + 1) es).length + 1) by omega]
theorem retsN_append (l : List Int) (d : Det) (n : Nat) (es fs : List Ech) : retsN l d n (es ++ fs) = retsN l d n es ++ retsN l d (n + (retsN l d n es).length) fs := by
  induction es generalizing n with
  | nil => simp [retsN]
  | cons x es ih =>
    rw [List.cons_append, retsN, retsN]
    cases h : oneR l d ((n : Int) + 1) x with
    | none => simp only; exact ih n
    | some r =>
      simp only
      rw [ih (n + 1), List.cons_append, List.length_cons]
      rw [show n + 1 + (retsN l d (n + 1) es).length = n + ((retsN l d (n + 1) es).length + 1) by omega]
theorem retsN_len (l : List Int) (d : Det) (n : Nat) (es : List Ech) : (retsN l d n es).length ≤ es.length := by
  induction es generalizing n with
  | nil => simp [retsN]
  | cons x es ih =>
    rw [retsN]
    cases h : oneR l d ((n : Int) + 1) x with
    | none => have := ih n; simp only [List.length_cons]; omega
    | some r => have := ih (n + 1); simp only [List.length_cons]; omega
theorem retsN_get {l : List Int} {d : Det} {n : Nat} {es : List Ech} {j : Nat} {r : Ret} (h : (retsN l d n es)[j]? = some r) : r.num = n + j + 1 ∧ ∃ e ∈ es, oneR l d ((n : Int) + j + 1) e = some r := by
  induction es generalizing n j with
  | nil => simp [retsN] at h
  | cons x es ih =>
    rw [retsN] at h
    cases hq : oneR l d ((n : Int) + 1) x with
    | none =>
      rw [hq] at h
      simp only at h
      obtain ⟨h1, e, he, h2⟩ := ih h
      exact ⟨h1, e, by simp [he], h2⟩
    | some q =>
      rw [hq] at h
      simp only at h
      cases j with
      | zero =>
        simp at h; subst h
        refine ⟨by have := (oneR_num hq).1; omega, x, by simp, by simpa using hq⟩
      | succ j =>
        simp only [List.getElem?_cons_succ] at h
        obtain ⟨h1, e, he, h2⟩ := ih h
        refine ⟨by omega, e, by simp [he], ?_⟩
        rw [← h2]; congr 1; omega
theorem enerN_bound {l : List Int} {b : Int} (hl : ∀ x ∈ l, 0 ≤ x ∧ x ≤ 1023) (hb : 0 ≤ b ∧ b ≤ 1023) (k i : Nat) : -(1023 * (k : Int)) ≤ enerN l b k i ∧ enerN l b k i ≤ 1023 * k := by
  induction k generalizing i with
  | zero => simp [enerN]
  | succ k ih =>
    have := ih (i + 1)
    have hx : 0 ≤ l.getD i 0 ∧ l.getD i 0 ≤ 1023 := by
      simp only [List.getD]
      cases hg : l[i]? with
      | none => simp
      | some x => simpa using hl x (List.mem_of_getElem? hg)
    unfold enerN
    omega
theorem runsP_from {lv : Int} {l : List Int} {i b : Nat} {st : Option Nat} (hb : b ≤ i) (hst : ∀ a, st = some a → b ≤ a) : ∀ r ∈ runsP lv i l st, b ≤ r.1 := by
  induction l generalizing i st with
  | nil =>
    cases st with
    | none => simp [runsP]
    | some a => have := hst a rfl; intro r hr; simp [runsP] at hr; subst hr; exact this
  | cons s l ih =>
    cases st with
    | none =>
      by_cases h : lv ≤ s
      · rw [runsP_nh h]; exact ih (by omega) fun a ha => by injection ha; omega
      · rw [runsP_nl (by omega)]; exact ih (by omega) fun a ha => by cases ha
    | some a =>
      have := hst a rfl
      by_cases h : lv ≤ s
      · rw [runsP_sh h]; exact ih (by omega) fun c hc => by injection hc; omega
      · rw [runsP_sl (by omega)]
        intro r hr
        rcases List.mem_cons.1 hr with rfl | hr
        · exact this
        · exact ih (st := none) (by omega) (fun a ha => by cases ha) r hr
theorem runsP_order (lv : Int) (l : List Int) (i : Nat) (st : Option Nat) : (runsP lv i l st).Pairwise fun r q => r.2 ≤ q.1 := by
  induction l generalizing i st with
  | nil => cases st <;> simp [runsP]
  | cons s l ih =>
    cases st with
    | none =>
      by_cases h : lv ≤ s
      · rw [runsP_nh h]; exact ih _ _
      · rw [runsP_nl (by omega)]; exact ih _ _
    | some a =>
      by_cases h : lv ≤ s
      · rw [runsP_sh h]; exact ih _ _
      · rw [runsP_sl (by omega), List.pairwise_cons]
        refine ⟨fun r hr => ?_, ih _ _⟩
        have := runsP_from (b := i + 1) (Nat.le_refl _) (fun a ha => by cases ha) r hr
        simp only; omega
theorem ChainE.order {l : List Int} {lv : Int} {a b : Nat} {es : List Ech} (h : ChainE l lv a es b) : (es.Pairwise fun e f => e.til ≤ f.frm) ∧ (∀ e ∈ es, (a : Int) ≤ e.frm ∧ e.til ≤ b) ∧ a ≤ b := by
  induction es generalizing a with
  | nil => obtain rfl : a = b := h; simp
  | cons x es ih =>
    obtain ⟨p, t, h1, h2⟩ := h
    obtain ⟨k1, k2, k3⟩ := ih h2
    have q1 := h1.frm
    have q2 := h1.til
    have q3 := h1.fp
    have q4 := h1.pt
    refine ⟨?_, ?_, by omega⟩
    · rw [List.pairwise_cons]
      exact ⟨fun e he => by have := (k2 e he).1; omega, k1⟩
    · intro e he
      rcases List.mem_cons.1 he with rfl | he
      · omega
      · have := k2 e he; omega
theorem order_all {l : List Int} {d : Det} (hd : 1 ≤ d.drop) : (allE l d).Pairwise fun e f => e.til ≤ f.frm := by
  unfold allE
  have hr := runsP_ok (lv := medV l + d.level) (l := l) (i := 0) (st := none) (by omega) (fun a ha => by cases ha) (fun _ => .inl rfl)
  have ho := runsP_order (medV l + d.level) l 0 none
  rw [List.drop_zero] at hr
  generalize runsP (medV l + d.level) 0 l none = R at hr ho
  induction R with
  | nil => simp
  | cons r R ih =>
    rw [List.pairwise_cons] at ho
    have hc : ∀ q ∈ r :: R, ChainE l (medV l + d.level) q.1 (hunR l d.drop (medV l + d.level) q) q.2 := fun q hq => by
      obtain ⟨h1, h2, h3, h4, h5⟩ := hr q hq
      exact hunR_chain hd ⟨h1, h2⟩ h4 h3
    rw [List.flatMap_cons, List.pairwise_append]
    refine ⟨(hc r (by simp)).order.1, ih (fun q hq => hr q (by simp [hq])) ho.2, fun e he f hf => ?_⟩
    obtain ⟨q, hq, hf⟩ := List.mem_flatMap.1 hf
    have h1 := ((hc r (by simp)).order.2.1 e he).2
    have h2 := ((hc q (by simp [hq])).order.2.1 f hf).1
    have h3 := ho.1 q hq
    omega
section
variable {l : List Int} {lv : Int} {e : Ech} {f p t : Nat}
/-- Where a time is: within the step ahead of the crossing. -/
theorem EGood.time_in (h : EGood l lv e f p t) (hs : Smp l) (hz : (timeF l e).2 = 0) : 0 ≤ (timeF l e).1.1 ∧ 256 * ((crossE l e : Int) - 1) ≤ (timeF l e).1.1 ∧ (timeF l e).1.1 ≤ (timeF l e).1.2 ∧ (timeF l e).1.2 ≤ 256 * (crossE l e : Int) ∧ (timeF l e).1.2 ≤ 65536 ∧ 1 ≤ crossE l e := by
  obtain ⟨h1, h2, h3, h4⟩ := h.cross
  have hp := h.pt
  have ht := h.tl
  have h256 := hs.1
  by_cases hcut : crossE l e = 0 ∨ e.level ≤ l.getD (crossE l e - 1) 0
  · rw [h.time hs, if_pos hcut] at hz; simp at hz
  · rw [h.time hs, if_neg hcut]
    simp only
    have h5 : 1 ≤ crossE l e := by omega
    have h6 : l.getD (crossE l e - 1) 0 < e.level := by omega
    generalize l.getD (crossE l e - 1) 0 = s at h6 ⊢
    generalize l.getD (crossE l e) 0 = u at h4 ⊢
    have hd : 0 < u - s := by omega
    have a0 : 0 ≤ 256 * (e.level - s - 1) / (u - s) := Int.ediv_nonneg (by omega) (by omega)
    have a1 : (256 * (e.level - s) + u - s - 1) / (u - s) ≤ 256 := by
      refine Int.le_of_lt_add_one (Int.ediv_lt_of_lt_mul hd ?_)
      omega
    have a2 : 256 * (e.level - s - 1) / (u - s) ≤ (256 * (e.level - s) + u - s - 1) / (u - s) := Int.ediv_le_ediv hd (by omega)
    omega
end
theorem time_order {l : List Int} {lv : Int} {e e' : Ech} {f p t f' p' t' : Nat} (h : EGood l lv e f p t) (h' : EGood l lv e' f' p' t') (hs : Smp l) (hz : (timeF l e).2 = 0) (hz' : (timeF l e').2 = 0) (ho : e.til ≤ e'.frm) : (timeF l e).1.1 ≤ (timeF l e').1.1 := by
  obtain ⟨_, a2, a3, a4, _, _⟩ := h.time_in hs hz
  obtain ⟨_, b2, b3, b4, _, _⟩ := h'.time_in hs hz'
  obtain ⟨_, c2, _, _⟩ := h.cross
  obtain ⟨d1, _, _, _⟩ := h'.cross
  have e1 := h.til
  have e2 := h'.frm
  have e3 := h.pt
  omega
theorem rngLo_mono {d : Det} {x y : Int} (hd : 1 ≤ d.step) (h : x ≤ y) : rngLo d x ≤ rngLo d y := by
  unfold rngLo
  have := Int.mul_le_mul_of_nonneg_left h (show 0 ≤ d.step by omega)
  have := Int.ediv_le_ediv (show (0 : Int) < 256 by omega) this
  omega
theorem oneR_some {l : List Int} {d : Det} {n : Int} {e : Ech} {r : Ret} (h : oneR l d n e = some r) : (timeF l e).2 = 0 ∧ (rangeF (timeF l e).1.1 (timeF l e).1.2 d).2 = 0 ∧ r = ⟨n, 0, rngLo d (timeF l e).1.1, rngHi d (timeF l e).1.2, e.top, (energyF l e).1⟩ ∧ DetOk d := by
  unfold oneR at h
  split at h
  · cases h
  · rename_i h1
    split at h
    · cases h
    · rename_i h2
      injection h with h
      subst h
      have h1' : (timeF l e).2 = 0 := by simpa using h1
      have h2' : (rangeF (timeF l e).1.1 (timeF l e).1.2 d).2 = 0 := by simpa using h2
      refine ⟨h1', h2', ?_, ?_⟩
      · clear h1 h2
        unfold rangeF at h2' ⊢
        split at h2'
        · simp at h2'
        · split at h2'
          · simp at h2'
          · split at h2'
            · simp at h2'
            · split at h2'
              · simp at h2'
              · rename_i g1 g2 g3 g4
                rw [if_neg g1, if_neg g2, if_neg g3, if_neg g4]
      · clear h1 h2
        unfold rangeF at h2'
        split at h2'
        · simp at h2'
        · rename_i g; exact Decidable.not_not.1 g
theorem retsN_order {l : List Int} {lv : Int} {d : Det} (hs : Smp l) {es : List Ech} (hg : ∀ e ∈ es, ∃ f p t, EGood l lv e f p t) (ho : es.Pairwise fun e f => e.til ≤ f.frm) (n : Nat) : (retsN l d n es).Pairwise fun r q => r.lo ≤ q.lo := by
  induction es generalizing n with
  | nil => simp [retsN]
  | cons x es ih =>
    rw [List.pairwise_cons] at ho
    rw [retsN]
    cases hq : oneR l d ((n : Int) + 1) x with
    | none => simp only; exact ih (fun e he => hg e (by simp [he])) ho.2 n
    | some r =>
      simp only
      rw [List.pairwise_cons]
      refine ⟨fun q hq' => ?_, ih (fun e he => hg e (by simp [he])) ho.2 (n + 1)⟩
      obtain ⟨j, hj⟩ := List.mem_iff_getElem?.1 hq'
      obtain ⟨_, e, he, h2⟩ := retsN_get hj
      obtain ⟨a1, _, a3, a4⟩ := oneR_some hq
      obtain ⟨b1, _, b3, _⟩ := oneR_some h2
      subst a3 b3
      obtain ⟨f, p, t, k1⟩ := hg x (by simp)
      obtain ⟨f', p', t', k2⟩ := hg e (by simp [he])
      exact rngLo_mono a4.2.2.2.2.1 (time_order k1 k2 hs a1 b1 (ho.1 e he))
/-- The range of a return contains the range of every time within its echo's time. -/
theorem range_in {d : Det} {a b m : Int} (hd : 1 ≤ d.step) (h0 : 0 ≤ m) (h1 : a + m ≤ b) : 256 * rngLo d a ≤ 256 * d.delay + d.step * (a + m) ∧ 256 * d.delay + d.step * (a + m) ≤ 256 * rngHi d b := by
  unfold rngLo rngHi
  have k1 := Int.mul_le_mul_of_nonneg_left (show a ≤ a + m by omega) (show 0 ≤ d.step by omega)
  have k2 := Int.mul_le_mul_of_nonneg_left h1 (show 0 ≤ d.step by omega)
  omega
end Go.Proofs.Ytagcgldhhdecjaa
namespace Go.Proofs.Ytagcgldhhdecjaa
open Go.RowKit

theorem enerN_snoc (l : List Int) (b : Int) (k i : Nat) : enerN l b (k + 1) i = enerN l b k i + (l.getD (i + k) 0 - b) := by
  induction k generalizing i with
  | zero => simp [enerN]
  | succ k ih =>
    rw [enerN, ih (i + 1), enerN, show i + 1 + k = i + (k + 1) by omega]
    omega
set_option maxRecDepth 100000 in
set_option maxHeartbeats 2000000 in
theorem partW_any (A : Option Addr) (n c : Nat) (l : List Int) (f t p lv tp : Int) (w : World) (h : Ints .i64 w A n l) :
    Calls Try.prog 66 #[.slice A n c, .agg #[.int .i64 f, .int .i64 t, .int .i64 p, .int .i64 lv, .int .i64 tp]] w (fun e w' => e = .returned (.bool (decide (PartE l ⟨f, t, p, lv, tp⟩))) ∧ Ext w w') := by
  have H := Lib.hid (h.ext ((Ext.refl w).alloc (.cells #[.int .i64 f, .int .i64 t, .int .i64 p, .int .i64 lv, .int .i64 tp] 42)))
  have HL := Lib.hid h.1
  clear h
  by_cases hs : Smp l
  · have HS : Hid (decide (Smp l) = true) := Lib.hid (decide_eq_true hs)
    have HSM := Lib.hid hs
    clear hs
    go_enter Try.func66, Try.ntmps66
    go_wp2_with fail
    refine (sampled_any A n c l _ H.out).mono ?_
    rw [HS.out]
    rintro e _ ⟨rfl, rfl⟩
    go_wp2
    all_goals
      go_ret
      refine ⟨?_, (Ext.refl w).alloc _⟩
      have hl := HL.out
      first
      | (have q : decide (PartE l ⟨f, t, p, lv, tp⟩) = false := decide_eq_false (by unfold PartE; simp only; omega)
         rw [q]; rfl)
      | (have q : decide (PartE l ⟨f, t, p, lv, tp⟩) = decide (t ≤ (n : Int)) := by
           rw [decide_eq_decide]; unfold PartE; simp only; have := HSM.out; rw [hl]; constructor
           · intro h; omega
           · intro h; refine ⟨this, ?_⟩; omega
         rw [q]; rfl)
  · have HS : Hid (decide (Smp l) = false) := Lib.hid (decide_eq_false hs)
    have q : Hid (decide (PartE l ⟨f, t, p, lv, tp⟩) = false) := Lib.hid (decide_eq_false fun h => hs h.1)
    clear hs
    go_enter Try.func66, Try.ntmps66
    go_wp2_with fail
    refine (sampled_any A n c l _ H.out).mono ?_
    rw [HS.out]
    rintro e _ ⟨rfl, rfl⟩
    go_wp2
    go_ret
    exact ⟨by rw [q.out]; rfl, (Ext.refl w).alloc _⟩

set_option maxRecDepth 100000 in
set_option maxHeartbeats 4000000 in
theorem energy_any (A : Option Addr) (n c : Nat) (l : List Int) (f t p lv tp : Int) (w : World) (h : Ints .i64 w A n l) (hcap : n ≤ c ∧ c ≤ 9223372036854775807) :
    Calls Try.prog 34 #[.slice A n c, .agg #[.int .i64 f, .int .i64 t, .int .i64 p, .int .i64 lv, .int .i64 tp]] w (fun e w' => e = .returned (.tuple #[.int .i64 (energyF l ⟨f, t, p, lv, tp⟩).1, .int .i64 (energyF l ⟨f, t, p, lv, tp⟩).2]) ∧ Ext w w') := by
  have hXb := (Ext.refl w).alloc (.cells #[.int .i64 f, .int .i64 t, .int .i64 p, .int .i64 lv, .int .i64 tp] 42)
  have hBb := Blk.new w 42 #[.int .i64 f, .int .i64 t, .int .i64 p, .int .i64 lv, .int .i64 tp]
  have hIb := h.ext hXb
  have HL := Lib.hid h.1
  clear h
  by_cases hp : ¬ PartE l ⟨f, t, p, lv, tp⟩
  · have q : Hid (decide (PartE l ⟨f, t, p, lv, tp⟩) = false) := Lib.hid (decide_eq_false hp)
    have HB : Hid (energyF l ⟨f, t, p, lv, tp⟩ = (0, 2)) := Lib.hid (by unfold energyF; rw [if_pos hp])
    clear hp
    go_enter Try.func34, Try.ntmps34
    go_wp2_with fail
    refine (partW_any A n c l f t p lv tp _ hIb).mono ?_
    rw [q.out]
    rintro e w1 ⟨rfl, hX⟩
    go_wp2
    go_ret2
    exact ⟨by rw [HB.out]; rfl, hXb.trans hX⟩
  have hp' := Decidable.not_not.1 hp
  have q : Hid (decide (PartE l ⟨f, t, p, lv, tp⟩) = true) := Lib.hid (decide_eq_true hp')
  have HB : Hid (energyF l ⟨f, t, p, lv, tp⟩ = (enerN l (medV l) (t - f).toNat f.toNat, 0)) := Lib.hid (by unfold energyF; rw [if_neg hp])
  obtain ⟨hs, h1, h2, h3, h4⟩ := hp'
  simp only at h1 h2 h3 h4
  rw [HL.out] at h2 h4
  have hne : l ≠ [] := by intro e; subst e; have := HL.out; simp at this; omega
  have HF : Hid (baseF l = ((medV l : Int), 0)) := Lib.hid (by unfold baseF; rw [if_neg]; rintro (h | h); exact hne h; exact h hs)
  have hn256 : n ≤ 256 := by have := hs.1; have := HL.out; omega
  have HSM := Lib.hid hs
  have hmed := medV_le l
  generalize medV l = mv at HF HB hmed
  obtain ⟨fr, rfl⟩ : ∃ x : Nat, f = x := ⟨f.toNat, by omega⟩
  obtain ⟨tn, rfl⟩ : ∃ x : Nat, t = x := ⟨t.toNat, by omega⟩
  rw [show ((tn : Int) - fr).toNat = tn - fr by omega, show ((fr : Int)).toNat = fr by omega] at HB
  obtain ⟨b, off, x0, hA, _, _, _⟩ := hIb.get (j := fr) (by omega)
  subst hA
  clear hp hs hne
  go_enter Try.func34, Try.ntmps34
  go_wp2_with fail
  refine (partW_any _ n c l fr tn p lv tp _ hIb).mono ?_
  rw [q.out]
  rintro e w1 ⟨rfl, hX⟩
  replace hXb := hXb.trans hX
  replace hIb := hIb.ext hX
  replace hBb := hBb.ext hX
  clear hX
  go_wp2_with fail
  refine (base_any _ n c l _ hIb).mono ?_
  rw [HF.out]
  rintro e w2 ⟨rfl, hX⟩
  replace hXb := hXb.trans hX
  replace hIb := hIb.ext hX
  replace hBb := hBb.ext hX
  clear hX
  have c0 := hBb.cell 0
  have c1 := hBb.cell 1
  simp only [List.getElem?_toArray, List.getElem?_cons_zero, List.getElem?_cons_succ] at c0 c1
  have HI := Lib.hid hIb
  have HX := Lib.hid hXb
  clear hIb hXb hBb
  go_wp2_with fail
  go_loopg [8, 27] (tn - fr) (fun f2 sv iv wr => ∃ (k : Nat) (s : Int), f2 = tn - fr - k ∧ k ≤ tn - fr ∧ -261888 ≤ s ∧ s ≤ 261888 ∧ sv = .int .i64 s ∧ iv = .int .i64 (k : Int) ∧ Hid (enerN l mv k fr = s) ∧ w2 = wr)
  case atStart => exact ⟨0, 0, rfl, by omega, by omega, by omega, rfl, rfl, Lib.hid rfl, rfl⟩
  case round =>
    obtain ⟨k, s, rfl, hk, hs1, hs2, rfl, rfl, HS, rfl⟩ := hrel
    by_cases hlt : k < tn - fr
    · obtain ⟨b', off', x, e, hx, _, hc⟩ := HI.out.get (j := fr + k) (by omega)
      injection e with e
      injection e with e1 e2
      subst e1 e2
      have hc' : w2.cell? ⟨b, off + fr + k, none⟩ = some (.int .i64 x) := by rw [Nat.add_assoc]; exact hc
      have bx := HSM.out.2 x (List.mem_of_getElem? hx)
      obtain ⟨bx1, bx2⟩ := bx
      have HS2 := Lib.hid (enerN_snoc l mv k fr)
      have hbd := enerN_bound (l := l) (b := (mv : Int)) HSM.out.2 (by omega) (k + 1) fr
      rw [HS2.out, HS.out, getD_at hx] at hbd
      have HS3 : Hid (enerN l mv (k + 1) fr = s + (x - mv)) := Lib.hid (by rw [HS2.out, HS.out, getD_at hx])
      clear hx hc
      obtain ⟨y, hy⟩ : ∃ y, s + (x - (mv : Int)) = y := ⟨_, rfl⟩
      rw [hy] at hbd HS3
      have qw1 : IntKind.i64.wrap (x - (mv : Int)) = x - mv := IntWalk.i64_in _ (by omega)
      have qw2 : IntKind.i64.wrap (s + (x - (mv : Int))) = s + (x - mv) := IntWalk.i64_in _ (by omega)
      go_wp2
      go_roundg (tn - fr - (k + 1))
      case rel => exact ⟨k + 1, s + (x - mv), by omega, by omega, by omega, by omega, by go_num, by go_num, by rw [hy]; exact HS3, rfl⟩
      case measure => omega
    · obtain rfl : k = tn - fr := by omega
      go_wp2
      go_ret2
      exact ⟨by rw [HB.out, HS.out]; rfl, HX.out⟩

set_option maxRecDepth 100000 in
set_option maxHeartbeats 8000000 in
theorem time_any (A : Option Addr) (n c : Nat) (l : List Int) (f t p lv tp : Int) (w : World) (h : Ints .i64 w A n l) :
    Calls Try.prog 32 #[.slice A n c, .agg #[.int .i64 f, .int .i64 t, .int .i64 p, .int .i64 lv, .int .i64 tp]] w (fun e w' => e = .returned (.tuple #[.agg #[.int .i64 (timeF l ⟨f, t, p, lv, tp⟩).1.1, .int .i64 (timeF l ⟨f, t, p, lv, tp⟩).1.2], .int .i64 (timeF l ⟨f, t, p, lv, tp⟩).2]) ∧ Ext w w') := by
  have hX0 := ((Ext.refl w).alloc (.cells #[.int .i64 f, .int .i64 t, .int .i64 p, .int .i64 lv, .int .i64 tp] 42)).alloc (.cells #[.int .i64 0, .int .i64 0] 44)
  have hB1 := (Blk.new w 42 #[.int .i64 f, .int .i64 t, .int .i64 p, .int .i64 lv, .int .i64 tp]).alloc (.cells #[.int .i64 0, .int .i64 0] 44)
  have hB2 := Blk.new (w.alloc (.cells #[.int .i64 f, .int .i64 t, .int .i64 p, .int .i64 lv, .int .i64 tp] 42)) 44 #[.int .i64 0, .int .i64 0]
  have es : (w.alloc (.cells #[.int .i64 f, .int .i64 t, .int .i64 p, .int .i64 lv, .int .i64 tp] 42)).heap.size = w.heap.size + 1 := by simp
  rw [es] at hB2
  have hI := h.ext hX0
  have HL := Lib.hid h.1
  clear h es
  by_cases hp : ¬ PartE l ⟨f, t, p, lv, tp⟩
  · have q : Hid (decide (PartE l ⟨f, t, p, lv, tp⟩) = false) := Lib.hid (decide_eq_false hp)
    have HB : Hid (timeF l ⟨f, t, p, lv, tp⟩ = ((0, 0), 2)) := Lib.hid (by unfold timeF; rw [if_pos hp])
    clear hp
    go_enter Try.func32, Try.ntmps32
    go_wp2_with fail
    refine (partW_any A n c l f t p lv tp _ hI).mono ?_
    rw [q.out]
    rintro e w1 ⟨rfl, hX⟩
    have HX := Lib.hid (hX0.trans hX)
    have s0 := (hB2.ext hX).cell 0
    have s1 := (hB2.ext hX).cell 1
    have z0 := (hB2.ext hX).free 0
    have z1 := (hB2.ext hX).free 1
    simp only [List.getElem?_toArray, List.getElem?_cons_zero, List.getElem?_cons_succ] at s0 s1
    go_wp2
    refine bodyPost_ret (v := .tuple #[.agg #[.int .i64 0, .int .i64 0], .int .i64 2]) (by simp [results, Try.results32, go_sem, *]) rfl ?_
    exact ⟨by rw [HB.out], (HX.out.setCell (by simp) _).setCell (by simp) _⟩
  have hp' := Decidable.not_not.1 hp
  have q : Hid (decide (PartE l ⟨f, t, p, lv, tp⟩) = true) := Lib.hid (decide_eq_true hp')
  obtain ⟨hs, h1, h2, h3, h4⟩ := hp'
  simp only at h1 h2 h3 h4
  rw [HL.out] at h2 h4
  have hn256 : n ≤ 256 := by have := hs.1; have := HL.out; omega
  have HSM := Lib.hid hs
  obtain ⟨fr, rfl⟩ : ∃ x : Nat, f = x := ⟨f.toNat, by omega⟩
  obtain ⟨tn, rfl⟩ : ∃ x : Nat, t = x := ⟨t.toNat, by omega⟩
  have HB : Hid (timeF l ⟨fr, tn, p, lv, tp⟩ = if (crossE l ⟨fr, tn, p, lv, tp⟩ : Int) = tn then ((0, 0), 2) else if crossE l ⟨fr, tn, p, lv, tp⟩ = 0 ∨ lv ≤ l.getD (crossE l ⟨fr, tn, p, lv, tp⟩ - 1) 0 then ((0, 0), 32)
      else ((256 * ((crossE l ⟨fr, tn, p, lv, tp⟩ : Int) - 1) + 256 * (lv - l.getD (crossE l ⟨fr, tn, p, lv, tp⟩ - 1) 0 - 1) / (l.getD (crossE l ⟨fr, tn, p, lv, tp⟩) 0 - l.getD (crossE l ⟨fr, tn, p, lv, tp⟩ - 1) 0),
        256 * ((crossE l ⟨fr, tn, p, lv, tp⟩ : Int) - 1) + (256 * (lv - l.getD (crossE l ⟨fr, tn, p, lv, tp⟩ - 1) 0) + l.getD (crossE l ⟨fr, tn, p, lv, tp⟩) 0 - l.getD (crossE l ⟨fr, tn, p, lv, tp⟩ - 1) 0 - 1) / (l.getD (crossE l ⟨fr, tn, p, lv, tp⟩) 0 - l.getD (crossE l ⟨fr, tn, p, lv, tp⟩ - 1) 0)), 0)) := Lib.hid (by unfold timeF; rw [if_neg hp])
  have HU0 : Hid (upTo l lv (tn - fr) fr = crossE l ⟨fr, tn, p, lv, tp⟩) := Lib.hid (by unfold crossE; simp only; congr 1; omega)
  generalize crossE l ⟨fr, tn, p, lv, tp⟩ = cr at HB HU0
  generalize timeF l ⟨fr, tn, p, lv, tp⟩ = R at HB ⊢
  obtain ⟨b, off, x0, hA, _, _, _⟩ := hI.get (j := fr) (by omega)
  subst hA
  clear hp hs
  go_enter Try.func32, Try.ntmps32
  go_wp2_with fail
  refine (partW_any _ n c l fr tn p lv tp _ hI).mono ?_
  rw [q.out]
  rintro e w1 ⟨rfl, hX⟩
  have HX := Lib.hid (hX0.trans hX)
  have HI := Lib.hid (hI.ext hX)
  have HB1 := Lib.hid (hB1.ext hX)
  have HB2 := Lib.hid (hB2.ext hX)
  have e0 := HB1.out.cell 0
  simp only [List.getElem?_toArray, List.getElem?_cons_zero, List.getElem?_cons_succ] at e0
  clear hX hX0 hI hB1 hB2
  go_wp2_with fail
  clear e0
  go_loopg [6] (tn - fr) (fun f2 iv wr => ∃ z : Nat, f2 = tn - z ∧ fr ≤ z ∧ z ≤ tn ∧ iv = .int .i64 (z : Int) ∧ Hid (upTo l lv (tn - z) z = cr) ∧ Hid (Ext w1 wr))
  case atStart => exact ⟨fr, rfl, by omega, by omega, rfl, HU0, Lib.hid (Ext.refl _)⟩
  case round =>
    obtain ⟨z, rfl, hz1, hz2, rfl, HU, HXr⟩ := hrel
    have e1 := (HB1.out.ext HXr.out).cell 1
    have e3 := (HB1.out.ext HXr.out).cell 3
    simp only [List.getElem?_toArray, List.getElem?_cons_zero, List.getElem?_cons_succ] at e1 e3
    by_cases hzt : z < tn
    · obtain ⟨b', off', x, e, hx, _, cx⟩ := (HI.out.ext HXr.out).get (j := z) (by omega)
      injection e with e
      injection e with e1' e2'
      subst e1' e2'
      have HXx := Lib.hid (getD_at hx)
      obtain ⟨bx1, bx2⟩ := HSM.out.2 x (List.mem_of_getElem? hx)
      clear hx
      by_cases hxl : x < lv
      · have q1 : decide (x < lv) = true := decide_eq_true hxl
        have HU2 : Hid (upTo l lv (tn - (z + 1)) (z + 1) = cr) := Lib.hid (by
          have h := HU.out
          rw [show tn - z = tn - (z + 1) + 1 by omega, upTo, HXx.out, if_pos hxl] at h
          exact h)
        clear hxl
        go_wp2_with fail
        go_region
        go_wp2
        go_roundg (tn - (z + 1))
        case rel => exact ⟨z + 1, rfl, by omega, by omega, by go_num, HU2, Lib.hid HXr.out.drew⟩
        case measure => omega
      · have q1 : decide (x < lv) = false := decide_eq_false hxl
        have HC : Hid (cr = z) := Lib.hid (by
          have h := HU.out
          rw [show tn - z = tn - (z + 1) + 1 by omega, upTo, HXx.out, if_neg hxl] at h
          exact h.symm)
        have gz : ((z : Int) == (tn : Int)) = false := by simp; omega
        have hlx : lv ≤ x := by omega
        have HHL := Lib.hid hlx
        clear hxl hlx
        go_wp2_with fail
        go_region
        go_wp2_with fail
        have s0 := (HB2.out.ext HXr.out).cell 0
        have s1 := (HB2.out.ext HXr.out).cell 1
        have y0' := (HB2.out.ext HXr.out).free 0
        have y1' := (HB2.out.ext HXr.out).free 1
        simp only [List.getElem?_toArray, List.getElem?_cons_zero, List.getElem?_cons_succ] at s0 s1
        by_cases hz0 : z = 0
        · subst hz0
          go_region
          go_wp2
          refine bodyPost_ret (v := .tuple #[.agg #[.int .i64 0, .int .i64 0], .int .i64 32]) (by simp [results, Try.results32, go_sem, *]) rfl ?_
          exact ⟨by rw [HB.out, HC.out]; rw [if_neg (by omega), if_pos (.inl rfl)], (((HX.out.trans HXr.out).drew.drew).setCell (by simp) _).setCell (by simp) _⟩
        · obtain ⟨y0, rfl⟩ : ∃ y0, z = y0 + 1 := ⟨z - 1, by omega⟩
          obtain ⟨b', off', y, e, hy, _, cy⟩ := (HI.out.ext HXr.out).get (j := y0) (by omega)
          injection e with e
          injection e with e1' e2'
          subst e1' e2'
          have HYy := Lib.hid (getD_at hy)
          obtain ⟨by1, by2⟩ := HSM.out.2 y (List.mem_of_getElem? hy)
          clear hy
          have gz0 : ((y0 : Int) + 1 == 0) = false := by simp; omega
          by_cases hyl : lv ≤ y
          · have q2 : decide (lv ≤ y) = true := decide_eq_true hyl
            have HYL := Lib.hid hyl
            clear hyl
            go_region
            go_wp2
            refine bodyPost_ret (v := .tuple #[.agg #[.int .i64 0, .int .i64 0], .int .i64 32]) (by simp [results, Try.results32, go_sem, *]) rfl ?_
            exact ⟨by rw [HB.out, HC.out]; rw [if_neg (by omega), if_pos (.inr (by rw [Nat.add_sub_cancel, HYy.out]; exact HYL.out))], (((HX.out.trans HXr.out).drew.drew).setCell (by simp) _).setCell (by simp) _⟩
          · have q2 : decide (lv ≤ y) = false := decide_eq_false hyl
            have hxy : y < x := by have := HHL.out; omega
            have hly : y < lv := by omega
            have hlx := HHL.out
            obtain ⟨Q1, hQ1⟩ : ∃ Q, 256 * (lv - y - 1) / (x - y) = Q := ⟨_, rfl⟩
            obtain ⟨Q2, hQ2⟩ : ∃ Q, (256 * (lv - y) + x - y - 1) / (x - y) = Q := ⟨_, rfl⟩
            have b1 : 0 ≤ Q1 := by rw [← hQ1]; exact Int.ediv_nonneg (by omega) (by omega)
            have b2 : Q1 ≤ 256 * (lv - y - 1) := by rw [← hQ1]; exact Int.ediv_le_self _ (by omega)
            have b3 : 0 ≤ Q2 := by rw [← hQ2]; exact Int.ediv_nonneg (by omega) (by omega)
            have b4 : Q2 ≤ 256 * (lv - y) + x - y - 1 := by rw [← hQ2]; exact Int.ediv_le_self _ (by omega)
            have t1 : (256 * (lv - y - 1)).tdiv (x - y) = Q1 := by rw [Int.tdiv_eq_ediv_of_nonneg (by omega)]; exact hQ1
            have t2 : (256 * (lv - y) + x - y - 1).tdiv (x - y) = Q2 := by rw [Int.tdiv_eq_ediv_of_nonneg (by omega)]; exact hQ2
            have HQ1 := Lib.hid hQ1
            have HQ2 := Lib.hid hQ2
            clear hQ1 hQ2 hyl
            go_region
            go_wp2_with fail
            go_region
            go_wp2
            have eR : R = ((256 * (y0 : Int) + Q1, 256 * (y0 : Int) + Q2), 0) := by
              rw [HB.out, HC.out, if_neg (by omega), if_neg (by rw [Nat.add_sub_cancel, HYy.out]; omega), Nat.add_sub_cancel, HYy.out, HXx.out, HQ1.out, HQ2.out, show ((y0 + 1 : Nat) : Int) - 1 = y0 by omega]
            refine bodyPost_ret (v := .tuple #[.agg #[.int .i64 (256 * (y0 : Int) + Q1), .int .i64 (256 * (y0 : Int) + Q2)], .int .i64 0]) (by simp [results, Try.results32, go_sem, *]) rfl ?_
            exact ⟨by rw [eR], ((((HX.out.trans HXr.out).setCell (by simp) _).setCell (by simp) _).drew).drew.drew⟩
    · obtain rfl : z = tn := by omega
      have HC : Hid (cr = z) := Lib.hid (by
        have h := HU.out
        rw [Nat.sub_self, upTo] at h
        exact h.symm)
      have s0 := (HB2.out.ext HXr.out).cell 0
      have s1 := (HB2.out.ext HXr.out).cell 1
      have y0' := (HB2.out.ext HXr.out).free 0
      have y1' := (HB2.out.ext HXr.out).free 1
      simp only [List.getElem?_toArray, List.getElem?_cons_zero, List.getElem?_cons_succ] at s0 s1
      go_wp2_with fail
      go_region
      go_wp2
      refine bodyPost_ret (v := .tuple #[.agg #[.int .i64 0, .int .i64 0], .int .i64 2]) (by simp [results, Try.results32, go_sem, *]) rfl ?_
      exact ⟨by rw [HB.out, HC.out]; rw [if_pos rfl], (((HX.out.trans HXr.out).drew).setCell (by simp) _).setCell (by simp) _⟩
end Go.Proofs.Ytagcgldhhdecjaa
namespace Go.Proofs.Ytagcgldhhdecjaa
open Go.RowKit

def lst1 : List Int := [1, 1, 9, 20, 9, 1, 1]
theorem first_echo : echoesF lst1 ⟨5, 4, 150, 0⟩ = ([⟨2, 5, 3, 6, 20⟩], 0) := by kernel_rfl
theorem first_time : timeF lst1 ⟨2, 5, 3, 6, 20⟩ = ((384, 416), 0) := by kernel_rfl
theorem ints1 (w : World) : Ints .i64 (w.alloc (.cells #[.int .i64 1, .int .i64 1, .int .i64 9, .int .i64 20, .int .i64 9, .int .i64 1, .int .i64 1] 3)) (some ⟨w.heap.size, 0, none⟩) 7 lst1 :=
  ⟨rfl, by decide, At.new' _ _ _ rfl⟩
set_option maxRecDepth 100000 in
set_option maxHeartbeats 2000000 in
theorem firstW_any (w : World) : Calls Try.prog 20 #[] w (fun e w' => e = .returned (.bool true) ∧ Ext w w') := by
  have hI := ints1 w
  have hX0 := (Ext.refl w).alloc (.cells #[.int .i64 1, .int .i64 1, .int .i64 9, .int .i64 20, .int .i64 9, .int .i64 1, .int .i64 1] 3)
  go_enter Try.func20, Try.ntmps20
  go_wp2_with fail
  refine (echoes_any _ 7 7 lst1 ⟨5, 4, 150, 0⟩ _ hI).mono ?_
  rw [first_echo]
  rintro e w1 ⟨v, rfl, hE, hX⟩
  replace hX0 := hX0.trans hX
  clear hX hI
  obtain ⟨g, c, e, rfl, he, hc⟩ := hE.get (j := 0) (by decide)
  simp only [List.getElem?_cons_zero, Option.some.injEq] at he
  subst he
  have c0 := hc 0 _ rfl
  have c1 := hc 1 _ rfl
  have c2 := hc 2 _ rfl
  have c3 := hc 3 _ rfl
  have c4 := hc 4 _ rfl
  have hg : g < w1.heap.size := World.block_lt_of_cell? _ _ c0
  simp only [Nat.zero_mul, Nat.zero_add, List.length_cons, List.length_nil] at c0 c1 c2 c3 c4 ⊢
  have hI := ints1 w1
  have hcap := own_cap hE
  clear hc hE
  go_wp2_with fail
  refine (time_any _ 7 7 lst1 2 5 3 6 20 _ hI).mono ?_
  rw [first_time]
  rintro e w2 ⟨rfl, hX⟩
  have HX := Lib.hid ((hX0.trans ((Ext.refl w1).alloc _)).trans hX)
  clear hX hX0 hI c0 c1 c2 c3 c4
  go_wp2
  go_ret
  exact ⟨rfl, HX.out.alloc _⟩
end Go.Proofs.Ytagcgldhhdecjaa
namespace Go.Proofs.Ytagcgldhhdecjaa

/-- The number that digits denote. -/
def val (B : Int) : List Int → Int
  | [] => 0
  | x :: xs => x + B * val B xs
/-- All are digits. -/
def Dg (B : Int) (xs : List Int) : Prop := ∀ x ∈ xs, 0 ≤ x ∧ x < B

section
variable {B : Int} {xs ys : List Int} {x u : Int} {k : Nat}
theorem Dg.nil : Dg B [] := by simp [Dg]
theorem Dg.take (h : Dg B xs) (k : Nat) : Dg B (xs.take k) := fun x hx => h x (List.mem_of_mem_take hx)
theorem Dg.drop (h : Dg B xs) (k : Nat) : Dg B (xs.drop k) := fun x hx => h x (List.mem_of_mem_drop hx)
theorem Dg.append (h : Dg B xs) (k : Dg B ys) : Dg B (xs ++ ys) := fun x hx => by
  rcases List.mem_append.1 hx with hx | hx
  · exact h x hx
  · exact k x hx
theorem Dg.set (h : Dg B xs) (hu : 0 ≤ u ∧ u < B) (k : Nat) : Dg B (xs.set k u) := fun x hx => by
  rcases List.mem_or_eq_of_mem_set hx with hx | hx
  · exact h x hx
  · subst hx; exact hu
theorem Dg.get (h : Dg B xs) (hx : xs[k]? = some x) : 0 ≤ x ∧ x < B := h x (List.mem_of_getElem? hx)
theorem Dg.one (hx : 0 ≤ x ∧ x < B) : Dg B [x] := fun y hy => by simp at hy; subst hy; exact hx
theorem Dg.cons (hx : 0 ≤ x ∧ x < B) (h : Dg B xs) : Dg B (x :: xs) := fun y hy => by
  rcases List.mem_cons.1 hy with hy | hy
  · subst hy; exact hx
  · exact h y hy

theorem val_append (xs ys : List Int) : val B (xs ++ ys) = val B xs + B ^ xs.length * val B ys := by
  induction xs with
  | nil => simp [val]
  | cons x xs ih => simp only [List.cons_append, val, ih, List.length_cons, Int.pow_succ]; grind
theorem val_one (x : Int) : val B [x] = x := by simp [val]
theorem val_snoc (xs : List Int) (x : Int) : val B (xs ++ [x]) = val B xs + B ^ xs.length * x := by rw [val_append, val_one]
theorem val_nonneg (hB : 0 < B) (h : Dg B xs) : 0 ≤ val B xs := by
  induction xs with
  | nil => simp [val]
  | cons x xs ih =>
    have hx := h x (List.mem_cons_self ..)
    have hi := ih fun y hy => h y (List.mem_cons_of_mem _ hy)
    have := Int.mul_nonneg (Int.le_of_lt hB) hi
    rw [val]; omega
theorem pow_pos' (hB : 0 < B) (k : Nat) : 0 < B ^ k := Int.pow_pos hB
theorem val_lt (hB : 0 < B) (h : Dg B xs) : val B xs < B ^ xs.length := by
  induction xs with
  | nil => simp [val]
  | cons x xs ih =>
    have hx := h x (List.mem_cons_self ..)
    have hi := ih fun y hy => h y (List.mem_cons_of_mem _ hy)
    rw [val, List.length_cons, Int.pow_succ]
    have h1 : B * (val B xs + 1) ≤ B * B ^ xs.length := Int.mul_le_mul_of_nonneg_left (by omega) (Int.le_of_lt hB)
    have h2 : B * (val B xs + 1) = B * val B xs + B := by grind
    have h3 : B * B ^ xs.length = B ^ xs.length * B := Int.mul_comm _ _
    omega
end

/-- No most significant digit is 0. -/
def Nm (xs : List Int) : Prop := xs.getLast? ≠ some 0
/-- The normal digits of a number. -/
def Rep (B : Int) (xs : List Int) (n : Nat) : Prop := Dg B xs ∧ Nm xs ∧ val B xs = (n : Int)

section
variable {B : Int} {xs ys : List Int} {n m : Nat}
theorem Nm.nil : Nm [] := by simp [Nm]
theorem Nm.snoc {x : Int} (h : x ≠ 0) : Nm (xs ++ [x]) := by simp [Nm, h]
theorem Nm.one {x : Int} (h : x ≠ 0) : Nm [x] := by simp [Nm, h]
theorem Nm.split (h : Nm xs) (hne : xs ≠ []) : ∃ ys x, xs = ys ++ [x] ∧ x ≠ 0 := by
  refine ⟨xs.dropLast, xs.getLast hne, (List.dropLast_concat_getLast hne).symm, fun e => ?_⟩
  exact h (by rw [List.getLast?_eq_some_getLast hne, e])
theorem Nm.take {k : Nat} {x : Int} (h : xs[k]? = some x) (hx : x ≠ 0) : Nm (xs.take (k + 1)) := by
  rw [List.take_add_one, h]; exact Nm.snoc hx
theorem nm_low (hB : 1 < B) (hd : Dg B xs) (h : Nm xs) (hne : xs ≠ []) : B ^ (xs.length - 1) ≤ val B xs := by
  obtain ⟨ys, x, rfl, hx⟩ := h.split hne
  have hd1 : Dg B ys := fun y hy => hd y (List.mem_append_left _ hy)
  have hx1 := hd x (List.mem_append_right _ (List.mem_singleton.2 rfl))
  have h0 := val_nonneg (by omega) hd1
  rw [val_snoc, List.length_append, List.length_singleton, Nat.add_sub_cancel]
  have hp := pow_pos' (B := B) (by omega) ys.length
  have : B ^ ys.length * 1 ≤ B ^ ys.length * x := Int.mul_le_mul_of_nonneg_left (by omega) (Int.le_of_lt hp)
  omega
theorem pow_le {a b : Nat} (hB : 1 ≤ B) (h : a ≤ b) : B ^ a ≤ B ^ b := by
  obtain ⟨k, rfl⟩ := Nat.exists_eq_add_of_le h
  rw [Int.pow_add]
  have h1 := pow_pos' (B := B) (by omega) a
  have h2 := pow_pos' (B := B) (by omega) k
  have : B ^ a * 1 ≤ B ^ a * B ^ k := Int.mul_le_mul_of_nonneg_left (by omega) (Int.le_of_lt h1)
  omega
theorem Rep.len_le (hB : 1 < B) (h : Rep B xs n) {L : Nat} (hn : (n : Int) < B ^ L) : xs.length ≤ L := by
  rcases Nat.lt_or_ge L xs.length with hl | hl
  · have h1 := nm_low hB h.1 h.2.1 (by intro e; subst e; simp at hl)
    rw [h.2.2] at h1
    have := pow_le (B := B) (a := L) (b := xs.length - 1) (by omega) (by omega)
    omega
  · exact hl
theorem Rep.lt (hB : 1 < B) (h : Rep B xs n) : (n : Int) < B ^ xs.length := by rw [← h.2.2]; exact val_lt (by omega) h.1
theorem Rep.nil : Rep B [] 0 := ⟨Dg.nil, Nm.nil, rfl⟩
theorem Rep.zero (hB : 1 < B) (h : Rep B xs 0) : xs = [] := by
  rcases xs with _ | ⟨x, xs⟩
  · rfl
  · have h1 := nm_low hB h.1 h.2.1 (by simp)
    rw [h.2.2] at h1
    have := pow_pos' (B := B) (by omega) ((x :: xs).length - 1)
    omega
theorem Rep.pos (hB : 1 < B) (h : Rep B xs n) : n = 0 ↔ xs = [] := by
  constructor
  · rintro rfl; exact h.zero hB
  · rintro rfl; have := h.2.2; simp [val] at this; omega
theorem Rep.one (hB : 1 < B) : Rep B [1] 1 := ⟨Dg.one (by omega), Nm.one (by omega), val_one 1⟩
end

end Go.Proofs.Ytagcgldhhdecjaa
namespace Go.Proofs.Ytagcgldhhdecjaa
open Go.RowKit

/-- n has at most L digits. -/
def Fit (B : Int) (n L : Nat) : Prop := (n : Int) < B ^ L
section
variable {B : Int} {n m a b L : Nat} {xs : List Int}
theorem Fit.mono (hB : 1 ≤ B) (h : Fit B n a) (hl : a ≤ b) : Fit B n b := by
  have := pow_le (B := B) hB hl
  unfold Fit at *; omega
theorem Fit.le (h : Fit B n a) (hl : m ≤ n) : Fit B m a := by unfold Fit at *; omega
theorem Fit.add (hB : 2 ≤ B) (h : Fit B n a) (k : Fit B m a) : Fit B (n + m) (a + 1) := by
  unfold Fit at *
  rw [Int.pow_succ]
  have hp := pow_pos' (B := B) (by omega) a
  have : B ^ a * 2 ≤ B ^ a * B := Int.mul_le_mul_of_nonneg_left hB (Int.le_of_lt hp)
  omega
theorem Fit.len (hB : 1 < B) (h : Fit B n L) (hr : Rep B xs n) : xs.length ≤ L := hr.len_le hB h
theorem Fit.one (hB : 1 < B) (h : 0 < L) : Fit B 1 L := by
  have := pow_le (B := B) (a := 1) (b := L) (by omega) h
  unfold Fit; rw [Int.pow_succ, Int.pow_zero] at this; omega
theorem Fit.zero (hB : 0 < B) : Fit B 0 L := by have := pow_pos' hB L; unfold Fit; omega
end

/-- A value that is a slice of words, the normal form of n. -/
def NatV (k : IntKind) (B : Int) (w : World) (v : Value) (n : Nat) : Prop :=
  ∃ A m c xs, v = .slice A m c ∧ Ints k w A m xs ∧ Rep B xs n ∧ m ≤ c ∧ c ≤ 9223372036854775807
theorem NatV.ext {k : IntKind} {B : Int} {w w' : World} {v : Value} {n : Nat} (h : NatV k B w v n) (he : Ext w w') : NatV k B w' v n := by
  obtain ⟨A, m, c, xs, h1, h2, h3⟩ := h
  exact ⟨A, m, c, xs, h1, h2.ext he, h3⟩
theorem NatV.zero {k : IntKind} {B : Int} {w : World} : NatV k B w (.slice none 0 0) 0 := ⟨none, 0, 0, [], rfl, Ints.nil, Rep.nil, by omega, by omega⟩

/-- What a call returns that makes a number. -/
def RetN (k : IntKind) (B : Int) (w : World) (n : Nat) (e : Ending) (w' : World) : Prop := ∃ v, e = .returned v ∧ NatV k B w' v n ∧ Ext w w'

/-- Storing at place j of a row of the call's own. -/
theorem OwnS.store {k : IntKind} {e : TypeId} {base : Nat} {w : World} {A : Option Addr} {n c : Nat} {xs : List Int} (h : OwnS k e base w A n c xs) {j : Nat} (hj : j < n) :
    ∃ g x, A = some ⟨g, 0, none⟩ ∧ xs[j]? = some x ∧ (Lit.int k x).wf = true ∧ w.cell? ⟨g, j, none⟩ = some (.int k x) ∧ w.frozen? ⟨g, j, none⟩ = false ∧ base ≤ g ∧
      Hid (∀ u, (Lit.int k u).wf = true → OwnS k e base (w.setCell ⟨g, j, none⟩ (.int k u)) A n c (xs.set j u)) := by
  have hj' : j < xs.length := by rw [h.len]; exact hj
  have hown := h.own
  rcases hown.2 with ⟨_, h0⟩ | ⟨g, cap, cur, hv, hg, _⟩
  · omega
  · injection hv with hA _ _
    subst hA
    have hc := hown.cellAt j (by omega)
    rw [List.getElem?_map, List.getElem?_eq_getElem hj'] at hc
    refine ⟨g, xs[j], rfl, List.getElem?_eq_getElem hj', h.wf _ (List.getElem_mem hj'), hc, hown.frozenAt j, hg, fun u hu => ⟨?_, by rw [List.length_set, h.len], fun x hx => ?_⟩⟩
    · have := (hown.stored j (.int k u)).1
      rwa [← List.map_set] at this
    · rcases List.mem_or_eq_of_mem_set hx with hx | hx
      · exact h.wf x hx
      · subst hx; exact hu
theorem OwnS.get {k : IntKind} {e : TypeId} {base : Nat} {w : World} {A : Option Addr} {n c : Nat} {xs : List Int} (h : OwnS k e base w A n c xs) {j : Nat} (hj : j < n) :
    ∃ g x, A = some ⟨g, 0, none⟩ ∧ xs[j]? = some x ∧ (Lit.int k x).wf = true ∧ w.cell? ⟨g, j, none⟩ = some (.int k x) := by
  obtain ⟨g, x, h1, h2, h3, h4, _⟩ := h.store hj
  exact ⟨g, x, h1, h2, h3, h4⟩
/-- A beginning of a row of the call's own. -/
theorem OwnS.front {k : IntKind} {e : TypeId} {base : Nat} {w : World} {A : Option Addr} {n c : Nat} {xs : List Int} (h : OwnS k e base w A n c xs) {m : Nat} (hm : m ≤ n) : OwnS k e base w A m c (xs.take m) := by
  refine ⟨⟨by simp [h.len]; omega, ?_⟩, by rw [List.length_take, h.len]; omega, fun x hx => h.wf x (List.mem_of_mem_take hx)⟩
  rcases h.own.2 with ⟨hv, h0⟩ | ⟨g, cap, cur, hv, hg, hb, h1, h2, h3, h4⟩
  · injection hv with hA hn hc
    subst hA hc
    obtain rfl : m = 0 := by omega
    exact .inl ⟨rfl, rfl⟩
  · injection hv with hA hn hc
    subst hA hc
    refine .inr ⟨g, c, cur, rfl, hg, hb, by omega, h2, h3, ?_⟩
    simp only [Nat.mul_one] at h4 ⊢
    rw [List.map_take, ← h4, List.take_take, Nat.min_eq_left hm]
theorem OwnS.natv {k : IntKind} {e : TypeId} {base : Nat} {w : World} {A : Option Addr} {n c : Nat} {xs : List Int} {B : Int} {N : Nat} (h : OwnS k e base w A n c xs) (hr : Rep B xs N) : NatV k B w (.slice A n c) N :=
  ⟨A, n, c, xs, rfl, h.ints, hr, h.cap.1, h.cap.2⟩
/-- The row that 'make' makes. -/
theorem OwnS.made {k : IntKind} {e : TypeId} {base : Nat} {w : World} {g n c : Nat} (h : w.ownsRow base e 1 (.slice (some ⟨g, 0, none⟩) n c) n (List.replicate n (.int k 0))) : OwnS k e base w (some ⟨g, 0, none⟩) n c (List.replicate n 0) := by
  refine ⟨by simpa using h, by simp, fun x hx => ?_⟩
  have := (List.mem_replicate.1 hx).2
  subst this
  cases k <;> decide
end Go.Proofs.Ytagcgldhhdecjaa
namespace Go.Proofs.Ytagcgldhhdecjaa
open Go.RowKit

/-- A number of the reference. -/
def Z16 (w : World) (v : Value) (n : Nat) : Prop := NatV .i64 65536 w v n
theorem Z16.ext {w w' : World} {v : Value} {n : Nat} (h : Z16 w v n) (he : Ext w w') : Z16 w' v n := NatV.ext h he
theorem getD_some {xs : List Int} {k : Nat} {x : Int} (h : xs[k]? = some x) : xs.getD k 0 = x := by simp [List.getD, h]
end Go.Proofs.Ytagcgldhhdecjaa
namespace Go.Proofs.Ytagcgldhhdecjaa
open Go.RowKit

/-- What a call returns that makes a number in memory of its own. -/
def RetOwn (w : World) (n : Nat) (e : Ending) (w' : World) : Prop := ∃ A l c xs, e = .returned (.slice A l c) ∧ OwnS .i64 3 w.heap.size w' A l c xs ∧ Rep 65536 xs n ∧ Ext w w'
theorem RetOwn.n {w : World} {n : Nat} {e : Ending} {w' : World} (h : RetOwn w n e w') : RetN .i64 65536 w n e w' := by
  obtain ⟨A, l, c, xs, h1, h2, h3, h4⟩ := h
  exact ⟨_, h1, h2.natv h3, h4⟩
end Go.Proofs.Ytagcgldhhdecjaa
namespace Go.Proofs.Ytagcgldhhdecjaa
open Go.RowKit

theorem OwnS.at {k : IntKind} {e : TypeId} {base : Nat} {w : World} {A : Option Addr} {n c : Nat} {xs : List Int} (h : OwnS k e base w A n c xs) (hn : 0 < n) : ∃ g, A = some ⟨g, 0, none⟩ ∧ base ≤ g ∧ g < w.heap.size := by
  obtain ⟨g, x, hA, _, _, hc, _, hg, _⟩ := h.store hn
  exact ⟨g, hA, hg, World.block_lt_of_cell? w _ hc⟩

end Go.Proofs.Ytagcgldhhdecjaa
namespace Go.Proofs.Ytagcgldhhdecjaa

/-- A number with a sign. -/
def sgn (s : Bool) (n : Nat) : Int := if s then -(n : Int) else n
section
variable {s t : Bool} {n m d e : Nat}
end
/-- How many words a rational number has. -/
def FitQ (q : Rat) (L : Nat) : Prop := Fit 4294967296 q.num.natAbs L ∧ Fit 4294967296 q.den L
end Go.Proofs.Ytagcgldhhdecjaa
namespace Go.Proofs.Ytagcgldhhdecjaa
open Go.RowKit

/-- A value that is no integer. -/
def NoInt (v : Value) : Prop := ∀ k x, v ≠ .int k x
theorem noInt_bool (b : Bool) : NoInt (.bool b) := fun _ _ h => by cases h
theorem noInt_slice (A : Option Addr) (l c : Nat) : NoInt (.slice A l c) := fun _ _ h => by cases h
/-- Storing into a block that holds no integers changes no slice of integers. -/
theorem Ints.past {k : IntKind} {w : World} {A : Option Addr} {n : Nat} {xs : List Int} {g : Nat} (h : Ints k w A n xs) (hg : ∀ i v, w.cell? ⟨g, i, none⟩ = some v → NoInt v) (i : Nat) (u : Value) : Ints k (w.setCell ⟨g, i, none⟩ u) A n xs := by
  refine ⟨h.1, h.2.1, fun hne => ?_⟩
  obtain ⟨b, off, hA, hc⟩ := h.2.2 hne
  have hb : b ≠ g := by
    intro e
    subst e
    have h0 : ∃ v, (xs.map (Value.int k))[0]? = some v := by
      cases hm : xs.map (Value.int k) with
      | nil => exact absurd hm hne
      | cons v vs => exact ⟨v, rfl⟩
    obtain ⟨v, hv⟩ := h0
    have h1 := hg _ _ (hc 0 v hv)
    rw [List.getElem?_map] at hv
    cases hx : xs[0]? with
    | none => rw [hx] at hv; simp at hv
    | some x => rw [hx] at hv; simp at hv; exact h1 k x hv.symm
  refine ⟨b, off, hA, fun j v hv => ?_⟩
  have hlt := World.block_lt_of_cell? w _ (hc j v hv)
  have hh : (w.setCell ⟨g, i, none⟩ u).heap[b]? = w.heap[b]? := Below.heap_setCell w ⟨g, i, none⟩ u b hb
  have := hc j v hv
  unfold World.cell? at this ⊢
  simp only [hh]
  exact this
/-- A block that holds no integers. -/
def NoInts (w : World) (g : Nat) : Prop := ∃ t cs, Blk w g t cs ∧ ∀ v ∈ cs, NoInt v
theorem NoInts.cell {w : World} {g : Nat} (h : NoInts w g) : ∀ i v, w.cell? ⟨g, i, none⟩ = some v → NoInt v := by
  obtain ⟨t, cs, hB, hv⟩ := h
  intro i v hc
  rw [hB.cell i] at hc
  exact hv v (Array.mem_of_getElem? hc)
theorem NoInts.set {w : World} {g : Nat} (h : NoInts w g) (i : Nat) {u : Value} (hu : NoInt u) : NoInts (w.setCell ⟨g, i, none⟩ u) g := by
  obtain ⟨t, cs, hB, hv⟩ := h
  refine ⟨t, _, hB.set i u, fun v hm => ?_⟩
  rcases Array.mem_or_eq_of_mem_setIfInBounds hm with h | h
  · exact hv v h
  · subst h; exact hu
theorem NoInts.alloc {w : World} {g : Nat} (h : NoInts w g) (o : Obj) : NoInts (w.alloc o) g := by
  obtain ⟨t, cs, hB, hv⟩ := h
  exact ⟨t, cs, hB.alloc o, hv⟩
theorem NoInts.ext {w w' : World} {g : Nat} (h : NoInts w g) (he : Ext w w') : NoInts w' g := by
  obtain ⟨t, cs, hB, hv⟩ := h
  exact ⟨t, cs, hB.ext he, hv⟩
theorem NoInts.three {w : World} {g : Nat} {t : TypeId} {b : Bool} {A1 A2 : Option Addr} {l1 c1 l2 c2 : Nat} (h : Blk w g t #[.bool b, .slice A1 l1 c1, .slice A2 l2 c2]) : NoInts w g :=
  ⟨t, _, h, fun v hv => by
    simp at hv
    rcases hv with rfl | rfl | rfl
    · exact noInt_bool _
    · exact noInt_slice _ _ _
    · exact noInt_slice _ _ _⟩
end Go.Proofs.Ytagcgldhhdecjaa
namespace Go.Proofs.Ytagcgldhhdecjaa
open Go.RowKit
theorem Blk.at_ {W : World} {t : TypeId} {cs : Array Value} {g : Nat} (hg : W.heap.size = g) : Blk (W.alloc (.cells cs t)) g t cs := hg ▸ Blk.new W t cs
theorem Ext.two {w0 w : World} {g : Nat} (h : Ext w0 w) (hg : w0.heap.size ≤ g) (x y : Value) : Ext w0 ((w.setCell ⟨g, 0, none⟩ x).setCell ⟨g, 1, none⟩ y) := (h.setCell hg x).setCell hg y
end Go.Proofs.Ytagcgldhhdecjaa
namespace Go.Proofs.Ytagcgldhhdecjaa
open Go.RowKit

/-- An integer of the reference. -/
def IntZ (w : World) (v : Value) (z : Int) : Prop := ∃ A l c, v = .agg #[.bool (decide (z < 0)), .slice A l c] ∧ Z16 w (.slice A l c) z.natAbs
theorem IntZ.ext {w w' : World} {v : Value} {z : Int} (h : IntZ w v z) (he : Ext w w') : IntZ w' v z := by
  obtain ⟨A, l, c, h1, h2⟩ := h
  exact ⟨A, l, c, h1, h2.ext he⟩
theorem nats_past {w : World} {v : Value} {n g : Nat} {k : IntKind} {B : Int} (h : NatV k B w v n) (hN : NoInts w g) (i : Nat) (x : Value) : NatV k B (w.setCell ⟨g, i, none⟩ x) v n := by
  obtain ⟨A, m, c, xs, h1, h2, h3⟩ := h
  exact ⟨A, m, c, xs, h1, h2.past hN.cell i x, h3⟩
theorem NoInts.two {w : World} {g : Nat} {t : TypeId} {b : Bool} {A1 : Option Addr} {l1 c1 : Nat} (h : Blk w g t #[.bool b, .slice A1 l1 c1]) : NoInts w g :=
  ⟨t, _, h, fun v hv => by
    simp at hv
    rcases hv with rfl | rfl
    · exact noInt_bool _
    · exact noInt_slice _ _ _⟩
end Go.Proofs.Ytagcgldhhdecjaa
namespace Go.Proofs.Ytagcgldhhdecjaa
open Go.RowKit

theorem grownBy_set' (w : World) (g i : Nat) (u : Value) : w.grownBy (w.setCell ⟨g, i, none⟩ u) (some g) :=
  ⟨rfl, rfl, rfl, by simp, fun k _ hk => heap_setCell_other w ⟨g, i, none⟩ k u (fun e => hk (by simp [e]))⟩
theorem OwnS.far {k : IntKind} {e : TypeId} {base g n c : Nat} {w : World} {A : Option Addr} {xs : List Int} (h : OwnS k e base w A n c xs) (hg : g < base) (i : Nat) (u : Value) : OwnS k e base (w.setCell ⟨g, i, none⟩ u) A n c xs := by
  refine ⟨World.ownsRow.kept h.own (grownBy_set' w g i u) ?_, h.len, h.wf⟩
  rcases hv : (Value.slice A n c).ownBlock with _ | b
  · exact .inl rfl
  · right
    intro e
    injection e with e
    have := (h.own.lt b hv).1
    omega
end Go.Proofs.Ytagcgldhhdecjaa
namespace Go.Proofs.Ytagcgldhhdecjaa
open Go.RowKit

/-- A slice's words do not lie in the block 'row'. -/
def Sep (v : Value) (row : Option Nat) : Prop := ∀ A n c, v = .slice A n c → 0 < n → ∀ b off, A = some ⟨b, off, none⟩ → row ≠ some b
theorem Sep.nil (v : Value) : Sep v none := fun _ _ _ _ _ _ _ _ h => by cases h
theorem NatV.grown {k : IntKind} {B : Int} {w w' : World} {v : Value} {n : Nat} {row : Option Nat} (h : NatV k B w v n) (hg : w.grownBy w' row) (hs : Sep v row) : NatV k B w' v n := by
  obtain ⟨A, m, c, xs, rfl, ⟨h1, h2, h3⟩, h4⟩ := h
  refine ⟨A, m, c, xs, rfl, ⟨h1, h2, fun hn => ?_⟩, h4⟩
  obtain ⟨b, off, hA, hc⟩ := h3 hn
  have hm : 0 < m := by
    rw [← h1]; rcases xs with _ | ⟨x, xs⟩
    · simp at hn
    · simp
  refine ⟨b, off, hA, fun j v hv => ?_⟩
  have hcell := hc j v hv
  rw [← hcell]
  exact World.cell?_of_block (w := w) (hg.block b (World.block_lt_of_cell? w _ hcell) (fun e => hs A m c rfl hm b off hA e.symm))
theorem Sep.new {k : IntKind} {B : Int} {w : World} {v : Value} {n : Nat} (h : NatV k B w v n) {s : Nat} (hs : w.heap.size ≤ s) : Sep v (some s) := by
  obtain ⟨A, m, c, xs, rfl, ⟨h1, h2, h3⟩, h4⟩ := h
  intro A' n' c' e hn b off hA hb
  injection e with e1 e2 e3
  subst e1 e2 e3
  rcases xs with _ | ⟨x, xs⟩
  · simp at h1; omega
  · obtain ⟨b', off', hA', hc⟩ := h3 (by simp)
    rw [hA] at hA'
    injection hA' with hA'
    injection hA' with hb' _ _
    subst hb'
    have := World.block_lt_of_cell? w _ (hc 0 _ rfl)
    injection hb with hb
    simp only at this
    omega
end Go.Proofs.Ytagcgldhhdecjaa
namespace Go.Proofs.Ytagcgldhhdecjaa
open Go.RowKit

theorem FitQ.mono {q : Rat} {L M : Nat} (h : FitQ q L) (hl : L ≤ M) : FitQ q M := ⟨h.1.mono (by omega) hl, h.2.mono (by omega) hl⟩

section
variable {va vb : Value} {a b : Rat} {L M : Nat} {w : World}
end
end Go.Proofs.Ytagcgldhhdecjaa
namespace Go.Proofs.Ytagcgldhhdecjaa
open Go.RowKit

theorem Z16.two {w : World} {v : Value} {n g : Nat} (h : Z16 w v n) (hN : NoInts w g) (b : Bool) (A : Option Addr) (l c : Nat) : Z16 ((w.setCell ⟨g, 0, none⟩ (.bool b)).setCell ⟨g, 1, none⟩ (.slice A l c)) v n :=
  nats_past (nats_past h hN 0 _) (hN.set 0 (noInt_bool _)) 1 _
theorem Z16.box3 {w : World} {v : Value} {n g : Nat} (h : Z16 w v n) (hN : NoInts w g) (b : Bool) (A B : Option Addr) (l c m k : Nat) : Z16 (((w.setCell ⟨g, 0, none⟩ (.bool b)).setCell ⟨g, 1, none⟩ (.slice A l c)).setCell ⟨g, 2, none⟩ (.slice B m k)) v n :=
  nats_past (h.two hN b A l c) ((hN.set 0 (noInt_bool _)).set 1 (noInt_slice _ _ _)) 2 _
end Go.Proofs.Ytagcgldhhdecjaa
namespace Go.Proofs.Ytagcgldhhdecjaa
open Go.RowKit

/-- A rational number of the reference. -/
def QZ (w : World) (v : Value) (q : Rat) : Prop := ∃ b A l c B m k, v = .agg #[.bool b, .slice A l c, .slice B m k] ∧ b = decide (q.num < 0) ∧ Z16 w (.slice A l c) q.num.natAbs ∧ Z16 w (.slice B m k) q.den
theorem QZ.ext {w w' : World} {v : Value} {q : Rat} (h : QZ w v q) (he : Ext w w') : QZ w' v q := by
  obtain ⟨b, A, l, c, B, m, k, h0, h1, h2, h3⟩ := h
  exact ⟨b, A, l, c, B, m, k, h0, h1, h2.ext he, h3.ext he⟩
section
variable {w : World} {b : Bool} {A B : Option Addr} {l c m k : Nat} {q : Rat}
theorem QZ.num (h : QZ w (.agg #[.bool b, .slice A l c, .slice B m k]) q) : IntZ w (.agg #[.bool b, .slice A l c]) q.num := by
  obtain ⟨b', A', l', c', B', m', k', e, h1, h2, h3⟩ := h
  simp only [Value.agg.injEq, Array.mk.injEq, List.cons.injEq, Value.bool.injEq, Value.slice.injEq, and_true] at e
  obtain ⟨rfl, ⟨rfl, rfl, rfl⟩, rfl, rfl, rfl⟩ := e
  exact ⟨_, _, _, by rw [h1], h2⟩
theorem QZ.sgn (h : QZ w (.agg #[.bool b, .slice A l c, .slice B m k]) q) : b = decide (q.num < 0) := by
  obtain ⟨b', A', l', c', B', m', k', e, h1, h2, h3⟩ := h
  simp only [Value.agg.injEq, Array.mk.injEq, List.cons.injEq, Value.bool.injEq, Value.slice.injEq, and_true] at e
  rw [e.1, h1]
theorem QZ.nat (h : QZ w (.agg #[.bool b, .slice A l c, .slice B m k]) q) : Z16 w (.slice A l c) q.num.natAbs := by
  obtain ⟨b', A', l', c', B', m', k', e, h1, h2, h3⟩ := h
  simp only [Value.agg.injEq, Array.mk.injEq, List.cons.injEq, Value.bool.injEq, Value.slice.injEq, and_true] at e
  obtain ⟨rfl, ⟨rfl, rfl, rfl⟩, rfl, rfl, rfl⟩ := e
  exact h2
theorem QZ.den (h : QZ w (.agg #[.bool b, .slice A l c, .slice B m k]) q) : Z16 w (.slice B m k) q.den := by
  obtain ⟨b', A', l', c', B', m', k', e, h1, h2, h3⟩ := h
  simp only [Value.agg.injEq, Array.mk.injEq, List.cons.injEq, Value.bool.injEq, Value.slice.injEq, and_true] at e
  obtain ⟨rfl, ⟨rfl, rfl, rfl⟩, rfl, rfl, rfl⟩ := e
  exact h3
theorem QZ.past (h : QZ w (.agg #[.bool b, .slice A l c, .slice B m k]) q) {g : Nat} (hN : NoInts w g) : QZ (((w.setCell ⟨g, 0, none⟩ (.bool b)).setCell ⟨g, 1, none⟩ (.slice A l c)).setCell ⟨g, 2, none⟩ (.slice B m k)) (.agg #[.bool b, .slice A l c, .slice B m k]) q :=
  ⟨_, _, _, _, _, _, _, rfl, h.sgn, h.nat.box3 hN _ _ _ _ _ _ _, h.den.box3 hN _ _ _ _ _ _ _⟩
end
/-- What a call returns that makes a rational number. -/
def RetQz (w : World) (q : Rat) (e : Ending) (w' : World) : Prop := ∃ v, e = .returned v ∧ QZ w' v q ∧ Ext w w'
/-- How many limbs a rational number has. -/
def FitR (q : Rat) (L : Nat) : Prop := Fit 65536 q.num.natAbs L ∧ Fit 65536 q.den L
theorem FitR.mono {q : Rat} {L M : Nat} (h : FitR q L) (k : L ≤ M) : FitR q M := ⟨h.1.mono (by omega) k, h.2.mono (by omega) k⟩
theorem RetQz.of {w : World} {q r : Rat} (h : q = r) : ∀ e w', RetQz w q e w' → RetQz w r e w' := by rintro e w' ⟨v, h1, h2, h3⟩; exact ⟨v, h1, h ▸ h2, h3⟩
end Go.Proofs.Ytagcgldhhdecjaa
namespace Go.Proofs.Ytagcgldhhdecjaa
open Go.RowKit

theorem Z16.pos {w : World} {A : Option Addr} {l c n : Nat} (h : Z16 w (.slice A l c) n) : IntZ w (.agg #[.bool false, .slice A l c]) (n : Int) := ⟨A, l, c, by rw [decide_eq_false (by omega)], h⟩
theorem QZ.mk' {w : World} {b : Bool} {A B : Option Addr} {l c m k : Nat} {q : Rat} (hb : b = decide (q.num < 0)) (h : Z16 w (.slice A l c) q.num.natAbs) (h' : Z16 w (.slice B m k) q.den) : QZ w (.agg #[.bool b, .slice A l c, .slice B m k]) q :=
  ⟨_, _, _, _, _, _, _, rfl, hb, h, h'⟩
end Go.Proofs.Ytagcgldhhdecjaa
namespace Go.Proofs.Ytagcgldhhdecjaa
open Go.RowKit

theorem IntZ.past {w : World} {v : Value} {z : Int} {g : Nat} (h : IntZ w v z) (hN : NoInts w g) {b : Bool} {A : Option Addr} {l c : Nat} : IntZ ((w.setCell ⟨g, 0, none⟩ (.bool b)).setCell ⟨g, 1, none⟩ (.slice A l c)) v z := by
  obtain ⟨A', l', c', h1, h2⟩ := h
  exact ⟨A', l', c', h1, h2.two hN _ _ _ _⟩
end Go.Proofs.Ytagcgldhhdecjaa
namespace Go.Proofs.Ytagcgldhhdecjaa
open Go.RowKit

/-- A pair of a value and an error. -/
def RetE (w : World) (v : Value) (n : Int) (e : Ending) (w' : World) : Prop := e = .returned (.tuple #[v, .int .i64 n]) ∧ Ext w w'

end Go.Proofs.Ytagcgldhhdecjaa
namespace Go.Proofs.Ytagcgldhhdecjaa
open Go.RowKit

/-- A span is valid. -/
def okS (lo hi : Int) : Bool := decide (-1152921504606846976 ≤ lo ∧ lo ≤ hi ∧ hi ≤ 1152921504606846976)
theorem okS_cases (lo hi : Int) : (okS lo hi = true ∧ -1152921504606846976 ≤ lo ∧ lo ≤ hi ∧ hi ≤ 1152921504606846976) ∨ (okS lo hi = false ∧ (lo < -1152921504606846976 ∨ (-1152921504606846976 ≤ lo ∧ hi < lo) ∨ (-1152921504606846976 ≤ lo ∧ lo ≤ hi ∧ 1152921504606846976 < hi))) := by
  by_cases hb : okS lo hi = true
  · have hb' := hb
    simp only [okS, decide_eq_true_eq] at hb'
    exact .inl ⟨hb, hb'⟩
  · refine .inr ⟨by simpa using hb, ?_⟩
    simp only [okS, decide_eq_true_eq] at hb; omega
theorem okS_in {lo hi : Int} (h : okS lo hi = true) : -1152921504606846976 ≤ lo ∧ lo ≤ hi ∧ hi ≤ 1152921504606846976 := by simpa [okS] using h

set_option maxHeartbeats 1000000 in
theorem valid_any (x y : Int) (w : World) : Calls Try.prog 68 #[.agg #[.int .i64 x, .int .i64 y]] w fun e w' => e = .returned (.bool (okS x y)) ∧ Ext w w' := by
  have HX := Lib.hid ((Ext.refl w).alloc (.cells #[.int .i64 x, .int .i64 y] 44))
  rcases okS_cases x y with ⟨hb, b1, b2, b3⟩ | ⟨hb, b1 | ⟨b1, b2⟩ | ⟨b1, b2, b3⟩⟩
  all_goals
    rw [hb]
    clear hb
    go_enter Try.func68, Try.ntmps68
    go_wp2
    go_ret
    refine ⟨?_, HX.out⟩
    first
    | rfl
    | (show Ending.returned (.bool (decide (y ≤ 1152921504606846976))) = Ending.returned (.bool false); rw [decide_eq_false (by omega)])
set_option maxHeartbeats 1000000 in
theorem both_any (a b c d : Int) (w : World) : Calls Try.prog 86 #[.agg #[.int .i64 a, .int .i64 b], .agg #[.int .i64 c, .int .i64 d]] w fun e w' => e = .returned (.bool (okS a b && okS c d)) ∧ Ext w w' := by
  obtain ⟨p, hp⟩ : ∃ p, okS a b = p := ⟨_, rfl⟩
  rw [hp]
  have HP := Lib.hid hp
  clear hp
  have hXw : Ext w ((w.alloc (.cells #[.int .i64 a, .int .i64 b] 44)).alloc (.cells #[.int .i64 c, .int .i64 d] 44)) := ((Ext.refl w).alloc _).alloc _
  have k2 := Blk.new (w.alloc (.cells #[.int .i64 a, .int .i64 b] 44)) 44 #[.int .i64 c, .int .i64 d]
  rw [show (w.alloc (.cells #[.int .i64 a, .int .i64 b] 44)).heap.size = w.heap.size + 1 by simp] at k2
  go_enter Try.func86, Try.ntmps86
  go_wp2_with fail
  generalize ((w.alloc (.cells #[.int .i64 a, .int .i64 b] 44)).alloc (.cells #[.int .i64 c, .int .i64 d] 44)) = w1 at hXw k2 ⊢
  refine (valid_any a b _).mono ?_
  rw [HP.out]
  rintro e w2 ⟨rfl, hX2⟩
  have x1 := (k2.ext hX2).cell 0
  have x2 := (k2.ext hX2).cell 1
  simp only [List.getElem?_toArray, List.getElem?_cons_zero, List.getElem?_cons_succ] at x1 x2
  have HX2 := Lib.hid (hXw.trans hX2)
  clear hXw hX2 k2
  cases p
  · go_wp2
    go_ret
    exact ⟨rfl, HX2.out⟩
  · go_wp2_with fail
    refine (valid_any c d _).mono ?_
    rintro e w3 ⟨rfl, hX3⟩
    have HX3 := Lib.hid (HX2.out.trans hX3)
    clear hX3
    go_wp2
    go_ret
    exact ⟨rfl, HX3.out⟩


set_option maxHeartbeats 1000000 in
theorem span_ok (lo hi : Int) (w : World) (h0 : -1152921504606846976 ≤ lo) (h1 : hi ≤ 1152921504606846976) : Calls Try.prog 84 #[.int .i64 lo, .int .i64 hi] w (RetE w (.agg #[.int .i64 lo, .int .i64 hi]) 0) := by
  have HX := Lib.hid ((Ext.refl w).alloc (.cells #[.int .i64 lo, .int .i64 hi] 44))
  go_enter Try.func84, Try.ntmps84
  go_wp2
  refine bodyPost_ret (v := .tuple #[.agg #[.int .i64 lo, .int .i64 hi], .int .i64 0]) (by simp [results, Try.results84, go_sem, *]) rfl ?_
  exact ⟨rfl, HX.out⟩
end Go.Proofs.Ytagcgldhhdecjaa
namespace Go.Proofs.Ytagcgldhhdecjaa
open Go.RowKit

set_option maxRecDepth 100000 in
set_option maxHeartbeats 2000000 in
theorem eplus_ok (a b c d : Int) (w : World) (hab : okS a b = true) (hcd : okS c d = true) (h0 : -1152921504606846976 ≤ a + c) (h1 : b + d ≤ 1152921504606846976) :
    Calls Try.prog 70 #[.agg #[.int .i64 a, .int .i64 b], .agg #[.int .i64 c, .int .i64 d]] w (RetE w (.agg #[.int .i64 (a + c), .int .i64 (b + d)]) 0) := by
  obtain ⟨a0, a1, a2⟩ := okS_in hab
  obtain ⟨c0, c1, c2⟩ := okS_in hcd
  have HB : Hid ((okS a b && okS c d) = true) := by show _ = _; rw [hab, hcd]; rfl
  clear hab hcd
  have hXe : Ext w (((w.alloc (.cells #[.int .i64 a, .int .i64 b] 44)).alloc (.cells #[.int .i64 c, .int .i64 d] 44)).alloc (.cells #[.int .i64 0, .int .i64 0] 44)) := ((((Ext.refl w).alloc _).alloc _).alloc _)
  have kA : Blk (((w.alloc (.cells #[.int .i64 a, .int .i64 b] 44)).alloc (.cells #[.int .i64 c, .int .i64 d] 44)).alloc (.cells #[.int .i64 0, .int .i64 0] 44)) w.heap.size 44 #[.int .i64 a, .int .i64 b] := Blk.alloc (Blk.alloc (Blk.at_ (by simp)) _) _
  have kB : Blk (((w.alloc (.cells #[.int .i64 a, .int .i64 b] 44)).alloc (.cells #[.int .i64 c, .int .i64 d] 44)).alloc (.cells #[.int .i64 0, .int .i64 0] 44)) (w.heap.size + 1) 44 #[.int .i64 c, .int .i64 d] := Blk.alloc (Blk.at_ (by simp)) _
  have kR : Blk (((w.alloc (.cells #[.int .i64 a, .int .i64 b] 44)).alloc (.cells #[.int .i64 c, .int .i64 d] 44)).alloc (.cells #[.int .i64 0, .int .i64 0] 44)) (w.heap.size + 2) 44 #[.int .i64 0, .int .i64 0] := Blk.at_ (by simp)
  go_enter Try.func70, Try.ntmps70
  go_wp2_with fail
  generalize (((w.alloc (.cells #[.int .i64 a, .int .i64 b] 44)).alloc (.cells #[.int .i64 c, .int .i64 d] 44)).alloc (.cells #[.int .i64 0, .int .i64 0] 44)) = w1 at hXe kA kB kR ⊢
  have HX := Lib.hid hXe
  clear hXe
  have KA := Lib.hid kA
  clear kA
  have KB := Lib.hid kB
  clear kB
  have KR := Lib.hid kR
  clear kR
  refine (both_any a b c d _).mono ?_
  rw [HB.out]
  rintro e w2 ⟨rfl, hX⟩
  replace HX := Lib.hid (HX.out.trans hX)
  replace KA := Lib.hid (KA.out.ext hX)
  replace KB := Lib.hid (KB.out.ext hX)
  replace KR := Lib.hid (KR.out.ext hX)
  clear hX
  have cA0 : w2.cell? ⟨w.heap.size, 0, none⟩ = some (.int .i64 a) := KA.out.cell 0
  have cA1 : w2.cell? ⟨w.heap.size, 1, none⟩ = some (.int .i64 b) := KA.out.cell 1
  have cB0 : w2.cell? ⟨(w.heap.size + 1), 0, none⟩ = some (.int .i64 c) := KB.out.cell 0
  have cB1 : w2.cell? ⟨(w.heap.size + 1), 1, none⟩ = some (.int .i64 d) := KB.out.cell 1
  have cR0 : w2.cell? ⟨(w.heap.size + 2), 0, none⟩ = some (.int .i64 0) := KR.out.cell 0
  have fR0 : w2.frozen? ⟨(w.heap.size + 2), 0, none⟩ = false := KR.out.free 0
  have cR1 : w2.cell? ⟨(w.heap.size + 2), 1, none⟩ = some (.int .i64 0) := KR.out.cell 1
  have fR1 : w2.frozen? ⟨(w.heap.size + 2), 1, none⟩ = false := KR.out.free 1
  go_wp2_with fail
  clear cA0 cA1 cB0 cB1 cR0 fR0 cR1 fR1
  refine (span_ok _ _ _ (by omega) (by omega)).mono ?_
  rintro e w3 ⟨rfl, hX⟩
  replace HX := Lib.hid (HX.out.trans hX)
  replace KA := Lib.hid (KA.out.ext hX)
  replace KB := Lib.hid (KB.out.ext hX)
  replace KR := Lib.hid (KR.out.ext hX)
  clear hX
  have cA0 : w3.cell? ⟨w.heap.size, 0, none⟩ = some (.int .i64 a) := KA.out.cell 0
  have cA1 : w3.cell? ⟨w.heap.size, 1, none⟩ = some (.int .i64 b) := KA.out.cell 1
  have cB0 : w3.cell? ⟨(w.heap.size + 1), 0, none⟩ = some (.int .i64 c) := KB.out.cell 0
  have cB1 : w3.cell? ⟨(w.heap.size + 1), 1, none⟩ = some (.int .i64 d) := KB.out.cell 1
  have cR0 : w3.cell? ⟨(w.heap.size + 2), 0, none⟩ = some (.int .i64 0) := KR.out.cell 0
  have fR0 : w3.frozen? ⟨(w.heap.size + 2), 0, none⟩ = false := KR.out.free 0
  have cR1 : w3.cell? ⟨(w.heap.size + 2), 1, none⟩ = some (.int .i64 0) := KR.out.cell 1
  have fR1 : w3.frozen? ⟨(w.heap.size + 2), 1, none⟩ = false := KR.out.free 1
  go_wp2
  refine bodyPost_ret (v := .tuple #[.agg #[.int .i64 (a + c), .int .i64 (b + d)], .int .i64 0]) (by simp [results, Try.results70, go_sem, *]) rfl ?_
  exact ⟨rfl, HX.out.two (by omega) _ _⟩

end Go.Proofs.Ytagcgldhhdecjaa
namespace Go.Proofs.Ytagcgldhhdecjaa
open Go.RowKit

theorem down_facts {a n : Int} (hn : 1 ≤ n) (ha : a < 0) : (a.tmod n = 0 ∧ a.tdiv n = a / n) ∨ (a.tmod n < 0 ∧ a.tdiv n = a / n + 1) := by
  have h1 := Int.tdiv_eq_ediv (a := a) (b := n)
  have h2 := Int.tmod_eq_emod (a := a) (b := n)
  by_cases hd : n ∣ a
  · left
    rw [if_pos (.inr hd)] at h1 h2
    have := Int.emod_eq_zero_of_dvd hd
    omega
  · right
    have hne : ¬ (0 ≤ a ∨ n ∣ a) := fun h => by rcases h with h | h; omega; exact hd h
    rw [if_neg hne] at h1 h2
    have h3 := Int.emod_lt_of_pos a (show 0 < n by omega)
    have h4 : n.sign = 1 := Int.sign_eq_one_of_pos (by omega)
    omega
theorem div_in {a n lo hi : Int} (hn : 1 ≤ n) (h0 : lo ≤ 0) (h1 : 0 ≤ hi) (ha : lo ≤ a) (hb : a ≤ hi) : lo ≤ a / n ∧ a / n ≤ hi := by
  constructor
  · rw [Int.le_ediv_iff_mul_le (by omega)]
    have : lo * n ≤ lo * 1 := Int.mul_le_mul_of_nonpos_left h0 hn
    omega
  · by_cases h : 0 ≤ a
    · have := Int.ediv_le_self n h
      omega
    · have : a / n < 0 := Int.ediv_neg_of_neg_of_pos (by omega) (by omega)
      omega

set_option maxHeartbeats 1000000 in
theorem down_any (a n : Int) (w : World) (a0 : -1152921504606846976 ≤ a) (a1 : a ≤ 1152921504606846976) (hn : 1 ≤ n) (hn2 : n ≤ 9223372036854775807) :
    Calls Try.prog 85 #[.int .i64 a, .int .i64 n] w fun e w' => e = .returned (.int .i64 (a / n)) ∧ w = w' := by
  obtain ⟨d0, d1⟩ := div_in hn (show -1152921504606846976 ≤ (0 : Int) by omega) (show (0 : Int) ≤ 1152921504606846976 by omega) a0 a1
  have hnz : (n == 0) = false := by simp; omega
  by_cases h : 0 ≤ a
  · have hm := Int.emod_nonneg a (show n ≠ 0 by omega)
    have hm2 := Int.emod_lt_of_pos a (show 0 < n by omega)
    have e1 : a.tdiv n = a / n := Int.tdiv_eq_ediv_of_nonneg h
    have e2 : a.tmod n = a % n := Int.tmod_eq_emod_of_nonneg h
    have HD : Hid (a.tdiv n = a / n) := e1
    clear e1 e2 HD
    go_enter Try.func85, Try.ntmps85
    go_wp2
    go_ret
    exact ⟨rfl, rfl⟩
  · have hneg : a < 0 := by omega
    rcases down_facts hn hneg with ⟨e1, e2⟩ | ⟨e1, e2⟩
    · rw [← e2] at d0 d1 ⊢
      have HE := Lib.hid e2
      clear e2
      go_enter Try.func85, Try.ntmps85
      go_wp2
      go_ret
      exact ⟨rfl, rfl⟩
    · have e3 : a / n = a.tdiv n - 1 := by omega
      rw [e3] at d0 d1 ⊢
      clear e2 e3
      have d2 : -9223372036854775808 ≤ a.tdiv n - 1 := by omega
      go_enter Try.func85, Try.ntmps85
      go_wp2
      go_ret
      exact ⟨rfl, rfl⟩

set_option maxRecDepth 100000 in
set_option maxHeartbeats 2000000 in
theorem over_r3 (ga : Nat) (x y n : Int) (w : World) (x0 : w.cell? ⟨ga, 0, none⟩ = some (.int .i64 x)) (x1 : w.cell? ⟨ga, 1, none⟩ = some (.int .i64 y)) (a0 : -1152921504606846976 ≤ x) (a1 : x ≤ y) (a2 : y ≤ 1152921504606846976) (hn : 1 ≤ n) (hn2 : n ≤ 9223372036854775807) (h0 : -1152921504606846976 ≤ x / n) (h1 : -((-y) / n) ≤ 1152921504606846976) (a : Act) (Q : Exit → Act → World → Prop) (hsize : 27 ≤ a.tmps.size)
    (s1 : a.tmps[1]? = some (.int .i64 n))
    (s2 : a.tmps[2]? = some (.pointer (some ⟨ga, 0, none⟩)))
    (hend : ∀ (xv0 xv1 xv2 xv3 xv4 xv5 xv6 xv7 xv8 xv9 xv10 xv11 xv12 : Value) (W : World), (xv0 = .pointer (some ⟨ga, 0, none⟩)) → (xv1 = .int .i64 x) → (xv2 = .int .i64 n) → (xv3 = .int .i64 (x / n)) → (xv4 = .pointer (some ⟨ga, 1, none⟩)) → (xv5 = .int .i64 y) → (xv6 = .int .i64 (-y)) → (xv7 = .int .i64 n) → (xv8 = .int .i64 ((-y) / n)) → (xv9 = .int .i64 (-((-y) / n))) → (xv10 = .tuple #[.agg #[.int .i64 (x / n), .int .i64 (-((-y) / n))], .int .i64 0]) → (xv11 = .agg #[.int .i64 (x / n), .int .i64 (-((-y) / n))]) → (xv12 = .int .i64 0) → Ext w W → wpList Try.prog (rops Try.f69 3).toArray Q ((rops Try.f69 3).drop 13) (((((((((((((a.put (some 14) xv0).put (some 15) xv1).put (some 16) xv2).put (some 17) xv3).put (some 18) xv4).put (some 19) xv5).put (some 20) xv6).put (some 21) xv7).put (some 22) xv8).put (some 23) xv9).put (some 24) xv10).put (some 25) xv11).put (some 26) xv12) W) :
    (Code.region 3 (rops Try.f69 3).toArray true).wp Try.prog Q a w := by
  have hmono : ∀ (W W' : World) (j : Nat) (u : Value), Ext W W' → (fun (i : Nat) (v : Value) (W : World) => match i with
    | 0 => v = .pointer (some ⟨ga, 0, none⟩)
    | 1 => v = .int .i64 x
    | 2 => v = .int .i64 n
    | 3 => v = .int .i64 (x / n)
    | 4 => v = .pointer (some ⟨ga, 1, none⟩)
    | 5 => v = .int .i64 y
    | 6 => v = .int .i64 (-y)
    | 7 => v = .int .i64 n
    | 8 => v = .int .i64 ((-y) / n)
    | 9 => v = .int .i64 (-((-y) / n))
    | 10 => v = .tuple #[.agg #[.int .i64 (x / n), .int .i64 (-((-y) / n))], .int .i64 0]
    | 11 => v = .agg #[.int .i64 (x / n), .int .i64 (-((-y) / n))]
    | 12 => v = .int .i64 0
    | _ => True) j u W → (fun (i : Nat) (v : Value) (W : World) => match i with
    | 0 => v = .pointer (some ⟨ga, 0, none⟩)
    | 1 => v = .int .i64 x
    | 2 => v = .int .i64 n
    | 3 => v = .int .i64 (x / n)
    | 4 => v = .pointer (some ⟨ga, 1, none⟩)
    | 5 => v = .int .i64 y
    | 6 => v = .int .i64 (-y)
    | 7 => v = .int .i64 n
    | 8 => v = .int .i64 ((-y) / n)
    | 9 => v = .int .i64 (-((-y) / n))
    | 10 => v = .tuple #[.agg #[.int .i64 (x / n), .int .i64 (-((-y) / n))], .int .i64 0]
    | 11 => v = .agg #[.int .i64 (x / n), .int .i64 (-((-y) / n))]
    | 12 => v = .int .i64 0
    | _ => True) j u W' := by
    intro W W' j u hX h
    match j, h with
    | 0, h => exact h
    | 1, h => exact h
    | 2, h => exact h
    | 3, h => exact h
    | 4, h => exact h
    | 5, h => exact h
    | 6, h => exact h
    | 7, h => exact h
    | 8, h => exact h
    | 9, h => exact h
    | 10, h => exact h
    | 11, h => exact h
    | 12, h => exact h
    | _ + 13, h => exact h
  have hsz : ∀ d, some d ∈ ([some 14, some 15, some 16, some 17, some 18, some 19, some 20, some 21, some 22, some 23, some 24, some 25, some 26] : List (Option Tmp)) → d < a.tmps.size := slots_lt (by decide) hsize
  refine wp_region_j 13 [some 14, some 15, some 16, some 17, some 18, some 19, some 20, some 21, some 22, some 23, some 24, some 25, some 26] [[], [0], [], [1, 2], [], [4], [5], [], [6, 7], [8], [3, 9], [10], [10]] [[], [], [], [], [], [], [], [], [], [], [], [], []] (fun (i : Nat) (v : Value) (W : World) => match i with
    | 0 => v = .pointer (some ⟨ga, 0, none⟩)
    | 1 => v = .int .i64 x
    | 2 => v = .int .i64 n
    | 3 => v = .int .i64 (x / n)
    | 4 => v = .pointer (some ⟨ga, 1, none⟩)
    | 5 => v = .int .i64 y
    | 6 => v = .int .i64 (-y)
    | 7 => v = .int .i64 n
    | 8 => v = .int .i64 ((-y) / n)
    | 9 => v = .int .i64 (-((-y) / n))
    | 10 => v = .tuple #[.agg #[.int .i64 (x / n), .int .i64 (-((-y) / n))], .int .i64 0]
    | 11 => v = .agg #[.int .i64 (x / n), .int .i64 (-((-y) / n))]
    | 12 => v = .int .i64 0
    | _ => True) (fun _ W => Ext w W) (by kernel_rfl) (by kernel_rfl) hsz (fun _ _ _ _ h => h) ((Ext.refl w).drew) ?_ ?_
  · clear hend
    simp only [rops, Try.f69, regOf, Option.bind_some, Nat.reduceBEq, if_true, if_false, Bool.false_eq_true, Option.getD_some]
    simp only [List.take_succ_cons, List.take_zero]
    refine ⟨?_, ?_, ?_, ?_, ?_, ?_, ?_, ?_, ?_, ?_, ?_, ?_, ?_, trivial⟩
    · intro done us W hJ hdep haft hnot b hb hb' K hK Q'
      have e2 := (hb' 2 (by simp)).trans s2
      clear hb hb'
      go_simp
      exact hK _ _ rfl (fun _ _ _ h => h) hJ
    · intro done us W hJ hdep haft hnot b hb hb' K hK Q'
      simp only [List.getD_cons_succ, List.getD_cons_zero, List.mem_cons, List.not_mem_nil, or_false, forall_eq_or_imp, forall_eq] at hdep
      have e14 := hb 0 14 rfl
      have d0 := hdep
      rw [d0.1] at e14
      clear hb hb' hdep d0
      have q := Ext.cell hJ x0
      go_simp
      exact hK _ _ rfl (fun _ _ _ h => h) hJ
    · intro done us W hJ hdep haft hnot b hb hb' K hK Q'
      have e1 := (hb' 1 (by simp)).trans s1
      clear hb hb'
      go_simp
      exact hK _ _ rfl (fun _ _ _ h => h) hJ
    · intro done us W hJ hdep haft hnot b hb hb' K hK Q'
      simp only [List.getD_cons_succ, List.getD_cons_zero, List.mem_cons, List.not_mem_nil, or_false, forall_eq_or_imp, forall_eq] at hdep
      have e15 := hb 1 15 rfl
      have e16 := hb 2 16 rfl
      have d1 := hdep.1
      have d2 := hdep.2
      rw [d1.1] at e15
      rw [d2.1] at e16
      clear hb hb' hdep d1 d2
      go_simp
      refine (down_any _ _ _ a0 (by omega) hn hn2).mono ?_
      rintro e w' ⟨rfl, rfl⟩
      exact hK _ _ rfl (fun j u _ h => h) hJ
    · intro done us W hJ hdep haft hnot b hb hb' K hK Q'
      have e2 := (hb' 2 (by simp)).trans s2
      clear hb hb'
      go_simp
      exact hK _ _ rfl (fun _ _ _ h => h) hJ
    · intro done us W hJ hdep haft hnot b hb hb' K hK Q'
      simp only [List.getD_cons_succ, List.getD_cons_zero, List.mem_cons, List.not_mem_nil, or_false, forall_eq_or_imp, forall_eq] at hdep
      have e18 := hb 4 18 rfl
      have d4 := hdep
      rw [d4.1] at e18
      clear hb hb' hdep d4
      have q := Ext.cell hJ x1
      go_simp
      exact hK _ _ rfl (fun _ _ _ h => h) hJ
    · intro done us W hJ hdep haft hnot b hb hb' K hK Q'
      simp only [List.getD_cons_succ, List.getD_cons_zero, List.mem_cons, List.not_mem_nil, or_false, forall_eq_or_imp, forall_eq] at hdep
      have e19 := hb 5 19 rfl
      have d5 := hdep
      rw [d5.1] at e19
      clear hb hb' hdep d5
      have hw : IntKind.i64.wrap (-y) = -y := by rw [IntKind.wrap_i64]; omega
      go_simp
      exact hK _ _ rfl (fun _ _ _ h => h) hJ
    · intro done us W hJ hdep haft hnot b hb hb' K hK Q'
      have e1 := (hb' 1 (by simp)).trans s1
      clear hb hb'
      go_simp
      exact hK _ _ rfl (fun _ _ _ h => h) hJ
    · intro done us W hJ hdep haft hnot b hb hb' K hK Q'
      simp only [List.getD_cons_succ, List.getD_cons_zero, List.mem_cons, List.not_mem_nil, or_false, forall_eq_or_imp, forall_eq] at hdep
      have e20 := hb 6 20 rfl
      have e21 := hb 7 21 rfl
      have d6 := hdep.1
      have d7 := hdep.2
      rw [d6.1] at e20
      rw [d7.1] at e21
      clear hb hb' hdep d6 d7
      go_simp
      refine (down_any _ _ _ (by omega) (by omega) hn hn2).mono ?_
      rintro e w' ⟨rfl, rfl⟩
      exact hK _ _ rfl (fun j u _ h => h) hJ
    · intro done us W hJ hdep haft hnot b hb hb' K hK Q'
      simp only [List.getD_cons_succ, List.getD_cons_zero, List.mem_cons, List.not_mem_nil, or_false, forall_eq_or_imp, forall_eq] at hdep
      have e22 := hb 8 22 rfl
      have d8 := hdep
      rw [d8.1] at e22
      clear hb hb' hdep d8
      have g := div_in hn (show -1152921504606846976 ≤ (0 : Int) by omega) (show (0 : Int) ≤ 1152921504606846976 by omega) (show -1152921504606846976 ≤ -y by omega) (show -y ≤ 1152921504606846976 by omega)
      obtain ⟨g1, g2⟩ := g
      have hw : IntKind.i64.wrap (-((-y) / n)) = -((-y) / n) := by rw [IntKind.wrap_i64]; omega
      go_simp
      exact hK _ _ rfl (fun _ _ _ h => h) hJ
    · intro done us W hJ hdep haft hnot b hb hb' K hK Q'
      simp only [List.getD_cons_succ, List.getD_cons_zero, List.mem_cons, List.not_mem_nil, or_false, forall_eq_or_imp, forall_eq] at hdep
      have e17 := hb 3 17 rfl
      have e23 := hb 9 23 rfl
      have d3 := hdep.1
      have d9 := hdep.2
      rw [d3.1] at e17
      rw [d9.1] at e23
      clear hb hb' hdep d3 d9
      go_simp
      refine (span_ok _ _ _ h0 h1).mono ?_
      rintro e w' ⟨rfl, hX⟩
      exact hK _ _ rfl (fun j u _ h => hmono _ _ j u hX h) (Ext.trans hJ hX)
    · intro done us W hJ hdep haft hnot b hb hb' K hK Q'
      simp only [List.getD_cons_succ, List.getD_cons_zero, List.mem_cons, List.not_mem_nil, or_false, forall_eq_or_imp, forall_eq] at hdep
      have e24 := hb 10 24 rfl
      have d10 := hdep
      rw [d10.1] at e24
      clear hb hb' hdep d10
      go_simp
      exact hK _ _ rfl (fun _ _ _ h => h) hJ
    · intro done us W hJ hdep haft hnot b hb hb' K hK Q'
      simp only [List.getD_cons_succ, List.getD_cons_zero, List.mem_cons, List.not_mem_nil, or_false, forall_eq_or_imp, forall_eq] at hdep
      have e24 := hb 10 24 rfl
      have d10 := hdep
      rw [d10.1] at e24
      clear hb hb' hdep d10
      go_simp
      exact hK _ _ rfl (fun _ _ _ h => h) hJ
  · intro us W hV hJ
    exact hend (us 0) (us 1) (us 2) (us 3) (us 4) (us 5) (us 6) (us 7) (us 8) (us 9) (us 10) (us 11) (us 12) W (hV 0 (by omega)) (hV 1 (by omega)) (hV 2 (by omega)) (hV 3 (by omega)) (hV 4 (by omega)) (hV 5 (by omega)) (hV 6 (by omega)) (hV 7 (by omega)) (hV 8 (by omega)) (hV 9 (by omega)) (hV 10 (by omega)) (hV 11 (by omega)) (hV 12 (by omega)) hJ
set_option maxRecDepth 100000 in
set_option maxHeartbeats 2000000 in
theorem eover_ok (a b n : Int) (w : World) (h : okS a b = true) (hn : 1 ≤ n) (hn2 : n ≤ 9223372036854775807) :
    Calls Try.prog 69 #[.agg #[.int .i64 (a), .int .i64 (b)], .int .i64 n] w (RetE w (.agg #[.int .i64 (a / n), .int .i64 (-((-b) / n))]) 0) := by
  obtain ⟨a0, a1, a2⟩ := okS_in h
  have HB := Lib.hid h
  clear h
  obtain ⟨g1, g2⟩ := div_in hn (show -1152921504606846976 ≤ (0 : Int) by omega) (show (0 : Int) ≤ 1152921504606846976 by omega) a0 (show a ≤ 1152921504606846976 by omega)
  obtain ⟨g3, g4⟩ := div_in hn (show -1152921504606846976 ≤ (0 : Int) by omega) (show (0 : Int) ≤ 1152921504606846976 by omega) (show -1152921504606846976 ≤ -b by omega) (show -b ≤ 1152921504606846976 by omega)
  have H1 := Lib.hid (show -1152921504606846976 ≤ a / n ∧ -((-b) / n) ≤ 1152921504606846976 by omega)
  clear g1 g2 g3 g4
  have hXe : Ext w ((w.alloc (.cells #[.int .i64 a, .int .i64 b] 44)).alloc (.cells #[.int .i64 0, .int .i64 0] 44)) := (((Ext.refl w).alloc _).alloc _)
  have kA : Blk ((w.alloc (.cells #[.int .i64 a, .int .i64 b] 44)).alloc (.cells #[.int .i64 0, .int .i64 0] 44)) w.heap.size 44 #[.int .i64 a, .int .i64 b] := Blk.alloc (Blk.at_ (by simp)) _
  have kR : Blk ((w.alloc (.cells #[.int .i64 a, .int .i64 b] 44)).alloc (.cells #[.int .i64 0, .int .i64 0] 44)) (w.heap.size + 1) 44 #[.int .i64 0, .int .i64 0] := Blk.at_ (by simp)
  go_enter Try.func69, Try.ntmps69
  go_wp2_with fail
  generalize ((w.alloc (.cells #[.int .i64 a, .int .i64 b] 44)).alloc (.cells #[.int .i64 0, .int .i64 0] 44)) = w1 at hXe kA kR ⊢
  have HX := Lib.hid hXe
  clear hXe
  have KA := Lib.hid kA
  clear kA
  have KR := Lib.hid kR
  clear kR
  refine (valid_any a b _).mono ?_
  rw [HB.out]
  rintro e w2 ⟨rfl, hX⟩
  replace HX := Lib.hid (HX.out.trans hX)
  replace KA := Lib.hid (KA.out.ext hX)
  replace KR := Lib.hid (KR.out.ext hX)
  clear hX
  have cA0 : w2.cell? ⟨w.heap.size, 0, none⟩ = some (.int .i64 a) := KA.out.cell 0
  have cA1 : w2.cell? ⟨w.heap.size, 1, none⟩ = some (.int .i64 b) := KA.out.cell 1
  have cR0 : w2.cell? ⟨(w.heap.size + 1), 0, none⟩ = some (.int .i64 0) := KR.out.cell 0
  have cR1 : w2.cell? ⟨(w.heap.size + 1), 1, none⟩ = some (.int .i64 0) := KR.out.cell 1
  go_upto_region 3 with (fail)
  clear cA0 cA1 cR0 cR1
  refine over_r3 w.heap.size a b n w2 (KA.out.cell 0) (KA.out.cell 1) a0 a1 a2 hn hn2 H1.out.1 H1.out.2 _ _ (by simp) rfl rfl ?_
  rintro xv0 xv1 xv2 xv3 xv4 xv5 xv6 xv7 xv8 xv9 xv10 xv11 xv12 w3 rfl rfl rfl rfl rfl rfl rfl rfl rfl rfl rfl rfl rfl hXW
  simp only [rops, Try.f69, regOf, Option.bind_some, Nat.reduceBEq, if_true, if_false, Bool.false_eq_true, Option.getD_some, List.drop_succ_cons, List.drop_zero]
  simp only [Act.put, List.setIfInBounds_toArray, List.set_cons_succ, List.set_cons_zero]
  replace HX := Lib.hid (HX.out.trans hXW)
  replace KA := Lib.hid (KA.out.ext hXW)
  replace KR := Lib.hid (KR.out.ext hXW)
  clear hXW
  obtain ⟨lo, hlo⟩ : ∃ q, a / n = q := ⟨_, rfl⟩
  obtain ⟨hi, hhi⟩ : ∃ q, -((-b) / n) = q := ⟨_, rfl⟩
  rw [hlo, hhi]
  have HLO := Lib.hid hlo
  have HHI := Lib.hid hhi
  clear hlo hhi
  have cA0 : w3.cell? ⟨w.heap.size, 0, none⟩ = some (.int .i64 a) := KA.out.cell 0
  have cA1 : w3.cell? ⟨w.heap.size, 1, none⟩ = some (.int .i64 b) := KA.out.cell 1
  have cR0 : w3.cell? ⟨(w.heap.size + 1), 0, none⟩ = some (.int .i64 0) := KR.out.cell 0
  have fR0 : w3.frozen? ⟨(w.heap.size + 1), 0, none⟩ = false := KR.out.free 0
  have cR1 : w3.cell? ⟨(w.heap.size + 1), 1, none⟩ = some (.int .i64 0) := KR.out.cell 1
  have fR1 : w3.frozen? ⟨(w.heap.size + 1), 1, none⟩ = false := KR.out.free 1
  go_wp2
  refine bodyPost_ret (v := .tuple #[.agg #[.int .i64 (lo), .int .i64 (hi)], .int .i64 0]) (by simp [results, Try.results69, go_sem, *]) rfl ?_
  exact ⟨by rw [HLO.out, HHI.out], HX.out.two (by omega) _ _⟩

end Go.Proofs.Ytagcgldhhdecjaa
namespace Go.Proofs.Ytagcgldhhdecjaa
open Go.RowKit

/-- Some rational numbers of the reference in a row. -/
def QsAt (w : World) (A : Option Addr) (n : Nat) (qs : List Rat) : Prop := qs.length = n ∧ ∀ j q, qs[j]? = some q → ∃ b o s A' l c B m k, A = some ⟨b, o, none⟩ ∧ w.cell? ⟨b, o + j * 3, none⟩ = some (.bool s) ∧ w.cell? ⟨b, o + j * 3 + 1, none⟩ = some (.slice A' l c) ∧ w.cell? ⟨b, o + j * 3 + 2, none⟩ = some (.slice B m k) ∧ QZ w (.agg #[.bool s, .slice A' l c, .slice B m k]) q
theorem QsAt.ext {w w' : World} {A : Option Addr} {n : Nat} {qs : List Rat} (h : QsAt w A n qs) (he : Ext w w') : QsAt w' A n qs := ⟨h.1, fun j q hq => by
  obtain ⟨b, o, s, A', l, c, B, m, k, h1, h2, h3, h4, h5⟩ := h.2 j q hq
  exact ⟨b, o, s, A', l, c, B, m, k, h1, he.cell h2, he.cell h3, he.cell h4, h5.ext he⟩⟩
end Go.Proofs.Ytagcgldhhdecjaa
namespace Go.Proofs.Ytagcgldhhdecjaa

theorem rng_le {d : Det} {a b : Int} (hd : DetOk d) (h : a ≤ b) : rngLo d a ≤ rngHi d b := by
  unfold rngLo rngHi
  have hs : d.step * a ≤ d.step * b := Int.mul_le_mul_of_nonneg_left h (by have := hd.2.2.2.2.1; omega)
  omega
theorem okS_iff (a b : Int) : okS a b = decide (okR a b) := by
  rcases okS_cases a b with ⟨hb, h1, h2, h3⟩ | ⟨hb, h⟩
  · rw [hb, decide_eq_true (show okR a b from ⟨by omega, by omega, by omega⟩)]
  · rw [hb, decide_eq_false (fun hh => by unfold okR at hh; omega)]
end Go.Proofs.Ytagcgldhhdecjaa
namespace Go.Proofs.Ytagcgldhhdecjaa
open Go.RowKit

theorem EcL.far {base g : Nat} {w w' : World} {v : Value} {es : List Ech} (h : EcL base w v es) (hg : g < base) (hk : Keeps [g] w w') : EcL base w' v es := by
  refine ownsRow_keeps h hk fun k hk' => ?_
  have := (h.lt k hk').1
  simp
  omega
end Go.Proofs.Ytagcgldhhdecjaa
