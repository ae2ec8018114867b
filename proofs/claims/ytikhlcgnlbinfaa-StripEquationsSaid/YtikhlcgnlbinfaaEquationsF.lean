/- Lemmas of the proof that follows (Equations, part 6): walks of functions by contract, and plain lemmas. Conditions: none. -/
import Derived.Test.YtikhlcgnlbinfaaEquationsE
namespace Go.Proofs.Ytikhlcgnlbinfaa
open Lib (hid)
abbrev Tab := Nat → RowF
/-- The first row from i on, of f rows, whose entry in column j is not 0. -/
def findR (T : Tab) (j : Nat) : Nat → Nat → Option Nat
 | 0, _ => none
 | f + 1, i => if T i j = 0 then findR T j f (i + 1) else some i
def swapR (T : Tab) (a b : Nat) : Tab := fun i => if i = a then T b else if i = b then T a else T i
def normR (T : Tab) (top : Nat) (lead : Rat) : Tab := fun i => if i = top then fun c => T top c / lead else T i
def clearR (T : Tab) (top j : Nat) : Tab := fun i => if i = top then T top else fun c => T i c - T i j * T top c
structure GSt where
 tab : Tab
 top : Nat
 piv : List (Option Nat)
 last : Rat
 cols : List Nat
/-- One column. -/
def stepG (n j : Nat) (s : GSt) : GSt := match findR s.tab j (n - s.top) s.top with
 | none => ⟨s.tab, s.top, s.piv ++ [none], s.last, s.cols⟩
 | some at' => ⟨clearR (normR (swapR s.tab s.top at') s.top (s.tab at' j)) s.top j, s.top + 1, s.piv ++ [some s.top], s.last * s.tab at' j, s.cols ++ [j]⟩
def redG (n : Nat) (T : Tab) : Nat → GSt
 | 0 => ⟨T, 0, [], 1, []⟩
 | j + 1 => stepG n j (redG n T j)
theorem findR_some {T : Tab} {j f i k : Nat} (h : findR T j f i = some k) : i ≤ k ∧ k < i + f ∧ T k j ≠ 0 ∧ ∀ m, i ≤ m → m < k → T m j = 0 := by
 induction f generalizing i with
 | zero => cases h
 | succ f ih =>
  unfold findR at h
  split at h
  ·
   rename_i h0
   obtain ⟨h1, h2, h3, h4⟩ := ih h
   refine ⟨by omega, by omega, h3, fun m hm hk => ?_⟩
   rcases Nat.eq_or_lt_of_le hm with rfl | hm
   ·
    exact h0
   ·
    exact h4 m (by omega) hk
  ·
   rename_i h0
   injection h with h
   subst h
   exact ⟨Nat.le_refl _, by omega, h0, fun m h1 h2 => by omega⟩
theorem findR_none {T : Tab} {j f i : Nat} (h : findR T j f i = none) : ∀ m, i ≤ m → m < i + f → T m j = 0 := by
 induction f generalizing i with
 | zero => intro m h1 h2; omega
 | succ f ih =>
  unfold findR at h
  split at h
  ·
   rename_i h0
   intro m h1 h2
   rcases Nat.eq_or_lt_of_le h1 with rfl | h1
   ·
    exact h0
   ·
    exact ih h m (by omega) (by omega)
  ·
   cases h
/-- Where the reduction stands: M's rows in another order; every determinant of them (the first 'top' rows and any others behind) is 'last' times that of the table. -/
structure Stage (n B : Nat) (s : GSt) (Mp : Tab) : Prop where
 le : s.top ≤ n
 len : s.cols.length = s.top
 nz : s.last ≠ 0
 col : ∀ c ∈ s.cols, c < n
 one : ∀ i j, s.cols[i]? = some j → ∀ r, r < n → s.tab r j = if r = i then 1 else 0
 dt : ∀ is : List Nat, (∀ i ∈ is, s.top ≤ i ∧ i < n) → ∀ cs, dtr ((List.range s.top ++ is).map Mp) cs = s.last * dtr ((List.range s.top ++ is).map s.tab) cs
 int : ∀ i, i < n → ∀ c, c ≤ n → ∃ z : Int, Mp i c = (z : Rat) ∧ z.natAbs ≤ B
theorem Stage.start {n B : Nat} {M : Tab} (h : ∀ i, i < n → ∀ c, c ≤ n → ∃ z : Int, M i c = (z : Rat) ∧ z.natAbs ≤ B) : Stage n B ⟨M, 0, [], 1, []⟩ M where
 le := Nat.zero_le _
 len := rfl
 nz := (by decide : (1 : Rat) ≠ 0)
 col := by simp
 one := by simp
 dt := fun is _ cs => by simp only [List.range_zero, List.nil_append]; grind
 int := h
/-- Two rows of those that are left change their places. -/
theorem Stage.swap {n B : Nat} {s : GSt} {Mp : Tab} (h : Stage n B s Mp) {a : Nat} (_ha : s.top ≤ a) (hn : a < n) : Stage n B ⟨swapR s.tab s.top a, s.top, s.piv, s.last, s.cols⟩ (swapR Mp s.top a) := by
 have hsw : ∀ (T : Tab) i, swapR T s.top a i = T (if i = s.top then a else if i = a then s.top else i) := fun T i => by
  unfold swapR
  split
  ·
   rfl
  ·
   split <;> rfl
 refine ⟨h.le, h.len, h.nz, h.col, fun i j hj r hr => ?_, fun is hi cs => ?_, fun i hi c hc => ?_⟩
 ·
  simp only at hj ⊢
  have hik : i < s.top := by have := (List.getElem?_eq_some_iff.1 hj).1; have := h.len; omega
  simp only [hsw]
  rw [h.one i j hj _ (by split; omega; split <;> omega)]
  by_cases e : r = i
  ·
   subst e
   rw [if_neg (show ¬ r = s.top by omega), if_neg (show ¬ r = a by omega)]
  ·
   rw [if_neg e, if_neg]
   split
   ·
    omega
   ·
    split <;> omega
 ·
  simp only
  have e : ∀ T : Tab, (List.range s.top ++ is).map (swapR T s.top a) = (List.range s.top ++ is.map fun i => if i = s.top then a else if i = a then s.top else i).map T := fun T => by
   rw [List.map_append, List.map_append, List.map_map]
   congr 1
   ·
    refine List.map_congr_left fun i hi => ?_
    have := List.mem_range.1 hi
    rw [hsw, if_neg (by omega), if_neg (by omega)]
   ·
    exact List.map_congr_left fun i _ => hsw T i
  rw [e, e]
  refine h.dt _ (fun i hi' => ?_) cs
  obtain ⟨x, hx, rfl⟩ := List.mem_map.1 hi'
  have := hi x hx
  simp only at this
  split
  ·
   omega
  ·
   split <;> omega
 ·
  rw [hsw]
  refine h.int _ ?_ c hc
  split
  ·
   exact hn
  ·
   split
   ·
    omega
   ·
    exact hi
/-- The row on top is divided by its first entry, and multiples of it are taken from all others. -/
theorem Stage.clear {n B j : Nat} {s : GSt} {Mp : Tab} (h : Stage n B s Mp) (ht : s.top < n) (hj : j < n) (h0 : s.tab s.top j ≠ 0) (piv : List (Option Nat)) : Stage n B ⟨clearR (normR s.tab s.top (s.tab s.top j)) s.top j, s.top + 1, piv, s.last * s.tab s.top j, s.cols ++ [j]⟩ Mp := by
 obtain ⟨lead, hl⟩ : ∃ x, s.tab s.top j = x := ⟨_, rfl⟩
 rw [hl] at h0 ⊢
 have htop : clearR (normR s.tab s.top lead) s.top j s.top = fun c => s.tab s.top c / lead := by simp [clearR, normR]
 have hoth : ∀ i, i ≠ s.top → clearR (normR s.tab s.top lead) s.top j i = fun c => s.tab i c - s.tab i j * (s.tab s.top c / lead) := fun i hi => by
  unfold clearR normR
  rw [if_neg hi, if_neg hi, if_pos rfl]
 have hlj : lead / lead = 1 := by rw [Rat.div_def]; exact Rat.mul_inv_cancel _ h0
 refine ⟨ht, by rw [List.length_append, h.len]; rfl, ?_, ?_, fun i c hc r hr => ?_, fun is hi cs => ?_, h.int⟩
 ·
  exact fun e => (Rat.mul_eq_zero.1 e).elim h.nz h0
 ·
  intro c hc
  rcases List.mem_append.1 hc with hc | hc
  ·
   exact h.col c hc
  ·
   simp at hc; subst hc; exact hj
 ·
  simp only at hc ⊢
  by_cases hi : i < s.top
  ·
   rw [List.getElem?_append_left (by rw [h.len]; exact hi)] at hc
   have htc : s.tab s.top c = 0 := by rw [h.one i c hc _ ht, if_neg (by omega)]
   by_cases hr2 : r = s.top
   ·
    subst hr2
    rw [htop]
    simp only
    rw [htc, if_neg (by omega)]
    grind
   ·
    rw [hoth r hr2]
    simp only
    rw [htc, h.one i c hc r hr]
    grind
  ·
   have hit : i = s.top := by
    have := (List.getElem?_eq_some_iff.1 hc).1
    rw [List.length_append, h.len] at this
    simp at this
    omega
   subst hit
   rw [List.getElem?_append_right (by rw [h.len]; exact Nat.le_refl _), h.len, Nat.sub_self] at hc
   simp at hc
   subst hc
   by_cases hr2 : r = s.top
   ·
    subst hr2
    rw [htop, if_pos rfl]
    simp only
    rw [hl, hlj]
   ·
    rw [hoth r hr2, if_neg hr2]
    simp only
    rw [hl, hlj]
    grind
 ·
  simp only at hi ⊢
  have e1 : List.range (s.top + 1) ++ is = List.range s.top ++ s.top :: is := by rw [List.range_succ, List.append_assoc]; rfl
  rw [e1]
  have h1 := h.dt (s.top :: is) (fun i hx => by
   rcases List.mem_cons.1 hx with rfl | hx
   ·
    exact ⟨Nat.le_refl _, ht⟩
   ·
    have := hi i hx; omega) cs
  rw [h1, List.map_append, List.map_append, List.map_cons, List.map_cons, htop]
  -- the rows as rows of the elder table, each with a multiple of the new one
  have ef : (List.range s.top).map (clearR (normR s.tab s.top lead) s.top j) = ((List.range s.top).map s.tab).map fun x => fun c => x c + (-(x j)) * (s.tab s.top c / lead) := by
   rw [List.map_map]
   refine List.map_congr_left fun i hi => ?_
   have := List.mem_range.1 hi
   rw [hoth i (by omega)]
   funext c
   simp only [Function.comp]
   grind
  have eb : is.map (clearR (normR s.tab s.top lead) s.top j) = (is.map s.tab).map fun x => fun c => x c + (-(x j)) * (s.tab s.top c / lead) := by
   rw [List.map_map]
   refine List.map_congr_left fun i hx => ?_
   have := hi i hx
   rw [hoth i (by omega)]
   funext c
   simp only [Function.comp]
   grind
  rw [ef, eb]
  have h2 := dtr_clear_front ((List.range s.top).map s.tab) ((is.map s.tab).map fun x => fun c => x c + (-(x j)) * (s.tab s.top c / lead)) [] (fun c => s.tab s.top c / lead) (fun x => -(x j)) cs
  simp only [List.nil_append] at h2
  rw [h2]
  have h3 := dtr_clear_back ((List.range s.top).map s.tab) (is.map s.tab) [] (fun c => s.tab s.top c / lead) (fun x => -(x j)) cs
  simp only [List.nil_append] at h3
  rw [h3]
  have h4 := dtr_scale ((List.range s.top).map s.tab) (is.map s.tab) (fun c => s.tab s.top c / lead) lead cs
  have h5 : (fun c => lead * (s.tab s.top c / lead)) = s.tab s.top := by
   funext c
   rw [Rat.div_def, Rat.mul_comm (s.tab s.top c), ← Rat.mul_assoc, Rat.mul_inv_cancel _ h0, Rat.one_mul]
  rw [h5] at h4
  rw [h4]
  grind
theorem Stage.step {n B j : Nat} {s : GSt} {Mp : Tab} (h : Stage n B s Mp) (hj : j < n) : ∃ Mp', Stage n B (stepG n j s) Mp' := by
 unfold stepG
 cases hf : findR s.tab j (n - s.top) s.top with
 | none => exact ⟨Mp, h.le, h.len, h.nz, h.col, h.one, h.dt, h.int⟩
 | some a =>
  obtain ⟨h1, h2, h3, _⟩ := findR_some hf
  have hle := h.le
  have hs := h.swap h1 (by omega)
  have hc := hs.clear (j := j) (by simp only; omega) hj (by simp only [swapR, if_pos]; exact h3) (s.piv ++ [some s.top])
  simp only [swapR, if_pos] at hc
  exact ⟨_, hc⟩
theorem Stage.run {n B : Nat} {M : Tab} (h : ∀ i, i < n → ∀ c, c ≤ n → ∃ z : Int, M i c = (z : Rat) ∧ z.natAbs ≤ B) (j : Nat) (_hj : j ≤ n) : ∃ Mp, Stage n B (redG n M j) Mp := by
 induction j with
 | zero => exact ⟨M, Stage.start h⟩
 | succ j ih =>
  obtain ⟨Mp, hs⟩ := ih (by omega)
  exact hs.step (by omega)
/-- The last product of pivots, and it times every entry, are integers, and not too large. -/
theorem Stage.ints {n B : Nat} {s : GSt} {Mp : Tab} (h : Stage n B s Mp) : (∃ z : Int, s.last = (z : Rat) ∧ z.natAbs ≤ ((n + 1) * (B + 1)) ^ (n + 1)) ∧ ∀ i, i < n → ∀ c, c ≤ n → ∃ z : Int, s.last * s.tab i c = (z : Rat) ∧ z.natAbs ≤ ((n + 1) * (B + 1)) ^ (n + 1) := by
 have hle := h.le
 have hB : ∀ k, k ≤ n + 1 → (k * B) ^ k ≤ ((n + 1) * (B + 1)) ^ (n + 1) := fun k hk => by
  refine Nat.le_trans (Nat.pow_le_pow_left (Nat.mul_le_mul hk (Nat.le_succ B)) k) (Nat.pow_le_pow_right ?_ hk)
  exact Nat.mul_pos (by omega) (by omega)
 have hi : ∀ (is cs : List Nat), (∀ i ∈ is, i < n) → (∀ c ∈ cs, c ≤ n) → is.length = cs.length → cs.length ≤ n + 1 → ∃ z : Int, dtr (is.map Mp) cs = (z : Rat) ∧ z.natAbs ≤ ((n + 1) * (B + 1)) ^ (n + 1) := fun is cs h1 h2 h3 h4 => by
  obtain ⟨z, hz, hb⟩ := dtr_int (rs := is.map Mp) (cs := cs) (B := B) (fun r hr c hc => by
   obtain ⟨i, hi, rfl⟩ := List.mem_map.1 hr
   exact h.int i (h1 i hi) c (h2 c hc)) (by rw [List.length_map]; exact h3)
  exact ⟨z, hz, Nat.le_trans hb (hB _ h4)⟩
 have hu : UnitR ((List.range s.top).map s.tab) s.cols := by
  refine ⟨by simp [h.len], fun i r hr k j hj => ?_⟩
  rw [List.getElem?_map] at hr
  obtain ⟨x, hx, rfl⟩ := Option.map_eq_some_iff.1 hr
  have hlt := (List.getElem?_eq_some_iff.1 hx).1
  simp at hlt
  rw [List.getElem?_range hlt] at hx
  injection hx with hx
  subst hx
  exact h.one k j hj i (by omega)
 have hr : ∀ i ∈ List.range s.top, i < n := fun i hi => by have := List.mem_range.1 hi; omega
 have hc : ∀ c ∈ s.cols, c ≤ n := fun c hc => Nat.le_of_lt (h.col c hc)
 refine ⟨?_, fun i hin c hcn => ?_⟩
 ·
  have h1 := h.dt [] (by simp) s.cols
  rw [List.append_nil, dtr_unit hu] at h1
  obtain ⟨z, hz, hb⟩ := hi (List.range s.top) s.cols hr hc (by simp [h.len]) (by rw [h.len]; omega)
  exact ⟨z, by rw [← hz, h1]; grind, hb⟩
 ·
  by_cases hit : i < s.top
  ·
   have h1 := h.dt [] (by simp) (s.cols.set i c)
   rw [List.append_nil, dtr_unit_col (r := s.tab i) hu (by rw [List.getElem?_map, List.getElem?_range hit]; rfl)] at h1
   obtain ⟨z, hz, hb⟩ := hi (List.range s.top) (s.cols.set i c) hr (fun x hx => by
    rcases List.mem_or_eq_of_mem_set hx with hx | hx
    ·
     exact hc x hx
    ·
     subst hx; exact hcn) (by simp [h.len]) (by simp [h.len]; omega)
   exact ⟨z, by rw [← hz, h1], hb⟩
  ·
   have h1 := h.dt [i] (by simp; omega) (s.cols ++ [c])
   rw [List.map_append, List.map_append, List.map_cons, List.map_nil, List.map_cons, List.map_nil, dtr_unit_more hu (fun j hj => ?_)] at h1
   ·
    obtain ⟨z, hz, hb⟩ := hi (List.range s.top ++ [i]) (s.cols ++ [c]) (fun x hx => by
     rcases List.mem_append.1 hx with hx | hx
     ·
      exact hr x hx
     ·
      simp at hx; omega) (fun x hx => by
     rcases List.mem_append.1 hx with hx | hx
     ·
      exact hc x hx
     ·
      simp at hx; omega) (by simp [h.len]) (by simp [h.len]; omega)
    rw [List.map_append, List.map_cons, List.map_nil] at hz
    exact ⟨z, by rw [← hz, h1], hb⟩
   ·
    obtain ⟨k, hk⟩ := List.mem_iff_getElem?.1 hj
    rw [h.one k j hk i hin, if_neg]
    have := (List.getElem?_eq_some_iff.1 hk).1
    have := h.len
    omega
end Go.Proofs.Ytikhlcgnlbinfaa
namespace Go.Proofs.Ytikhlcgnlbinfaa
open Lib (hid)
def sumN : Nat → (Nat → Rat) → Rat
 | 0, _ => 0
 | n + 1, f => sumN n f + f n
theorem sumN_add (n : Nat) (f g : Nat → Rat) : sumN n (fun i => f i + g i) = sumN n f + sumN n g := by
 induction n with
 | zero => simp [sumN]; grind
 | succ n ih => simp only [sumN]; rw [ih]; grind
theorem sumN_smul (n : Nat) (k : Rat) (f : Nat → Rat) : sumN n (fun i => k * f i) = k * sumN n f := by
 induction n with
 | zero => simp only [sumN]; grind
 | succ n ih => simp only [sumN]; rw [ih]; grind
theorem sumN_zero (n : Nat) : sumN n (fun _ => 0) = 0 := by
 induction n with
 | zero => rfl
 | succ n ih => simp only [sumN]; rw [ih]; grind
theorem sumN_congr {n : Nat} {f g : Nat → Rat} (h : ∀ i, i < n → f i = g i) : sumN n f = sumN n g := by
 induction n with
 | zero => rfl
 | succ n ih => simp only [sumN]; rw [ih fun i hi => h i (by omega), h n (by omega)]
theorem sumN_sub (n : Nat) (f g : Nat → Rat) : sumN n (fun i => f i - g i) = sumN n f - sumN n g := by
 have h := sumN_add n f (fun i => (-1) * g i)
 rw [sumN_smul] at h
 have e : (fun i => f i - g i) = fun i => f i + (-1) * g i := by funext i; grind
 rw [e, h]; grind
theorem sumN_one {n k : Nat} {f : Nat → Rat} (_hk : k < n) (h : ∀ i, i < n → i ≠ k → f i = 0) : sumN n f = f k := by
 induction n with
 | zero => omega
 | succ n ih =>
  simp only [sumN]
  by_cases e : k = n
  ·
   subst e
   rw [sumN_congr (g := fun _ => 0) fun i hi => h i (by omega) (by omega), sumN_zero]
   grind
  ·
   rw [ih (by omega) fun i hi hne => h i (by omega) hne, h n (by omega) (fun q => e q.symm)]
   grind
def Sol (n : Nat) (T : Tab) (v : Nat → Rat) : Prop := ∀ i, i < n → sumN n (fun j => T i j * v j) = T i n
/-- Row i of the table is a sum of multiples of M's rows. -/
def Comb (n : Nat) (M : Tab) (r : RowF) : Prop := ∃ y : Nat → Rat, ∀ c, c ≤ n → r c = sumN n fun i => y i * M i c
theorem Comb.row {n : Nat} {M : Tab} {i : Nat} (hi : i < n) : Comb n M (M i) := ⟨fun k => if k = i then 1 else 0, fun c _ => by
 rw [sumN_one hi fun k _ hne => by simp only [if_neg hne]; grind]
 simp only [if_pos]; grind⟩
theorem Comb.add {n : Nat} {M : Tab} {r s : RowF} (hr : Comb n M r) (hs : Comb n M s) (a b : Rat) : Comb n M (fun c => a * r c + b * s c) := by
 obtain ⟨y, hy⟩ := hr
 obtain ⟨z, hz⟩ := hs
 refine ⟨fun i => a * y i + b * z i, fun c hc => ?_⟩
 simp only
 rw [hy c hc, hz c hc, ← sumN_smul, ← sumN_smul, ← sumN_add]
 exact sumN_congr fun i _ => by grind
theorem sol_swap {n : Nat} {T : Tab} {a b : Nat} (ha : a < n) (hb : b < n) (v : Nat → Rat) : Sol n (swapR T a b) v ↔ Sol n T v := by
 unfold Sol swapR
 constructor
 ·
  intro h i hi
  by_cases h1 : i = a
  ·
   have := h b hb
   by_cases e : b = a
   ·
    subst e h1; simpa using this
   ·
    simp only [if_neg e, if_pos] at this; subst h1; exact this
  ·
   by_cases h2 : i = b
   ·
    have := h a ha; simp only [if_pos] at this; subst h2; exact this
   ·
    have := h i hi; simp only [if_neg h1, if_neg h2] at this; exact this
 ·
  intro h i hi
  by_cases h1 : i = a
  ·
   subst h1; simp only [if_pos]; exact h b hb
  ·
   by_cases h2 : i = b
   ·
    subst h2; simp only [if_neg h1, if_pos]; exact h a ha
   ·
    simp only [if_neg h1, if_neg h2]; exact h i hi
theorem sol_norm {n : Nat} {T : Tab} {top : Nat} {lead : Rat} (h0 : lead ≠ 0) (_ht : top < n) (v : Nat → Rat) : Sol n (normR T top lead) v ↔ Sol n T v := by
 have key : ∀ x y : Rat, x / lead = y / lead ↔ x = y := fun x y => by
  constructor
  ·
   intro h
   rw [Rat.div_def, Rat.div_def] at h
   have h2 : x * lead⁻¹ * lead = y * lead⁻¹ * lead := by rw [h]
   rw [Rat.mul_assoc, Rat.mul_assoc, Rat.inv_mul_cancel _ h0, Rat.mul_one, Rat.mul_one] at h2
   exact h2
  ·
   intro h; rw [h]
 have hrow : sumN n (fun j => T top j / lead * v j) = T top n / lead ↔ sumN n (fun j => T top j * v j) = T top n := by
  rw [← key (sumN n (fun j => T top j * v j))]
  have e : sumN n (fun j => T top j / lead * v j) = sumN n (fun j => T top j * v j) / lead := by
   rw [Rat.div_def, Rat.mul_comm, ← sumN_smul]
   exact sumN_congr fun j _ => by rw [Rat.div_def]; grind
  rw [e]
 unfold Sol normR
 constructor
 ·
  intro h i hi
  by_cases h1 : i = top
  ·
   have := h i hi; simp only [if_pos h1] at this; subst h1; exact hrow.1 this
  ·
   have := h i hi; simp only [if_neg h1] at this; exact this
 ·
  intro h i hi
  by_cases h1 : i = top
  ·
   subst h1; simp only [if_pos]; exact hrow.2 (h i hi)
  ·
   simp only [if_neg h1]; exact h i hi
theorem sol_clear {n : Nat} {T : Tab} {top j : Nat} (ht : top < n) (v : Nat → Rat) : Sol n (clearR T top j) v ↔ Sol n T v := by
 have e : ∀ i, sumN n (fun c => (T i c - T i j * T top c) * v c) = sumN n (fun c => T i c * v c) - T i j * sumN n (fun c => T top c * v c) := fun i => by
  rw [← sumN_smul, ← sumN_sub]
  exact sumN_congr fun c _ => by grind
 unfold Sol clearR
 constructor
 ·
  intro h
  have h0 := h top ht
  simp only [if_pos] at h0
  intro i hi
  by_cases h1 : i = top
  ·
   subst h1; exact h0
  ·
   have := h i hi
   simp only [if_neg h1] at this
   rw [e, h0] at this
   grind
 ·
  intro h i hi
  by_cases h1 : i = top
  ·
   subst h1; simp only [if_pos]; exact h i hi
  ·
   simp only [if_neg h1]
   rw [e, h i hi, h top ht]
/-- What the reduction of the first j columns leaves. -/
structure Left (n j : Nat) (M : Tab) (s : GSt) : Prop where
 sol : ∀ v, Sol n s.tab v ↔ Sol n M v
 comb : ∀ i, i < n → Comb n M (s.tab i)
 zero : ∀ i, s.top ≤ i → i < n → ∀ c, c < j → s.tab i c = 0
 plen : s.piv.length = j
 psome : ∀ (c i : Nat), s.piv[c]? = some (some i) → s.cols[i]? = some c
 pnone : ∀ (c : Nat), s.piv[c]? = some none → c ∉ s.cols
 lt : ∀ c ∈ s.cols, c < j
theorem Left.start (n : Nat) (M : Tab) : Left n 0 M ⟨M, 0, [], 1, []⟩ where
 sol := fun _ => Iff.rfl
 comb := fun i hi => Comb.row hi
 zero := fun i _ _ c hc => by omega
 plen := rfl
 psome := fun c i h => by simp at h
 pnone := fun c h => by simp at h
 lt := by simp
theorem Left.step {n j B : Nat} {M : Tab} {s : GSt} {Mp : Tab} (h : Left n j M s) (hst : Stage n B s Mp) (_hj : j < n) : Left n (j + 1) M (stepG n j s) := by
 unfold stepG
 cases hf : findR s.tab j (n - s.top) s.top with
 | none =>
  have hz := findR_none hf
  have hle := hst.le
  refine ⟨h.sol, h.comb, fun i h1 h2 c hc => ?_, by simp [h.plen], fun c i hp => ?_, fun c hp => ?_, fun c hc => by have := h.lt c hc; omega⟩
  ·
   by_cases e : c = j
   ·
    subst e; exact hz i h1 (by simp only at h1; omega)
   ·
    exact h.zero i h1 h2 c (by omega)
  ·
   simp only at hp ⊢
   by_cases e : c < j
   ·
    rw [List.getElem?_append_left (by rw [h.plen]; exact e)] at hp
    exact h.psome c i hp
   ·
    rw [List.getElem?_append_right (by rw [h.plen]; omega)] at hp
    have := List.mem_of_getElem? hp
    simp at this
  ·
   simp only at hp ⊢
   by_cases e : c < j
   ·
    rw [List.getElem?_append_left (by rw [h.plen]; exact e)] at hp
    exact h.pnone c hp
   ·
    intro hc
    have := h.lt c hc
    omega
 | some a =>
  obtain ⟨h1, h2, h3, _⟩ := findR_some hf
  have hle := hst.le
  have ha : a < n := by omega
  have ht : s.top < n := by omega
  have htop : ∀ c, clearR (normR (swapR s.tab s.top a) s.top (s.tab a j)) s.top j s.top c = s.tab a c / s.tab a j := fun c => by simp [clearR, normR, swapR]
  have hoth : ∀ i, i ≠ s.top → ∀ c, clearR (normR (swapR s.tab s.top a) s.top (s.tab a j)) s.top j i c = s.tab (if i = a then s.top else i) c - s.tab (if i = a then s.top else i) j * (s.tab a c / s.tab a j) := fun i hi c => by
   simp only [clearR, normR, swapR, if_neg hi, if_pos]
   by_cases e : i = a
   ·
    simp only [if_pos e]
   ·
    simp only [if_neg e]
  have hfa : ∀ i, i < n → (if i = a then s.top else i) < n := fun i hi => by split <;> omega
  refine ⟨fun v => ?_, fun i hi => ?_, fun i hi1 hi2 c hc => ?_, by simp [h.plen], fun c i hp => ?_, fun c hp => ?_, fun c hc => ?_⟩
  ·
   rw [sol_clear ht, sol_norm h3 ht, sol_swap ht ha, h.sol]
  ·
   by_cases e : i = s.top
   ·
    subst e
    obtain ⟨y, hy⟩ := (h.comb a ha).add (h.comb a ha) (s.tab a j)⁻¹ 0
    refine ⟨y, fun c hc => ?_⟩
    simp only
    rw [htop, ← hy c hc, Rat.div_def]
    grind
   ·
    obtain ⟨y, hy⟩ := (h.comb _ (hfa i hi)).add (h.comb a ha) 1 (-(s.tab (if i = a then s.top else i) j * (s.tab a j)⁻¹))
    refine ⟨y, fun c hc => ?_⟩
    simp only
    rw [hoth i e, ← hy c hc, Rat.div_def]
    grind
  ·
   simp only at hi1 ⊢
   rw [hoth i (by omega)]
   have hx : s.top ≤ (if i = a then s.top else i) := by split <;> omega
   by_cases e : c = j
   ·
    subst e
    rw [Rat.div_def, Rat.mul_inv_cancel _ h3]
    grind
   ·
    rw [h.zero _ hx (hfa i hi2) c (by omega), h.zero a h1 ha c (by omega), Rat.div_def]
    grind
  ·
   simp only at hp ⊢
   by_cases e : c < j
   ·
    rw [List.getElem?_append_left (by rw [h.plen]; exact e)] at hp
    have := h.psome c i hp
    rw [List.getElem?_append_left (List.getElem?_eq_some_iff.1 this).1]
    exact this
   ·
    rw [List.getElem?_append_right (by rw [h.plen]; omega), h.plen] at hp
    have hcj : c - j = 0 := by
     have := (List.getElem?_eq_some_iff.1 hp).1
     simpa using this
    rw [hcj] at hp
    simp at hp
    subst hp
    rw [← hst.len, List.getElem?_append_right (Nat.le_refl _), Nat.sub_self]
    simp
    omega
  ·
   simp only at hp ⊢
   by_cases e : c < j
   ·
    rw [List.getElem?_append_left (by rw [h.plen]; exact e)] at hp
    intro hc
    rcases List.mem_append.1 hc with hc | hc
    ·
     exact h.pnone c hp hc
    ·
     simp at hc; omega
   ·
    rw [List.getElem?_append_right (by rw [h.plen]; omega)] at hp
    have := List.mem_of_getElem? hp
    simp at this
  ·
   rcases List.mem_append.1 hc with hc | hc
   ·
    have := h.lt c hc; omega
   ·
    simp at hc; omega
theorem Left.run {n B : Nat} {M : Tab} (h : ∀ i, i < n → ∀ c, c ≤ n → ∃ z : Int, M i c = (z : Rat) ∧ z.natAbs ≤ B) (j : Nat) (_hj : j ≤ n) : Left n j M (redG n M j) := by
 induction j with
 | zero => exact Left.start n M
 | succ j ih =>
  obtain ⟨Mp, hs⟩ := Stage.run h j (by omega)
  exact (ih (by omega)).step hs (by omega)
/-- The solution: what stands on the right in the row of each pivot; 0 for all others. -/
def solG (n : Nat) (s : GSt) (j : Nat) : Rat := match s.piv[j]? with
 | some (some i) => s.tab i n
 | _ => 0
end Go.Proofs.Ytikhlcgnlbinfaa
namespace Go.Proofs.Ytikhlcgnlbinfaa
open Lib (hid)
/-- A match. -/
structure Mt where
 a : Int
 b : Int
 x : Int
 y : Int
 z : Int
 d : Int
 w : Int
 deriving DecidableEq
def Mt.nrm (m : Mt) (k : Nat) : Int := if k = 0 then m.x else if k = 1 then m.y else m.z
/-- The coefficient of an unknown. -/
def cof (m : Mt) (u : Nat) : Int := if ((u / 3 : Nat) : Int) = m.a then m.nrm (u % 3) else if ((u / 3 : Nat) : Int) = m.b then -(m.nrm (u % 3)) else 0
structure VM (S : Int) (m : Mt) : Prop where
 a0 : 0 ≤ m.a
 aS : m.a < S
 b0 : -1 ≤ m.b
 bS : m.b < S
 ne : m.a ≠ m.b
 nz : ¬ (m.x = 0 ∧ m.y = 0 ∧ m.z = 0)
 x1 : -100 ≤ m.x
 x2 : m.x ≤ 100
 y1 : -100 ≤ m.y
 y2 : m.y ≤ 100
 z1 : -100 ≤ m.z
 z2 : m.z ≤ 100
 d1 : -274877906944 ≤ m.d
 d2 : m.d ≤ 274877906944
 w1 : 1 ≤ m.w
 w2 : m.w ≤ 1000
def VP (S : Int) (ms : List Mt) : Prop := 1 ≤ S ∧ S ≤ 8 ∧ ms.length ≤ 64 ∧ ∀ m ∈ ms, VM S m
theorem cof_bound {S : Int} {m : Mt} (h : VM S m) (u : Nat) : -100 ≤ cof m u ∧ cof m u ≤ 100 := by
 have := h.x1; have := h.x2; have := h.y1; have := h.y2; have := h.z1; have := h.z2
 have hn : ∀ k, -100 ≤ m.nrm k ∧ m.nrm k ≤ 100 := fun k => by unfold Mt.nrm; split; omega; split <;> omega
 have := hn (u % 3)
 unfold cof
 split
 ·
  omega
 ·
  split <;> omega
/-- Left and right side of the normal equations. -/
def eqN : List Mt → Nat → Nat → Int
 | [], _, _ => 0
 | m :: ms, i, j => m.w * cof m i * cof m j + eqN ms i j
def eqR : List Mt → Nat → Int
 | [], _ => 0
 | m :: ms, i => -(m.w * m.d * cof m i) + eqR ms i
theorem eqN_append (a b : List Mt) (i j : Nat) : eqN (a ++ b) i j = eqN a i j + eqN b i j := by
 induction a with
 | nil => simp [eqN]
 | cons m a ih => simp only [List.cons_append, eqN, ih]; omega
theorem eqR_append (a b : List Mt) (i : Nat) : eqR (a ++ b) i = eqR a i + eqR b i := by
 induction a with
 | nil => simp [eqR]
 | cons m a ih => simp only [List.cons_append, eqR, ih]; omega
theorem prod_bound {x y A B : Int} (_h1 : -A ≤ x) (_h2 : x ≤ A) (_h3 : -B ≤ y) (_h4 : y ≤ B) : -(A * B) ≤ x * y ∧ x * y ≤ A * B := by
 have e1 := Int.mul_nonneg (show 0 ≤ A - x by omega) (show 0 ≤ B - y by omega)
 have e2 := Int.mul_nonneg (show 0 ≤ A + x by omega) (show 0 ≤ B + y by omega)
 have e3 := Int.mul_nonneg (show 0 ≤ A - x by omega) (show 0 ≤ B + y by omega)
 have e4 := Int.mul_nonneg (show 0 ≤ A + x by omega) (show 0 ≤ B - y by omega)
 have f1 : (A - x) * (B - y) = A * B - A * y - x * B + x * y := by grind
 have f2 : (A + x) * (B + y) = A * B + A * y + x * B + x * y := by grind
 have f3 : (A - x) * (B + y) = A * B + A * y - x * B - x * y := by grind
 have f4 : (A + x) * (B - y) = A * B - A * y + x * B - x * y := by grind
 omega
theorem termN {S : Int} {m : Mt} (h : VM S m) (i j : Nat) : -10000000 ≤ m.w * cof m i * cof m j ∧ m.w * cof m i * cof m j ≤ 10000000 := by
 have h1 := cof_bound h i
 have h2 := cof_bound h j
 have a := prod_bound (A := 1000) (B := 100) (by have := h.w1; omega) h.w2 h1.1 h1.2
 exact prod_bound (A := 100000) (B := 100) (by omega) (by omega) h2.1 h2.2
theorem termD {S : Int} {m : Mt} (h : VM S m) : -274877906944000 ≤ m.w * m.d ∧ m.w * m.d ≤ 274877906944000 :=
 prod_bound (A := 1000) (B := 274877906944) (by have := h.w1; omega) h.w2 h.d1 h.d2
theorem termR {S : Int} {m : Mt} (h : VM S m) (i : Nat) : -27487790694400000 ≤ m.w * m.d * cof m i ∧ m.w * m.d * cof m i ≤ 27487790694400000 := by
 have h1 := cof_bound h i
 exact prod_bound (A := 274877906944000) (B := 100) (termD h).1 (termD h).2 h1.1 h1.2
theorem eqN_bound {S : Int} {ms : List Mt} (h : ∀ m ∈ ms, VM S m) (i j : Nat) : -(10000000 * (ms.length : Int)) ≤ eqN ms i j ∧ eqN ms i j ≤ 10000000 * (ms.length : Int) := by
 induction ms with
 | nil => simp [eqN]
 | cons m ms ih =>
  have a := ih fun x hx => h x (List.mem_cons_of_mem _ hx)
  have b := termN (h m List.mem_cons_self) i j
  simp only [eqN, List.length_cons]
  omega
theorem eqR_bound {S : Int} {ms : List Mt} (h : ∀ m ∈ ms, VM S m) (i : Nat) : -(27487790694400000 * (ms.length : Int)) ≤ eqR ms i ∧ eqR ms i ≤ 27487790694400000 * (ms.length : Int) := by
 induction ms with
 | nil => simp [eqR]
 | cons m ms ih =>
  have a := ih fun x hx => h x (List.mem_cons_of_mem _ hx)
  have b := termR (h m List.mem_cons_self) i
  simp only [eqR, List.length_cons]
  omega
/-- The table of the normal equations, the right side in column n. -/
def tabM (ms : List Mt) (n : Nat) : Tab := fun i c => if c = n then ((eqR ms i : Int) : Rat) else ((eqN ms i c : Int) : Rat)
theorem tabM_int {S : Int} {ms : List Mt} {L : Nat} (h : ∀ m ∈ ms, VM S m) (_hl : ms.length ≤ L) (n : Nat) (i c : Nat) : ∃ z : Int, tabM ms n i c = (z : Rat) ∧ z.natAbs ≤ 27487790694400000 * L := by
 unfold tabM
 split
 ·
  refine ⟨_, rfl, ?_⟩
  have := eqR_bound h i
  omega
 ·
  refine ⟨_, rfl, ?_⟩
  have := eqN_bound h i c
  omega
/-- Sums over matches. -/
def sumM : List Mt → (Mt → Rat) → Rat
 | [], _ => 0
 | m :: ms, f => f m + sumM ms f
theorem sumM_append (a b : List Mt) (f : Mt → Rat) : sumM (a ++ b) f = sumM a f + sumM b f := by
 induction a with
 | nil => simp only [List.nil_append, sumM]; grind
 | cons m a ih => simp only [List.cons_append, sumM, ih]; grind
def lin (n : Nat) (m : Mt) (u : Nat → Rat) : Rat := sumN n fun j => (cof m j : Rat) * u j
/-- Residual, misfit, slopes. -/
def res (n : Nat) (m : Mt) (u : Nat → Rat) : Rat := (m.d : Rat) + lin n m u
def wsq (n : Nat) (u : Nat → Rat) (m : Mt) : Rat := (m.w : Rat) * (res n m u * res n m u)
def misfit (n : Nat) (ms : List Mt) (u : Nat → Rat) : Rat := sumM ms (wsq n u)
/-- The solution of a problem. -/
def solP (n : Nat) (ms : List Mt) : Nat → Rat := solG n (redG n (tabM ms n) n)
theorem tab_int {S : Int} {ms : List Mt} (h : ∀ m ∈ ms, VM S m) (n : Nat) : ∀ i, i < n → ∀ c, c ≤ n → ∃ z : Int, tabM ms n i c = (z : Rat) ∧ z.natAbs ≤ 27487790694400000 * ms.length := fun i _ c _ => tabM_int h (Nat.le_refl _) n i c
end Go.Proofs.Ytikhlcgnlbinfaa
namespace Go.Proofs.Ytikhlcgnlbinfaa
open Lib (hid)
theorem Stage.pivtop {n : Nat} {T : Tab} (j : Nat) : ∀ c i : Nat, (redG n T j).piv[c]? = some (some i) → i < (redG n T j).top := by
 induction j with
 | zero => intro c i h; simp [redG] at h
 | succ j ih =>
  intro c i h
  simp only [redG] at h ⊢
  generalize redG n T j = s at *
  unfold stepG at h ⊢
  cases hf : findR s.tab j (n - s.top) s.top with
  | none =>
   simp only [hf] at h ⊢
   rw [List.getElem?_append] at h
   split at h
   ·
    exact ih c i h
   ·
    have := List.mem_of_getElem? h
    simp at this
  | some a =>
   simp only [hf] at h ⊢
   rw [List.getElem?_append] at h
   split at h
   ·
    have := ih c i h; omega
   ·
    have := List.mem_of_getElem? h
    simp at this
    omega
theorem redG_plen (n : Nat) (T : Tab) (j : Nat) : (redG n T j).piv.length = j := by
 induction j with
 | zero => rfl
 | succ j ih =>
  simp only [redG]
  unfold stepG
  split <;> simp [ih]
end Go.Proofs.Ytikhlcgnlbinfaa
namespace Go.Proofs.Ytikhlcgnlbinfaa
open Lib (hid)
theorem rat_num (q : Rat) : q * (q.den : Rat) = (q.num : Rat) := by
 have h := Rat.num_divInt_den q
 rw [Rat.divInt_eq_div] at h
 have h0 : ((q.den : Int) : Rat) ≠ 0 := fun e => q.den_nz (by
  have e2 : ((q.den : Int) : Rat) = ((0 : Int) : Rat) := e
  have e3 : (q.den : Int) = 0 := Rat.intCast_inj.1 e2
  omega)
 have h2 := Rat.mul_inv_cancel _ h0
 rw [Rat.div_def] at h
 show q * ((q.den : Int) : Rat) = _
 grind
/-- Powers of 2^32. -/
def BB (k : Nat) : Nat := 4294967296 ^ k
theorem BB_add (a b : Nat) : BB (a + b) = BB a * BB b := Nat.pow_add _ _ _
theorem BB_pos (k : Nat) : 0 < BB k := Nat.pow_pos (by decide)
theorem BB_le {a b : Nat} (h : a ≤ b) : BB a ≤ BB b := Nat.pow_le_pow_right (by decide) h
theorem BB_one : BB 1 = 4294967296 := Nat.pow_one _
def OverD (P Z : Nat) (q : Rat) : Prop := ∃ z : Int, q * (P : Rat) = (z : Rat) ∧ z.natAbs ≤ Z
/-- In lowest terms it is no greater. -/
theorem OverD.low {P Z : Nat} {q : Rat} (hP : 0 < P) (h : OverD P Z q) : q.num.natAbs ≤ Z ∧ q.den ≤ P := by
 obtain ⟨z, h1, h2⟩ := h
 have e : q.num * (P : Int) = z * (q.den : Int) := by
  have h3 : (q.num : Rat) = q * (q.den : Rat) := (rat_num q).symm
  have h4 : ((q.num * (P : Int) : Int) : Rat) = ((z * (q.den : Int) : Int) : Rat) := by
   rw [Rat.intCast_mul, Rat.intCast_mul, ← h1, h3]
   show q * (q.den : Rat) * (P : Rat) = q * (P : Rat) * (q.den : Rat)
   grind
  exact Rat.intCast_inj.1 h4
 have e2 : q.num.natAbs * P = z.natAbs * q.den := by
  have := congrArg Int.natAbs e
  rwa [Int.natAbs_mul, Int.natAbs_mul, Int.natAbs_natCast, Int.natAbs_natCast] at this
 have hd : q.den ∣ P := by
  have h5 : q.den ∣ q.num.natAbs * P := ⟨z.natAbs, by rw [e2, Nat.mul_comm]⟩
  exact (Nat.Coprime.dvd_of_dvd_mul_left (Nat.Coprime.symm q.reduced) h5)
 have hle := Nat.le_of_dvd hP hd
 refine ⟨?_, hle⟩
 have h6 : q.num.natAbs * P ≤ Z * P := by
  rw [e2]
  exact Nat.mul_le_mul h2 hle
 exact Nat.le_of_mul_le_mul_right h6 hP
/-- What the matches say of the shifts of their strips alone. -/
theorem sumN_three (S : Nat) (f : Nat → Rat) : sumN (3 * S) f = sumN S fun s => f (3 * s) + f (3 * s + 1) + f (3 * s + 2) := by
 induction S with
 | zero => rfl
 | succ S ih =>
  show sumN (3 * S + 3) f = _
  simp only [sumN]
  rw [ih]
  grind
theorem sumN_at {n k : Nat} (hk : k < n) (f : Nat → Rat) : sumN n (fun i => if i = k then f i else 0) = f k := by
 rw [sumN_one hk fun i _ hne => if_neg hne, if_pos rfl]
/-- The shift of the strip of a match, less that of the other one. -/
def prt (m : Mt) (u : Nat → Rat) (k : Nat) : Rat := if 0 ≤ m.b then u (3 * m.a.toNat + k) - u (3 * m.b.toNat + k) else u (3 * m.a.toNat + k)
theorem lin_parts {S : Nat} {m : Mt} (h : VM S m) (u : Nat → Rat) : lin (3 * S) m u = (m.x : Rat) * prt m u 0 + (m.y : Rat) * prt m u 1 + (m.z : Rat) * prt m u 2 := by
 unfold lin
 rw [sumN_three]
 have ha0 := h.a0
 have haS := h.aS
 have hb0 := h.b0
 have hbS := h.bS
 have hne := h.ne
 have hc : ∀ s k, k < 3 → cof m (3 * s + k) = if s = m.a.toNat then m.nrm k else if 0 ≤ m.b ∧ s = m.b.toNat then -(m.nrm k) else 0 := fun s k hk => by
  unfold cof
  rw [show (3 * s + k) / 3 = s by omega, show (3 * s + k) % 3 = k by omega]
  by_cases e1 : s = m.a.toNat
  ·
   rw [if_pos (by omega), if_pos e1]
  ·
   rw [if_neg (by omega), if_neg e1]
   by_cases e2 : 0 ≤ m.b ∧ s = m.b.toNat
   ·
    rw [if_pos (by omega), if_pos e2]
   ·
    rw [if_neg (by omega), if_neg e2]
 have h0 : ∀ s, cof m (3 * s) = if s = m.a.toNat then m.x else if 0 ≤ m.b ∧ s = m.b.toNat then -m.x else 0 := fun s => hc s 0 (by omega)
 have h1 : ∀ s, cof m (3 * s + 1) = if s = m.a.toNat then m.y else if 0 ≤ m.b ∧ s = m.b.toNat then -m.y else 0 := fun s => hc s 1 (by omega)
 have h2 : ∀ s, cof m (3 * s + 2) = if s = m.a.toNat then m.z else if 0 ≤ m.b ∧ s = m.b.toNat then -m.z else 0 := fun s => hc s 2 (by omega)
 obtain ⟨g, hg⟩ : ∃ g : Nat → Rat, ∀ s, g s = (m.x : Rat) * u (3 * s) + (m.y : Rat) * u (3 * s + 1) + (m.z : Rat) * u (3 * s + 2) := ⟨_, fun _ => rfl⟩
 by_cases hb : 0 ≤ m.b
 ·
  have e : ∀ s, s < S → (cof m (3 * s) : Rat) * u (3 * s) + (cof m (3 * s + 1) : Rat) * u (3 * s + 1) + (cof m (3 * s + 2) : Rat) * u (3 * s + 2) = (if s = m.a.toNat then g s else 0) - (if s = m.b.toNat then g s else 0) := fun s _ => by
   rw [h0, h1, h2, hg]
   by_cases e1 : s = m.a.toNat
   ·
    rw [if_pos e1, if_pos e1, if_pos e1, if_pos e1, if_neg (by omega)]; grind
   ·
    rw [if_neg e1, if_neg e1, if_neg e1, if_neg e1]
    by_cases e2 : s = m.b.toNat
    ·
     rw [if_pos ⟨hb, e2⟩, if_pos ⟨hb, e2⟩, if_pos ⟨hb, e2⟩, if_pos e2, Rat.intCast_neg, Rat.intCast_neg, Rat.intCast_neg]; grind
    ·
     rw [if_neg (fun q => e2 q.2), if_neg (fun q => e2 q.2), if_neg (fun q => e2 q.2), if_neg e2, show ((0 : Int) : Rat) = 0 from rfl]; grind
  rw [sumN_congr e, sumN_sub, sumN_at (by omega), sumN_at (by omega), hg, hg]
  unfold prt
  simp only [if_pos hb, Nat.add_zero]
  grind
 ·
  have e : ∀ s, s < S → (cof m (3 * s) : Rat) * u (3 * s) + (cof m (3 * s + 1) : Rat) * u (3 * s + 1) + (cof m (3 * s + 2) : Rat) * u (3 * s + 2) = if s = m.a.toNat then g s else 0 := fun s _ => by
   rw [h0, h1, h2, hg]
   by_cases e1 : s = m.a.toNat
   ·
    rw [if_pos e1, if_pos e1, if_pos e1, if_pos e1]
   ·
    rw [if_neg e1, if_neg e1, if_neg e1, if_neg e1, if_neg (fun q => hb q.1), if_neg (fun q => hb q.1), if_neg (fun q => hb q.1), show ((0 : Int) : Rat) = 0 from rfl]; grind
  rw [sumN_congr e, sumN_at (by omega), hg]
  unfold prt
  simp only [if_neg hb, Nat.add_zero]
end Go.Proofs.Ytikhlcgnlbinfaa
namespace Go.Proofs.Ytikhlcgnlbinfaa
open Lib (hid)
/-- The whole numbers of the reference: the last pivot, and the table times the last pivot. -/
def zl (s : GSt) : Int := s.last.num
def zt (s : GSt) (i c : Nat) : Int := (s.last * s.tab i c).num
section
variable {n j B : Nat} {M : Tab} {s : GSt} {Mp : Tab}
theorem zl_cast (h : Stage n B s Mp) : ((zl s : Int) : Rat) = s.last := by
 obtain ⟨⟨z, hz, _⟩, _⟩ := h.ints
 unfold zl
 rw [hz, Rat.num_intCast]
theorem zt_cast (h : Stage n B s Mp) {i c : Nat} (hi : i < n) (hc : c ≤ n) : ((zt s i c : Int) : Rat) = s.last * s.tab i c := by
 obtain ⟨z, hz, _⟩ := h.ints.2 i hi c hc
 unfold zt
 rw [hz, Rat.num_intCast]
theorem zt_bound (h : Stage n B s Mp) {i c : Nat} (hi : i < n) (hc : c ≤ n) : (zt s i c).natAbs ≤ ((n + 1) * (B + 1)) ^ (n + 1) := by
 obtain ⟨z, hz, hb⟩ := h.ints.2 i hi c hc
 unfold zt
 rw [hz, Rat.num_intCast]
 exact hb
theorem zl_nz (h : Stage n B s Mp) : zl s ≠ 0 := fun e => h.nz (by rw [← zl_cast h, e]; rfl)
theorem zt_zero (h : Stage n B s Mp) {i c : Nat} (hi : i < n) (hc : c ≤ n) : zt s i c = 0 ↔ s.tab i c = 0 := by
 have h1 := zt_cast h hi hc
 constructor
 ·
  intro e
  rw [e] at h1
  rcases Rat.mul_eq_zero.1 h1.symm with h2 | h2
  ·
   exact absurd h2 h.nz
  ·
   exact h2
 ·
  intro e
  rw [e] at h1
  have : ((zt s i c : Int) : Rat) = ((0 : Int) : Rat) := by rw [h1]; show s.last * 0 = 0; grind
  exact Rat.intCast_inj.1 this
theorem stepG_none (hf : findR s.tab j (n - s.top) s.top = none) : stepG n j s = ⟨s.tab, s.top, s.piv ++ [none], s.last, s.cols⟩ := by
 unfold stepG; rw [hf]
theorem stepG_some {a : Nat} (hf : findR s.tab j (n - s.top) s.top = some a) : stepG n j s = ⟨clearR (normR (swapR s.tab s.top a) s.top (s.tab a j)) s.top j, s.top + 1, s.piv ++ [some s.top], s.last * s.tab a j, s.cols ++ [j]⟩ := by
 unfold stepG; rw [hf]
/-- One column: what the reference computes. -/
theorem zt_step {Mp' : Tab} (h : Stage n B s Mp) (h' : Stage n B (stepG n j s) Mp') {a : Nat} (hf : findR s.tab j (n - s.top) s.top = some a) (_hj : j < n) :
  zl (stepG n j s) = zt s a j ∧ (∀ c, c ≤ n → zt (stepG n j s) s.top c = zt s a c) ∧
  ∀ i, i < n → i ≠ s.top → ∀ c, c ≤ n → zt s (if i = a then s.top else i) c * zt s a j + -(zt s a c * zt s (if i = a then s.top else i) j) = zl s * zt (stepG n j s) i c := by
 obtain ⟨h1, h2, h3, _⟩ := findR_some hf
 have hle := h.le
 have ha : a < n := by omega
 have ht : s.top < n := by omega
 have hinv := Rat.mul_inv_cancel _ h3
 have e := stepG_some hf
 have htop : ∀ c, (stepG n j s).tab s.top c = s.tab a c / s.tab a j := fun c => by rw [e]; simp [clearR, normR, swapR]
 have hoth : ∀ i, i ≠ s.top → ∀ c, (stepG n j s).tab i c = s.tab (if i = a then s.top else i) c - s.tab (if i = a then s.top else i) j * (s.tab a c / s.tab a j) := fun i hi c => by
  rw [e]
  simp only [clearR, normR, swapR, if_neg hi, if_pos]
  by_cases e : i = a
  ·
   simp only [if_pos e]
  ·
   simp only [if_neg e]
 have hlast : (stepG n j s).last = s.last * s.tab a j := by rw [e]
 refine ⟨?_, fun c hc => ?_, fun i hi hne c hc => ?_⟩
 ·
  apply Rat.intCast_inj.1
  rw [zl_cast h', zt_cast h ha (by omega), hlast]
 ·
  apply Rat.intCast_inj.1
  rw [zt_cast h' ht hc, zt_cast h ha hc, hlast, htop, Rat.div_def]
  grind
 ·
  have hfi : (if i = a then s.top else i) < n := by split <;> omega
  apply Rat.intCast_inj.1
  rw [Rat.intCast_add, Rat.intCast_neg, Rat.intCast_mul, Rat.intCast_mul, Rat.intCast_mul, zl_cast h, zt_cast h' hi hc, zt_cast h ha hc, zt_cast h ha (by omega), zt_cast h hfi hc, zt_cast h hfi (by omega), hlast, hoth i hne, Rat.div_def]
  generalize s.tab (if i = a then s.top else i) c = x
  generalize s.tab (if i = a then s.top else i) j = y
  grind
/-- The column of the pivot of a row. -/
theorem Left.pivcol (h : Left n n M s) (hs : Stage n B s Mp) {i j : Nat} (hi : s.cols[i]? = some j) : s.piv[j]? = some (some i) := by
 have hjn : j < n := hs.col j (List.mem_of_getElem? hi)
 obtain ⟨o, ho⟩ : ∃ o, s.piv[j]? = some o := ⟨_, List.getElem?_eq_getElem (by rw [h.plen]; exact hjn)⟩
 have hin : i < n := by have := (List.getElem?_eq_some_iff.1 hi).1; have := hs.len; have := hs.le; omega
 cases o with
 | none => exact absurd (List.mem_of_getElem? hi) (h.pnone _ ho)
 | some k =>
  have hk := h.psome _ k ho
  have hik : k = i := by
   have h1 := hs.one k _ hk i hin
   have h2 := hs.one i _ hi i hin
   rw [if_pos rfl] at h2
   rw [h2] at h1
   by_cases e : i = k
   ·
    exact e.symm
   ·
    rw [if_neg e] at h1; exact absurd h1 (by decide)
  rw [ho, hik]
theorem solG_free (h : Left n n M s) {j : Nat} (hj : j < n) (hn : j ∉ s.cols) : solG n s j = 0 ∧ s.piv[j]? = some none := by
 obtain ⟨o, ho⟩ : ∃ o, s.piv[j]? = some o := ⟨_, List.getElem?_eq_getElem (by rw [h.plen]; exact hj)⟩
 cases o with
 | none => exact ⟨by unfold solG; rw [ho], ho⟩
 | some k => exact absurd (List.mem_of_getElem? (h.psome _ k ho)) hn
end
end Go.Proofs.Ytikhlcgnlbinfaa
namespace Go.Proofs.Ytikhlcgnlbinfaa
open Lib (hid)
open Go.RowKit
theorem IntZ.open {w : World} {v : Value} {z : Int} (h : IntZ w v z) : ∃ A l c, v = .agg #[.bool (decide (z < 0)), .slice A l c] ∧ Z16 w (.slice A l c) z.natAbs := by
 obtain ⟨A, l, c, rfl, h1⟩ := h
 exact ⟨A, l, c, rfl, h1⟩
/-- What one operation must give, over a frame of which only the slots' values are known. -/
def GOq (P : Program) (ops : Array Oper) (J : (Nat → Prop) → (Nat → Value) → World → Prop) (D A : List (List Nat)) (ds : List (Option Tmp)) (a : Act) (i : Nat) (o : Oper) : Prop :=
 ∀ (done : Nat → Prop) (us : Nat → Value) (W : World), J done us W → (∀ j ∈ D.getD i [], done j) → (∀ j ∈ A.getD i [], ¬ done j) → ¬ done i → ∀ b : Act, (∀ j d, ds[j]? = some (some d) → b.tmps[d]? = some (us j)) → (∀ d, some d ∉ ds → b.tmps[d]? = a.tmps[d]?) → ∀ K : Act → World → Prop,
   (∀ v W', J (fun k => done k ∨ k = i) (updO us i v) W' → K (b.put o.dst v) W') → ∀ Q' : Exit → Act → World → Prop,
   if Region.wanted o (yielded ops b.tmps) then o.wp P b W K Q' else K (b.put o.dst undef) W
def GAllq (P : Program) (ops : Array Oper) (J : (Nat → Prop) → (Nat → Value) → World → Prop) (D A : List (List Nat)) (ds : List (Option Tmp)) (a : Act) : Nat → List Oper → Prop
 | _, [] => True
 | i, o :: rest => GOq P ops J D A ds a i o ∧ GAllq P ops J D A ds a (i + 1) rest
theorem GAllq.at {P : Program} {ops : Array Oper} {J : (Nat → Prop) → (Nat → Value) → World → Prop} {D A : List (List Nat)} {ds : List (Option Tmp)} {a : Act} : ∀ (l : List Oper) (k : Nat), GAllq P ops J D A ds a k l → ∀ i o, l[i]? = some o → GOq P ops J D A ds a (k + i) o := by
 intro l
 induction l with
 | nil => intro k _ i o h; simp at h
 | cons x l ih =>
  intro k h i o ho
  cases i with
  | zero => simp at ho; subst ho; exact h.1
  | succ i =>
   have := ih (k + 1) h.2 i o (by simpa using ho)
   rw [show k + 1 + i = k + (i + 1) by omega] at this
   exact this
section
variable {P : Program} {l : List Oper} {n : Nat} {ds : List (Option Tmp)} {D A : List (List Nat)} {J : (Nat → Prop) → (Nat → Value) → World → Prop} {a : Act} {Q : Exit → Act → World → Prop}
theorem g_any (hB : jB l.toArray n ds D A = true) (hs : ∀ d, some d ∈ ds → d < a.tmps.size) (hJ : ∀ p q us W, (∀ k, p k ↔ q k) → J p us W → J q us W) (hop : GAllq P l.toArray J D A ds a 0 (l.take n))
  (hend : ∀ us W, J (fun k => k < n) us W → wpList P l.toArray Q (l.drop n) (fillO a ds us 0) W) :
  ∀ (f : Nat) (rem : List Nat) (listed : Array Bool) (us : Nat → Value) (W : World), rem.length = f → rem.Nodup → HeadInv .any l.toArray n listed → (∀ j, j < n → (listed.getD j true = false ↔ j ∈ rem)) → (∀ j ∈ rem, j < n) →
   J (fun k => k < n ∧ k ∉ rem) us W → wpAny P .any l.toArray Q (f + (l.toArray.size - n)) listed (fillO a ds us 0) W := by
 simp only [jB, Bool.and_eq_true, decide_eq_true_eq] at hB
 obtain ⟨⟨⟨⟨⟨⟨hn, hl⟩, hnt⟩, hD⟩, hless⟩, hsc⟩, hseq⟩ := hB
 have hnd := noTwice_of ds hnt
 intro f
 induction f with
 | zero =>
  intro rem listed us W hlen _ inv hrem _ hX
  obtain rfl : rem = [] := List.eq_nil_of_length_eq_zero hlen
  have hlist : listed = ((List.range l.toArray.size).map (fun i => decide (i < n))).toArray := by
   apply Array.ext
   ·
    simp [inv.size]
   ·
    intro i h1 h2
    have hsz := inv.size
    simp only [List.getElem_toArray, List.getElem_map, List.getElem_range]
    by_cases hi : i < n
    ·
     have h3 := hrem i hi
     simp only [List.not_mem_nil, iff_false, Bool.not_eq_false] at h3
     have h4 : listed.getD i true = listed[i] := by simp [Array.getD, h1]
     rw [h4] at h3
     simp [h3, hi]
    ·
     have h3 := inv.tail i (by omega) (by omega)
     have h4 : listed.getD i true = listed[i] := by simp [Array.getD, h1]
     rw [h4] at h3
     simp [h3, hi]
  have hdl : (l.drop n).length = l.toArray.size - n := by simp
  rw [Nat.zero_add, ← hdl]
  refine wpAny_of_seq (l.drop n) n listed _ W (fun j => by simp [List.getElem?_drop]) ?_ (hend us W (hJ _ _ us W (by simp) hX))
  rw [hdl, hlist]
  exact hseq
 | succ f ih =>
  intro rem listed us W hlen hnodup inv hrem hlt hX
  rw [show f + 1 + (l.toArray.size - n) = (f + (l.toArray.size - n)) + 1 by omega]
  have hne : rem ≠ [] := by intro e; subst e; simp at hlen
  refine ⟨fun h0 => ?_, fun i hi => ?_⟩
  ·
   exfalso
   obtain ⟨k, hk, hmin⟩ : ∃ k ∈ rem, ∀ j ∈ rem, k ≤ j := by
    obtain ⟨m, hm, hm2⟩ := exists_least (p := fun m => m ∈ rem) (by cases rem with | nil => exact absurd rfl hne | cons x xs => exact ⟨x, List.mem_cons_self ..⟩)
    exact ⟨m, hm, fun j hj => hm2 j hj⟩
   have hkn := hlt k hk
   have hr : k ∈ Region.ready .any l.toArray listed := by
    refine mem_ready.2 ⟨(hrem k hkn).2 hk, ?_⟩
    have h1 := List.all_eq_true.1 hless k (List.mem_range.2 hkn)
    cases ho : l.toArray[k]? with
    | none => rw [ho] at h1; simp at h1
    | some o =>
     rw [ho] at h1
     refine ⟨o, rfl, fun e he hb => ?_⟩
     have h2 := Array.all_eq_true_iff_forall_mem.1 h1 e he
     simp only [hb, Bool.not_true, Bool.false_or, decide_eq_true_eq] at h2
     have h3 : e.on ∉ rem := fun h => by have := hmin _ h; omega
     have h4 : listed.getD e.on true = true := by
      cases h5 : listed.getD e.on true with
      | true => rfl
      | false => exact absurd ((hrem e.on (by omega)).1 h5) h3
     have hsz : e.on < listed.size := by rw [inv.size]; omega
     simp [Array.getD, hsz] at h4 ⊢
     exact h4
   rw [h0] at hr
   cases hr
  ·
   obtain ⟨hun, o, ho, hall⟩ := mem_ready.1 hi
   have hisz : i < l.toArray.size := (Array.getElem?_eq_some_iff.1 ho).1
   have hin : i < n := by
    rcases Nat.lt_or_ge i n with h | h
    ·
     exact h
    ·
     simp only [Bool.or_eq_true, Bool.and_eq_true, decide_eq_true_eq] at hsc
     rcases hsc with hsc | ⟨hs, hc⟩
     ·
      omega
     ·
      obtain ⟨k, hk⟩ : ∃ k, k ∈ rem := by cases rem with | nil => exact absurd rfl hne | cons x xs => exact ⟨x, List.mem_cons_self ..⟩
      exact absurd hi (tail_waits hs hc (by omega) inv _ k rfl (hlt k hk) ((hrem k (hlt k hk)).2 hk) i h)
   have hir : i ∈ rem := (hrem i hin).1 hun
   have hDi := List.all_eq_true.1 hD i (List.mem_range.2 hin)
   simp only [Bool.and_eq_true, beq_iff_eq] at hDi
   obtain ⟨⟨hdst, hdeps⟩, hafts⟩ := hDi
   rw [ho] at hdst
   simp only [Option.map_some] at hdst
   have hm := GAllq.at (l.take n) 0 hop i o (by rw [List.getElem?_take, if_pos hin]; simpa using ho)
   rw [Nat.zero_add] at hm
   have hdp : ∀ j ∈ D.getD i [], (j < n ∧ j ∉ rem) := fun j hj => by
    have h1 := List.all_eq_true.1 hdeps j hj
    simp only [Bool.and_eq_true, decide_eq_true_eq] at h1
    obtain ⟨oj, hoj, e, he, hb, hon⟩ := Region.waitsFor_spec h1.2
    have : oj = o := Option.some.inj (hoj.symm.trans ho)
    subst this
    have h2 := hall e he hb
    rw [hon] at h2
    have hjr : j ∉ rem := fun hjr => by
     have h3 := (hrem j (by omega)).2 hjr
     rw [getD_both h3] at h2
     cases h2
    exact ⟨by omega, hjr⟩
   have haf : ∀ j ∈ A.getD i [], ¬ (j < n ∧ j ∉ rem) := fun j hj hd => by
    have h1 := List.all_eq_true.1 hafts j hj
    simp only [Bool.and_eq_true, decide_eq_true_eq] at h1
    obtain ⟨oj, hoj, e, he, hb, hon⟩ := Region.waitsFor_spec h1.2
    have h4 : listed.getD j false = true := by
     have h5 : listed.getD j true = true := by
      cases h5 : listed.getD j true with
      | true => rfl
      | false => exact absurd ((hrem j hd.1).1 h5) hd.2
     have hsz : j < listed.size := by rw [inv.size]; omega
     simp [Array.getD, hsz] at h5 ⊢
     exact h5
    have h6 := inv.closed j oj hoj h4 e he hb
    rw [hon, getD_both hun] at h6
    cases h6
   have key : ∀ v W', J (fun k => (k < n ∧ k ∉ rem) ∨ k = i) (updO us i v) W' → wpAny P .any l.toArray Q (f + (l.toArray.size - n)) (listed.setIfInBounds i true) ((fillO a ds us 0).put o.dst v) W' := fun v W' hj => by
    rw [fillO_put us v ds hnd a 0 i o.dst hdst.symm, Nat.zero_add]
    refine ih (rem.erase i) _ (updO us i v) W' (by rw [List.length_erase_of_mem hir]; omega) (hnodup.erase i) (inv.set hi hin) (fun j hj => ?_) (fun j hj => hlt j (List.mem_of_mem_erase hj)) (hJ _ _ _ W' (fun k => ?_) hj)
    ·
     by_cases hji : i = j
     ·
      subst hji
      have hsz : i < listed.size := by rw [inv.size]; omega
      simp [Array.getD, hsz]
      exact fun h => (hnodup.mem_erase_iff.1 h).1 rfl
     ·
      rw [getD_set_ne true hji, hrem j hj, hnodup.mem_erase_iff]
      exact ⟨fun h => ⟨Ne.symm hji, h⟩, fun h => h.2⟩
    ·
     rw [hnodup.mem_erase_iff]
     constructor
     ·
      rintro (⟨h1, h2⟩ | rfl)
      ·
       exact ⟨h1, fun h => h2 h.2⟩
      ·
       exact ⟨hin, fun h => h.1 rfl⟩
     ·
      rintro ⟨h1, h2⟩
      by_cases hki : k = i
      ·
       exact .inr hki
      ·
       exact .inl ⟨h1, fun h => h2 ⟨hki, h⟩⟩
   unfold wpOp
   rw [ho]
   simp only
   have hgo := hm (fun k => k < n ∧ k ∉ rem) us W hX hdp haf (fun h => h.2 hir) (fillO a ds us 0) (fun j d hj => by
    have := fillO_get us ds hnd a 0 j d hj (hs d (List.mem_of_getElem? hj))
    rwa [Nat.zero_add] at this) (fun d hd => fillO_else us ds a 0 d hd) (wpAny P .any l.toArray Q (f + (l.toArray.size - n)) (listed.setIfInBounds i true)) key Q
   split
   ·
    rename_i hw; rw [if_pos hw] at hgo; exact .inl hgo
   ·
    rename_i hw; rw [if_neg hw] at hgo; exact hgo
/-- THE LAW. -/
theorem wp_region_g {id : Nat} {w : World} (n : Nat) (ds : List (Option Tmp)) (D A : List (List Nat)) (J : (Nat → Prop) → (Nat → Value) → World → Prop) (hm : P.follows .mixedOrders = true) (hB : jB l.toArray n ds D A = true)
  (hd : ∀ d, some d ∈ ds → d < a.tmps.size) (hJ : ∀ p q us W, (∀ k, p k ↔ q k) → J p us W → J q us W) (h0 : ∀ us, J (fun _ => False) us w.drew) (hop : GAllq P l.toArray J D A ds a 0 (l.take n))
  (hend : ∀ us W, J (fun k => k < n) us W → wpList P l.toArray Q (l.drop n) (fillO a ds us 0) W) : (Code.region id l.toArray true).wp P Q a w := by
 refine wp_region_any hm ?_
 have hB' := hB
 simp only [jB, Bool.and_eq_true, decide_eq_true_eq] at hB'
 obtain ⟨⟨⟨⟨⟨⟨hn, hl⟩, hnt⟩, _⟩, _⟩, _⟩, _⟩ := hB'
 have h := g_any hB hd hJ hop hend n (List.range n) (Array.replicate l.toArray.size false) (fun j => a.tmps.getD ((ds.getD j none).getD 0) undef) w.drew (by simp) List.nodup_range
  ⟨by simp, fun j oj _ hl => (by rw [getD_replicate_false] at hl; cases hl), fun t _ ht => getD_in (by simpa using ht) (getD_replicate_false _ _)⟩
  (fun j hj => ⟨fun _ => List.mem_range.2 hj, fun _ => getD_in (by simp at hn ⊢; omega) (getD_replicate_false _ _)⟩) (fun j hj => List.mem_range.1 hj)
  (hJ _ _ _ _ (fun k => by simp) (h0 _))
 rw [fillO_start ds a 0 _ hd (fun i d hi => by simp [List.getD, hi])] at h
 have e : n + (l.toArray.size - n) = l.toArray.size := by omega
 rw [e] at h
 exact h
end
section
variable {w W W' : World} {T : TypeId} {zs vs : Array Value} {da dst da' dst' : Prop} {v u : Value}
end
theorem SmallR.fit {neg : Bool} {xs ys : List Int} (h : SmallR xs ys) : FitQ (ratOf neg xs ys) 256 := fit_red (wD_pos ys) h.1.fit h.den.fit
theorem FitQW.of {q : Rat} (h : FitQ q 256) : FitQW q := ⟨⟨h.1⟩, ⟨h.2⟩⟩
theorem RatC.open {w : World} {v : Value} {q : Rat} (h : RatC w v q) : ∃ s A l c B m k, v = .agg #[.bool s, .slice A l c, .slice B m k] := by
 obtain ⟨xs, ys, ⟨A, l, c, B, m, k, rfl, _⟩, _⟩ := h
 exact ⟨_, _, _, _, _, _, _, rfl⟩
theorem FitQW.of4 {q : Rat} {L : Nat} (h : FitQ q L) (hl : L ≤ 256) : FitQW q := FitQW.of (h.mono hl)
/-- A value that denotes a number and is not large. -/
def RatG (w : World) (v : Value) (q : Rat) : Prop := ∃ neg xs ys, RatV w v neg xs ys ∧ SmallR xs ys ∧ ratOf neg xs ys = q
theorem RatG.ext {w w' : World} {v : Value} {q : Rat} (h : RatG w v q) (he : Ext w w') : RatG w' v q := by
 obtain ⟨neg, xs, ys, h1, h2, h3⟩ := h
 exact ⟨neg, xs, ys, h1.ext he, h2, h3⟩
theorem Rep.wN {xs : List Int} {n : Nat} (h : Rep 4294967296 xs n) : wN xs = n := by
 have := h.2.2
 unfold Go.Proofs.Ytikhlcgnlbinfaa.wN; omega
theorem RatC.good {w : World} {v : Value} {q : Rat} (h : RatC w v q) (hf : FitQW q) : RatG w v q := by
 obtain ⟨xs, ys, h1, h2, h3⟩ := h
 have e1 := h2.wN
 have e2 : wD ys = q.den ∧ FitW (wN ys) := by
  rcases h3 with ⟨hd, rfl⟩ | ⟨hd, hr⟩
  ·
   have : wN [] = 0 := by simp [wN, val]
   refine ⟨by unfold wD; rw [this, hd]; rfl, ?_⟩
   rw [this]; exact ⟨Fit.zero (by omega)⟩
  ·
   have e := hr.wN
   have := q.den_pos
   refine ⟨by unfold wD; rw [e, if_neg (by omega)], ?_⟩
   rw [e]; exact hf.den
 refine ⟨_, xs, ys, h1, ⟨by rw [e1]; exact hf.num, e2.2⟩, ?_⟩
 unfold ratOf
 rw [e1, e2.1, ratV_self]
section
variable {w : World} {v : Value} {q : Rat}
end
/-- A value that denotes a number, and whether it is large. -/
def RatL (w : World) (v : Value) (big : Bool) : Prop := ∃ neg xs ys, RatV w v neg xs ys ∧ (big = true ↔ ¬ SmallR xs ys)
theorem RatG.small {w : World} {v : Value} {q : Rat} (h : RatG w v q) : RatL w v false := by
 obtain ⟨neg, xs, ys, h1, h2, _⟩ := h
 exact ⟨neg, xs, ys, h1, by simp [h2]⟩
theorem RatL.is {w : World} {v : Value} {b : Bool} (h : RatL w v b) : Calls Try.prog 141 #[v] w fun e w' => e = .returned (.bool b) ∧ Ext w w' := by
 obtain ⟨neg, xs, ys, h1, h2⟩ := h
 exact large_is b v neg xs ys w h1 h2
theorem ofG {w : World} {v : Value} {q : Rat} (h : RatG w v q) : Calls Try.prog 133 #[v] w (RetX w q 256) := by
 obtain ⟨neg, xs, ys, h1, h2, rfl⟩ := h
 refine (of_any v neg xs ys 256 w h1 h2.1.fit h2.den.fit (by omega)).mono ?_
 rintro e w' ⟨v', rfl, hv, hX⟩
 exact ⟨v', rfl, hv.numx h2.fit, hX⟩
theorem doneG {w : World} {v : Value} {q : Rat} {L : Nat} (h : NumX w v q L) (hL : L ≤ 1099511627775) (hq : FitQW q) : Calls Try.prog 131 #[v] w (RetC w q) := done_ok v q L w h hL hq
theorem pow_double (m : Nat) : (65536 : Int) ^ (2 * m) = 4294967296 ^ m := by rw [Int.pow_mul]; rfl
theorem fit_double {n L : Nat} : Fit 65536 n (2 * L) ↔ Fit 4294967296 n L := by unfold Fit; rw [pow_double]
theorem fit512 {n : Nat} (h : Fit 4294967296 n 256) : Fit 65536 n 512 := by
 have h2 := (fit_double (n := n) (L := 256)).2 h
 rw [show 2 * 256 = 512 from rfl] at h2
 exact h2
theorem fit512' {n : Nat} (h : Fit 65536 n 512) : Fit 4294967296 n 256 := by
 have h2 := h
 rw [show 512 = 2 * 256 from rfl] at h2
 exact fit_double.1 h2
theorem nm_of_low {B : Int} {xs : List Int} (_hB : 1 < B) (hd : Dg B xs) (hne : xs ≠ []) (h : B ^ (xs.length - 1) ≤ val B xs) : Nm xs := by
 rcases List.eq_nil_or_concat xs with e | ⟨ys, x, e⟩
 ·
  exact absurd e hne
 ·
  subst e
  rw [List.concat_eq_append] at *
  by_cases hx : x = 0
  ·
   exfalso
   subst hx
   rw [val_snoc, Int.mul_zero, Int.add_zero] at h
   have h2 := val_lt (B := B) (by omega) (show Dg B ys from fun y hy => hd y (by simp [hy]))
   simp at h
   omega
  ·
   exact Nm.snoc hx
theorem words_step {out xs : List Int} {k : Nat} {x y : Int} (hx : xs[2 * k]? = some x) (hy : xs.getD (2 * k + 1) 0 = y) (hl : out.length = k) (hv : val 4294967296 out = val 65536 (xs.take (2 * k))) :
  val 4294967296 (out ++ [x + y * 65536]) = val 65536 (xs.take (2 * (k + 1))) := by
 rw [val_snoc, hl, hv, show 2 * (k + 1) = 2 * k + 1 + 1 by omega, val_take_next, val_take_next, hy, getD_some hx, Int.pow_succ, pow_double]
 grind
theorem words_end {out xs : List Int} {k n : Nat} (hr : Rep 65536 xs n) (hl : out.length = k) (hk : xs.length ≤ 2 * k) (hk2 : 2 * k ≤ xs.length + 1) (hd : Dg 4294967296 out) (hv : val 4294967296 out = val 65536 (xs.take (2 * k))) : Rep 4294967296 out n := by
 rw [List.take_of_length_le hk, hr.2.2] at hv
 refine ⟨hd, ?_, hv⟩
 by_cases h0 : xs = []
 ·
  subst h0
  have : out = [] := List.eq_nil_of_length_eq_zero (by simp at hk2; omega)
  subst this; exact Nm.nil
 ·
  have hxl : 0 < xs.length := List.length_pos_iff.2 h0
  refine nm_of_low (by omega) hd (by intro e; rw [e] at hl; simp at hl; omega) ?_
  have h1 := nm_low (B := 65536) (by omega) hr.1 hr.2.1 h0
  rw [hr.2.2] at h1
  rw [hv, hl]
  have h2 : (4294967296 : Int) ^ (k - 1) ≤ 65536 ^ (xs.length - 1) := by
   rw [← pow_double]
   exact pow_le (B := 65536) (by omega) (by omega)
  omega
theorem len_512 {xs : List Int} {n : Nat} (hr : Rep 65536 xs n) : xs.length ≤ 512 ↔ FitW n := by
 constructor
 ·
  intro h
  have h1 := (Fit.of_rep (B := 65536) (by omega) hr).mono (by omega) h
  exact ⟨fit512' h1⟩
 ·
  intro h
  have h1 := fit512 h.1
  exact h1.len (by omega) hr
set_option maxRecDepth 100000 in
set_option maxHeartbeats 1000000 in
theorem words_no (va : Value) (n : Nat) (w : World) (ha : Z16 w va n) (hf : ¬ FitW n) :
  Calls Try.prog 190 #[va] w (fun e w' => e = .returned (.tuple #[.slice none 0 0, .bool false]) ∧ Ext w w') := by
 obtain ⟨A, l, c, xs, rfl, hI, hr, hc1, hc2⟩ := ha
 have h := len_512 hr
 rw [hI.1] at h
 have hl : ¬ l ≤ 512 := fun hl => hf (h.1 hl)
 have hl2 : (512 : Int) < (l : Int) := by omega
 clear h hI hr hf
 go_enter Try.func190, Try.ntmps190
 go_wp2
 go_ret2
 exact ⟨rfl, Ext.refl _⟩
set_option maxRecDepth 100000 in
set_option maxHeartbeats 2000000 in
theorem words_yes (va : Value) (n : Nat) (w : World) (ha : Z16 w va n) (hf : FitW n) :
  Calls Try.prog 190 #[va] w (fun e w' => ∃ v, e = .returned (.tuple #[v, .bool true]) ∧ W32 w' v n ∧ Ext w w') := by
 obtain ⟨A, l, c, xs, rfl, hI, hr, hc1, hc2⟩ := ha
 have h := len_512 hr
 rw [hI.1] at h
 have hl : l ≤ 512 := h.2 hf
 have hl2 : ¬ (512 : Int) < (l : Int) := by omega
 have H := hid hI
 have HL : Hid (xs.length = l) := hI.1
 have HR := hid hr
 clear h hI hr hf
 go_enter Try.func190, Try.ntmps190
 go_wp2
 go_loopg [4, 5] (l + 2) (fun g s4 s5 wr => ∃ (k t : Nat) (out : List Int), g = l + 2 - t ∧ Hid (t = 2 * k) ∧ t ≤ l + 1 ∧ s5 = .int .i64 (t : Int) ∧ Hid (wr.ownsRow w.heap.size 129 1 s4 k (out.map (.int .u32))) ∧ Hid (Dg 4294967296 out) ∧ Hid (out.length = k) ∧ Hid (val 4294967296 out = val 65536 (xs.take (2 * k))) ∧ Hid (Ext w wr))
 case atStart => exact ⟨0, 0, [], rfl, rfl, by omega, rfl, World.ownsRow_nil _ _ _ _, Dg.nil, rfl, rfl, Ext.refl w⟩
 case round =>
  obtain ⟨k, t, out, rfl, HT, hk, rfl, HO, HD, HLO, HI, HX⟩ := hrel
  obtain ⟨A2, c2, rfl⟩ := own_slice HO.out
  by_cases hlt : t < l
  ·
   have hkl : (t : Int) < (l : Int) := by omega
   have hk0 : (0 : Int) ≤ (t : Int) := by omega
   obtain ⟨bw, ow, x, rfl, hx, hwf, hc⟩ := (H.out.ext HX.out).get (j := t) (by omega)
   obtain ⟨hx0, hx1⟩ := HR.out.1.get hx
   have hw1 : IntKind.u32.wrap x = x := by rw [IntKind.wrap_u32]; omega
   have hown := HO.out
   have hkb : k ≤ 512 := by have := HT.out; omega
   rw [HT.out] at hx
   have HXX := hid hx
   clear hx hwf
   by_cases hod : t + 1 < l
   ·
    have hkl1 : (t : Int) + 1 < (l : Int) := by omega
    obtain ⟨bw', ow', y, hA, hy, hwf', hd⟩ := (H.out.ext HX.out).get (j := t + 1) (by omega)
    injection hA with hA
    injection hA with e1 e2
    subst e1 e2
    obtain ⟨hy0, hy1⟩ := HR.out.1.get hy
    have hw2 : IntKind.u32.wrap y = y := by rw [IntKind.wrap_u32]; omega
    have hw3 : IntKind.u32.wrap (y * 65536) = y * 65536 := by rw [IntKind.wrap_u32]; omega
    have hw4 : IntKind.u32.wrap (x + y * 65536) = x + y * 65536 := by rw [IntKind.wrap_u32]; omega
    have hk1 : (0 : Int) ≤ (t : Int) + 1 := by omega
    rw [HT.out] at hy
    have HST := hid (words_step HXX.out (getD_some hy) HLO.out HI.out)
    have HDD := hid (HD.out.append (Dg.one (B := 4294967296) (x := x + y * 65536) (by omega)))
    clear hy hwf'
    go_wp2_with (at_builtin; refine wpList_app _ elU rfl _ _ rfl w.heap.size _ k _ rfl (hown.alloc _) _ 1 1 [.int .u32 (x + y * 65536)] rfl rfl (At.new _ [_] _) (by simp [Value.oneCell']) (by omega) (by unfold maxLen; omega) (by have := HX.out.size; simp; omega) ?_; intro v1 w1 hown1 hgr1 _; have HO1 := hid hown1; have HX1 := hid (Ext.push HX.out HO.out hgr1); clear hown1 hgr1)
    go_roundg (l + 2 - (t + 2))
    case rel => exact ⟨k + 1, t + 2, out ++ [x + y * 65536], rfl, (by have := HT.out; show _ = _; omega), by omega, by go_num, by rw [List.map_append]; exact HO1.out, HDD.out, by rw [List.length_append, HLO.out]; rfl, HST.out, HX1.out⟩
    case measure => omega
   ·
    have hkl1 : ¬ (t : Int) + 1 < (l : Int) := by omega
    have hy : xs.getD (2 * k + 1) 0 = 0 := getD_none (by rw [HL.out]; have := HT.out; omega)
    have HST := hid (words_step HXX.out hy HLO.out HI.out)
    rw [Int.zero_mul, Int.add_zero] at HST
    have HDD := hid (HD.out.append (Dg.one (B := 4294967296) (x := x) (by omega)))
    clear hy
    go_wp2_with (at_builtin; refine wpList_app _ elU rfl _ _ rfl w.heap.size _ k _ rfl (hown.alloc _) _ 1 1 [.int .u32 x] rfl rfl (At.new _ [_] _) (by simp [Value.oneCell']) (by omega) (by unfold maxLen; omega) (by have := HX.out.size; simp; omega) ?_; intro v1 w1 hown1 hgr1 _; have HO1 := hid hown1; have HX1 := hid (Ext.push HX.out HO.out hgr1); clear hown1 hgr1)
    go_roundg (l + 2 - (t + 2))
    case rel => exact ⟨k + 1, t + 2, out ++ [x], rfl, (by have := HT.out; show _ = _; omega), by omega, by go_num, by rw [List.map_append]; exact HO1.out, HDD.out, by rw [List.length_append, HLO.out]; rfl, HST.out, HX1.out⟩
    case measure => omega
  ·
   have hkl : ¬ (t : Int) < (l : Int) := by omega
   have HOS : Hid (OwnS .u32 129 w.heap.size wr A2 k c2 out) := ⟨HO.out, HLO.out, fun x hx => wf32 (HD.out x hx)⟩
   have HE : Hid (Rep 4294967296 out n) := words_end HR.out HLO.out (by rw [HL.out]; have := HT.out; omega) (by rw [HL.out]; have := HT.out; omega) HD.out HI.out
   go_wp2
   go_ret2
   exact ⟨_, rfl, HOS.out.natv HE.out, HX.out⟩
theorem words_b (b : Bool) (va : Value) (n : Nat) (w : World) (ha : Z16 w va n) (hf : b = true ↔ FitW n) :
  Calls Try.prog 190 #[va] w (fun e w' => ∃ v, e = .returned (.tuple #[v, .bool b]) ∧ (b = true → W32 w' v n) ∧ Ext w w') := by
 cases b
 ·
  refine (words_no va n w ha (fun h => by have := hf.2 h; cases this)).mono ?_
  rintro e w' ⟨rfl, hX⟩
  exact ⟨_, rfl, (fun h => by cases h), hX⟩
 ·
  refine (words_yes va n w ha (hf.1 rfl)).mono ?_
  rintro e w' ⟨v, rfl, hz, hX⟩
  exact ⟨v, rfl, fun _ => hz, hX⟩
theorem den16_one {w : World} {A : Option Addr} {l c d : Nat} (h : Z16 w (.slice A l c) d) (hd : d = 1) : l = 1 ∧ ∃ b o x, A = some ⟨b, o, none⟩ ∧ w.cell? ⟨b, o, none⟩ = some (.int .i64 x) ∧ (x == 1) = true := by
 obtain ⟨A', l', c', xs, e, hI, hr, hc⟩ := h
 injection e with e1 e2 e3
 subst e1 e2 e3
 obtain rfl : xs = [1] := by rw [hd] at hr; exact hr.unique (by omega) (Rep.one (by omega))
 obtain rfl : l = 1 := by simpa using hI.1.symm
 obtain ⟨b, o, y, rfl, hy, _, hcy⟩ := hI.get (j := 0) (by omega)
 obtain rfl : 1 = y := by simpa using hy
 exact ⟨rfl, b, o, 1, rfl, by simpa using hcy, by simp⟩
theorem den16_ne {w : World} {A : Option Addr} {l c d : Nat} (h : Z16 w (.slice A l c) d) (hl : l = 1) (_hd : d ≠ 1) : ∃ b o x, A = some ⟨b, o, none⟩ ∧ w.cell? ⟨b, o, none⟩ = some (.int .i64 x) ∧ (x == 1) = false := by
 obtain ⟨A', l', c', xs, e, hI, hr, hc⟩ := h
 injection e with e1 e2 e3
 subst e1 e2 e3 hl
 obtain ⟨y, rfl⟩ : ∃ y, xs = [y] := List.length_eq_one_iff.1 hI.1
 obtain ⟨b, o, x, rfl, hx, _, hcx⟩ := hI.get (j := 0) (by omega)
 obtain rfl : y = x := by simpa using hx
 obtain ⟨h1, h2⟩ := hr.single (by omega)
 refine ⟨b, o, y, rfl, by simpa using hcx, ?_⟩
 simp only [beq_eq_false_iff_ne, ne_eq]
 omega
set_option maxRecDepth 100000 in
set_option maxHeartbeats 2000000 in
theorem rout_one (s0 : Bool) (A0 B0 : Option Addr) (l0 c0 m0 k0 : Nat) (n d : Nat) (w : World) (hI : Z16 w (.slice A0 l0 c0) n) (hJ : Z16 w (.slice B0 m0 k0) d) (ha : FitW n) (hb : FitW d) (hd : d = 1) :
  Calls Try.prog 139 #[.agg #[.bool s0, .slice A0 l0 c0, .slice B0 m0 k0]] w (fun e w' => ∃ A9 l9 c9 B9 m9 k9, e = .returned (.tuple #[.agg #[.bool s0, .slice A9 l9 c9, .slice B9 m9 k9], .int .i64 0]) ∧ W32 w' (.slice A9 l9 c9) n ∧ (B9 = none ∧ m9 = 0 ∧ k9 = 0) ∧ Ext w w') := by
 have H0 := hid ha
 have H1 := hid hb
 clear ha hb
 have HI := hid hI
 have HJ := hid hJ
 obtain ⟨hm, b1, o1, x1, hB, hc1, hx1⟩ := den16_one hJ hd
 subst hB
 subst hm
 clear hI hJ
 have hXe : Ext w ((w.alloc (.cells #[.bool s0, .slice A0 l0 c0, .slice (some ⟨b1, o1, none⟩) 1 k0] 65)).alloc (.cells #[.bool false, .slice none 0 0, .slice none 0 0] 97)) := (((Ext.refl w).alloc _).alloc _)
 have kA : Blk ((w.alloc (.cells #[.bool s0, .slice A0 l0 c0, .slice (some ⟨b1, o1, none⟩) 1 k0] 65)).alloc (.cells #[.bool false, .slice none 0 0, .slice none 0 0] 97)) w.heap.size 65 #[.bool s0, .slice A0 l0 c0, .slice (some ⟨b1, o1, none⟩) 1 k0] := Blk.alloc (Blk.at_ (by simp)) _
 have kR : Blk ((w.alloc (.cells #[.bool s0, .slice A0 l0 c0, .slice (some ⟨b1, o1, none⟩) 1 k0] 65)).alloc (.cells #[.bool false, .slice none 0 0, .slice none 0 0] 97)) (w.heap.size + 1) 97 #[.bool false, .slice none 0 0, .slice none 0 0] := Blk.at_ (by simp)
 go_enter Try.func139, Try.ntmps139
 go_wp2_with fail
 generalize ((w.alloc (.cells #[.bool s0, .slice A0 l0 c0, .slice (some ⟨b1, o1, none⟩) 1 k0] 65)).alloc (.cells #[.bool false, .slice none 0 0, .slice none 0 0] 97)) = w1 at hXe kA kR ⊢
 have HX := hid hXe
 clear hXe
 have KA := hid kA
 clear kA
 have KR := hid kR
 clear kR
 replace HI := hid (HI.out.ext HX.out)
 replace HJ := hid (HJ.out.ext HX.out)
 have hc0 := hc1
 clear hc1
 have cA0 : w1.cell? ⟨w.heap.size, 0, none⟩ = some (.bool s0) := KA.out.cell 0
 have cA1 : w1.cell? ⟨w.heap.size, 1, none⟩ = some (.slice A0 l0 c0) := KA.out.cell 1
 have cA2 : w1.cell? ⟨w.heap.size, 2, none⟩ = some (.slice (some ⟨b1, o1, none⟩) 1 k0) := KA.out.cell 2
 go_wp2_with fail
 clear cA0 cA1 cA2
 refine (words_b true _ n _ HI.out ⟨fun _ => H0.out, fun _ => rfl⟩).mono ?_
 rintro e w2 ⟨v7, rfl, h7, hX⟩
 replace hX : Ext w1 w2 := by with_reducible exact hX
 replace HX := hid (HX.out.trans hX)
 replace HI := hid (HI.out.ext hX)
 replace HJ := hid (HJ.out.ext hX)
 replace KA := hid (KA.out.ext hX)
 replace KR := hid (KR.out.ext hX)
 clear hX
 have HV7 : Hid (W32 w2 v7 n) := h7 rfl
 clear h7
 have cA0 : w2.cell? ⟨w.heap.size, 0, none⟩ = some (.bool s0) := KA.out.cell 0
 have cA1 : w2.cell? ⟨w.heap.size, 1, none⟩ = some (.slice A0 l0 c0) := KA.out.cell 1
 have cA2 : w2.cell? ⟨w.heap.size, 2, none⟩ = some (.slice (some ⟨b1, o1, none⟩) 1 k0) := KA.out.cell 2
 go_wp2_with fail
 clear cA0 cA1 cA2
 refine (words_b true _ d _ HJ.out ⟨fun _ => H1.out, fun _ => rfl⟩).mono ?_
 rintro e w3 ⟨v8, rfl, h8, hX⟩
 replace hX : Ext w2 w3 := by with_reducible exact hX
 replace HX := hid (HX.out.trans hX)
 replace HI := hid (HI.out.ext hX)
 replace HJ := hid (HJ.out.ext hX)
 replace HV7 := hid (HV7.out.ext hX)
 replace KA := hid (KA.out.ext hX)
 replace KR := hid (KR.out.ext hX)
 clear hX
 have HV8 := hid (h8 rfl)
 clear h8
 obtain ⟨A7, l7, c7, rfl, hv7, _⟩ := W32.open HV7.out
 obtain ⟨A8, l8, c8, rfl, hv8, _⟩ := W32.open HV8.out
 clear HV7 HV8
 have HU7 := hid (W32.boxed hv7 (NoInts.three KR.out) s0 A7 none l7 c7 0 0)
 have HU8 := hid (W32.boxed hv8 (NoInts.three KR.out) s0 A7 none l7 c7 0 0)
 clear hv7 hv8
 have hc2 := HX.out.cell hc0
 clear hc0
 have cA0 : w3.cell? ⟨w.heap.size, 0, none⟩ = some (.bool s0) := KA.out.cell 0
 have cA1 : w3.cell? ⟨w.heap.size, 1, none⟩ = some (.slice A0 l0 c0) := KA.out.cell 1
 have cA2 : w3.cell? ⟨w.heap.size, 2, none⟩ = some (.slice (some ⟨b1, o1, none⟩) 1 k0) := KA.out.cell 2
 have cR0 : w3.cell? ⟨(w.heap.size + 1), 0, none⟩ = some (.bool false) := KR.out.cell 0
 have fR0 : w3.frozen? ⟨(w.heap.size + 1), 0, none⟩ = false := KR.out.free 0
 have cR1 : w3.cell? ⟨(w.heap.size + 1), 1, none⟩ = some (.slice none 0 0) := KR.out.cell 1
 have fR1 : w3.frozen? ⟨(w.heap.size + 1), 1, none⟩ = false := KR.out.free 1
 have cR2 : w3.cell? ⟨(w.heap.size + 1), 2, none⟩ = some (.slice none 0 0) := KR.out.cell 2
 have fR2 : w3.frozen? ⟨(w.heap.size + 1), 2, none⟩ = false := KR.out.free 2
 go_wp2
 refine bodyPost_ret (v := .tuple #[.agg #[.bool s0, .slice A7 l7 c7, .slice none 0 0], .int .i64 0]) (by simp [results, Try.results139, go_sem, *]) rfl ?_
 exact ⟨_, _, _, _, _, _, rfl, HU7.out, ⟨rfl, rfl, rfl⟩, Ext.boxed HX.out (by omega) _ _ _⟩
set_option maxRecDepth 100000 in
set_option maxHeartbeats 2000000 in
theorem rout_len (s0 : Bool) (A0 B0 : Option Addr) (l0 c0 m0 k0 : Nat) (n d : Nat) (w : World) (hI : Z16 w (.slice A0 l0 c0) n) (hJ : Z16 w (.slice B0 m0 k0) d) (ha : FitW n) (hb : FitW d) (hd : m0 ≠ 1) :
  Calls Try.prog 139 #[.agg #[.bool s0, .slice A0 l0 c0, .slice B0 m0 k0]] w (fun e w' => ∃ A9 l9 c9 B9 m9 k9, e = .returned (.tuple #[.agg #[.bool s0, .slice A9 l9 c9, .slice B9 m9 k9], .int .i64 0]) ∧ W32 w' (.slice A9 l9 c9) n ∧ W32 w' (.slice B9 m9 k9) d ∧ Ext w w') := by
 have H0 := hid ha
 have H1 := hid hb
 clear ha hb
 have hb1 : ((m0 : Int) == 1) = false := by simp; omega
 clear hd
 have HI := hid hI
 have HJ := hid hJ
 clear hI hJ
 have hXe : Ext w ((w.alloc (.cells #[.bool s0, .slice A0 l0 c0, .slice B0 m0 k0] 65)).alloc (.cells #[.bool false, .slice none 0 0, .slice none 0 0] 97)) := (((Ext.refl w).alloc _).alloc _)
 have kA : Blk ((w.alloc (.cells #[.bool s0, .slice A0 l0 c0, .slice B0 m0 k0] 65)).alloc (.cells #[.bool false, .slice none 0 0, .slice none 0 0] 97)) w.heap.size 65 #[.bool s0, .slice A0 l0 c0, .slice B0 m0 k0] := Blk.alloc (Blk.at_ (by simp)) _
 have kR : Blk ((w.alloc (.cells #[.bool s0, .slice A0 l0 c0, .slice B0 m0 k0] 65)).alloc (.cells #[.bool false, .slice none 0 0, .slice none 0 0] 97)) (w.heap.size + 1) 97 #[.bool false, .slice none 0 0, .slice none 0 0] := Blk.at_ (by simp)
 go_enter Try.func139, Try.ntmps139
 go_wp2_with fail
 generalize ((w.alloc (.cells #[.bool s0, .slice A0 l0 c0, .slice B0 m0 k0] 65)).alloc (.cells #[.bool false, .slice none 0 0, .slice none 0 0] 97)) = w1 at hXe kA kR ⊢
 have HX := hid hXe
 clear hXe
 have KA := hid kA
 clear kA
 have KR := hid kR
 clear kR
 replace HI := hid (HI.out.ext HX.out)
 replace HJ := hid (HJ.out.ext HX.out)
 have cA0 : w1.cell? ⟨w.heap.size, 0, none⟩ = some (.bool s0) := KA.out.cell 0
 have cA1 : w1.cell? ⟨w.heap.size, 1, none⟩ = some (.slice A0 l0 c0) := KA.out.cell 1
 have cA2 : w1.cell? ⟨w.heap.size, 2, none⟩ = some (.slice B0 m0 k0) := KA.out.cell 2
 go_wp2_with fail
 clear cA0 cA1 cA2
 refine (words_b true _ n _ HI.out ⟨fun _ => H0.out, fun _ => rfl⟩).mono ?_
 rintro e w2 ⟨v7, rfl, h7, hX⟩
 replace hX : Ext w1 w2 := by with_reducible exact hX
 replace HX := hid (HX.out.trans hX)
 replace HI := hid (HI.out.ext hX)
 replace HJ := hid (HJ.out.ext hX)
 replace KA := hid (KA.out.ext hX)
 replace KR := hid (KR.out.ext hX)
 clear hX
 have HV7 : Hid (W32 w2 v7 n) := h7 rfl
 clear h7
 have cA0 : w2.cell? ⟨w.heap.size, 0, none⟩ = some (.bool s0) := KA.out.cell 0
 have cA1 : w2.cell? ⟨w.heap.size, 1, none⟩ = some (.slice A0 l0 c0) := KA.out.cell 1
 have cA2 : w2.cell? ⟨w.heap.size, 2, none⟩ = some (.slice B0 m0 k0) := KA.out.cell 2
 go_wp2_with fail
 clear cA0 cA1 cA2
 refine (words_b true _ d _ HJ.out ⟨fun _ => H1.out, fun _ => rfl⟩).mono ?_
 rintro e w3 ⟨v8, rfl, h8, hX⟩
 replace hX : Ext w2 w3 := by with_reducible exact hX
 replace HX := hid (HX.out.trans hX)
 replace HI := hid (HI.out.ext hX)
 replace HJ := hid (HJ.out.ext hX)
 replace HV7 := hid (HV7.out.ext hX)
 replace KA := hid (KA.out.ext hX)
 replace KR := hid (KR.out.ext hX)
 clear hX
 have HV8 := hid (h8 rfl)
 clear h8
 obtain ⟨A7, l7, c7, rfl, hv7, _⟩ := W32.open HV7.out
 obtain ⟨A8, l8, c8, rfl, hv8, _⟩ := W32.open HV8.out
 clear HV7 HV8
 have HU7 := hid (W32.boxed hv7 (NoInts.three KR.out) s0 A7 A8 l7 c7 l8 c8)
 have HU8 := hid (W32.boxed hv8 (NoInts.three KR.out) s0 A7 A8 l7 c7 l8 c8)
 clear hv7 hv8
 have cA0 : w3.cell? ⟨w.heap.size, 0, none⟩ = some (.bool s0) := KA.out.cell 0
 have cA1 : w3.cell? ⟨w.heap.size, 1, none⟩ = some (.slice A0 l0 c0) := KA.out.cell 1
 have cA2 : w3.cell? ⟨w.heap.size, 2, none⟩ = some (.slice B0 m0 k0) := KA.out.cell 2
 have cR0 : w3.cell? ⟨(w.heap.size + 1), 0, none⟩ = some (.bool false) := KR.out.cell 0
 have fR0 : w3.frozen? ⟨(w.heap.size + 1), 0, none⟩ = false := KR.out.free 0
 have cR1 : w3.cell? ⟨(w.heap.size + 1), 1, none⟩ = some (.slice none 0 0) := KR.out.cell 1
 have fR1 : w3.frozen? ⟨(w.heap.size + 1), 1, none⟩ = false := KR.out.free 1
 have cR2 : w3.cell? ⟨(w.heap.size + 1), 2, none⟩ = some (.slice none 0 0) := KR.out.cell 2
 have fR2 : w3.frozen? ⟨(w.heap.size + 1), 2, none⟩ = false := KR.out.free 2
 go_wp2
 refine bodyPost_ret (v := .tuple #[.agg #[.bool s0, .slice A7 l7 c7, .slice A8 l8 c8], .int .i64 0]) (by simp [results, Try.results139, go_sem, *]) rfl ?_
 exact ⟨_, _, _, _, _, _, rfl, HU7.out, HU8.out, Ext.boxed HX.out (by omega) _ _ _⟩
set_option maxRecDepth 100000 in
set_option maxHeartbeats 2000000 in
theorem rout_den (s0 : Bool) (A0 B0 : Option Addr) (l0 c0 m0 k0 : Nat) (n d : Nat) (w : World) (hI : Z16 w (.slice A0 l0 c0) n) (hJ : Z16 w (.slice B0 m0 k0) d) (ha : FitW n) (hb : FitW d) (hm : m0 = 1) (hd : d ≠ 1) :
  Calls Try.prog 139 #[.agg #[.bool s0, .slice A0 l0 c0, .slice B0 m0 k0]] w (fun e w' => ∃ A9 l9 c9 B9 m9 k9, e = .returned (.tuple #[.agg #[.bool s0, .slice A9 l9 c9, .slice B9 m9 k9], .int .i64 0]) ∧ W32 w' (.slice A9 l9 c9) n ∧ W32 w' (.slice B9 m9 k9) d ∧ Ext w w') := by
 have H0 := hid ha
 have H1 := hid hb
 clear ha hb
 have HI := hid hI
 have HJ := hid hJ
 obtain ⟨b1, o1, x1, hB, hc1, hx1⟩ := den16_ne hJ hm hd
 subst hB
 subst hm
 clear hI hJ
 have hXe : Ext w ((w.alloc (.cells #[.bool s0, .slice A0 l0 c0, .slice (some ⟨b1, o1, none⟩) 1 k0] 65)).alloc (.cells #[.bool false, .slice none 0 0, .slice none 0 0] 97)) := (((Ext.refl w).alloc _).alloc _)
 have kA : Blk ((w.alloc (.cells #[.bool s0, .slice A0 l0 c0, .slice (some ⟨b1, o1, none⟩) 1 k0] 65)).alloc (.cells #[.bool false, .slice none 0 0, .slice none 0 0] 97)) w.heap.size 65 #[.bool s0, .slice A0 l0 c0, .slice (some ⟨b1, o1, none⟩) 1 k0] := Blk.alloc (Blk.at_ (by simp)) _
 have kR : Blk ((w.alloc (.cells #[.bool s0, .slice A0 l0 c0, .slice (some ⟨b1, o1, none⟩) 1 k0] 65)).alloc (.cells #[.bool false, .slice none 0 0, .slice none 0 0] 97)) (w.heap.size + 1) 97 #[.bool false, .slice none 0 0, .slice none 0 0] := Blk.at_ (by simp)
 go_enter Try.func139, Try.ntmps139
 go_wp2_with fail
 generalize ((w.alloc (.cells #[.bool s0, .slice A0 l0 c0, .slice (some ⟨b1, o1, none⟩) 1 k0] 65)).alloc (.cells #[.bool false, .slice none 0 0, .slice none 0 0] 97)) = w1 at hXe kA kR ⊢
 have HX := hid hXe
 clear hXe
 have KA := hid kA
 clear kA
 have KR := hid kR
 clear kR
 replace HI := hid (HI.out.ext HX.out)
 replace HJ := hid (HJ.out.ext HX.out)
 have hc0 := hc1
 clear hc1
 have cA0 : w1.cell? ⟨w.heap.size, 0, none⟩ = some (.bool s0) := KA.out.cell 0
 have cA1 : w1.cell? ⟨w.heap.size, 1, none⟩ = some (.slice A0 l0 c0) := KA.out.cell 1
 have cA2 : w1.cell? ⟨w.heap.size, 2, none⟩ = some (.slice (some ⟨b1, o1, none⟩) 1 k0) := KA.out.cell 2
 go_wp2_with fail
 clear cA0 cA1 cA2
 refine (words_b true _ n _ HI.out ⟨fun _ => H0.out, fun _ => rfl⟩).mono ?_
 rintro e w2 ⟨v7, rfl, h7, hX⟩
 replace hX : Ext w1 w2 := by with_reducible exact hX
 replace HX := hid (HX.out.trans hX)
 replace HI := hid (HI.out.ext hX)
 replace HJ := hid (HJ.out.ext hX)
 replace KA := hid (KA.out.ext hX)
 replace KR := hid (KR.out.ext hX)
 clear hX
 have HV7 : Hid (W32 w2 v7 n) := h7 rfl
 clear h7
 have cA0 : w2.cell? ⟨w.heap.size, 0, none⟩ = some (.bool s0) := KA.out.cell 0
 have cA1 : w2.cell? ⟨w.heap.size, 1, none⟩ = some (.slice A0 l0 c0) := KA.out.cell 1
 have cA2 : w2.cell? ⟨w.heap.size, 2, none⟩ = some (.slice (some ⟨b1, o1, none⟩) 1 k0) := KA.out.cell 2
 go_wp2_with fail
 clear cA0 cA1 cA2
 refine (words_b true _ d _ HJ.out ⟨fun _ => H1.out, fun _ => rfl⟩).mono ?_
 rintro e w3 ⟨v8, rfl, h8, hX⟩
 replace hX : Ext w2 w3 := by with_reducible exact hX
 replace HX := hid (HX.out.trans hX)
 replace HI := hid (HI.out.ext hX)
 replace HJ := hid (HJ.out.ext hX)
 replace HV7 := hid (HV7.out.ext hX)
 replace KA := hid (KA.out.ext hX)
 replace KR := hid (KR.out.ext hX)
 clear hX
 have HV8 := hid (h8 rfl)
 clear h8
 obtain ⟨A7, l7, c7, rfl, hv7, _⟩ := W32.open HV7.out
 obtain ⟨A8, l8, c8, rfl, hv8, _⟩ := W32.open HV8.out
 clear HV7 HV8
 have HU7 := hid (W32.boxed hv7 (NoInts.three KR.out) s0 A7 A8 l7 c7 l8 c8)
 have HU8 := hid (W32.boxed hv8 (NoInts.three KR.out) s0 A7 A8 l7 c7 l8 c8)
 clear hv7 hv8
 have hc2 := HX.out.cell hc0
 clear hc0
 have cA0 : w3.cell? ⟨w.heap.size, 0, none⟩ = some (.bool s0) := KA.out.cell 0
 have cA1 : w3.cell? ⟨w.heap.size, 1, none⟩ = some (.slice A0 l0 c0) := KA.out.cell 1
 have cA2 : w3.cell? ⟨w.heap.size, 2, none⟩ = some (.slice (some ⟨b1, o1, none⟩) 1 k0) := KA.out.cell 2
 have cR0 : w3.cell? ⟨(w.heap.size + 1), 0, none⟩ = some (.bool false) := KR.out.cell 0
 have fR0 : w3.frozen? ⟨(w.heap.size + 1), 0, none⟩ = false := KR.out.free 0
 have cR1 : w3.cell? ⟨(w.heap.size + 1), 1, none⟩ = some (.slice none 0 0) := KR.out.cell 1
 have fR1 : w3.frozen? ⟨(w.heap.size + 1), 1, none⟩ = false := KR.out.free 1
 have cR2 : w3.cell? ⟨(w.heap.size + 1), 2, none⟩ = some (.slice none 0 0) := KR.out.cell 2
 have fR2 : w3.frozen? ⟨(w.heap.size + 1), 2, none⟩ = false := KR.out.free 2
 go_wp2
 refine bodyPost_ret (v := .tuple #[.agg #[.bool s0, .slice A7 l7 c7, .slice A8 l8 c8], .int .i64 0]) (by simp [results, Try.results139, go_sem, *]) rfl ?_
 exact ⟨_, _, _, _, _, _, rfl, HU7.out, HU8.out, Ext.boxed HX.out (by omega) _ _ _⟩
theorem rout_yes {w : World} {v : Value} {q : Rat} (h : QZ w v q) (hf : FitQW q) : Calls Try.prog 139 #[v] w (RetC w q) := by
 obtain ⟨b, A, l, c, B, m, k, rfl, rfl, h1, h2⟩ := h
 by_cases hd : q.den = 1
 ·
  refine (rout_one _ A B l c m k _ _ w h1 h2 hf.1 hf.2 hd).mono ?_
  rintro e w' ⟨A9, l9, c9, B9, m9, k9, rfl, ⟨A', l', c', xs, e, hI, hr, hc⟩, ⟨rfl, rfl, rfl⟩, hX⟩
  injection e with e1 e2 e3
  subst e1 e2 e3
  exact ⟨_, rfl, ⟨xs, [], ⟨_, _, _, _, _, _, rfl, hI, hc.1, hc.2, Ints.nil, by omega, by omega⟩, hr, .inl ⟨hd, rfl⟩⟩, hX⟩
 ·
  have fin : ∀ e w', (∃ A9 l9 c9 B9 m9 k9, e = .returned (.tuple #[.agg #[.bool (decide (q.num < 0)), .slice A9 l9 c9, .slice B9 m9 k9], .int .i64 0]) ∧ W32 w' (.slice A9 l9 c9) q.num.natAbs ∧ W32 w' (.slice B9 m9 k9) q.den ∧ Ext w w') → RetC w q e w' := by
   rintro e w' ⟨A9, l9, c9, B9, m9, k9, rfl, ⟨A', l', c', xs, e, hI, hr, hc⟩, ⟨B', m', k', ys, e', hJ, hs, hk⟩, hX⟩
   injection e with e1 e2 e3
   subst e1 e2 e3
   injection e' with e1 e2 e3
   subst e1 e2 e3
   exact ⟨_, rfl, ⟨xs, ys, ⟨_, _, _, _, _, _, rfl, hI, hc.1, hc.2, hJ, hk.1, hk.2⟩, hr, .inr ⟨hd, hs⟩⟩, hX⟩
  by_cases hm : m = 1
  ·
   exact (rout_den _ A B l c m k _ _ w h1 h2 hf.1 hf.2 hm hd).mono fin
  ·
   exact (rout_len _ A B l c m k _ _ w h1 h2 hf.1 hf.2 hm).mono fin
theorem ratC_two {w : World} {s s' : Bool} {A B A' B' : Option Addr} {l c m k l' c' m' k' : Nat} {q : Rat} (h : RatC w (.agg #[.bool s, .slice A l c, .slice B m k]) q) (h' : RatC w (.agg #[.bool s', .slice A' l' c', .slice B' m' k']) q) :
  s' = s ∧ l' = l ∧ m' = m ∧ ∃ xs ys, Ints .u32 w A l xs ∧ Ints .u32 w A' l xs ∧ Ints .u32 w B m ys ∧ Ints .u32 w B' m ys ∧ l ≤ 9223372036854775807 ∧ m ≤ 9223372036854775807 := by
 obtain ⟨xs, ys, ⟨A1, l1, c1, B1, m1, k1, e, h1, h2, h3, h4, h5, h6⟩, hx, hy⟩ := h
 obtain ⟨xs', ys', ⟨A2, l2, c2, B2, m2, k2, e', g1, g2, g3, g4, g5, g6⟩, hx', hy'⟩ := h'
 simp only [Value.agg.injEq, Array.mk.injEq, List.cons.injEq, Value.bool.injEq, Value.slice.injEq, and_true] at e e'
 obtain ⟨rfl, ⟨rfl, rfl, rfl⟩, rfl, rfl, rfl⟩ := e
 obtain ⟨rfl, ⟨rfl, rfl, rfl⟩, rfl, rfl, rfl⟩ := e'
 obtain rfl := hx.unique (by omega) hx'
 have hyy : ys = ys' := by
  rcases hy with ⟨a, b⟩ | ⟨a, b⟩ <;> rcases hy' with ⟨a', b'⟩ | ⟨a', b'⟩
  ·
   rw [b, b']
  ·
   exact absurd a a'
  ·
   exact absurd a' a
  ·
   exact b.unique (by omega) b'
 subst hyy
 have e1 := h1.1
 have e2 := g1.1
 have e3 := h4.1
 have e4 := g4.1
 have z1 : l' = l := by omega
 have z2 : m' = m := by omega
 subst z1 z2
 exact ⟨rfl, rfl, rfl, xs, ys, h1, g1, h4, g4, by omega, by omega⟩
set_option maxRecDepth 100000 in
set_option maxHeartbeats 2000000 in
theorem same_v (s0 s1 : Bool) (A0 B0 A1 B1 : Option Addr) (l0 c0 m0 k0 l1 c1 m1 k1 : Nat) (q : Rat) (w : World) (hx : RatC w (.agg #[.bool s0, .slice A0 l0 c0, .slice B0 m0 k0]) q) (hy : QZ w (.agg #[.bool s1, .slice A1 l1 c1, .slice B1 m1 k1]) q) (hf : FitQW q) :
  Calls Try.prog 59 #[.agg #[.bool s0, .slice A0 l0 c0, .slice B0 m0 k0], .agg #[.bool s1, .slice A1 l1 c1, .slice B1 m1 k1]] w (fun e w' => e = .returned (.bool true) ∧ Ext w w') := by
 have HXX := hid hx
 have HYY := hid hy
 have HF := hid hf
 clear hx hy hf
 have hXe : Ext w ((w.alloc (.cells #[.bool s0, .slice A0 l0 c0, .slice B0 m0 k0] 97)).alloc (.cells #[.bool s1, .slice A1 l1 c1, .slice B1 m1 k1] 65)) := (((Ext.refl w).alloc _).alloc _)
 have kA : Blk ((w.alloc (.cells #[.bool s0, .slice A0 l0 c0, .slice B0 m0 k0] 97)).alloc (.cells #[.bool s1, .slice A1 l1 c1, .slice B1 m1 k1] 65)) w.heap.size 97 #[.bool s0, .slice A0 l0 c0, .slice B0 m0 k0] := Blk.alloc (Blk.at_ (by simp)) _
 have kB : Blk ((w.alloc (.cells #[.bool s0, .slice A0 l0 c0, .slice B0 m0 k0] 97)).alloc (.cells #[.bool s1, .slice A1 l1 c1, .slice B1 m1 k1] 65)) (w.heap.size + 1) 65 #[.bool s1, .slice A1 l1 c1, .slice B1 m1 k1] := Blk.at_ (by simp)
 go_enter Try.func59, Try.ntmps59
 go_wp2_with fail
 generalize ((w.alloc (.cells #[.bool s0, .slice A0 l0 c0, .slice B0 m0 k0] 97)).alloc (.cells #[.bool s1, .slice A1 l1 c1, .slice B1 m1 k1] 65)) = w1 at hXe kA kB ⊢
 have HX := hid hXe
 clear hXe
 have KA := hid kA
 clear kA
 have KB := hid kB
 clear kB
 replace HXX := hid (HXX.out.ext HX.out)
 replace HYY := hid (HYY.out.ext HX.out)
 have cB0 : w1.cell? ⟨(w.heap.size + 1), 0, none⟩ = some (.bool s1) := KB.out.cell 0
 have cB1 : w1.cell? ⟨(w.heap.size + 1), 1, none⟩ = some (.slice A1 l1 c1) := KB.out.cell 1
 have cB2 : w1.cell? ⟨(w.heap.size + 1), 2, none⟩ = some (.slice B1 m1 k1) := KB.out.cell 2
 go_wp2_with fail
 clear cB0 cB1 cB2
 refine (rout_yes HYY.out HF.out).mono ?_
 rintro e w2 ⟨v9, rfl, h9, hX⟩
 replace hX : Ext w1 w2 := by with_reducible exact hX
 replace HX := hid (HX.out.trans hX)
 replace HXX := hid (HXX.out.ext hX)
 replace HYY := hid (HYY.out.ext hX)
 replace KA := hid (KA.out.ext hX)
 replace KB := hid (KB.out.ext hX)
 clear hX
 obtain ⟨s9, A9, l9, c9, B9, m9, k9, rfl⟩ := h9.open
 obtain ⟨rfl, rfl, rfl, xs, ys, x0, x9, y0, y9, hl0, hm0⟩ := ratC_two HXX.out h9
 have X0 := hid x0
 have X1 := hid x9
 have Y0 := hid y0
 have Y1 := hid y9
 clear x0 x9 y0 y9 h9
 clear HXX
 clear HYY
 clear KB
 go_upto_region 2 with (fail)
 have hXa : Ext w2 (w2.alloc (.cells #[.bool s9, .slice A9 l9 c9, .slice B9 m9 k9] 97)) := (Ext.refl _).alloc _
 have kY := Blk.new w2 97 #[.bool s9, .slice A9 l9 c9, .slice B9 m9 k9]
 have zA := KA.out.lt
 have zg := HX.out.size
 replace HX := hid (HX.out.trans hXa)
 replace X0 := hid (X0.out.ext hXa)
 replace X1 := hid (X1.out.ext hXa)
 replace Y0 := hid (Y0.out.ext hXa)
 replace Y1 := hid (Y1.out.ext hXa)
 replace KA := hid (KA.out.ext hXa)
 generalize (w2.alloc (.cells #[.bool s9, .slice A9 l9 c9, .slice B9 m9 k9] 97)) = w3 at HX X0 X1 Y0 Y1 KA kY ⊢
 have KY := hid kY
 clear kY hXa
 obtain ⟨gy, hgy⟩ : ∃ g, w2.heap.size = g := ⟨_, rfl⟩
 rw [hgy] at KY ⊢
 clear hgy
 have cA0 : w3.cell? ⟨w.heap.size, 0, none⟩ = some (.bool s9) := KA.out.cell 0
 have cA1 : w3.cell? ⟨w.heap.size, 1, none⟩ = some (.slice A0 l9 c0) := KA.out.cell 1
 have cA2 : w3.cell? ⟨w.heap.size, 2, none⟩ = some (.slice B0 m9 k0) := KA.out.cell 2
 have cY0 : w3.cell? ⟨gy, 0, none⟩ = some (.bool s9) := KY.out.cell 0
 have cY1 : w3.cell? ⟨gy, 1, none⟩ = some (.slice A9 l9 c9) := KY.out.cell 1
 have cY2 : w3.cell? ⟨gy, 2, none⟩ = some (.slice B9 m9 k9) := KY.out.cell 2
 go_wp2_with fail
 clear cA0 cA1 cA2 cY0 cY1 cY2
 go_loopg [7] l9 (fun g' i wr => ∃ k : Nat, g' = l9 - k ∧ k ≤ l9 ∧ i = .int .i64 (k : Int) ∧ Hid (Blk wr w.heap.size 97 #[.bool s9, .slice A0 l9 c0, .slice B0 m9 k0]) ∧ Hid (Blk wr gy 97 #[.bool s9, .slice A9 l9 c9, .slice B9 m9 k9]) ∧ Hid (Ext w3 wr) ∧ Hid (Ext w wr))
 case atStart => exact ⟨0, rfl, by omega, rfl, KA.out, KY.out, Ext.refl _, HX.out⟩
 case round =>
  clear KA KY HX
  obtain ⟨k, rfl, hk, rfl, KA, KY, HE, HX⟩ := hrel
  have cA0 : wr.cell? ⟨w.heap.size, 1, none⟩ = some (.slice A0 l9 c0) := KA.out.cell 1
  have cA1 : wr.cell? ⟨w.heap.size, 2, none⟩ = some (.slice B0 m9 k0) := KA.out.cell 2
  have cB0 : wr.cell? ⟨gy, 1, none⟩ = some (.slice A9 l9 c9) := KY.out.cell 1
  have cB1 : wr.cell? ⟨gy, 2, none⟩ = some (.slice B9 m9 k9) := KY.out.cell 2
  by_cases hlt : k < l9
  ·
   have hI : (k : Int) < (l9 : Int) := by omega
   have h0 : (0 : Int) ≤ (k : Int) := by omega
   obtain ⟨b0, o0, x0, hA0, hx0, hw0, hc0⟩ := X0.out.get hlt
   obtain ⟨b1, o1, x1, hA1, hx1, hw1, hc1⟩ := X1.out.get hlt
   have hxx : x1 = x0 := by rw [hx0] at hx1; injection hx1 with h; exact h.symm
   subst hxx
   subst hA0 hA1
   have d0 := HE.out.cell hc0
   have d1 := HE.out.cell hc1
   obtain ⟨u0, u1⟩ := u32_bounds hw0
   clear hx0 hx1 hw0 hw1 hc0 hc1
   go_wp2
   go_quiet (fail)
   go_wp2
   go_roundg (l9 - (k + 1))
   case rel => exact ⟨k + 1, rfl, by omega, by go_num, KA.out.drewN _, KY.out.drewN _, HE.out.drewN _, HX.out.drewN _⟩
   case measure => omega
  ·
   obtain rfl : l9 = k := by omega
   go_wp2_with fail
   obtain ⟨wo, rfl⟩ : ∃ wo : World, wo = wr := ⟨_, rfl⟩
   clear cA0 cA1 cB0 cB1
   go_loopg [8] m9 (fun g' i wr => ∃ k : Nat, g' = m9 - k ∧ k ≤ m9 ∧ i = .int .i64 (k : Int) ∧ Hid (Blk wr w.heap.size 97 #[.bool s9, .slice A0 l9 c0, .slice B0 m9 k0]) ∧ Hid (Blk wr gy 97 #[.bool s9, .slice A9 l9 c9, .slice B9 m9 k9]) ∧ Hid (Ext w3 wr) ∧ Hid (Ext w wr))
   case atStart => exact ⟨0, rfl, by omega, rfl, KA.out, KY.out, HE.out, HX.out⟩
   case round =>
    clear KA KY HX HE
    obtain ⟨k, rfl, hk, rfl, KA, KY, HE, HX⟩ := hrel
    have cA0 : wr.cell? ⟨w.heap.size, 1, none⟩ = some (.slice A0 l9 c0) := KA.out.cell 1
    have cA1 : wr.cell? ⟨w.heap.size, 2, none⟩ = some (.slice B0 m9 k0) := KA.out.cell 2
    have cB0 : wr.cell? ⟨gy, 1, none⟩ = some (.slice A9 l9 c9) := KY.out.cell 1
    have cB1 : wr.cell? ⟨gy, 2, none⟩ = some (.slice B9 m9 k9) := KY.out.cell 2
    by_cases hlt : k < m9
    ·
     have hI : (k : Int) < (m9 : Int) := by omega
     have h0 : (0 : Int) ≤ (k : Int) := by omega
     obtain ⟨b0, o0, x0, hA0, hx0, hw0, hc0⟩ := Y0.out.get hlt
     obtain ⟨b1, o1, x1, hA1, hx1, hw1, hc1⟩ := Y1.out.get hlt
     have hxx : x1 = x0 := by rw [hx0] at hx1; injection hx1 with h; exact h.symm
     subst hxx
     subst hA0 hA1
     have d0 := HE.out.cell hc0
     have d1 := HE.out.cell hc1
     obtain ⟨u0, u1⟩ := u32_bounds hw0
     clear hx0 hx1 hw0 hw1 hc0 hc1
     go_wp2
     go_quiet (fail)
     go_wp2
     go_roundg (m9 - (k + 1))
     case rel => exact ⟨k + 1, rfl, by omega, by go_num, KA.out.drewN _, KY.out.drewN _, HE.out.drewN _, HX.out.drewN _⟩
     case measure => omega
    ·
     obtain rfl : m9 = k := by omega
     go_wp2
     go_ret
     exact ⟨rfl, HX.out⟩
theorem same_any {w : World} {vx va : Value} {q : Rat} (h : RatC w vx q) (k : QZ w va q) (hf : FitQW q) : Calls Try.prog 59 #[vx, va] w fun e w' => e = .returned (.bool true) ∧ Ext w w' := by
 obtain ⟨s0, A0, l0, c0, B0, m0, k0, rfl⟩ := h.open
 obtain ⟨s1, A1, l1, c1, B1, m1, k1, rfl⟩ := k.open
 exact same_v s0 s1 A0 B0 A1 B1 l0 c0 m0 k0 l1 c1 m1 k1 q w h k hf
theorem fitQ_int {n : Int} {L : Nat} (h : Fit 4294967296 n.natAbs L) (hL : 0 < L) : FitQ ((n : Int) : Rat) L := by
 refine ⟨by rw [Rat.num_intCast]; exact h, ?_⟩
 rw [Rat.den_intCast]
 exact Fit.one (by omega) hL
theorem fitQ_small {n : Int} (_h0 : -9223372036854775808 ≤ n) (_h1 : n ≤ 9223372036854775807) : FitQ ((n : Int) : Rat) 2 := by
 refine fitQ_int ?_ (by omega)
 unfold Fit
 have : (4294967296 : Int) ^ 2 = 18446744073709551616 := by decide
 omega
theorem sgnQ_cases (q : Rat) : (q < 0 ∧ sgnQ q = -1) ∨ (q = 0 ∧ sgnQ q = 0) ∨ (0 < q ∧ sgnQ q = 1) := by
 unfold sgnQ
 by_cases h1 : q.num < 0
 ·
  left
  refine ⟨?_, by simp [h1]⟩
  apply Rat.not_le.1
  intro h
  have := Rat.num_nonneg.2 h
  omega
 ·
  by_cases h2 : q.num = 0
  ·
   right; left
   exact ⟨Rat.num_eq_zero.1 h2, by simp [h2]⟩
  ·
   right; right
   refine ⟨?_, by simp [h1, h2]⟩
   apply Rat.not_le.1
   intro h
   have h3 : 0 ≤ (-q).num := Rat.num_nonneg.2 (by grind)
   rw [Rat.neg_num] at h3
   omega
/-- The block of a row holds no integers. -/
def RowNI (w : World) (v : Value) : Prop := ∀ g, v.ownBlock = some g → NoInts w g
theorem zeroCells_mem {z : Array Value} {n : Nat} {u : Value} (hz : 0 < z.size) (h : u ∈ Builtin.zeroCells z n) : u ∈ z := by
 unfold Builtin.zeroCells at h
 simp only [Array.mem_map] at h
 obtain ⟨i, _, rfl⟩ := h
 have hi : i % z.size < z.size := Nat.mod_lt _ hz
 rw [getElem!_pos z (i % z.size) hi]
 exact Array.getElem_mem hi
section
variable {P : Program}
theorem run_app_ni (w : World) {t e : TypeId} {size bytes : Nat} {z : Value} (E : Elem P t e size bytes z) (ty : TypeId) (base : Nat) (v : Value) (n : Nat) (xs : List Value) (hown : w.ownsRow base e size v n xs) (hN : RowNI w v) (hzn : ∀ u ∈ z.cells, NoInt u)
  (ad : Addr) (m c : Nat) (news : List Value) (hl : news.length = m * size) (hat : At w (some ad) news) (h1 : ∀ u ∈ news, u.oneCell' = true) (hnn : ∀ u ∈ news, NoInt u) (hm : 0 < m)
  (hbytes : (n + m) * bytes ≤ 140737488355328) (h63 : n + m ≤ maxLen) (hbase : base ≤ w.heap.size) :
  ∃ v' w', (Builtin.append_ #[t, t] ty #[v, .slice (some ad) m c]).run P w = .ok v' w' ∧ w'.ownsRow base e size v' (n + m) (xs ++ news) ∧ w.grownBy w' v.ownBlock ∧ (v'.ownBlock = v.ownBlock ∨ v'.ownBlock = some w.heap.size) ∧ RowNI w' v' := by
 obtain ⟨i, hi, hz, hs, hb⟩ := E.info
 have hnews : ∀ j u, news[j]? = some u → w.cell? (ad.add j) = some u := hat.add ad rfl
 obtain ⟨v', w', hr, h2, h3, _, h5⟩ := run_append_own_at (P := P) w base t ty e i z size bytes E.und hi hz hs hb E.cells E.pos v n xs hown ad m c news hl hnews h1 h63 hbytes hbase
 refine ⟨v', w', hr, h2, h3, h5, ?_⟩
 have hzc : 0 < z.cells.size := by rw [E.cells]; exact E.pos
 have hmax : n + m ≤ 9223372036854775807 := by simp only [maxLen] at h63; omega
 have new : ∀ (ys : Array Value) (k : Nat), (∀ u ∈ ys, NoInt u) → v' = .slice (some ⟨w.heap.size, 0, none⟩) (n + m) k → w' = w.drew.alloc (.cells (ys ++ Builtin.zeroCells z.cells (k - (n + m))) e) → RowNI w' v' := by
  rintro ys k hys rfl rfl g hg
  obtain rfl : w.heap.size = g := by simpa [Value.ownBlock] using hg
  refine ⟨_, _, heap_alloc_new w.drew _, fun u hu => ?_⟩
  rcases Array.mem_append.1 hu with h | h
  ·
   exact hys u h
  ·
   exact hzn u (zeroCells_mem hzc h)
 rcases hown.2 with ⟨rfl, rfl⟩ | ⟨g0, cap, cur, rfl, hbg, hg, hnc, hcm, hcs, htake⟩
 ·
  have hr' := run_append_nil (P := P) w t ty e i z E.und hi hz ad m c news (by rw [hs]; exact hl) hnews hm (by omega) (by rw [hb]; have hb' := hbytes; simp only [Nat.zero_add] at hb'; omega)
  rw [hr'] at hr
  injection hr with e1 e2
  refine new news.toArray (grownCap w m 0 e) (fun u hu => hnn u (by simpa using hu)) (by rw [← e1, Nat.zero_add]) (by rw [← e2, Nat.zero_add])
 ·
  obtain ⟨t0, cs0, hB, hcs0⟩ := hN g0 rfl
  have hcur : ∀ u ∈ cur.toList, NoInt u := by
   have h : some (Obj.cells cur e (0, 0)) = some (Obj.cells cs0 t0 (0, 0)) := hg.symm.trans hB
   injection h with h
   injection h with e1 e2
   subst e1
   exact fun u hu => hcs0 u (by simpa using hu)
  have hxs : ∀ u ∈ xs, NoInt u := fun u hu => by
   rw [← htake] at hu
   exact hcur u (List.mem_of_mem_take hu)
  by_cases hroom : n + m ≤ cap
  ·
   have hfit : n * i.size + news.length ≤ cur.size := by rw [hs, hl, hcs, ← Nat.add_mul]; exact Nat.mul_le_mul_right _ hroom
   have hr' := run_append_room (P := P) w t ty e i E.und hi g0 n cap cur hg ad m c news (by rw [hs]; exact hl) hnews h1 hroom hfit
   rw [hr'] at hr
   injection hr with e1 e2
   subst e1 e2
   intro g hgg
   obtain rfl : g0 = g := by simpa [Value.ownBlock] using hgg
   refine ⟨_, _, setRow_heap w g0 cur _ e _ hg, fun u hu => ?_⟩
   simp only [List.mem_toArray, List.mem_append] at hu
   rcases hu with (h | h) | h
   ·
    exact hcur u (List.mem_of_mem_take h)
   ·
    exact hnn u h
   ·
    exact hcur u (List.mem_of_mem_drop h)
  ·
   have hr' := run_append_grow (P := P) w t ty e i z E.und hi hz ⟨g0, 0, none⟩ n cap xs (by rw [hs]; exact hown.1) (hown.cells (g := g0) rfl) ad m c news (by rw [hs]; exact hl) hnews (by omega) (by omega) (by rw [hb]; exact growslice_fits (by omega) hbytes)
   rw [hr'] at hr
   injection hr with e1 e2
   refine new (xs.toArray ++ news.toArray) (grownCap w (n + m) cap e) (fun u hu => ?_) e1.symm e2.symm
   rcases Array.mem_append.1 hu with h | h
   ·
    exact hxs u (by simpa using h)
   ·
    exact hnn u (by simpa using h)
/-- 'append(s, x...)' onto such a row. -/
theorem wpList_appN (w : World) {t e : TypeId} {size bytes : Nat} {z : Value} (E : Elem P t e size bytes z) (hzn : ∀ u ∈ z.cells, NoInt u) {ops : Array Oper} {rest : List Oper} {o : Oper} {a : Act} {Q : Exit → Act → World → Prop}
  (hgd : o.guard = none) (s x : Operand) (ho : o.op = .call { callee := .builtin .append, args := #[s, x], argTypes := #[t, t] })
  (base : Nat) (v : Value) (n : Nat) (xs : List Value) (hs : a.eval s = v) (hown : w.ownsRow base e size v n xs) (hN : RowNI w v)
  (ad : Addr) (m c : Nat) (news : List Value) (hx : a.eval x = .slice (some ad) m c) (hl : news.length = m * size) (hat : At w (some ad) news) (h1 : ∀ u ∈ news, u.oneCell' = true) (hnn : ∀ u ∈ news, NoInt u) (hm : 0 < m)
  (hbytes : (n + m) * bytes ≤ 140737488355328) (h63 : n + m ≤ maxLen) (hbase : base ≤ w.heap.size)
  (h : ∀ v' w', w'.ownsRow base e size v' (n + m) (xs ++ news) → w.grownBy w' v.ownBlock → RowNI w' v' → wpList P ops Q rest (a.put o.dst v') w') :
  wpList P ops Q (o :: rest) a w :=
 wpList_plain hgd fun K hK => by
  obtain ⟨v', w', hrun, h2, h3, _, h4⟩ := run_app_ni (P := P) w E o.type base v n xs hown hN hzn ad m c news hl hat h1 hnn hm hbytes h63 hbase
  unfold Oper.wp execOp
  simp only [ho, resolve, invoke, builtin, Sem.run_bind, Sem.run_pure, Result.andThen_ok, List.map_toArray, List.map_cons, List.map_nil, hs, hx, hrun]
  exact hK _ _ (h v' w' h2 h3 h4)
end
theorem RowNI.ext {w w' : World} {v : Value} (h : RowNI w v) (he : Ext w w') : RowNI w' v := fun g hg => (h g hg).ext he
theorem RowNI.nil (w : World) : RowNI w (.slice none 0 0) := fun g hg => by simp [Value.ownBlock] at hg
end Go.Proofs.Ytikhlcgnlbinfaa
