/- Lemmas of the proof that follows (Travels, part 2): walks of functions by contract, and plain lemmas. Conditions: none. -/
import Derived.Test.YtagcgldhhdecjaaTravelsA
namespace Go.Proofs.Ytagcgldhhdecjaa
open Go.RowKit

/-- The operations of a region. -/
def regOf (n : Nat) : Code → Option (List Oper)
  | .region i ops _ => if i == n then some ops.toList else none
  | .seq a b => match regOf n a with
    | some c => some c
    | none => regOf n b
  | .block _ c => regOf n c
  | .loop c => regOf n c
  | .scope c => regOf n c
  | .cond _ a b => match regOf n a with
    | some c => some c
    | none => regOf n b
  | _ => none
def rops (f : Func) (n : Nat) : List Oper := (f.body.bind (regOf n)).getD []

/-- The act with the values 'us k', 'us (k + 1)', .. in the slots 'ds' (none: no slot). -/
def fillO (a : Act) : List (Option Tmp) → (Nat → Value) → Nat → Act
  | [], _, _ => a
  | d :: ds, us, k => fillO (a.put d (us k)) ds us (k + 1)
def updO (us : Nat → Value) (i : Nat) (v : Value) : Nat → Value := fun j => if j = i then v else us j

theorem putO_putO (a : Act) (d : Option Tmp) (x y : Value) : (a.put d x).put d y = a.put d y := by
  cases d <;> simp [Act.put, Array.setIfInBounds_setIfInBounds]
theorem putO_comm (a : Act) {d e : Option Tmp} (h : d = none ∨ d ≠ e) (x y : Value) : (a.put d x).put e y = (a.put e y).put d x := by
  cases d with
  | none => rfl
  | some d =>
    cases e with
    | none => rfl
    | some e =>
      have hne : d ≠ e := fun q => by rcases h with h | h <;> simp_all
      simp only [Act.put]
      rw [Array.setIfInBounds_comm _ _ hne]
/-- No slot twice. -/
def NoTwice (ds : List (Option Tmp)) : Prop := ds.Pairwise fun d e => d = none ∨ d ≠ e
theorem fillO_far (us : Nat → Value) (d : Option Tmp) (v : Value) : ∀ (ds : List (Option Tmp)), (∀ e ∈ ds, d = none ∨ d ≠ e) → ∀ (a : Act) (k : Nat), (fillO a ds us k).put d v = fillO (a.put d v) ds us k := by
  intro ds
  induction ds with
  | nil => intro _ a k; rfl
  | cons e ds ih =>
    intro hd a k
    simp only [fillO]
    rw [ih (fun e he => hd e (List.mem_cons_of_mem _ he)), putO_comm a (hd e (List.mem_cons_self ..))]
theorem fillO_congr (ds : List (Option Tmp)) (us us' : Nat → Value) : ∀ (a : Act) (k : Nat), (∀ j, k ≤ j → us j = us' j) → fillO a ds us k = fillO a ds us' k := by
  induction ds with
  | nil => intro a k _; rfl
  | cons e ds ih =>
    intro a k h
    simp only [fillO]
    rw [h k (Nat.le_refl _)]
    exact ih _ _ fun j hj => h j (by omega)
theorem fillO_put (us : Nat → Value) (v : Value) : ∀ (ds : List (Option Tmp)), NoTwice ds → ∀ (a : Act) (k i : Nat) (d : Option Tmp), ds[i]? = some d → (fillO a ds us k).put d v = fillO a ds (updO us (k + i) v) k := by
  intro ds
  induction ds with
  | nil => intro _ a k i d h; simp at h
  | cons e ds ih =>
    intro hn a k i d h
    have hn' := List.pairwise_cons.1 hn
    cases i with
    | zero =>
      simp at h
      subst h
      simp only [fillO]
      rw [fillO_far us e v ds hn'.1, putO_putO]
      have e1 : updO us (k + 0) v k = v := by simp [updO]
      rw [e1]
      exact fillO_congr ds _ _ _ _ fun j hj => by simp [updO]; omega
    | succ i =>
      simp only [fillO]
      have hi : ds[i]? = some d := by simpa using h
      rw [ih hn'.2 _ (k + 1) i d hi]
      have e1 : updO us (k + (i + 1)) v k = us k := by simp [updO]
      have e2 : k + 1 + i = k + (i + 1) := by omega
      rw [e1, e2]
theorem fillO_start : ∀ (ds : List (Option Tmp)) (a : Act) (k : Nat) (us : Nat → Value), (∀ d, some d ∈ ds → d < a.tmps.size) → (∀ i d, ds[i]? = some (some d) → us (k + i) = a.tmps.getD d undef) → fillO a ds us k = a := by
  intro ds
  induction ds with
  | nil => intro a k us _ _; rfl
  | cons e ds ih =>
    intro a k us hb hu
    simp only [fillO]
    have hput : a.put e (us k) = a := by
      cases e with
      | none => rfl
      | some d =>
        have h0 := hu 0 d rfl
        rw [Nat.add_zero] at h0
        rw [h0]
        have hd := hb d (List.mem_cons_self ..)
        simp only [Act.put]
        have : a.tmps.setIfInBounds d (a.tmps.getD d undef) = a.tmps := by
          apply Array.ext_getElem?
          intro i
          rw [Array.getElem?_setIfInBounds]
          by_cases hi : d = i
          · subst hi; simp [hd, Array.getD]
          · simp [hi]
        rw [this]
    rw [hput]
    exact ih a (k + 1) us (fun d hd => hb d (List.mem_cons_of_mem _ hd)) fun i d hi => by
      have := hu (i + 1) d (by simpa using hi)
      rw [← this]; congr 1; omega

/-- What one operation must give: 'done' are those that were carried out; 'D' those whose values it uses, 'A' those that cannot have been carried out before it. -/
def JOp (P : Program) (ops : Array Oper) (V : Nat → Value → World → Prop) (J : (Nat → Prop) → World → Prop) (D A : List (List Nat)) (ds : List (Option Tmp)) (a : Act) (i : Nat) (o : Oper) : Prop :=
  ∀ (done : Nat → Prop) (us : Nat → Value) (W : World), J done W → (∀ j ∈ D.getD i [], V j (us j) W ∧ done j) → (∀ j ∈ A.getD i [], ¬ done j) → ¬ done i → ∀ K : Act → World → Prop,
    (∀ v W', V i v W' → (∀ j u, done j → V j u W → V j u W') → J (fun k => done k ∨ k = i) W' → K ((fillO a ds us 0).put o.dst v) W') → ∀ Q' : Exit → Act → World → Prop,
    if Region.wanted o (yielded ops (fillO a ds us 0).tmps) then o.wp P (fillO a ds us 0) W K Q' else K ((fillO a ds us 0).put o.dst undef) W
def JAll (P : Program) (ops : Array Oper) (V : Nat → Value → World → Prop) (J : (Nat → Prop) → World → Prop) (D A : List (List Nat)) (ds : List (Option Tmp)) (a : Act) : Nat → List Oper → Prop
  | _, [] => True
  | i, o :: rest => JOp P ops V J D A ds a i o ∧ JAll P ops V J D A ds a (i + 1) rest
theorem JAll.at {P : Program} {ops : Array Oper} {V : Nat → Value → World → Prop} {J : (Nat → Prop) → World → Prop} {D A : List (List Nat)} {ds : List (Option Tmp)} {a : Act} : ∀ (l : List Oper) (k : Nat), JAll P ops V J D A ds a k l → ∀ i o, l[i]? = some o → JOp P ops V J D A ds a (k + i) o := by
  intro l
  induction l with
  | nil => intro k _ i o h; simp at h
  | cons x l ih =>
    intro k h i o ho
    cases i with
    | zero => simp at ho; subst ho; exact h.1
    | succ i =>
      have := ih (k + 1) h.2 i o (by simpa using ho)
      rw [show k + 1 + i = k + (i + 1) by omega] at this
      exact this

theorem putO_size (a : Act) (d : Option Tmp) (v : Value) : (a.put d v).tmps.size = a.tmps.size := by
  cases d <;> simp [Act.put]
theorem putO_else (a : Act) (e : Option Tmp) (v : Value) {d : Tmp} (h : e ≠ some d) : (a.put e v).tmps[d]? = a.tmps[d]? := by
  cases e with
  | none => rfl
  | some e => simp only [Act.put]; rw [Array.getElem?_setIfInBounds, if_neg (fun q => h (by rw [q]))]
theorem fillO_else (us : Nat → Value) : ∀ (ds : List (Option Tmp)) (a : Act) (k : Nat) (d : Tmp), some d ∉ ds → (fillO a ds us k).tmps[d]? = a.tmps[d]? := by
  intro ds
  induction ds with
  | nil => intro a k d _; rfl
  | cons e ds ih =>
    intro a k d h
    simp only [List.mem_cons, not_or] at h
    simp only [fillO]
    rw [ih _ _ d h.2, putO_else _ _ _ (Ne.symm h.1)]
theorem fillO_get (us : Nat → Value) : ∀ (ds : List (Option Tmp)), NoTwice ds → ∀ (a : Act) (k i : Nat) (d : Tmp), ds[i]? = some (some d) → d < a.tmps.size → (fillO a ds us k).tmps[d]? = some (us (k + i)) := by
  intro ds
  induction ds with
  | nil => intro _ a k i d h; simp at h
  | cons e ds ih =>
    intro hn a k i d h hd
    have hn' := List.pairwise_cons.1 hn
    simp only [fillO]
    cases i with
    | zero =>
      simp at h
      subst h
      rw [fillO_else us ds _ _ d (fun hm => by rcases hn'.1 _ hm with h | h <;> simp at h)]
      simp only [Act.put]
      rw [Array.getElem?_setIfInBounds_self_of_lt hd]; rfl
    | succ i =>
      have hi : ds[i]? = some (some d) := by simpa using h
      rw [ih hn'.2 _ (k + 1) i d hi (by rw [putO_size]; exact hd)]
      congr 2; omega

/-- The same over a frame of which only the slots' values are known. -/
theorem JOp.of {P : Program} {ops : Array Oper} {V : Nat → Value → World → Prop} {J : (Nat → Prop) → World → Prop} {D A : List (List Nat)} {ds : List (Option Tmp)} {a : Act} {i : Nat} {o : Oper} (hn : NoTwice ds) (hs : ∀ d, some d ∈ ds → d < a.tmps.size)
    (h : ∀ (done : Nat → Prop) (us : Nat → Value) (W : World), J done W → (∀ j ∈ D.getD i [], V j (us j) W ∧ done j) → (∀ j ∈ A.getD i [], ¬ done j) → ¬ done i → ∀ b : Act, (∀ j d, ds[j]? = some (some d) → b.tmps[d]? = some (us j)) → (∀ d, some d ∉ ds → b.tmps[d]? = a.tmps[d]?) → ∀ K : Act → World → Prop,
      (∀ v W', V i v W' → (∀ j u, done j → V j u W → V j u W') → J (fun k => done k ∨ k = i) W' → K (b.put o.dst v) W') → ∀ Q' : Exit → Act → World → Prop,
      if Region.wanted o (yielded ops b.tmps) then o.wp P b W K Q' else K (b.put o.dst undef) W) : JOp P ops V J D A ds a i o := by
  intro done us W hJ hdep haft hnot K hK Q'
  refine h done us W hJ hdep haft hnot _ (fun j d hj => ?_) (fun d hd => fillO_else us ds a 0 d hd) K hK Q'
  have := fillO_get us ds hn a 0 j d hj (hs d (List.mem_of_getElem? hj))
  rwa [Nat.zero_add] at this

/-- What one operation must give, over a frame of which only the slots' values are known. -/
def JOq (P : Program) (ops : Array Oper) (V : Nat → Value → World → Prop) (J : (Nat → Prop) → World → Prop) (D A : List (List Nat)) (ds : List (Option Tmp)) (a : Act) (i : Nat) (o : Oper) : Prop :=
  ∀ (done : Nat → Prop) (us : Nat → Value) (W : World), J done W → (∀ j ∈ D.getD i [], V j (us j) W ∧ done j) → (∀ j ∈ A.getD i [], ¬ done j) → ¬ done i → ∀ b : Act, (∀ j d, ds[j]? = some (some d) → b.tmps[d]? = some (us j)) → (∀ d, some d ∉ ds → b.tmps[d]? = a.tmps[d]?) → ∀ K : Act → World → Prop,
      (∀ v W', V i v W' → (∀ j u, done j → V j u W → V j u W') → J (fun k => done k ∨ k = i) W' → K (b.put o.dst v) W') → ∀ Q' : Exit → Act → World → Prop,
      if Region.wanted o (yielded ops b.tmps) then o.wp P b W K Q' else K (b.put o.dst undef) W
def JAllq (P : Program) (ops : Array Oper) (V : Nat → Value → World → Prop) (J : (Nat → Prop) → World → Prop) (D A : List (List Nat)) (ds : List (Option Tmp)) (a : Act) : Nat → List Oper → Prop
  | _, [] => True
  | i, o :: rest => JOq P ops V J D A ds a i o ∧ JAllq P ops V J D A ds a (i + 1) rest
theorem JAllq.all {P : Program} {ops : Array Oper} {V : Nat → Value → World → Prop} {J : (Nat → Prop) → World → Prop} {D A : List (List Nat)} {ds : List (Option Tmp)} {a : Act} (hn : NoTwice ds) (hs : ∀ d, some d ∈ ds → d < a.tmps.size) : ∀ (l : List Oper) (k : Nat), JAllq P ops V J D A ds a k l → JAll P ops V J D A ds a k l := by
  intro l
  induction l with
  | nil => intro k _; trivial
  | cons o l ih => intro k h; exact ⟨JOp.of hn hs h.1, ih (k + 1) h.2⟩

def noTwiceB : List (Option Tmp) → Bool
  | [] => true
  | d :: ds => ds.all (fun e => d == none || d != e) && noTwiceB ds
theorem noTwice_of : ∀ (ds : List (Option Tmp)), noTwiceB ds = true → NoTwice ds := by
  intro ds
  induction ds with
  | nil => intro _; exact List.Pairwise.nil
  | cons d ds ih =>
    intro h
    simp only [noTwiceB, Bool.and_eq_true] at h
    refine List.Pairwise.cons (fun e he => ?_) (ih h.2)
    have := List.all_eq_true.1 h.1 e he
    simp at this
    rcases this with h | h
    · exact .inl h
    · exact .inr h

theorem slots_lt {ds : List (Option Tmp)} {N : Nat} (h : ds.all (fun x => match x with | some d => decide (d < N) | none => true) = true) {a : Act} (hs : N ≤ a.tmps.size) : ∀ d, some d ∈ ds → d < a.tmps.size := fun d hd => by
  have := List.all_eq_true.1 h _ hd
  simp at this
  exact Nat.lt_of_lt_of_le this hs

/-- What the kernel looks at. -/
def jB (ops : Array Oper) (n : Nat) (ds : List (Option Tmp)) (D A : List (List Nat)) : Bool :=
  decide (n ≤ ops.size) && decide (ds.length = n) && noTwiceB ds && (List.range n).all (fun i => (((ops[i]?).map (·.dst)) == ds[i]?) && (D.getD i []).all (fun j => decide (j < i) && Region.waitsFor .any ops i j) && (A.getD i []).all (fun j => decide (j < n) && Region.waitsFor .any ops j i)) &&
  (List.range n).all (fun i => match ops[i]? with | some o => o.after.all (fun e => !Region.binds .any e || decide (e.on < i)) | none => false) &&
  (decide (n = ops.size) || (Region.sinkB .any ops n && Region.chainB .any ops n)) && Region.seqB .any ops (ops.size - n) n ((List.range ops.size).map (fun i => decide (i < n))).toArray

section
variable {P : Program} {l : List Oper} {n : Nat} {ds : List (Option Tmp)} {D A : List (List Nat)} {V : Nat → Value → World → Prop} {J : (Nat → Prop) → World → Prop} {a : Act} {Q : Exit → Act → World → Prop}

theorem j_any (hB : jB l.toArray n ds D A = true) (hJ : ∀ p q W, (∀ k, p k ↔ q k) → J p W → J q W) (hop : JAll P l.toArray V J D A ds a 0 (l.take n))
    (hend : ∀ us W, (∀ j, j < n → V j (us j) W) → J (fun k => k < n) W → wpList P l.toArray Q (l.drop n) (fillO a ds us 0) W) :
    ∀ (f : Nat) (rem : List Nat) (listed : Array Bool) (us : Nat → Value) (W : World), rem.length = f → rem.Nodup → HeadInv .any l.toArray n listed → (∀ j, j < n → (listed.getD j true = false ↔ j ∈ rem)) → (∀ j ∈ rem, j < n) →
      (∀ j, j < n → j ∉ rem → V j (us j) W) → J (fun k => k < n ∧ k ∉ rem) W → wpAny P .any l.toArray Q (f + (l.toArray.size - n)) listed (fillO a ds us 0) W := by
  simp only [jB, Bool.and_eq_true, decide_eq_true_eq] at hB
  obtain ⟨⟨⟨⟨⟨⟨hn, hl⟩, hnt⟩, hD⟩, hless⟩, hsc⟩, hseq⟩ := hB
  have hnd := noTwice_of ds hnt
  intro f
  induction f with
  | zero =>
    intro rem listed us W hlen _ inv hrem _ hV hX
    obtain rfl : rem = [] := List.eq_nil_of_length_eq_zero hlen
    have hlist : listed = ((List.range l.toArray.size).map (fun i => decide (i < n))).toArray := by
      apply Array.ext
      · simp [inv.size]
      · intro i h1 h2
        have hsz := inv.size
        simp only [List.getElem_toArray, List.getElem_map, List.getElem_range]
        by_cases hi : i < n
        · have h3 := hrem i hi
          simp only [List.not_mem_nil, iff_false, Bool.not_eq_false] at h3
          have h4 : listed.getD i true = listed[i] := by simp [Array.getD, h1]
          rw [h4] at h3
          simp [h3, hi]
        · have h3 := inv.tail i (by omega) (by omega)
          have h4 : listed.getD i true = listed[i] := by simp [Array.getD, h1]
          rw [h4] at h3
          simp [h3, hi]
    have hdl : (l.drop n).length = l.toArray.size - n := by simp
    rw [Nat.zero_add, ← hdl]
    refine wpAny_of_seq (l.drop n) n listed _ W (fun j => by simp [List.getElem?_drop]) ?_ (hend us W (fun j hj => hV j hj (by simp)) (hJ _ _ W (by simp) hX))
    rw [hdl, hlist]
    exact hseq
  | succ f ih =>
    intro rem listed us W hlen hnodup inv hrem hlt hV hX
    rw [show f + 1 + (l.toArray.size - n) = (f + (l.toArray.size - n)) + 1 by omega]
    have hne : rem ≠ [] := by intro e; subst e; simp at hlen
    refine ⟨fun h0 => ?_, fun i hi => ?_⟩
    · exfalso
      obtain ⟨k, hk, hmin⟩ : ∃ k ∈ rem, ∀ j ∈ rem, k ≤ j := by
        obtain ⟨m, hm, hm2⟩ := exists_least (p := fun m => m ∈ rem) (by cases rem with | nil => exact absurd rfl hne | cons x xs => exact ⟨x, List.mem_cons_self ..⟩)
        exact ⟨m, hm, fun j hj => hm2 j hj⟩
      have hkn := hlt k hk
      have hr : k ∈ Region.ready .any l.toArray listed := by
        refine mem_ready.2 ⟨(hrem k hkn).2 hk, ?_⟩
        have h1 := List.all_eq_true.1 hless k (List.mem_range.2 hkn)
        cases ho : l.toArray[k]? with
        | none => rw [ho] at h1; simp at h1
        | some o =>
          rw [ho] at h1
          refine ⟨o, rfl, fun e he hb => ?_⟩
          have h2 := Array.all_eq_true_iff_forall_mem.1 h1 e he
          simp only [hb, Bool.not_true, Bool.false_or, decide_eq_true_eq] at h2
          have h3 : e.on ∉ rem := fun h => by have := hmin _ h; omega
          have h4 : listed.getD e.on true = true := by
            cases h5 : listed.getD e.on true with
            | true => rfl
            | false => exact absurd ((hrem e.on (by omega)).1 h5) h3
          have hsz : e.on < listed.size := by rw [inv.size]; omega
          simp [Array.getD, hsz] at h4 ⊢
          exact h4
      rw [h0] at hr
      cases hr
    · obtain ⟨hun, o, ho, hall⟩ := mem_ready.1 hi
      have hisz : i < l.toArray.size := (Array.getElem?_eq_some_iff.1 ho).1
      have hin : i < n := by
        rcases Nat.lt_or_ge i n with h | h
        · exact h
        · simp only [Bool.or_eq_true, Bool.and_eq_true, decide_eq_true_eq] at hsc
          rcases hsc with hsc | ⟨hs, hc⟩
          · omega
          · obtain ⟨k, hk⟩ : ∃ k, k ∈ rem := by cases rem with | nil => exact absurd rfl hne | cons x xs => exact ⟨x, List.mem_cons_self ..⟩
            exact absurd hi (tail_waits hs hc (by omega) inv _ k rfl (hlt k hk) ((hrem k (hlt k hk)).2 hk) i h)
      have hir : i ∈ rem := (hrem i hin).1 hun
      have hDi := List.all_eq_true.1 hD i (List.mem_range.2 hin)
      simp only [Bool.and_eq_true, beq_iff_eq] at hDi
      obtain ⟨⟨hdst, hdeps⟩, hafts⟩ := hDi
      rw [ho] at hdst
      simp only [Option.map_some] at hdst
      have hm := JAll.at (l.take n) 0 hop i o (by rw [List.getElem?_take, if_pos hin]; simpa using ho)
      rw [Nat.zero_add] at hm
      have hdp : ∀ j ∈ D.getD i [], V j (us j) W ∧ (j < n ∧ j ∉ rem) := fun j hj => by
        have h1 := List.all_eq_true.1 hdeps j hj
        simp only [Bool.and_eq_true, decide_eq_true_eq] at h1
        obtain ⟨oj, hoj, e, he, hb, hon⟩ := Region.waitsFor_spec h1.2
        have : oj = o := Option.some.inj (hoj.symm.trans ho)
        subst this
        have h2 := hall e he hb
        rw [hon] at h2
        have hjr : j ∉ rem := fun hjr => by
          have h3 := (hrem j (by omega)).2 hjr
          rw [getD_both h3] at h2
          cases h2
        exact ⟨hV j (by omega) hjr, by omega, hjr⟩
      have haf : ∀ j ∈ A.getD i [], ¬ (j < n ∧ j ∉ rem) := fun j hj hd => by
        have h1 := List.all_eq_true.1 hafts j hj
        simp only [Bool.and_eq_true, decide_eq_true_eq] at h1
        obtain ⟨oj, hoj, e, he, hb, hon⟩ := Region.waitsFor_spec h1.2
        have h4 : listed.getD j false = true := by
          have h5 : listed.getD j true = true := by
            cases h5 : listed.getD j true with
            | true => rfl
            | false => exact absurd ((hrem j hd.1).1 h5) hd.2
          have hsz : j < listed.size := by rw [inv.size]; omega
          simp [Array.getD, hsz] at h5 ⊢
          exact h5
        have h6 := inv.closed j oj hoj h4 e he hb
        rw [hon, getD_both hun] at h6
        cases h6
      have key : ∀ v W', V i v W' → (∀ j u, (j < n ∧ j ∉ rem) → V j u W → V j u W') → J (fun k => (k < n ∧ k ∉ rem) ∨ k = i) W' → wpAny P .any l.toArray Q (f + (l.toArray.size - n)) (listed.setIfInBounds i true) ((fillO a ds us 0).put o.dst v) W' := fun v W' hv hst hj => by
        rw [fillO_put us v ds hnd a 0 i o.dst hdst.symm, Nat.zero_add]
        refine ih (rem.erase i) _ (updO us i v) W' (by rw [List.length_erase_of_mem hir]; omega) (hnodup.erase i) (inv.set hi hin) (fun j hj => ?_) (fun j hj => hlt j (List.mem_of_mem_erase hj)) (fun j hj hjr => ?_) (hJ _ _ W' (fun k => ?_) hj)
        · by_cases hji : i = j
          · subst hji
            have hsz : i < listed.size := by rw [inv.size]; omega
            simp [Array.getD, hsz]
            exact fun h => (hnodup.mem_erase_iff.1 h).1 rfl
          · rw [getD_set_ne true hji, hrem j hj, hnodup.mem_erase_iff]
            exact ⟨fun h => ⟨Ne.symm hji, h⟩, fun h => h.2⟩
        · by_cases hji : j = i
          · subst hji; simpa [updO] using hv
          · have : updO us i v j = us j := by simp [updO, hji]
            rw [this]
            have hjr' : j ∉ rem := fun h => hjr (hnodup.mem_erase_iff.2 ⟨hji, h⟩)
            exact hst j _ ⟨hj, hjr'⟩ (hV j hj hjr')
        · rw [hnodup.mem_erase_iff]
          constructor
          · rintro (⟨h1, h2⟩ | rfl)
            · exact ⟨h1, fun h => h2 h.2⟩
            · exact ⟨hin, fun h => h.1 rfl⟩
          · rintro ⟨h1, h2⟩
            by_cases hki : k = i
            · exact .inr hki
            · exact .inl ⟨h1, fun h => h2 ⟨hki, h⟩⟩
      unfold wpOp
      rw [ho]
      simp only
      have hgo := hm (fun k => k < n ∧ k ∉ rem) us W hX hdp haf (fun h => h.2 hir) (wpAny P .any l.toArray Q (f + (l.toArray.size - n)) (listed.setIfInBounds i true)) key Q
      split
      · rename_i hw; rw [if_pos hw] at hgo; exact .inl hgo
      · rename_i hw; rw [if_neg hw] at hgo; exact hgo

/-- THE LAW. -/
theorem wp_region_j {id : Nat} {w : World} (n : Nat) (ds : List (Option Tmp)) (D A : List (List Nat)) (V : Nat → Value → World → Prop) (J : (Nat → Prop) → World → Prop) (hm : P.follows .mixedOrders = true) (hB : jB l.toArray n ds D A = true)
    (hd : ∀ d, some d ∈ ds → d < a.tmps.size) (hJ : ∀ p q W, (∀ k, p k ↔ q k) → J p W → J q W) (h0 : J (fun _ => False) w.drew) (hop : JAllq P l.toArray V J D A ds a 0 (l.take n))
    (hend : ∀ us W, (∀ j, j < n → V j (us j) W) → J (fun k => k < n) W → wpList P l.toArray Q (l.drop n) (fillO a ds us 0) W) : (Code.region id l.toArray true).wp P Q a w := by
  refine wp_region_any hm ?_
  have hB' := hB
  simp only [jB, Bool.and_eq_true, decide_eq_true_eq] at hB'
  obtain ⟨⟨⟨⟨⟨⟨hn, hl⟩, hnt⟩, _⟩, _⟩, _⟩, _⟩ := hB'
  have h := j_any hB hJ (JAllq.all (noTwice_of ds hnt) hd _ 0 hop) hend n (List.range n) (Array.replicate l.toArray.size false) (fun j => a.tmps.getD ((ds.getD j none).getD 0) undef) w.drew (by simp) List.nodup_range
    ⟨by simp, fun j oj _ hl => (by rw [getD_replicate_false] at hl; cases hl), fun t _ ht => getD_in (by simpa using ht) (getD_replicate_false _ _)⟩
    (fun j hj => ⟨fun _ => List.mem_range.2 hj, fun _ => getD_in (by simp at hn ⊢; omega) (getD_replicate_false _ _)⟩) (fun j hj => List.mem_range.1 hj)
    (fun j hj h => absurd (List.mem_range.2 hj) h) (hJ _ _ _ (fun k => by simp) h0)
  rw [fillO_start ds a 0 _ hd (fun i d hi => by simp [List.getD, hi])] at h
  have e : n + (l.toArray.size - n) = l.toArray.size := by omega
  rw [e] at h
  exact h
end
end Go.Proofs.Ytagcgldhhdecjaa
namespace Go.Proofs.Ytagcgldhhdecjaa
open Go.RowKit

/-- What one operation must give, over a frame of which only the slots' values are known. -/
def GOq (P : Program) (ops : Array Oper) (J : (Nat → Prop) → (Nat → Value) → World → Prop) (D A : List (List Nat)) (ds : List (Option Tmp)) (a : Act) (i : Nat) (o : Oper) : Prop :=
  ∀ (done : Nat → Prop) (us : Nat → Value) (W : World), J done us W → (∀ j ∈ D.getD i [], done j) → (∀ j ∈ A.getD i [], ¬ done j) → ¬ done i → ∀ b : Act, (∀ j d, ds[j]? = some (some d) → b.tmps[d]? = some (us j)) → (∀ d, some d ∉ ds → b.tmps[d]? = a.tmps[d]?) → ∀ K : Act → World → Prop,
      (∀ v W', J (fun k => done k ∨ k = i) (updO us i v) W' → K (b.put o.dst v) W') → ∀ Q' : Exit → Act → World → Prop,
      if Region.wanted o (yielded ops b.tmps) then o.wp P b W K Q' else K (b.put o.dst undef) W
def GAllq (P : Program) (ops : Array Oper) (J : (Nat → Prop) → (Nat → Value) → World → Prop) (D A : List (List Nat)) (ds : List (Option Tmp)) (a : Act) : Nat → List Oper → Prop
  | _, [] => True
  | i, o :: rest => GOq P ops J D A ds a i o ∧ GAllq P ops J D A ds a (i + 1) rest
theorem GAllq.at {P : Program} {ops : Array Oper} {J : (Nat → Prop) → (Nat → Value) → World → Prop} {D A : List (List Nat)} {ds : List (Option Tmp)} {a : Act} : ∀ (l : List Oper) (k : Nat), GAllq P ops J D A ds a k l → ∀ i o, l[i]? = some o → GOq P ops J D A ds a (k + i) o := by
  intro l
  induction l with
  | nil => intro k _ i o h; simp at h
  | cons x l ih =>
    intro k h i o ho
    cases i with
    | zero => simp at ho; subst ho; exact h.1
    | succ i =>
      have := ih (k + 1) h.2 i o (by simpa using ho)
      rw [show k + 1 + i = k + (i + 1) by omega] at this
      exact this

section
variable {P : Program} {l : List Oper} {n : Nat} {ds : List (Option Tmp)} {D A : List (List Nat)} {J : (Nat → Prop) → (Nat → Value) → World → Prop} {a : Act} {Q : Exit → Act → World → Prop}

theorem g_any (hB : jB l.toArray n ds D A = true) (hs : ∀ d, some d ∈ ds → d < a.tmps.size) (hJ : ∀ p q us W, (∀ k, p k ↔ q k) → J p us W → J q us W) (hop : GAllq P l.toArray J D A ds a 0 (l.take n))
    (hend : ∀ us W, J (fun k => k < n) us W → wpList P l.toArray Q (l.drop n) (fillO a ds us 0) W) :
    ∀ (f : Nat) (rem : List Nat) (listed : Array Bool) (us : Nat → Value) (W : World), rem.length = f → rem.Nodup → HeadInv .any l.toArray n listed → (∀ j, j < n → (listed.getD j true = false ↔ j ∈ rem)) → (∀ j ∈ rem, j < n) →
      J (fun k => k < n ∧ k ∉ rem) us W → wpAny P .any l.toArray Q (f + (l.toArray.size - n)) listed (fillO a ds us 0) W := by
  simp only [jB, Bool.and_eq_true, decide_eq_true_eq] at hB
  obtain ⟨⟨⟨⟨⟨⟨hn, hl⟩, hnt⟩, hD⟩, hless⟩, hsc⟩, hseq⟩ := hB
  have hnd := noTwice_of ds hnt
  intro f
  induction f with
  | zero =>
    intro rem listed us W hlen _ inv hrem _ hX
    obtain rfl : rem = [] := List.eq_nil_of_length_eq_zero hlen
    have hlist : listed = ((List.range l.toArray.size).map (fun i => decide (i < n))).toArray := by
      apply Array.ext
      · simp [inv.size]
      · intro i h1 h2
        have hsz := inv.size
        simp only [List.getElem_toArray, List.getElem_map, List.getElem_range]
        by_cases hi : i < n
        · have h3 := hrem i hi
          simp only [List.not_mem_nil, iff_false, Bool.not_eq_false] at h3
          have h4 : listed.getD i true = listed[i] := by simp [Array.getD, h1]
          rw [h4] at h3
          simp [h3, hi]
        · have h3 := inv.tail i (by omega) (by omega)
          have h4 : listed.getD i true = listed[i] := by simp [Array.getD, h1]
          rw [h4] at h3
          simp [h3, hi]
    have hdl : (l.drop n).length = l.toArray.size - n := by simp
    rw [Nat.zero_add, ← hdl]
    refine wpAny_of_seq (l.drop n) n listed _ W (fun j => by simp [List.getElem?_drop]) ?_ (hend us W (hJ _ _ us W (by simp) hX))
    rw [hdl, hlist]
    exact hseq
  | succ f ih =>
    intro rem listed us W hlen hnodup inv hrem hlt hX
    rw [show f + 1 + (l.toArray.size - n) = (f + (l.toArray.size - n)) + 1 by omega]
    have hne : rem ≠ [] := by intro e; subst e; simp at hlen
    refine ⟨fun h0 => ?_, fun i hi => ?_⟩
    · exfalso
      obtain ⟨k, hk, hmin⟩ : ∃ k ∈ rem, ∀ j ∈ rem, k ≤ j := by
        obtain ⟨m, hm, hm2⟩ := exists_least (p := fun m => m ∈ rem) (by cases rem with | nil => exact absurd rfl hne | cons x xs => exact ⟨x, List.mem_cons_self ..⟩)
        exact ⟨m, hm, fun j hj => hm2 j hj⟩
      have hkn := hlt k hk
      have hr : k ∈ Region.ready .any l.toArray listed := by
        refine mem_ready.2 ⟨(hrem k hkn).2 hk, ?_⟩
        have h1 := List.all_eq_true.1 hless k (List.mem_range.2 hkn)
        cases ho : l.toArray[k]? with
        | none => rw [ho] at h1; simp at h1
        | some o =>
          rw [ho] at h1
          refine ⟨o, rfl, fun e he hb => ?_⟩
          have h2 := Array.all_eq_true_iff_forall_mem.1 h1 e he
          simp only [hb, Bool.not_true, Bool.false_or, decide_eq_true_eq] at h2
          have h3 : e.on ∉ rem := fun h => by have := hmin _ h; omega
          have h4 : listed.getD e.on true = true := by
            cases h5 : listed.getD e.on true with
            | true => rfl
            | false => exact absurd ((hrem e.on (by omega)).1 h5) h3
          have hsz : e.on < listed.size := by rw [inv.size]; omega
          simp [Array.getD, hsz] at h4 ⊢
          exact h4
      rw [h0] at hr
      cases hr
    · obtain ⟨hun, o, ho, hall⟩ := mem_ready.1 hi
      have hisz : i < l.toArray.size := (Array.getElem?_eq_some_iff.1 ho).1
      have hin : i < n := by
        rcases Nat.lt_or_ge i n with h | h
        · exact h
        · simp only [Bool.or_eq_true, Bool.and_eq_true, decide_eq_true_eq] at hsc
          rcases hsc with hsc | ⟨hs, hc⟩
          · omega
          · obtain ⟨k, hk⟩ : ∃ k, k ∈ rem := by cases rem with | nil => exact absurd rfl hne | cons x xs => exact ⟨x, List.mem_cons_self ..⟩
            exact absurd hi (tail_waits hs hc (by omega) inv _ k rfl (hlt k hk) ((hrem k (hlt k hk)).2 hk) i h)
      have hir : i ∈ rem := (hrem i hin).1 hun
      have hDi := List.all_eq_true.1 hD i (List.mem_range.2 hin)
      simp only [Bool.and_eq_true, beq_iff_eq] at hDi
      obtain ⟨⟨hdst, hdeps⟩, hafts⟩ := hDi
      rw [ho] at hdst
      simp only [Option.map_some] at hdst
      have hm := GAllq.at (l.take n) 0 hop i o (by rw [List.getElem?_take, if_pos hin]; simpa using ho)
      rw [Nat.zero_add] at hm
      have hdp : ∀ j ∈ D.getD i [], (j < n ∧ j ∉ rem) := fun j hj => by
        have h1 := List.all_eq_true.1 hdeps j hj
        simp only [Bool.and_eq_true, decide_eq_true_eq] at h1
        obtain ⟨oj, hoj, e, he, hb, hon⟩ := Region.waitsFor_spec h1.2
        have : oj = o := Option.some.inj (hoj.symm.trans ho)
        subst this
        have h2 := hall e he hb
        rw [hon] at h2
        have hjr : j ∉ rem := fun hjr => by
          have h3 := (hrem j (by omega)).2 hjr
          rw [getD_both h3] at h2
          cases h2
        exact ⟨by omega, hjr⟩
      have haf : ∀ j ∈ A.getD i [], ¬ (j < n ∧ j ∉ rem) := fun j hj hd => by
        have h1 := List.all_eq_true.1 hafts j hj
        simp only [Bool.and_eq_true, decide_eq_true_eq] at h1
        obtain ⟨oj, hoj, e, he, hb, hon⟩ := Region.waitsFor_spec h1.2
        have h4 : listed.getD j false = true := by
          have h5 : listed.getD j true = true := by
            cases h5 : listed.getD j true with
            | true => rfl
            | false => exact absurd ((hrem j hd.1).1 h5) hd.2
          have hsz : j < listed.size := by rw [inv.size]; omega
          simp [Array.getD, hsz] at h5 ⊢
          exact h5
        have h6 := inv.closed j oj hoj h4 e he hb
        rw [hon, getD_both hun] at h6
        cases h6
      have key : ∀ v W', J (fun k => (k < n ∧ k ∉ rem) ∨ k = i) (updO us i v) W' → wpAny P .any l.toArray Q (f + (l.toArray.size - n)) (listed.setIfInBounds i true) ((fillO a ds us 0).put o.dst v) W' := fun v W' hj => by
        rw [fillO_put us v ds hnd a 0 i o.dst hdst.symm, Nat.zero_add]
        refine ih (rem.erase i) _ (updO us i v) W' (by rw [List.length_erase_of_mem hir]; omega) (hnodup.erase i) (inv.set hi hin) (fun j hj => ?_) (fun j hj => hlt j (List.mem_of_mem_erase hj)) (hJ _ _ _ W' (fun k => ?_) hj)
        · by_cases hji : i = j
          · subst hji
            have hsz : i < listed.size := by rw [inv.size]; omega
            simp [Array.getD, hsz]
            exact fun h => (hnodup.mem_erase_iff.1 h).1 rfl
          · rw [getD_set_ne true hji, hrem j hj, hnodup.mem_erase_iff]
            exact ⟨fun h => ⟨Ne.symm hji, h⟩, fun h => h.2⟩
        · rw [hnodup.mem_erase_iff]
          constructor
          · rintro (⟨h1, h2⟩ | rfl)
            · exact ⟨h1, fun h => h2 h.2⟩
            · exact ⟨hin, fun h => h.1 rfl⟩
          · rintro ⟨h1, h2⟩
            by_cases hki : k = i
            · exact .inr hki
            · exact .inl ⟨h1, fun h => h2 ⟨hki, h⟩⟩
      unfold wpOp
      rw [ho]
      simp only
      have hgo := hm (fun k => k < n ∧ k ∉ rem) us W hX hdp haf (fun h => h.2 hir) (fillO a ds us 0) (fun j d hj => by
        have := fillO_get us ds hnd a 0 j d hj (hs d (List.mem_of_getElem? hj))
        rwa [Nat.zero_add] at this) (fun d hd => fillO_else us ds a 0 d hd) (wpAny P .any l.toArray Q (f + (l.toArray.size - n)) (listed.setIfInBounds i true)) key Q
      split
      · rename_i hw; rw [if_pos hw] at hgo; exact .inl hgo
      · rename_i hw; rw [if_neg hw] at hgo; exact hgo

/-- THE LAW. -/
theorem wp_region_g {id : Nat} {w : World} (n : Nat) (ds : List (Option Tmp)) (D A : List (List Nat)) (J : (Nat → Prop) → (Nat → Value) → World → Prop) (hm : P.follows .mixedOrders = true) (hB : jB l.toArray n ds D A = true)
    (hd : ∀ d, some d ∈ ds → d < a.tmps.size) (hJ : ∀ p q us W, (∀ k, p k ↔ q k) → J p us W → J q us W) (h0 : ∀ us, J (fun _ => False) us w.drew) (hop : GAllq P l.toArray J D A ds a 0 (l.take n))
    (hend : ∀ us W, J (fun k => k < n) us W → wpList P l.toArray Q (l.drop n) (fillO a ds us 0) W) : (Code.region id l.toArray true).wp P Q a w := by
  refine wp_region_any hm ?_
  have hB' := hB
  simp only [jB, Bool.and_eq_true, decide_eq_true_eq] at hB'
  obtain ⟨⟨⟨⟨⟨⟨hn, hl⟩, hnt⟩, _⟩, _⟩, _⟩, _⟩ := hB'
  have h := g_any hB hd hJ hop hend n (List.range n) (Array.replicate l.toArray.size false) (fun j => a.tmps.getD ((ds.getD j none).getD 0) undef) w.drew (by simp) List.nodup_range
    ⟨by simp, fun j oj _ hl => (by rw [getD_replicate_false] at hl; cases hl), fun t _ ht => getD_in (by simpa using ht) (getD_replicate_false _ _)⟩
    (fun j hj => ⟨fun _ => List.mem_range.2 hj, fun _ => getD_in (by simp at hn ⊢; omega) (getD_replicate_false _ _)⟩) (fun j hj => List.mem_range.1 hj)
    (hJ _ _ _ _ (fun k => by simp) (h0 _))
  rw [fillO_start ds a 0 _ hd (fun i d hi => by simp [List.getD, hi])] at h
  have e : n + (l.toArray.size - n) = l.toArray.size := by omega
  rw [e] at h
  exact h
end

/-- A local struct of a region: its cells are 'zs' until they are stored, then 'vs'. -/
structure Loc (w W : World) (T : TypeId) (zs vs : Array Value) (da dst : Prop) (v : Value) : Prop where
  ptr : da → ∃ g, v = .pointer (some ⟨g, 0, none⟩) ∧ w.heap.size ≤ g ∧ (dst → Blk W g T vs) ∧ (¬ dst → Blk W g T zs)
section
variable {w W W' : World} {T : TypeId} {zs vs : Array Value} {da dst da' dst' : Prop} {v u : Value}
theorem Loc.unmade (h : ¬ da) : Loc w W T zs vs da dst v := ⟨fun h' => absurd h' h⟩
theorem Loc.lt (h : Loc w W T zs vs da dst v) (hd : da) : ∃ g, v = .pointer (some ⟨g, 0, none⟩) ∧ w.heap.size ≤ g ∧ g < W.heap.size := by
  obtain ⟨g, h1, h2, h3, h4⟩ := h.ptr hd
  refine ⟨g, h1, h2, ?_⟩
  by_cases hs : dst
  · exact (h3 hs).lt
  · exact (h4 hs).lt
theorem Loc.stored (h : Loc w W T zs vs da dst v) (hd : da) (hs : ¬ dst) : ∃ g, v = .pointer (some ⟨g, 0, Option.none⟩) ∧ w.heap.size ≤ g ∧ Blk W g T zs := by
  obtain ⟨g, h1, h2, _, h4⟩ := h.ptr hd
  exact ⟨g, h1, h2, h4 hs⟩
theorem Loc.done (h : Loc w W T zs vs da dst v) (hd : da) (hs : dst) : ∃ g, v = .pointer (some ⟨g, 0, Option.none⟩) ∧ w.heap.size ≤ g ∧ Blk W g T vs := by
  obtain ⟨g, h1, h2, h3, _⟩ := h.ptr hd
  exact ⟨g, h1, h2, h3 hs⟩
theorem Loc.same (h : Loc w W T zs vs da dst v) (ha : da' ↔ da) (hs : dst' ↔ dst) : Loc w W T zs vs da' dst' v := by
  have e1 := propext ha
  have e2 := propext hs
  subst e1 e2
  exact h
theorem Loc.ext (h : Loc w W T zs vs da dst v) (hX : Ext W W') : Loc w W' T zs vs da dst v := ⟨fun hd => by
  obtain ⟨g, h1, h2, h3, h4⟩ := h.ptr hd
  exact ⟨g, h1, h2, fun h => (h3 h).ext hX, fun h => (h4 h).ext hX⟩⟩
theorem Loc.new (w W : World) (hw : Ext w W) (hs : ¬ dst) (hX : Ext (W.alloc (.cells zs T)) W') : Loc w W' T zs vs da dst (.pointer (some ⟨W.heap.size, 0, none⟩)) :=
  ⟨fun _ => ⟨_, rfl, hw.size, fun h => absurd h hs, fun _ => (Blk.new W T zs).ext hX⟩⟩
end
end Go.Proofs.Ytagcgldhhdecjaa
namespace Go.Proofs.Ytagcgldhhdecjaa
open Go.RowKit

section
variable {P : Program}
/-- An operation that is always done, whose value is known. -/
theorem jop_run {ops : Array Oper} {o : Oper} {b : Act} {W W' : World} {K : Act → World → Prop} {Q' : Exit → Act → World → Prop} {v' : Value} (hg : o.guard = none) (hrun : (execOp b.eval o).run P W = .ok (.value v') W') (hK : K (b.put o.dst v') W') :
    if Region.wanted o (yielded ops b.tmps) then o.wp P b W K Q' else K (b.put o.dst undef) W := by
  simp only [Region.wanted, hg, if_true, Oper.wp, hrun]
  exact hK
/-- 'append(s, x...)' in a region that draws its order. -/
theorem jop_app {ops : Array Oper} {o : Oper} {b : Act} {W W' : World} {K : Act → World → Prop} {Q' : Exit → Act → World → Prop} {t : TypeId} {i j : Tmp} {v u v' : Value} (hg : o.guard = none)
    (ho : o.op = .call { callee := .builtin .append, args := #[.tmp i, .tmp j], argTypes := #[t, t] }) (hi : b.tmps[i]? = some v) (hj : b.tmps[j]? = some u)
    (hrun : (Builtin.append_ #[t, t] o.type #[v, u]).run P W = .ok v' W') (hK : K (b.put o.dst v') W') :
    if Region.wanted o (yielded ops b.tmps) then o.wp P b W K Q' else K (b.put o.dst undef) W := by
  refine jop_run hg ?_ hK
  have e1 : b.eval (.tmp i) = v := by simp [Act.eval, hi]
  have e2 : b.eval (.tmp j) = u := by simp [Act.eval, hj]
  unfold execOp
  simp only [ho, resolve, invoke, builtin, Sem.run_bind, Sem.run_pure, Result.andThen_ok, List.map_toArray, List.map_cons, List.map_nil, e1, e2, hrun]
end
end Go.Proofs.Ytagcgldhhdecjaa
namespace Go.Proofs.Ytagcgldhhdecjaa
open Go.RowKit

theorem Ints.below {k : IntKind} {B n : Nat} {w w' : World} {A : Option Addr} {xs : List Int} (h : Ints k w A n xs) (hb : Below B w w') (hA : ∀ q, A = some q → q.block < B) : Ints k w' A n xs :=
  ⟨h.1, h.2.1, fun hn => by
    obtain ⟨b, off, rfl, hc⟩ := h.2.2 hn
    exact ⟨b, off, rfl, fun j v hv => (Below.cell hb (p := ⟨b, off + j, none⟩) (hA ⟨b, off, none⟩ rfl)).trans (hc j v hv)⟩⟩
theorem HunP.ext {base g n c : Nat} {w w' : World} {A : Option Addr} {d te tp : Int} {h : Hun} {v : Value} (hH : HunP base w g A n c d h te tp v) (he : Ext w w') : HunP base w' g A n c d h te tp v :=
  ⟨hH.blk.ext he, World.ownsRow.ext' hH.row he, hH.lo⟩
/-- Below the base nothing is written. -/
theorem HunP.below {base g n c : Nat} {w w' : World} {A : Option Addr} {d te tp : Int} {h : Hun} {v : Value} (hH : HunP base w g A n c d h te tp v) (hk : Keeps (g :: v.ownBlock.toList) w w') (hb : base ≤ w.heap.size) : Below base w w' :=
  hk.below hb fun k hk => by
    rcases List.mem_cons.1 hk with rfl | hk
    · exact hH.lo
    · exact (hH.row.lt k (by simpa using hk)).1

set_option maxRecDepth 100000 in
set_option maxHeartbeats 2000000 in
theorem end_r2 (base g nl : Nat) (A0 : Option Addr) (c0 : Nat) (es : List Ech) (e : Ech) (x0 x1 x7 x8 : Value) (w : World) (hB : Blk w g 90 #[x0, x1, .int .i64 e.frm, .int .i64 e.til, .int .i64 e.peak, .int .i64 e.level, .int .i64 e.top, x7, x8, .slice A0 nl c0]) (hgL : g ∉ (Value.slice A0 nl c0).ownBlock.toList) (hnl : es.length = nl) (hn : nl ≤ 1000000) (hown : w.ownsRow base 42 5 (.slice A0 nl c0) nl (echV es)) (hb : base ≤ w.heap.size) (hLb : ∀ k ∈ (Value.slice A0 nl c0).ownBlock.toList, k < w.heap.size) (a : Act) (Q : Exit → Act → World → Prop) (hsize : 37 ≤ a.tmps.size)
    (s0 : a.tmps[0]? = some (.pointer (some ⟨g, 0, none⟩)))
    (hend : ∀ (xv0 xv1 xv2 xv3 xv4 xv5 xv6 xv7 xv8 xv9 xv10 xv11 xv12 : Value) (W : World), (xv0 = .pointer (some ⟨g, 0, none⟩)) → (xv1 = .pointer (some ⟨g, 0, none⟩)) → (xv2 = .pointer (some ⟨g, 0, none⟩)) → (xv3 = .pointer (some ⟨g, 9, none⟩)) → (xv4 = .slice A0 nl c0) → (xv5 = .pointer (some ⟨g, 0, none⟩)) → (xv6 = .pointer (some ⟨g, 0, none⟩)) → (xv7 = .pointer (some ⟨g, 2, none⟩)) → (xv8 = .agg #[.int .i64 e.frm, .int .i64 e.til, .int .i64 e.peak, .int .i64 e.level, .int .i64 e.top]) → (∃ g', xv9 = .slice (some ⟨g', 0, none⟩) 1 1 ∧ w.heap.size ≤ g' ∧ Blk W g' 42 #[.int .i64 e.frm, .int .i64 e.til, .int .i64 e.peak, .int .i64 e.level, .int .i64 e.top]) → (EcL base W xv10 (es ++ [e]) ∧ (∀ k, xv10.ownBlock = some k → k ∈ (Value.slice A0 nl c0).ownBlock.toList ∨ w.heap.size ≤ k)) → (xv11 = .pointer (some ⟨g, 0, none⟩)) → (xv12 = .pointer (some ⟨g, 9, none⟩)) → Keeps ((Value.slice A0 nl c0).ownBlock.toList) w W → wpList Try.prog (rops Try.f64 2).toArray Q ((rops Try.f64 2).drop 13) (((((((((((((a.put (some 24) xv0).put (some 25) xv1).put (some 26) xv2).put (some 27) xv3).put (some 28) xv4).put (some 29) xv5).put (some 30) xv6).put (some 31) xv7).put (some 32) xv8).put (some 33) xv9).put (some 34) xv10).put (some 35) xv11).put (some 36) xv12) W) :
    (Code.region 2 (rops Try.f64 2).toArray true).wp Try.prog Q a w := by
  have hmono : ∀ (W W' : World) (j : Nat) (u : Value), Ext W W' → (fun (i : Nat) (v : Value) (W : World) => match i with
    | 0 => v = .pointer (some ⟨g, 0, none⟩)
    | 1 => v = .pointer (some ⟨g, 0, none⟩)
    | 2 => v = .pointer (some ⟨g, 0, none⟩)
    | 3 => v = .pointer (some ⟨g, 9, none⟩)
    | 4 => v = .slice A0 nl c0
    | 5 => v = .pointer (some ⟨g, 0, none⟩)
    | 6 => v = .pointer (some ⟨g, 0, none⟩)
    | 7 => v = .pointer (some ⟨g, 2, none⟩)
    | 8 => v = .agg #[.int .i64 e.frm, .int .i64 e.til, .int .i64 e.peak, .int .i64 e.level, .int .i64 e.top]
    | 9 => ∃ g', v = .slice (some ⟨g', 0, none⟩) 1 1 ∧ w.heap.size ≤ g' ∧ Blk W g' 42 #[.int .i64 e.frm, .int .i64 e.til, .int .i64 e.peak, .int .i64 e.level, .int .i64 e.top]
    | 10 => EcL base W v (es ++ [e]) ∧ (∀ k, v.ownBlock = some k → k ∈ (Value.slice A0 nl c0).ownBlock.toList ∨ w.heap.size ≤ k)
    | 11 => v = .pointer (some ⟨g, 0, none⟩)
    | 12 => v = .pointer (some ⟨g, 9, none⟩)
    | _ => True) j u W → (fun (i : Nat) (v : Value) (W : World) => match i with
    | 0 => v = .pointer (some ⟨g, 0, none⟩)
    | 1 => v = .pointer (some ⟨g, 0, none⟩)
    | 2 => v = .pointer (some ⟨g, 0, none⟩)
    | 3 => v = .pointer (some ⟨g, 9, none⟩)
    | 4 => v = .slice A0 nl c0
    | 5 => v = .pointer (some ⟨g, 0, none⟩)
    | 6 => v = .pointer (some ⟨g, 0, none⟩)
    | 7 => v = .pointer (some ⟨g, 2, none⟩)
    | 8 => v = .agg #[.int .i64 e.frm, .int .i64 e.til, .int .i64 e.peak, .int .i64 e.level, .int .i64 e.top]
    | 9 => ∃ g', v = .slice (some ⟨g', 0, none⟩) 1 1 ∧ w.heap.size ≤ g' ∧ Blk W g' 42 #[.int .i64 e.frm, .int .i64 e.til, .int .i64 e.peak, .int .i64 e.level, .int .i64 e.top]
    | 10 => EcL base W v (es ++ [e]) ∧ (∀ k, v.ownBlock = some k → k ∈ (Value.slice A0 nl c0).ownBlock.toList ∨ w.heap.size ≤ k)
    | 11 => v = .pointer (some ⟨g, 0, none⟩)
    | 12 => v = .pointer (some ⟨g, 9, none⟩)
    | _ => True) j u W' := by
    intro W W' j u hX h
    match j, h with
    | 0, h => exact h
    | 1, h => exact h
    | 2, h => exact h
    | 3, h => exact h
    | 4, h => exact h
    | 5, h => exact h
    | 6, h => exact h
    | 7, h => exact h
    | 8, h => exact h
    | 9, h => obtain ⟨g', h1, h2, h3⟩ := h; exact ⟨g', h1, h2, h3.ext hX⟩
    | 10, h => exact ⟨World.ownsRow.ext' h.1 hX, h.2⟩
    | 11, h => exact h
    | 12, h => exact h
    | _ + 13, h => exact h
  have hmonoK : ∀ (W W' : World) (j : Nat) (u : Value), Keeps ((Value.slice A0 nl c0).ownBlock.toList) W W' → (∀ k ∈ ((Value.slice A0 nl c0).ownBlock.toList), NoRow 5 W k) → j ≠ 10 → (fun (i : Nat) (v : Value) (W : World) => match i with
    | 0 => v = .pointer (some ⟨g, 0, none⟩)
    | 1 => v = .pointer (some ⟨g, 0, none⟩)
    | 2 => v = .pointer (some ⟨g, 0, none⟩)
    | 3 => v = .pointer (some ⟨g, 9, none⟩)
    | 4 => v = .slice A0 nl c0
    | 5 => v = .pointer (some ⟨g, 0, none⟩)
    | 6 => v = .pointer (some ⟨g, 0, none⟩)
    | 7 => v = .pointer (some ⟨g, 2, none⟩)
    | 8 => v = .agg #[.int .i64 e.frm, .int .i64 e.til, .int .i64 e.peak, .int .i64 e.level, .int .i64 e.top]
    | 9 => ∃ g', v = .slice (some ⟨g', 0, none⟩) 1 1 ∧ w.heap.size ≤ g' ∧ Blk W g' 42 #[.int .i64 e.frm, .int .i64 e.til, .int .i64 e.peak, .int .i64 e.level, .int .i64 e.top]
    | 10 => EcL base W v (es ++ [e]) ∧ (∀ k, v.ownBlock = some k → k ∈ (Value.slice A0 nl c0).ownBlock.toList ∨ w.heap.size ≤ k)
    | 11 => v = .pointer (some ⟨g, 0, none⟩)
    | 12 => v = .pointer (some ⟨g, 9, none⟩)
    | _ => True) j u W → (fun (i : Nat) (v : Value) (W : World) => match i with
    | 0 => v = .pointer (some ⟨g, 0, none⟩)
    | 1 => v = .pointer (some ⟨g, 0, none⟩)
    | 2 => v = .pointer (some ⟨g, 0, none⟩)
    | 3 => v = .pointer (some ⟨g, 9, none⟩)
    | 4 => v = .slice A0 nl c0
    | 5 => v = .pointer (some ⟨g, 0, none⟩)
    | 6 => v = .pointer (some ⟨g, 0, none⟩)
    | 7 => v = .pointer (some ⟨g, 2, none⟩)
    | 8 => v = .agg #[.int .i64 e.frm, .int .i64 e.til, .int .i64 e.peak, .int .i64 e.level, .int .i64 e.top]
    | 9 => ∃ g', v = .slice (some ⟨g', 0, none⟩) 1 1 ∧ w.heap.size ≤ g' ∧ Blk W g' 42 #[.int .i64 e.frm, .int .i64 e.til, .int .i64 e.peak, .int .i64 e.level, .int .i64 e.top]
    | 10 => EcL base W v (es ++ [e]) ∧ (∀ k, v.ownBlock = some k → k ∈ (Value.slice A0 nl c0).ownBlock.toList ∨ w.heap.size ≤ k)
    | 11 => v = .pointer (some ⟨g, 0, none⟩)
    | 12 => v = .pointer (some ⟨g, 9, none⟩)
    | _ => True) j u W' := by
    intro W W' j u hk hN hne h
    match j, h with
    | 0, h => exact h
    | 1, h => exact h
    | 2, h => exact h
    | 3, h => exact h
    | 4, h => exact h
    | 5, h => exact h
    | 6, h => exact h
    | 7, h => exact h
    | 8, h => exact h
    | 9, h => obtain ⟨g', h1, h2, h3⟩ := h; exact ⟨g', h1, h2, h3.keeps hk (fun hl => by have := hLb _ hl; omega)⟩
    | 10, h => exact absurd rfl hne
    | 11, h => exact h
    | 12, h => exact h
    | _ + 13, h => exact h
  have hsz : ∀ d, some d ∈ ([some 24, some 25, some 26, some 27, some 28, some 29, some 30, some 31, some 32, some 33, some 34, some 35, some 36] : List (Option Tmp)) → d < a.tmps.size := slots_lt (by decide) hsize
  refine wp_region_j 13 [some 24, some 25, some 26, some 27, some 28, some 29, some 30, some 31, some 32, some 33, some 34, some 35, some 36] [[], [], [1], [2], [3], [], [5], [6], [7], [8], [4, 9], [0], [11]] [[], [], [], [], [10], [], [], [], [], [], [], [], []] (fun (i : Nat) (v : Value) (W : World) => match i with
    | 0 => v = .pointer (some ⟨g, 0, none⟩)
    | 1 => v = .pointer (some ⟨g, 0, none⟩)
    | 2 => v = .pointer (some ⟨g, 0, none⟩)
    | 3 => v = .pointer (some ⟨g, 9, none⟩)
    | 4 => v = .slice A0 nl c0
    | 5 => v = .pointer (some ⟨g, 0, none⟩)
    | 6 => v = .pointer (some ⟨g, 0, none⟩)
    | 7 => v = .pointer (some ⟨g, 2, none⟩)
    | 8 => v = .agg #[.int .i64 e.frm, .int .i64 e.til, .int .i64 e.peak, .int .i64 e.level, .int .i64 e.top]
    | 9 => ∃ g', v = .slice (some ⟨g', 0, none⟩) 1 1 ∧ w.heap.size ≤ g' ∧ Blk W g' 42 #[.int .i64 e.frm, .int .i64 e.til, .int .i64 e.peak, .int .i64 e.level, .int .i64 e.top]
    | 10 => EcL base W v (es ++ [e]) ∧ (∀ k, v.ownBlock = some k → k ∈ (Value.slice A0 nl c0).ownBlock.toList ∨ w.heap.size ≤ k)
    | 11 => v = .pointer (some ⟨g, 0, none⟩)
    | 12 => v = .pointer (some ⟨g, 9, none⟩)
    | _ => True) (fun done W => Keeps ((Value.slice A0 nl c0).ownBlock.toList) w W ∧ (¬ done 10 → Ext w W)) (by kernel_rfl) (by kernel_rfl) hsz (fun p q W h hj => ⟨hj.1, fun hn => hj.2 fun hp => hn ((h _).1 hp)⟩) ⟨Keeps.of_ext (Ext.refl w).drew _, fun _ => (Ext.refl w).drew⟩ ?_ ?_
  · clear hend
    simp only [rops, Try.f64, regOf, Option.bind_some, Nat.reduceBEq, if_true, if_false, Bool.false_eq_true, Option.getD_some]
    simp only [List.take_succ_cons, List.take_zero]
    refine ⟨?_, ?_, ?_, ?_, ?_, ?_, ?_, ?_, ?_, ?_, ?_, ?_, ?_, trivial⟩
    · intro done us W hJ hdep haft hnot b hb hb' K hK Q'
      have e0 := (hb' 0 (by simp)).trans s0
      clear hb hb'
      go_simp
      exact hK _ _ rfl (fun _ _ _ h => h) ⟨hJ.1, fun h => hJ.2 fun d => h (.inl d)⟩
    · intro done us W hJ hdep haft hnot b hb hb' K hK Q'
      have e0 := (hb' 0 (by simp)).trans s0
      clear hb hb'
      go_simp
      exact hK _ _ rfl (fun _ _ _ h => h) ⟨hJ.1, fun h => hJ.2 fun d => h (.inl d)⟩
    · intro done us W hJ hdep haft hnot b hb hb' K hK Q'
      simp only [List.getD_cons_succ, List.getD_cons_zero, List.mem_cons, List.not_mem_nil, or_false, forall_eq] at hdep
      have e25 := hb 1 25 rfl
      have d1 := hdep
      rw [d1.1] at e25
      clear hb hb' hdep d1
      go_simp
      exact hK _ _ rfl (fun _ _ _ h => h) ⟨hJ.1, fun h => hJ.2 fun d => h (.inl d)⟩
    · intro done us W hJ hdep haft hnot b hb hb' K hK Q'
      simp only [List.getD_cons_succ, List.getD_cons_zero, List.mem_cons, List.not_mem_nil, or_false, forall_eq] at hdep
      have e26 := hb 2 26 rfl
      have d2 := hdep
      rw [d2.1] at e26
      clear hb hb' hdep d2
      go_simp
      exact hK _ _ rfl (fun _ _ _ h => h) ⟨hJ.1, fun h => hJ.2 fun d => h (.inl d)⟩
    · intro done us W hJ hdep haft hnot b hb hb' K hK Q'
      simp only [List.getD_cons_succ, List.getD_cons_zero, List.mem_cons, List.not_mem_nil, or_false, forall_eq] at hdep
      simp only [List.getD_cons_succ, List.getD_cons_zero, List.mem_cons, List.not_mem_nil, or_false, forall_eq_or_imp, forall_eq] at haft
      have e27 := hb 3 27 rfl
      have d3 := hdep
      rw [d3.1] at e27
      clear hb hb' hdep d3
      have hJE := hJ.2 haft
      have q := Ext.cell hJE (hB.cell 9)
      go_simp
      exact hK _ _ rfl (fun _ _ _ h => h) ⟨hJ.1, fun h => hJ.2 fun d => h (.inl d)⟩
    · intro done us W hJ hdep haft hnot b hb hb' K hK Q'
      have e0 := (hb' 0 (by simp)).trans s0
      clear hb hb'
      go_simp
      exact hK _ _ rfl (fun _ _ _ h => h) ⟨hJ.1, fun h => hJ.2 fun d => h (.inl d)⟩
    · intro done us W hJ hdep haft hnot b hb hb' K hK Q'
      simp only [List.getD_cons_succ, List.getD_cons_zero, List.mem_cons, List.not_mem_nil, or_false, forall_eq] at hdep
      have e29 := hb 5 29 rfl
      have d5 := hdep
      rw [d5.1] at e29
      clear hb hb' hdep d5
      go_simp
      exact hK _ _ rfl (fun _ _ _ h => h) ⟨hJ.1, fun h => hJ.2 fun d => h (.inl d)⟩
    · intro done us W hJ hdep haft hnot b hb hb' K hK Q'
      simp only [List.getD_cons_succ, List.getD_cons_zero, List.mem_cons, List.not_mem_nil, or_false, forall_eq] at hdep
      have e30 := hb 6 30 rfl
      have d6 := hdep
      rw [d6.1] at e30
      clear hb hb' hdep d6
      go_simp
      exact hK _ _ rfl (fun _ _ _ h => h) ⟨hJ.1, fun h => hJ.2 fun d => h (.inl d)⟩
    · intro done us W hJ hdep haft hnot b hb hb' K hK Q'
      simp only [List.getD_cons_succ, List.getD_cons_zero, List.mem_cons, List.not_mem_nil, or_false, forall_eq] at hdep
      have e31 := hb 7 31 rfl
      have d7 := hdep
      rw [d7.1] at e31
      clear hb hb' hdep d7
      have hB' := hB.keeps hJ.1 hgL
      have q2 := hB'.cell 2
      have q3 := hB'.cell 3
      have q4 := hB'.cell 4
      have q5 := hB'.cell 5
      have q6 := hB'.cell 6
      go_simp
      exact hK _ _ rfl (fun _ _ _ h => h) ⟨hJ.1, fun h => hJ.2 fun d => h (.inl d)⟩
    · intro done us W hJ hdep haft hnot b hb hb' K hK Q'
      simp only [List.getD_cons_succ, List.getD_cons_zero, List.mem_cons, List.not_mem_nil, or_false, forall_eq] at hdep
      have e32 := hb 8 32 rfl
      have d8 := hdep
      rw [d8.1] at e32
      clear hb hb' hdep d8
      have hb1 := Blk.new W 42 #[.int .i64 e.frm, .int .i64 e.til, .int .i64 e.peak, .int .i64 e.level, .int .i64 e.top]
      have hX := (Ext.refl W).alloc (.cells #[.int .i64 e.frm, .int .i64 e.til, .int .i64 e.peak, .int .i64 e.level, .int .i64 e.top] 42)
      have hs := hJ.1.size
      go_simp
      exact hK _ _ (⟨_, rfl, hs, hb1⟩) (fun j u _ h => hmono _ _ j u hX h) ⟨hJ.1.trans (Keeps.of_ext hX _), fun h => (hJ.2 fun d => h (.inl d)).trans hX⟩
    · intro done us W hJ hdep haft hnot b hb hb' K hK Q'
      simp only [List.getD_cons_succ, List.getD_cons_zero, List.mem_cons, List.not_mem_nil, or_false, forall_eq_or_imp, forall_eq] at hdep
      have e28 := hb 4 28 rfl
      have e33 := hb 9 33 rfl
      have d4 := hdep.1
      have d9 := hdep.2
      rw [d4.1] at e28
      clear hb hb' hdep d4
      have hJE := hJ.2 hnot
      obtain ⟨g', e', hg', hb1⟩ := d9.1
      rw [e'] at e33
      have hoW := World.ownsRow.ext' hown hJE
      have hs := Ext.size hJE
      obtain ⟨v', W', q, ho, hG, hv⟩ := run_app (P := Try.prog) W elE 34 base (.slice A0 nl c0) nl (echV es) hoW (some ⟨g', 0, none⟩) 1 1 e.cells rfl (fun _ => ⟨g', 0, rfl, fun j y hy => by (rw [Nat.zero_add]; exact (hb1.cell j).trans (by simpa [Ech.cells] using hy))⟩) (by intro u hu; simp [Ech.cells] at hu; rcases hu with rfl | rfl | rfl | rfl | rfl <;> rfl) (by omega) (by unfold maxLen; omega) (by omega)
      have hk : Keeps ((Value.slice A0 nl c0).ownBlock.toList) W W' := Keeps.of_grown hG (fun k hk => by rw [hk]; simp)
      have ho' : EcL base W' v' (es ++ [e]) := by unfold EcL; rw [echV_snoc, List.length_append]; have hl : es.length = nl := hnl; rw [hl]; exact ho
      have hv' : ∀ k, v'.ownBlock = some k → k ∈ (Value.slice A0 nl c0).ownBlock.toList ∨ w.heap.size ≤ k := by
        intro k hk'
        rcases hv with hv | hv
        · left; rw [hv] at hk'; rw [hk']; simp
        · right; rw [hv] at hk'; injection hk' with hk'; omega
      have hN : ∀ k ∈ ((Value.slice A0 nl c0).ownBlock.toList), NoRow 5 W k := fun k hk => NoRow.of_own hoW (by simpa using hk) (by decide)
      exact jop_app rfl rfl e28 e33 q (hK _ _ ⟨ho', hv'⟩ (fun j u hd h => hmonoK _ _ j u hk hN (by intro e; subst e; exact hnot hd) h) ⟨hJ.1.trans hk, fun h => absurd (.inr rfl) h⟩)
    · intro done us W hJ hdep haft hnot b hb hb' K hK Q'
      simp only [List.getD_cons_succ, List.getD_cons_zero, List.mem_cons, List.not_mem_nil, or_false, forall_eq] at hdep
      have e24 := hb 0 24 rfl
      have d0 := hdep
      rw [d0.1] at e24
      clear hb hb' hdep d0
      go_simp
      exact hK _ _ rfl (fun _ _ _ h => h) ⟨hJ.1, fun h => hJ.2 fun d => h (.inl d)⟩
    · intro done us W hJ hdep haft hnot b hb hb' K hK Q'
      simp only [List.getD_cons_succ, List.getD_cons_zero, List.mem_cons, List.not_mem_nil, or_false, forall_eq] at hdep
      have e35 := hb 11 35 rfl
      have d11 := hdep
      rw [d11.1] at e35
      clear hb hb' hdep d11
      go_simp
      exact hK _ _ rfl (fun _ _ _ h => h) ⟨hJ.1, fun h => hJ.2 fun d => h (.inl d)⟩
  · intro us W hV hJ
    exact hend (us 0) (us 1) (us 2) (us 3) (us 4) (us 5) (us 6) (us 7) (us 8) (us 9) (us 10) (us 11) (us 12) W (hV 0 (by omega)) (hV 1 (by omega)) (hV 2 (by omega)) (hV 3 (by omega)) (hV 4 (by omega)) (hV 5 (by omega)) (hV 6 (by omega)) (hV 7 (by omega)) (hV 8 (by omega)) (hV 9 (by omega)) (hV 10 (by omega)) (hV 11 (by omega)) (hV 12 (by omega)) (by simpa using hJ)

set_option maxRecDepth 100000 in
set_option maxHeartbeats 8000000 in
theorem end_any (base g n c : Nat) (A : Option Addr) (l : List Int) (d : Int) (h : Hun) (te tp : Int) (v : Value) (z : Nat) (w : World) (hH : HunP base w g A n c d h te tp v) (hI : Ints .i64 w A n l) (hfar : ∀ q, A = some q → q.block < base) (hp : h.peak < n) (ho : h.out.length ≤ 100000) (hb : base ≤ w.heap.size) :
    Calls Try.prog 64 #[.pointer (some ⟨g, 0, none⟩), .int .i64 (z : Int)] w (fun e w' => e = .returned (.tuple #[]) ∧ ∃ te' tp' v', HunP base w' g A n c d ⟨h.frm, h.peak, h.level, h.fall, h.valley, h.out ++ [h.close l z]⟩ te' tp' v' ∧ Keeps (g :: v.ownBlock.toList) w w' ∧ (∀ k, v'.ownBlock = some k → k ∈ v.ownBlock.toList ∨ w.heap.size ≤ k)) := by
  obtain ⟨b, off, y, rfl, hy, _, cy⟩ := hI.get hp
  obtain ⟨fm, pk, lv, fa, vl, ou⟩ := h
  simp only at hp hy cy ho
  have hbg : b ≠ g := by have := hfar _ rfl; have := hH.lo; simp only at *; omega
  have hgb : g ≠ b := Ne.symm hbg
  have hbg2 : (b == g) = false := by simpa using hbg
  have cy1 : (w.setCell ⟨g, 3, none⟩ (.int .i64 (z : Int))).cell? ⟨b, off + pk, none⟩ = some (.int .i64 y) := (World.cell?_setCell_other (h := fun e => hgb (congrArg Addr.block e)) ..).trans cy
  have hrow := hH.row
  simp only at hrow
  obtain ⟨A0, c0, rfl⟩ := own_slice hrow
  have hgv : g ∉ (Value.slice A0 ou.length c0).ownBlock.toList := fun hl => by
    have := NoRow.of_own (tb := 90) hrow (by simpa using hl) (by decide)
    exact this _ _ hH.blk
  have hlo := hH.lo
  have hB1 := ((hH.blk.set 3 (.int .i64 (z : Int))).set 6 (.int .i64 y)).drew
  have hB1' : Blk (((w.setCell ⟨g, 3, none⟩ (.int .i64 (z : Int))).setCell ⟨g, 6, none⟩ (.int .i64 y)).drew) g 90 #[.slice (some ⟨b, off, none⟩) n c, .int .i64 d, .int .i64 fm, .int .i64 (z : Int), .int .i64 pk, .int .i64 lv, .int .i64 y, .int .i64 vl, .bool fa, .slice A0 ou.length c0] := by simpa using hB1
  have hk1 : Keeps [g] w (((w.setCell ⟨g, 3, none⟩ (.int .i64 (z : Int))).setCell ⟨g, 6, none⟩ (.int .i64 y)).drew) := ((((Keeps.refl [g] w).setCell (.inl (by simp)) _)).setCell (.inl (by simp)) _).drew
  have hrow1 := row_away hrow hk1 (by intro k hk; simp at hk; subst hk; exact NoRow.of_blk hH.blk (by decide))
  have hcl : Hid ((⟨fm, z, pk, lv, y⟩ : Ech) = (⟨fm, pk, lv, fa, vl, ou⟩ : Hun).close l z) := Lib.hid (by unfold Hun.close; simp only; rw [getD_at hy])
  have f0 := hH.blk.cell 0
  have f3 := hH.blk.cell 3
  have f4 := hH.blk.cell 4
  have f6 := hH.blk.cell 6
  have z3 := hH.blk.free 3
  have z6 := hH.blk.free 6
  simp only [List.getElem?_toArray, List.getElem?_cons_zero, List.getElem?_cons_succ] at f0 f3 f4 f6
  have HB := Lib.hid hB1'
  have HK := Lib.hid hk1
  have HR := Lib.hid hrow1
  have HV := Lib.hid hgv
  clear hI hH hy hB1 hB1' hk1 hrow hrow1 hgv
  go_enter Try.func64, Try.ntmps64
  go_wp2_with fail
  go_region
  generalize ((w.setCell ⟨g, 3, none⟩ (.int .i64 (z : Int))).setCell ⟨g, 6, none⟩ (.int .i64 y)).drew = w1 at HB HK HR ⊢
  go_upto_region 2 with (fail)
  refine end_r2 base g ou.length A0 c0 ou ⟨fm, z, pk, lv, y⟩ (.slice (some ⟨b, off, none⟩) n c) (.int .i64 d) (.int .i64 vl) (.bool fa) w1 HB.out HV.out rfl (by omega) HR.out (Nat.le_trans hb HK.out.size) (fun k hk => (HR.out.lt k (by simpa using hk)).2) _ _ (by simp) rfl ?_
  rintro xv0 xv1 xv2 xv3 xv4 xv5 xv6 xv7 xv8 xv9 xv10 xv11 xv12 W rfl rfl rfl rfl rfl rfl rfl rfl rfl ⟨gz, rfl, _, _⟩ ⟨hE, hv⟩ rfl rfl hKW
  simp only [rops, Try.f64, regOf, Option.bind_some, Nat.reduceBEq, if_true, if_false, Bool.false_eq_true, Option.getD_some, List.drop_succ_cons, List.drop_zero]
  simp only [Act.put, List.setIfInBounds_toArray, List.set_cons_succ, List.set_cons_zero]
  obtain ⟨D, hD⟩ : ∃ D, ou ++ [(⟨fm, z, pk, lv, y⟩ : Ech)] = D := ⟨_, rfl⟩
  rw [hD] at hE
  obtain ⟨A2, c2, rfl⟩ := own_slice hE
  have HD := Lib.hid hD
  clear hD
  have HB2 := Lib.hid (HB.out.keeps hKW HV.out)
  have f9 := HB2.out.cell 9
  have z9 := HB2.out.free 9
  have HE := Lib.hid hE
  have HV2 := Lib.hid hv
  have HKW := Lib.hid hKW
  clear hE hv hKW f0 f3 f4 f6 z3 z6 cy cy1
  go_wp2
  go_end0
  have hk : Keeps (g :: (Value.slice A0 ou.length c0).ownBlock.toList) w (W.setCell ⟨g, 9, none⟩ (.slice A2 D.length c2)) := ((HK.out.mono (by intro k hk _; simp at hk; simp [hk])).trans (HKW.out.mono (by intro k hk _; exact List.mem_cons_of_mem _ hk))).setCell (.inl (by simp)) _
  have hE2 : EcL base W (.slice A2 D.length c2) (ou ++ [(⟨fm, pk, lv, fa, vl, ou⟩ : Hun).close l z]) := by
    have h1 := HE.out
    rw [HD.out.symm.trans (congrArg (fun x => ou ++ [x]) hcl.out)] at h1 ⊢
    exact h1
  have hN : ∀ k ∈ [g], NoRow 42 W k := by intro k hk; simp at hk; subst hk; exact NoRow.of_blk HB2.out (by decide)
  refine ⟨rfl, (z : Int), y, .slice A2 D.length c2, ⟨?_, ?_, hlo⟩, hk, fun k hk => ?_⟩
  · simpa using HB2.out.set 9 (.slice A2 D.length c2)
  · exact row_away hE2 ((Keeps.refl [g] W).setCell (.inl (by simp)) _) hN
  · rcases HV2.out k hk with h1 | h1
    · left; simpa using h1
    · right; have := HK.out.size; omega

set_option maxRecDepth 100000 in
set_option maxHeartbeats 2000000 in
theorem fallen_r4 (g bb off n cc vl ix : Nat) (y dr : Int) (w : World) (f0 : w.cell? ⟨g, 0, none⟩ = some (.slice (some ⟨bb, off, none⟩) n cc)) (f1 : w.cell? ⟨g, 1, none⟩ = some (.int .i64 dr)) (f7 : w.cell? ⟨g, 7, none⟩ = some (.int .i64 (vl : Int))) (fy : w.cell? ⟨bb, off + vl, none⟩ = some (.int .i64 y)) (hv : vl < n) (hy : 0 ≤ y ∧ y ≤ 1023) (hd : 0 ≤ dr ∧ dr ≤ 1023) (a : Act) (Q : Exit → Act → World → Prop) (hsize : 81 ≤ a.tmps.size)
    (s0 : a.tmps[0]? = some (.pointer (some ⟨g, 0, none⟩)))
    (s1 : a.tmps[1]? = some (.int .i64 (ix : Int)))
    (hend : ∀ (xv0 xv1 xv2 xv3 xv4 xv5 xv6 xv7 xv8 xv9 xv10 xv11 xv12 xv13 xv14 xv15 xv16 xv17 xv18 xv19 xv20 xv21 xv22 xv23 : Value) (W : World), (xv0 = .pointer (some ⟨g, 0, none⟩)) → (xv1 = .pointer (some ⟨g, 0, none⟩)) → (xv2 = .pointer (some ⟨g, 0, none⟩)) → (xv3 = .pointer (some ⟨g, 7, none⟩)) → (xv4 = .int .i64 (vl : Int)) → (xv5 = .int .i64 (ix : Int)) → (xv6 = .pointer (some ⟨g, 0, none⟩)) → (xv7 = .pointer (some ⟨g, 0, none⟩)) → (xv8 = .pointer (some ⟨g, 0, none⟩)) → (xv9 = .slice (some ⟨bb, off, none⟩) n cc) → (xv10 = .pointer (some ⟨g, 0, none⟩)) → (xv11 = .pointer (some ⟨g, 0, none⟩)) → (xv12 = .pointer (some ⟨g, 7, none⟩)) → (xv13 = .int .i64 (vl : Int)) → (xv14 = .pointer (some ⟨bb, off + vl, none⟩)) → (xv15 = .int .i64 (y)) → (xv16 = .pointer (some ⟨g, 0, none⟩)) → (xv17 = .pointer (some ⟨g, 0, none⟩)) → (xv18 = .pointer (some ⟨g, 1, none⟩)) → (xv19 = .int .i64 (dr)) → (xv20 = .int .i64 (y + dr)) → (xv21 = .agg #[.int .i64 (vl : Int), .int .i64 (0), .int .i64 (ix : Int), .int .i64 (y + dr), .int .i64 (0)]) → (xv22 = .pointer (some ⟨g, 0, none⟩)) → (xv23 = .pointer (some ⟨g, 2, none⟩)) → Ext w W → wpList Try.prog (rops Try.f63 4).toArray Q ((rops Try.f63 4).drop 24) ((((((((((((((((((((((((a.put (some 57) xv0).put (some 58) xv1).put (some 59) xv2).put (some 60) xv3).put (some 61) xv4).put (some 62) xv5).put (some 63) xv6).put (some 64) xv7).put (some 65) xv8).put (some 66) xv9).put (some 67) xv10).put (some 68) xv11).put (some 69) xv12).put (some 70) xv13).put (some 71) xv14).put (some 72) xv15).put (some 73) xv16).put (some 74) xv17).put (some 75) xv18).put (some 76) xv19).put (some 77) xv20).put (some 78) xv21).put (some 79) xv22).put (some 80) xv23) W) :
    (Code.region 4 (rops Try.f63 4).toArray true).wp Try.prog Q a w := by
  have hmono : ∀ (W W' : World) (j : Nat) (u : Value), Ext W W' → (fun (i : Nat) (v : Value) (W : World) => match i with
    | 0 => v = .pointer (some ⟨g, 0, none⟩)
    | 1 => v = .pointer (some ⟨g, 0, none⟩)
    | 2 => v = .pointer (some ⟨g, 0, none⟩)
    | 3 => v = .pointer (some ⟨g, 7, none⟩)
    | 4 => v = .int .i64 (vl : Int)
    | 5 => v = .int .i64 (ix : Int)
    | 6 => v = .pointer (some ⟨g, 0, none⟩)
    | 7 => v = .pointer (some ⟨g, 0, none⟩)
    | 8 => v = .pointer (some ⟨g, 0, none⟩)
    | 9 => v = .slice (some ⟨bb, off, none⟩) n cc
    | 10 => v = .pointer (some ⟨g, 0, none⟩)
    | 11 => v = .pointer (some ⟨g, 0, none⟩)
    | 12 => v = .pointer (some ⟨g, 7, none⟩)
    | 13 => v = .int .i64 (vl : Int)
    | 14 => v = .pointer (some ⟨bb, off + vl, none⟩)
    | 15 => v = .int .i64 (y)
    | 16 => v = .pointer (some ⟨g, 0, none⟩)
    | 17 => v = .pointer (some ⟨g, 0, none⟩)
    | 18 => v = .pointer (some ⟨g, 1, none⟩)
    | 19 => v = .int .i64 (dr)
    | 20 => v = .int .i64 (y + dr)
    | 21 => v = .agg #[.int .i64 (vl : Int), .int .i64 (0), .int .i64 (ix : Int), .int .i64 (y + dr), .int .i64 (0)]
    | 22 => v = .pointer (some ⟨g, 0, none⟩)
    | 23 => v = .pointer (some ⟨g, 2, none⟩)
    | _ => True) j u W → (fun (i : Nat) (v : Value) (W : World) => match i with
    | 0 => v = .pointer (some ⟨g, 0, none⟩)
    | 1 => v = .pointer (some ⟨g, 0, none⟩)
    | 2 => v = .pointer (some ⟨g, 0, none⟩)
    | 3 => v = .pointer (some ⟨g, 7, none⟩)
    | 4 => v = .int .i64 (vl : Int)
    | 5 => v = .int .i64 (ix : Int)
    | 6 => v = .pointer (some ⟨g, 0, none⟩)
    | 7 => v = .pointer (some ⟨g, 0, none⟩)
    | 8 => v = .pointer (some ⟨g, 0, none⟩)
    | 9 => v = .slice (some ⟨bb, off, none⟩) n cc
    | 10 => v = .pointer (some ⟨g, 0, none⟩)
    | 11 => v = .pointer (some ⟨g, 0, none⟩)
    | 12 => v = .pointer (some ⟨g, 7, none⟩)
    | 13 => v = .int .i64 (vl : Int)
    | 14 => v = .pointer (some ⟨bb, off + vl, none⟩)
    | 15 => v = .int .i64 (y)
    | 16 => v = .pointer (some ⟨g, 0, none⟩)
    | 17 => v = .pointer (some ⟨g, 0, none⟩)
    | 18 => v = .pointer (some ⟨g, 1, none⟩)
    | 19 => v = .int .i64 (dr)
    | 20 => v = .int .i64 (y + dr)
    | 21 => v = .agg #[.int .i64 (vl : Int), .int .i64 (0), .int .i64 (ix : Int), .int .i64 (y + dr), .int .i64 (0)]
    | 22 => v = .pointer (some ⟨g, 0, none⟩)
    | 23 => v = .pointer (some ⟨g, 2, none⟩)
    | _ => True) j u W' := by
    intro W W' j u hX h
    match j, h with
    | 0, h => exact h
    | 1, h => exact h
    | 2, h => exact h
    | 3, h => exact h
    | 4, h => exact h
    | 5, h => exact h
    | 6, h => exact h
    | 7, h => exact h
    | 8, h => exact h
    | 9, h => exact h
    | 10, h => exact h
    | 11, h => exact h
    | 12, h => exact h
    | 13, h => exact h
    | 14, h => exact h
    | 15, h => exact h
    | 16, h => exact h
    | 17, h => exact h
    | 18, h => exact h
    | 19, h => exact h
    | 20, h => exact h
    | 21, h => exact h
    | 22, h => exact h
    | 23, h => exact h
    | _ + 24, h => exact h
  have hsz : ∀ d, some d ∈ ([some 57, some 58, some 59, some 60, some 61, some 62, some 63, some 64, some 65, some 66, some 67, some 68, some 69, some 70, some 71, some 72, some 73, some 74, some 75, some 76, some 77, some 78, some 79, some 80] : List (Option Tmp)) → d < a.tmps.size := slots_lt (by decide) hsize
  refine wp_region_j 24 [some 57, some 58, some 59, some 60, some 61, some 62, some 63, some 64, some 65, some 66, some 67, some 68, some 69, some 70, some 71, some 72, some 73, some 74, some 75, some 76, some 77, some 78, some 79, some 80] [[], [], [1], [2], [3], [], [], [6], [7], [8], [], [10], [11], [12], [9, 13], [14], [], [16], [17], [18], [15, 19], [4, 5, 20], [0], [22]] [[], [], [], [], [], [], [], [], [], [], [], [], [], [], [], [], [], [], [], [], [], [], [], []] (fun (i : Nat) (v : Value) (W : World) => match i with
    | 0 => v = .pointer (some ⟨g, 0, none⟩)
    | 1 => v = .pointer (some ⟨g, 0, none⟩)
    | 2 => v = .pointer (some ⟨g, 0, none⟩)
    | 3 => v = .pointer (some ⟨g, 7, none⟩)
    | 4 => v = .int .i64 (vl : Int)
    | 5 => v = .int .i64 (ix : Int)
    | 6 => v = .pointer (some ⟨g, 0, none⟩)
    | 7 => v = .pointer (some ⟨g, 0, none⟩)
    | 8 => v = .pointer (some ⟨g, 0, none⟩)
    | 9 => v = .slice (some ⟨bb, off, none⟩) n cc
    | 10 => v = .pointer (some ⟨g, 0, none⟩)
    | 11 => v = .pointer (some ⟨g, 0, none⟩)
    | 12 => v = .pointer (some ⟨g, 7, none⟩)
    | 13 => v = .int .i64 (vl : Int)
    | 14 => v = .pointer (some ⟨bb, off + vl, none⟩)
    | 15 => v = .int .i64 (y)
    | 16 => v = .pointer (some ⟨g, 0, none⟩)
    | 17 => v = .pointer (some ⟨g, 0, none⟩)
    | 18 => v = .pointer (some ⟨g, 1, none⟩)
    | 19 => v = .int .i64 (dr)
    | 20 => v = .int .i64 (y + dr)
    | 21 => v = .agg #[.int .i64 (vl : Int), .int .i64 (0), .int .i64 (ix : Int), .int .i64 (y + dr), .int .i64 (0)]
    | 22 => v = .pointer (some ⟨g, 0, none⟩)
    | 23 => v = .pointer (some ⟨g, 2, none⟩)
    | _ => True) (fun _ W => Ext w W) (by kernel_rfl) (by kernel_rfl) hsz (fun _ _ _ _ h => h) ((Ext.refl w).drew) ?_ ?_
  · clear hend
    simp only [rops, Try.f63, regOf, Option.bind_some, Nat.reduceBEq, if_true, if_false, Bool.false_eq_true, Option.getD_some]
    simp only [List.take_succ_cons, List.take_zero]
    refine ⟨?_, ?_, ?_, ?_, ?_, ?_, ?_, ?_, ?_, ?_, ?_, ?_, ?_, ?_, ?_, ?_, ?_, ?_, ?_, ?_, ?_, ?_, ?_, ?_, trivial⟩
    · intro done us W hJ hdep haft hnot b hb hb' K hK Q'
      have e0 := (hb' 0 (by simp)).trans s0
      clear hb hb'
      go_simp
      exact hK _ _ rfl (fun _ _ _ h => h) hJ
    · intro done us W hJ hdep haft hnot b hb hb' K hK Q'
      have e0 := (hb' 0 (by simp)).trans s0
      clear hb hb'
      go_simp
      exact hK _ _ rfl (fun _ _ _ h => h) hJ
    · intro done us W hJ hdep haft hnot b hb hb' K hK Q'
      simp only [List.getD_cons_succ, List.getD_cons_zero, List.mem_cons, List.not_mem_nil, or_false, forall_eq] at hdep
      have e58 := hb 1 58 rfl
      have d1 := hdep
      rw [d1.1] at e58
      clear hb hb' hdep d1
      go_simp
      exact hK _ _ rfl (fun _ _ _ h => h) hJ
    · intro done us W hJ hdep haft hnot b hb hb' K hK Q'
      simp only [List.getD_cons_succ, List.getD_cons_zero, List.mem_cons, List.not_mem_nil, or_false, forall_eq] at hdep
      have e59 := hb 2 59 rfl
      have d2 := hdep
      rw [d2.1] at e59
      clear hb hb' hdep d2
      go_simp
      exact hK _ _ rfl (fun _ _ _ h => h) hJ
    · intro done us W hJ hdep haft hnot b hb hb' K hK Q'
      simp only [List.getD_cons_succ, List.getD_cons_zero, List.mem_cons, List.not_mem_nil, or_false, forall_eq] at hdep
      have e60 := hb 3 60 rfl
      have d3 := hdep
      rw [d3.1] at e60
      clear hb hb' hdep d3
      have q := Ext.cell hJ f7
      go_simp
      exact hK _ _ rfl (fun _ _ _ h => h) hJ
    · intro done us W hJ hdep haft hnot b hb hb' K hK Q'
      have e1 := (hb' 1 (by simp)).trans s1
      clear hb hb'
      go_simp
      exact hK _ _ rfl (fun _ _ _ h => h) hJ
    · intro done us W hJ hdep haft hnot b hb hb' K hK Q'
      have e0 := (hb' 0 (by simp)).trans s0
      clear hb hb'
      go_simp
      exact hK _ _ rfl (fun _ _ _ h => h) hJ
    · intro done us W hJ hdep haft hnot b hb hb' K hK Q'
      simp only [List.getD_cons_succ, List.getD_cons_zero, List.mem_cons, List.not_mem_nil, or_false, forall_eq] at hdep
      have e63 := hb 6 63 rfl
      have d6 := hdep
      rw [d6.1] at e63
      clear hb hb' hdep d6
      go_simp
      exact hK _ _ rfl (fun _ _ _ h => h) hJ
    · intro done us W hJ hdep haft hnot b hb hb' K hK Q'
      simp only [List.getD_cons_succ, List.getD_cons_zero, List.mem_cons, List.not_mem_nil, or_false, forall_eq] at hdep
      have e64 := hb 7 64 rfl
      have d7 := hdep
      rw [d7.1] at e64
      clear hb hb' hdep d7
      go_simp
      exact hK _ _ rfl (fun _ _ _ h => h) hJ
    · intro done us W hJ hdep haft hnot b hb hb' K hK Q'
      simp only [List.getD_cons_succ, List.getD_cons_zero, List.mem_cons, List.not_mem_nil, or_false, forall_eq] at hdep
      have e65 := hb 8 65 rfl
      have d8 := hdep
      rw [d8.1] at e65
      clear hb hb' hdep d8
      have q := Ext.cell hJ f0
      go_simp
      exact hK _ _ rfl (fun _ _ _ h => h) hJ
    · intro done us W hJ hdep haft hnot b hb hb' K hK Q'
      have e0 := (hb' 0 (by simp)).trans s0
      clear hb hb'
      go_simp
      exact hK _ _ rfl (fun _ _ _ h => h) hJ
    · intro done us W hJ hdep haft hnot b hb hb' K hK Q'
      simp only [List.getD_cons_succ, List.getD_cons_zero, List.mem_cons, List.not_mem_nil, or_false, forall_eq] at hdep
      have e67 := hb 10 67 rfl
      have d10 := hdep
      rw [d10.1] at e67
      clear hb hb' hdep d10
      go_simp
      exact hK _ _ rfl (fun _ _ _ h => h) hJ
    · intro done us W hJ hdep haft hnot b hb hb' K hK Q'
      simp only [List.getD_cons_succ, List.getD_cons_zero, List.mem_cons, List.not_mem_nil, or_false, forall_eq] at hdep
      have e68 := hb 11 68 rfl
      have d11 := hdep
      rw [d11.1] at e68
      clear hb hb' hdep d11
      go_simp
      exact hK _ _ rfl (fun _ _ _ h => h) hJ
    · intro done us W hJ hdep haft hnot b hb hb' K hK Q'
      simp only [List.getD_cons_succ, List.getD_cons_zero, List.mem_cons, List.not_mem_nil, or_false, forall_eq] at hdep
      have e69 := hb 12 69 rfl
      have d12 := hdep
      rw [d12.1] at e69
      clear hb hb' hdep d12
      have q := Ext.cell hJ f7
      go_simp
      exact hK _ _ rfl (fun _ _ _ h => h) hJ
    · intro done us W hJ hdep haft hnot b hb hb' K hK Q'
      simp only [List.getD_cons_succ, List.getD_cons_zero, List.mem_cons, List.not_mem_nil, or_false, forall_eq_or_imp, forall_eq] at hdep
      have e66 := hb 9 66 rfl
      have e70 := hb 13 70 rfl
      have d9 := hdep.1
      have d13 := hdep.2
      rw [d9.1] at e66
      rw [d13.1] at e70
      clear hb hb' hdep d9 d13
      go_simp
      exact hK _ _ rfl (fun _ _ _ h => h) hJ
    · intro done us W hJ hdep haft hnot b hb hb' K hK Q'
      simp only [List.getD_cons_succ, List.getD_cons_zero, List.mem_cons, List.not_mem_nil, or_false, forall_eq] at hdep
      have e71 := hb 14 71 rfl
      have d14 := hdep
      rw [d14.1] at e71
      clear hb hb' hdep d14
      have q := Ext.cell hJ fy
      go_simp
      exact hK _ _ rfl (fun _ _ _ h => h) hJ
    · intro done us W hJ hdep haft hnot b hb hb' K hK Q'
      have e0 := (hb' 0 (by simp)).trans s0
      clear hb hb'
      go_simp
      exact hK _ _ rfl (fun _ _ _ h => h) hJ
    · intro done us W hJ hdep haft hnot b hb hb' K hK Q'
      simp only [List.getD_cons_succ, List.getD_cons_zero, List.mem_cons, List.not_mem_nil, or_false, forall_eq] at hdep
      have e73 := hb 16 73 rfl
      have d16 := hdep
      rw [d16.1] at e73
      clear hb hb' hdep d16
      go_simp
      exact hK _ _ rfl (fun _ _ _ h => h) hJ
    · intro done us W hJ hdep haft hnot b hb hb' K hK Q'
      simp only [List.getD_cons_succ, List.getD_cons_zero, List.mem_cons, List.not_mem_nil, or_false, forall_eq] at hdep
      have e74 := hb 17 74 rfl
      have d17 := hdep
      rw [d17.1] at e74
      clear hb hb' hdep d17
      go_simp
      exact hK _ _ rfl (fun _ _ _ h => h) hJ
    · intro done us W hJ hdep haft hnot b hb hb' K hK Q'
      simp only [List.getD_cons_succ, List.getD_cons_zero, List.mem_cons, List.not_mem_nil, or_false, forall_eq] at hdep
      have e75 := hb 18 75 rfl
      have d18 := hdep
      rw [d18.1] at e75
      clear hb hb' hdep d18
      have q := Ext.cell hJ f1
      go_simp
      exact hK _ _ rfl (fun _ _ _ h => h) hJ
    · intro done us W hJ hdep haft hnot b hb hb' K hK Q'
      simp only [List.getD_cons_succ, List.getD_cons_zero, List.mem_cons, List.not_mem_nil, or_false, forall_eq_or_imp, forall_eq] at hdep
      have e72 := hb 15 72 rfl
      have e76 := hb 19 76 rfl
      have d15 := hdep.1
      have d19 := hdep.2
      rw [d15.1] at e72
      rw [d19.1] at e76
      clear hb hb' hdep d15 d19
      have qw : IntKind.i64.wrap (y + dr) = y + dr := IntWalk.i64_in _ (by omega)
      go_simp
      exact hK _ _ rfl (fun _ _ _ h => h) hJ
    · intro done us W hJ hdep haft hnot b hb hb' K hK Q'
      simp only [List.getD_cons_succ, List.getD_cons_zero, List.mem_cons, List.not_mem_nil, or_false, forall_eq_or_imp, forall_eq] at hdep
      have e61 := hb 4 61 rfl
      have e62 := hb 5 62 rfl
      have e77 := hb 20 77 rfl
      have d4 := hdep.1
      have d5 := hdep.2.1
      have d20 := hdep.2.2
      rw [d4.1] at e61
      rw [d5.1] at e62
      rw [d20.1] at e77
      clear hb hb' hdep d4 d5 d20
      go_simp
      exact hK _ _ rfl (fun _ _ _ h => h) hJ
    · intro done us W hJ hdep haft hnot b hb hb' K hK Q'
      simp only [List.getD_cons_succ, List.getD_cons_zero, List.mem_cons, List.not_mem_nil, or_false, forall_eq] at hdep
      have e57 := hb 0 57 rfl
      have d0 := hdep
      rw [d0.1] at e57
      clear hb hb' hdep d0
      go_simp
      exact hK _ _ rfl (fun _ _ _ h => h) hJ
    · intro done us W hJ hdep haft hnot b hb hb' K hK Q'
      simp only [List.getD_cons_succ, List.getD_cons_zero, List.mem_cons, List.not_mem_nil, or_false, forall_eq] at hdep
      have e79 := hb 22 79 rfl
      have d22 := hdep
      rw [d22.1] at e79
      clear hb hb' hdep d22
      go_simp
      exact hK _ _ rfl (fun _ _ _ h => h) hJ
  · intro us W hV hJ
    exact hend (us 0) (us 1) (us 2) (us 3) (us 4) (us 5) (us 6) (us 7) (us 8) (us 9) (us 10) (us 11) (us 12) (us 13) (us 14) (us 15) (us 16) (us 17) (us 18) (us 19) (us 20) (us 21) (us 22) (us 23) W (hV 0 (by omega)) (hV 1 (by omega)) (hV 2 (by omega)) (hV 3 (by omega)) (hV 4 (by omega)) (hV 5 (by omega)) (hV 6 (by omega)) (hV 7 (by omega)) (hV 8 (by omega)) (hV 9 (by omega)) (hV 10 (by omega)) (hV 11 (by omega)) (hV 12 (by omega)) (hV 13 (by omega)) (hV 14 (by omega)) (hV 15 (by omega)) (hV 16 (by omega)) (hV 17 (by omega)) (hV 18 (by omega)) (hV 19 (by omega)) (hV 20 (by omega)) (hV 21 (by omega)) (hV 22 (by omega)) (hV 23 (by omega)) hJ

set_option maxRecDepth 100000 in
set_option maxHeartbeats 8000000 in
theorem fallen_any (base g n c : Nat) (A : Option Addr) (l : List Int) (d : Int) (h : Hun) (te tp : Int) (v : Value) (i : Nat) (w : World) (hH : HunP base w g A n c d h te tp v) (hI : Ints .i64 w A n l) (hs : Smp l) (hd : 0 ≤ d ∧ d ≤ 1023) (hf : h.fall = true) (hfar : ∀ q, A = some q → q.block < base) (hp : h.peak < n) (hvl : h.valley < n) (hi : i < n) (ho : h.out.length ≤ 100000) (hb : base ≤ w.heap.size) :
    Calls Try.prog 63 #[.pointer (some ⟨g, 0, none⟩), .int .i64 (i : Int)] w (fun e w' => e = .returned (.tuple #[]) ∧ ∃ te' tp' v', HunP base w' g A n c d (hunS l d h i) te' tp' v' ∧ Keeps (g :: v.ownBlock.toList) w w' ∧ (∀ k, v'.ownBlock = some k → k ∈ v.ownBlock.toList ∨ w.heap.size ≤ k)) := by
  obtain ⟨b, off, x, rfl, hx, _, cx⟩ := hI.get hi
  obtain ⟨b', off', y, e, hy, _, cy⟩ := hI.get hvl
  injection e with e
  injection e with e1 e2
  subst e1 e2
  have bx := hs.2 x (List.mem_of_getElem? hx)
  have by' := hs.2 y (List.mem_of_getElem? hy)
  obtain ⟨fm, pk, lv, fa, vl, ou⟩ := h
  simp only at hf hp hvl hy cy ho
  subst hf
  have HH := Lib.hid hH
  have HI := Lib.hid hI
  have HF := Lib.hid hfar
  have f0 := hH.blk.cell 0
  have f1 := hH.blk.cell 1
  have f7 := hH.blk.cell 7
  have z7 := hH.blk.free 7
  simp only [List.getElem?_toArray, List.getElem?_cons_zero, List.getElem?_cons_succ] at f0 f1 f7
  have HX := Lib.hid (getD_at hx)
  have HY := Lib.hid (getD_at hy)
  have q2 : IntKind.i64.wrap (x - y) = x - y := IntWalk.i64_in _ (by omega)
  clear hI hs hH hx hy hfar
  by_cases hxy : x < y
  · have q1 : decide (x < y) = true := decide_eq_true hxy
    have HS : Hid (hunS l d ⟨fm, pk, lv, true, vl, ou⟩ i = ⟨fm, pk, lv, true, i, ou⟩) := Lib.hid (by unfold hunS; simp only [if_true, HX.out, HY.out]; rw [if_pos hxy])
    clear hxy
    go_enter Try.func63, Try.ntmps63
    go_wp2_with fail
    go_region
    go_wp2
    go_end0
    rw [HS.out]
    have hk : Keeps [g] w (w.setCell ⟨g, 7, none⟩ (.int .i64 (i : Int))).drew := ((Keeps.refl [g] w).setCell (.inl (by simp)) _).drew
    exact ⟨rfl, te, tp, v, HH.out.put hk (by simpa using (HH.out.blk.set 7 (.int .i64 (i : Int))).drew) rfl, hk.mono (by intro k hk _; simp at hk; simp [hk]), fun k hk => .inl (by simpa using hk)⟩
  · have q1 : decide (x < y) = false := decide_eq_false hxy
    by_cases hdr : d ≤ x - y
    · have q3 : decide (d ≤ x - y) = true := decide_eq_true hdr
      have HS : Hid (hunS l d ⟨fm, pk, lv, true, vl, ou⟩ i = ⟨vl, i, y + d, false, vl, ou ++ [(⟨fm, pk, lv, true, vl, ou⟩ : Hun).close l vl]⟩) := Lib.hid (by unfold hunS; simp only [if_true, HX.out, HY.out]; rw [if_neg hxy, if_pos hdr])
      clear hxy hdr
      go_enter Try.func63, Try.ntmps63
      go_wp2_with fail
      go_region
      go_wp2_with fail
      go_region
      go_wp2_with fail
      have hXd : Ext w w.drew.drew := (Ext.refl w).drew.drew
      have HH0 := Lib.hid (HH.out.ext hXd)
      have hI0 := HI.out.ext hXd
      generalize hwd : w.drew.drew = w0 at HH0 hI0 ⊢
      have HWD := Lib.hid hwd
      clear hXd hwd f0 f1 f7 z7 cx cy
      refine (end_any base g n c _ l d ⟨fm, pk, lv, true, vl, ou⟩ te tp v vl w0 HH0.out hI0 HF.out hp ho (by rw [← HWD.out]; exact hb)).mono ?_
      rintro e w1 ⟨rfl, te1, tp1, v1, hH1, hk1, hv1⟩
      simp only at hH1
      have hI1 := hI0.below (HH0.out.below hk1 (by rw [← HWD.out]; exact hb)) HF.out
      obtain ⟨b1, off1, x1, e, hx1, _, cx⟩ := hI1.get hi
      injection e with e
      injection e with e1 e2
      subst e1 e2
      obtain ⟨b1, off1, y1, e, hy1, _, cy⟩ := hI1.get hvl
      injection e with e
      injection e with e1 e2
      subst e1 e2
      obtain rfl : x1 = x := (getD_at hx1).symm.trans HX.out
      obtain rfl : y1 = y := (getD_at hy1).symm.trans HY.out
      have hk0 : Keeps (g :: v.ownBlock.toList) w w1 := (Keeps.of_ext (by rw [← HWD.out]; exact (Ext.refl w).drew.drew) _).trans hk1
      have HK := Lib.hid hk0
      have HV1 := Lib.hid hv1
      have HH1 := Lib.hid hH1
      have f0 := hH1.blk.cell 0
      have f1 := hH1.blk.cell 1
      have f2 := hH1.blk.cell 2
      have f3 := hH1.blk.cell 3
      have f4 := hH1.blk.cell 4
      have f5 := hH1.blk.cell 5
      have f6 := hH1.blk.cell 6
      have f7 := hH1.blk.cell 7
      have f8 := hH1.blk.cell 8
      have z2 := hH1.blk.free 2
      have z3 := hH1.blk.free 3
      have z4 := hH1.blk.free 4
      have z5 := hH1.blk.free 5
      have z6 := hH1.blk.free 6
      have z8 := hH1.blk.free 8
      simp only [List.getElem?_toArray, List.getElem?_cons_zero, List.getElem?_cons_succ] at f0 f1 f2 f3 f4 f5 f6 f7 f8
      have q4 : IntKind.i64.wrap (y1 + d) = y1 + d := IntWalk.i64_in _ (by omega)
      clear hk0 hv1 hH1 hI0 hI1 hk1 hx1 hy1 q2
      go_upto_region 4 with (fail)
      refine fallen_r4 g b off n c vl i y1 d w1 f0 f1 f7 cy hvl by' hd _ _ (by simp) rfl rfl ?_
      rintro xv0 xv1 xv2 xv3 xv4 xv5 xv6 xv7 xv8 xv9 xv10 xv11 xv12 xv13 xv14 xv15 xv16 xv17 xv18 xv19 xv20 xv21 xv22 xv23 W rfl rfl rfl rfl rfl rfl rfl rfl rfl rfl rfl rfl rfl rfl rfl rfl rfl rfl rfl rfl rfl rfl rfl rfl hXW
      simp only [rops, Try.f63, regOf, Option.bind_some, Nat.reduceBEq, if_true, if_false, Bool.false_eq_true, Option.getD_some, List.drop_succ_cons, List.drop_zero]
      simp only [Act.put, List.setIfInBounds_toArray, List.set_cons_succ, List.set_cons_zero]
      have HXW := Lib.hid hXW
      replace HH1 := Lib.hid (HH1.out.ext hXW)
      clear hXW f0 f1 f2 f3 f4 f5 f6 f7 f8 z2 z3 z4 z5 z6 z8 cx cy
      have f2 := HH1.out.blk.cell 2
      have f3 := HH1.out.blk.cell 3
      have f4 := HH1.out.blk.cell 4
      have f5 := HH1.out.blk.cell 5
      have f6 := HH1.out.blk.cell 6
      have f8 := HH1.out.blk.cell 8
      have z2 := HH1.out.blk.free 2
      have z3 := HH1.out.blk.free 3
      have z4 := HH1.out.blk.free 4
      have z5 := HH1.out.blk.free 5
      have z6 := HH1.out.blk.free 6
      have z8 := HH1.out.blk.free 8
      go_wp2
      go_end0
      rw [HS.out]
      refine ⟨rfl, 0, 0, v1, HH1.out.put (((((((Keeps.refl [g] W).setCell (.inl (by simp)) _).setCell (.inl (by simp)) _).setCell (.inl (by simp)) _).setCell (.inl (by simp)) _).setCell (.inl (by simp)) _).setCell (.inl (by simp)) _) (by simpa using ((((((HH1.out.blk.set 2 (.int .i64 (vl : Int))).set 3 (.int .i64 0)).set 4 (.int .i64 (i : Int))).set 5 (.int .i64 (y1 + d))).set 6 (.int .i64 0)).set 8 (.bool false))) rfl, (((((((HK.out.trans (Keeps.of_ext HXW.out _)).setCell (.inl (by simp)) _).setCell (.inl (by simp)) _).setCell (.inl (by simp)) _).setCell (.inl (by simp)) _).setCell (.inl (by simp)) _).setCell (.inl (by simp)) _), fun k hk' => ?_⟩
      have h1 := HV1.out k hk'
      rw [← HWD.out] at h1
      rcases h1 with h1 | h1
      · left; simpa using h1
      · right; exact h1
    · have q3 : decide (d ≤ x - y) = false := decide_eq_false hdr
      have HS : Hid (hunS l d ⟨fm, pk, lv, true, vl, ou⟩ i = ⟨fm, pk, lv, true, vl, ou⟩) := Lib.hid (by unfold hunS; simp only [if_true, HX.out, HY.out]; rw [if_neg hxy, if_neg hdr])
      clear hxy hdr
      go_enter Try.func63, Try.ntmps63
      go_wp2_with fail
      go_region
      go_wp2_with fail
      go_region
      go_wp2
      go_end0
      rw [HS.out]
      have hk : Keeps [g] w w.drew.drew := (Keeps.refl [g] w).drew.drew
      exact ⟨rfl, te, tp, v, HH.out.put hk HH.out.blk.drew.drew rfl, hk.mono (by intro k hk _; simp at hk; simp [hk]), fun k hk => .inl (by simpa using hk)⟩

end Go.Proofs.Ytagcgldhhdecjaa
namespace Go.Proofs.Ytagcgldhhdecjaa
open Go.RowKit

theorem own_frontN {w : World} {base size : Nat} {e : TypeId} {A : Option Addr} {n c m : Nat} {vs : List Value} (h : w.ownsRow base e size (.slice A n c) n vs) (hm : m ≤ n) : w.ownsRow base e size (.slice A m c) m (vs.take (m * size)) := by
  have hms : m * size ≤ n * size := Nat.mul_le_mul_right _ hm
  refine ⟨by have := h.1; rw [List.length_take]; omega, ?_⟩
  rcases h.2 with ⟨hv, h0⟩ | ⟨g, cap, cur, hv, hg, hb, h1, h2, h3, h4⟩
  · injection hv with hA hn hc
    subst hA hc
    obtain rfl : m = 0 := by omega
    exact .inl ⟨rfl, rfl⟩
  · injection hv with hA hn hc
    subst hA hc
    exact .inr ⟨g, c, cur, rfl, hg, hb, by omega, h2, h3, by rw [← h4, List.take_take]; congr 1; omega⟩
theorem echV_take (es : List Ech) (m : Nat) : echV (es.take m) = (echV es).take (m * 5) := by
  induction es generalizing m with
  | nil => simp [echV]
  | cons e es ih =>
    have e1 : ∀ es, echV (e :: es) = e.cells ++ echV es := fun _ => rfl
    have hl : e.cells.length = 5 := rfl
    cases m with
    | zero => simp [echV]
    | succ m =>
      have e2 : e.cells.take ((m + 1) * 5) = e.cells := List.take_of_length_le (by rw [hl]; omega)
      rw [List.take_succ_cons, e1, e1, ih, List.take_append, hl, show (m + 1) * 5 - 5 = m * 5 by omega, e2]
theorem EcL.front {base : Nat} {w : World} {A : Option Addr} {n c m : Nat} {es : List Ech} (h : EcL base w (.slice A n c) es) (hn : es.length = n) (hm : m ≤ n) : EcL base w (.slice A m c) (es.take m) := by
  unfold EcL at h ⊢
  subst hn
  rw [List.length_take, Nat.min_eq_left hm, echV_take]
  exact own_frontN h hm
theorem EcL.ext {base : Nat} {w w' : World} {v : Value} {es : List Ech} (h : EcL base w v es) (he : Ext w w') : EcL base w' v es := World.ownsRow.ext' h he
theorem EcL.nil (base : Nat) (w : World) : EcL base w (.slice none 0 0) [] := World.ownsRow_nil _ _ _ _
theorem EcL.get {base : Nat} {w : World} {v : Value} {es : List Ech} (h : EcL base w v es) {j : Nat} (hj : j < es.length) : ∃ g c e, v = .slice (some ⟨g, 0, none⟩) es.length c ∧ es[j]? = some e ∧ ∀ i u, e.cells[i]? = some u → w.cell? ⟨g, j * 5 + i, none⟩ = some u := by
  obtain ⟨A, c, rfl⟩ := own_slice h
  obtain ⟨g, rfl, _, _⟩ := own_at0 h (by omega)
  have hr : es[j]? = some es[j] := List.getElem?_eq_getElem hj
  refine ⟨g, c, _, rfl, hr, fun i u hi => ?_⟩
  have h5 : i < 5 := by have := (List.getElem?_eq_some_iff.1 hi).1; simpa [Ech.cells] using this
  exact (h.cellAt (j * 5 + i) (by omega)).trans (echV_get hr i u hi)
/-- What Echoes leaves. -/
def RetEc (w : World) (r : List Ech × Int) (e : Ending) (w' : World) : Prop := ∃ v, e = .returned (.tuple #[v, .int .i64 r.2]) ∧ EcL w.heap.size w' v r.1 ∧ Ext w w'
/-- How many echoes there are. -/
theorem hunS_out (l : List Int) (d : Int) (h : Hun) (i : Nat) : (hunS l d h i).out.length ≤ h.out.length + 1 := by
  unfold hunS
  split
  · split
    · simp
    · split
      · simp
      · simp
  · split
    · simp
    · split
      · simp
      · simp
theorem hunN_out (l : List Int) (d : Int) (k i : Nat) (h : Hun) : (hunN l d k i h).out.length ≤ h.out.length + k := by
  induction k generalizing i h with
  | zero => simp [hunN]
  | succ k ih =>
    have h1 := ih (i + 1) (hunS l d h i)
    have h2 := hunS_out l d h i
    rw [hunN]
    omega
theorem HunOk.steps {l : List Int} {a i : Nat} {h : Hun} (k : HunOk l a i h) (d : Int) (m : Nat) : HunOk l a (i + m) (hunN l d m i h) := by
  induction m generalizing i h with
  | zero => exact k
  | succ m ih => have := ih (k.step d); rw [show i + 1 + m = i + (m + 1) by omega] at this; exact this
theorem HunP.kept {base g n c : Nat} {w0 w w' : World} {A : Option Addr} {d te tp : Int} {h : Hun} {v : Value} (hH : HunP base w g A n c d h te tp v) (hk : Keeps (g :: v.ownBlock.toList) w w') (he : Ext w0 w) (hb : w0.heap.size ≤ base) : Ext w0 w' :=
  hk.ext he fun k hk => by
    rcases List.mem_cons.1 hk with rfl | hk
    · exact Nat.le_trans hb hH.lo
    · exact Nat.le_trans hb (hH.row.lt k (by simpa using hk)).1
theorem runsP_len (lv : Int) (i : Nat) (l : List Int) (st : Option Nat) : (runsP lv i l st).length ≤ l.length + st.toList.length := by
  induction l generalizing i st with
  | nil => cases st <;> simp [runsP]
  | cons s l ih =>
    cases st with
    | none =>
      by_cases h : lv ≤ s
      · rw [runsP_nh h]; have := ih (i + 1) (some i); simp at this ⊢; omega
      · rw [runsP_nl (by omega)]; have := ih (i + 1) none; simp at this ⊢; omega
    | some a =>
      by_cases h : lv ≤ s
      · rw [runsP_sh h]; have := ih (i + 1) (some a); simp at this ⊢; omega
      · rw [runsP_sl (by omega)]; have := ih (i + 1) none; simp at this ⊢; omega
set_option maxRecDepth 100000 in
set_option maxHeartbeats 8000000 in
theorem echoes_any (A : Option Addr) (n c : Nat) (l : List Int) (d : Det) (w : World) (h : Ints .i64 w A n l) :
    Calls Try.prog 25 #[.slice A n c, .agg #[.int .i64 d.level, .int .i64 d.drop, .int .i64 d.step, .int .i64 d.delay]] w (RetEc w (echoesF l d)) := by
  obtain ⟨lv, dr, st, de⟩ := d
  simp only
  have hXb := (Ext.refl w).alloc (.cells #[.int .i64 lv, .int .i64 dr, .int .i64 st, .int .i64 de] 33)
  have hBb := Blk.new w 33 #[.int .i64 lv, .int .i64 dr, .int .i64 st, .int .i64 de]
  have hIb := h.ext hXb
  have HL := Lib.hid h.1
  have H0 := Lib.hid h
  have hfar : ∀ q, A = some q → 0 < n → q.block < w.heap.size := fun q hq hn => by
    obtain ⟨b, off, x, hA, _, _, hc⟩ := h.get hn
    rw [hA] at hq
    injection hq with hq
    subst hq
    exact World.block_lt_of_cell? _ _ hc
  clear h
  by_cases hd : ¬ DetOk ⟨lv, dr, st, de⟩
  · have q : Hid (decide (DetOk ⟨lv, dr, st, de⟩) = false) := Lib.hid (decide_eq_false hd)
    have HB : Hid (echoesF l ⟨lv, dr, st, de⟩ = ([], 31)) := Lib.hid (by unfold echoesF; rw [if_pos hd])
    clear hd
    go_enter Try.func25, Try.ntmps25
    go_wp2_with fail
    refine (det_any ⟨lv, dr, st, de⟩ _).mono ?_
    rw [q.out]
    rintro e w1 ⟨rfl, hX⟩
    go_wp2
    go_ret2
    exact ⟨_, by rw [HB.out]; rfl, by rw [HB.out]; exact EcL.nil _ _, hXb.trans hX⟩
  have hd' := Decidable.not_not.1 hd
  have q : Hid (decide (DetOk ⟨lv, dr, st, de⟩) = true) := Lib.hid (decide_eq_true hd')
  obtain ⟨l1, l2, d1, d2, _, _, _, _⟩ := hd'
  simp only at l1 l2 d1 d2
  by_cases hn : n = 0
  · subst hn
    have HB : Hid (echoesF l ⟨lv, dr, st, de⟩ = ([], 0)) := Lib.hid (by unfold echoesF; rw [if_neg hd, if_pos (List.eq_nil_of_length_eq_zero HL.out)])
    clear hd
    go_enter Try.func25, Try.ntmps25
    go_wp2_with fail
    refine (det_any ⟨lv, dr, st, de⟩ _).mono ?_
    rw [q.out]
    rintro e w1 ⟨rfl, hX⟩
    go_wp2
    go_ret2
    exact ⟨_, by rw [HB.out]; rfl, by rw [HB.out]; exact EcL.nil _ _, hXb.trans hX⟩
  have hne : l ≠ [] := by intro e; subst e; have := HL.out; simp at this; omega
  have g0 : ((n : Int) == 0) = false := by simpa using hn
  by_cases hs : ¬ Smp l
  · have HB : Hid (echoesF l ⟨lv, dr, st, de⟩ = ([], 2)) := Lib.hid (by unfold echoesF; rw [if_neg hd, if_neg hne, if_pos hs])
    have HF : Hid (baseF l = (0, 2)) := Lib.hid (by unfold baseF; rw [if_pos (.inr hs)])
    clear hd hs hne hfar
    go_enter Try.func25, Try.ntmps25
    go_wp2_with fail
    refine (det_any ⟨lv, dr, st, de⟩ _).mono ?_
    rw [q.out]
    rintro e w1 ⟨rfl, hX⟩
    go_wp2_with fail
    refine (base_any A n c l _ (hIb.ext hX)).mono ?_
    rw [HF.out]
    rintro e w2 ⟨rfl, hX2⟩
    go_wp2
    go_ret2
    exact ⟨_, by rw [HB.out]; rfl, by rw [HB.out]; exact EcL.nil _ _, (hXb.trans hX).trans hX2⟩
  have hs' := Decidable.not_not.1 hs
  have HF : Hid (baseF l = ((medV l : Int), 0)) := Lib.hid (by unfold baseF; rw [if_neg]; rintro (h | h); exact hne h; exact hs h)
  have HR0 : ∀ x, Hid (runsF l x = (runsP x 0 l none, 0)) := fun x => Lib.hid (by unfold runsF; rw [if_pos hs'])
  have HB : Hid (echoesF l ⟨lv, dr, st, de⟩ = ((allE l ⟨lv, dr, st, de⟩).take 15, 0)) := Lib.hid (by unfold echoesF; rw [if_neg hd, if_neg hne, if_neg hs])
  have HA : Hid (allE l ⟨lv, dr, st, de⟩ = (runsP (medV l + lv) 0 l none).flatMap (hunR l dr (medV l + lv))) := Lib.hid rfl
  have HSM := Lib.hid hs'
  have hn256 : n ≤ 256 := by have := hs'.1; have := HL.out; omega
  have hmed := medV_le l
  generalize medV l = mv at HF HA hmed
  have HFAR : Hid (∀ q, A = some q → q.block < w.heap.size) := Lib.hid fun q hq => hfar q hq (by omega)
  clear hd hs hs' hne hfar
  go_enter Try.func25, Try.ntmps25
  go_wp2_with fail
  refine (det_any ⟨lv, dr, st, de⟩ _).mono ?_
  rw [q.out]
  rintro e w1 ⟨rfl, hX⟩
  have hX1 := hXb.trans hX
  replace hIb := hIb.ext hX
  replace hBb := hBb.ext hX
  clear hX hXb
  go_wp2_with fail
  refine (base_any A n c l _ hIb).mono ?_
  rw [HF.out]
  rintro e w2 ⟨rfl, hX2⟩
  replace hX1 := hX1.trans hX2
  replace hIb := hIb.ext hX2
  replace hBb := hBb.ext hX2
  clear hX2
  have c0 := hBb.cell 0
  have c1 := hBb.cell 1
  simp only [List.getElem?_toArray, List.getElem?_cons_zero, List.getElem?_cons_succ] at c0 c1
  go_wp2_with fail
  refine (runs_any A n c l _ _ hIb).mono ?_
  rw [(HR0 _).out]
  clear HR0
  generalize hrs : runsP ((mv : Int) + lv) 0 l none = rs at HA ⊢
  rintro e w3 ⟨vr, rfl, hP, hX3⟩
  simp only at hP ⊢
  have hrl : rs.length ≤ n := by have := runsP_len ((mv : Int) + lv) 0 l none; rw [hrs] at this; have h2 := HL.out; simp only [Option.toList_none, List.length_nil, Nat.add_zero] at this; omega
  have HRS := Lib.hid hrs
  obtain ⟨Ar, cr, rfl⟩ := own_slice hP
  replace hX1 := hX1.trans hX3
  replace hIb := hIb.ext hX3
  replace hBb := hBb.ext hX3
  clear hX3 c0 c1 hrs
  have c0 := hBb.cell 0
  have c1 := hBb.cell 1
  simp only [List.getElem?_toArray, List.getElem?_cons_zero, List.getElem?_cons_succ] at c0 c1
  go_upto_region 10 with (fail)
  have hB4 := Blk.new w3 90 #[.slice A n c, .int .i64 dr, .int .i64 0, .int .i64 0, .int .i64 0, .int .i64 0, .int .i64 0, .int .i64 0, .bool false, .slice none 0 0]
  have hX4 := (Ext.refl w3).alloc (.cells #[.slice A n c, .int .i64 dr, .int .i64 0, .int .i64 0, .int .i64 0, .int .i64 0, .int .i64 0, .int .i64 0, .bool false, .slice none 0 0] 90)
  have hsz := hX1.size
  have hsz2 := hBb.lt
  have HX := Lib.hid (hX1.trans hX4)
  have HI := Lib.hid (hIb.ext hX4)
  have HBD := Lib.hid (hBb.ext hX4)
  have HP := Lib.hid (hP.ext hX4)
  clear hX1 hIb hBb hP c0 c1
  generalize w3.alloc (.cells #[.slice A n c, .int .i64 dr, .int .i64 0, .int .i64 0, .int .i64 0, .int .i64 0, .int .i64 0, .int .i64 0, .bool false, .slice none 0 0] 90) = w4 at hB4 hX4 HX HI HBD HP ⊢
  clear hX4
  generalize w3.heap.size = g at hB4 hsz hsz2 ⊢
  have HH : Hid (HunP w.heap.size w4 g A n c dr ⟨0, 0, 0, false, 0, []⟩ 0 0 (.slice none 0 0)) := Lib.hid ⟨hB4, EcL.nil _ _, hsz⟩
  clear hB4
  generalize w2.heap.size = B2 at HP
  obtain ⟨nr, hnr⟩ : ∃ nr, rs.length = nr := ⟨_, rfl⟩
  rw [hnr] at hrl HP ⊢
  have HNR := Lib.hid hnr
  clear hnr
  go_wp2_with fail
  go_loopg [45] nr (fun f iv wr => ∃ (k : Nat) (hu : Hun) (te tp : Int) (v : Value), f = nr - k ∧ k ≤ nr ∧ hu.out.length ≤ k * 257 ∧ iv = .int .i64 (k : Int) ∧ Hid (HunP w.heap.size wr g A n c dr hu te tp v) ∧ Hid (hu.out = (rs.take k).flatMap (hunR l dr (mv + lv))) ∧ Hid (Ext w wr) ∧ Hid (PrL B2 wr (.slice Ar nr cr) rs) ∧ Hid (Blk wr w.heap.size 33 #[.int .i64 lv, .int .i64 dr, .int .i64 st, .int .i64 de]))
  case atStart => exact ⟨0, _, _, _, _, rfl, by omega, by simp, rfl, HH, Lib.hid (by simp), HX, HP, HBD⟩
  case round =>
    clear HH HX HP HBD
    obtain ⟨k, hu, te, tp, v, rfl, hk, hol, rfl, HH, HO, HX, HP, HBD⟩ := hrel
    by_cases hlt : k < nr
    · obtain ⟨gr, cr', ⟨r1, r2⟩, hve, hr, p0, p1⟩ := HP.out.get (by rw [HNR.out]; exact hlt)
      injection hve with hve hve2 hve3
      subst hve
      clear hve2 hve3
      simp only at p0 p1
      have hrr := runsP_in (lv := (mv : Int) + lv) (l := l) (i := 0) (st := none) (fun a ha => by cases ha) (r1, r2) (by rw [HRS.out]; exact List.mem_of_getElem? hr)
      simp only [Nat.zero_add] at hrr
      obtain ⟨hr1, hr2⟩ := hrr
      rw [HL.out] at hr2
      have HRK := Lib.hid hr
      clear hr
      go_upto_region 13 with (fail)
      have zr := HH.out.blk.lt
      have hBr := Blk.new wr 30 #[.int .i64 (r1 : Int), .int .i64 (r2 : Int)]
      have hXr := (Ext.refl wr).alloc (.cells #[.int .i64 (r1 : Int), .int .i64 (r2 : Int)] 30)
      replace HH := Lib.hid (HH.out.ext hXr)
      replace HX := Lib.hid (HX.out.trans hXr)
      replace HP := Lib.hid (HP.out.ext hXr)
      replace HBD := Lib.hid (HBD.out.ext hXr)
      generalize wr.alloc (.cells #[.int .i64 (r1 : Int), .int .i64 (r2 : Int)] 30) = w5 at hBr hXr HH HX HP HBD ⊢
      generalize wr.heap.size = gb at hBr zr ⊢
      clear hXr p0 p1
      have HBR := Lib.hid hBr
      have b0 := hBr.cell 0
      have c0 := HBD.out.cell 0
      have f2 := HH.out.blk.cell 2
      have f3 := HH.out.blk.cell 3
      have f4 := HH.out.blk.cell 4
      have f5 := HH.out.blk.cell 5
      have f6 := HH.out.blk.cell 6
      have f8 := HH.out.blk.cell 8
      have z2 := HH.out.blk.free 2
      have z3 := HH.out.blk.free 3
      have z4 := HH.out.blk.free 4
      have z5 := HH.out.blk.free 5
      have z6 := HH.out.blk.free 6
      have z8 := HH.out.blk.free 8
      simp only [List.getElem?_toArray, List.getElem?_cons_zero, List.getElem?_cons_succ] at b0 c0 f2 f3 f4 f5 f6 f8
      clear hBr
      go_upto_region 15 with (fail)
      clear b0 c0 f2 f3 f4 f5 f6 f8 z2 z3 z4 z5 z6 z8
      have hk6 : Keeps [g] w5 ((((((w5.setCell ⟨g, 2, none⟩ (.int .i64 (r1 : Int))).setCell ⟨g, 3, none⟩ (.int .i64 0)).setCell ⟨g, 4, none⟩ (.int .i64 (r1 : Int))).setCell ⟨g, 5, none⟩ (.int .i64 ((mv : Int) + lv))).setCell ⟨g, 6, none⟩ (.int .i64 0)).setCell ⟨g, 8, none⟩ (.bool false)) := ((((((Keeps.refl [g] w5).setCell (.inl (by simp)) _).setCell (.inl (by simp)) _).setCell (.inl (by simp)) _).setCell (.inl (by simp)) _).setCell (.inl (by simp)) _).setCell (.inl (by simp)) _
      have hng : ∀ tb, 90 ≠ tb → ∀ k ∈ [g], NoRow tb w5 k := fun tb h k hk => by simp at hk; subst hk; exact NoRow.of_blk HH.out.blk h
      have hH6 : HunP w.heap.size _ g A n c dr ⟨r1, r1, (mv : Int) + lv, false, hu.valley, hu.out⟩ 0 0 v := HH.out.put hk6 (by simpa using ((((((HH.out.blk.set 2 (.int .i64 (r1 : Int))).set 3 (.int .i64 0)).set 4 (.int .i64 (r1 : Int))).set 5 (.int .i64 ((mv : Int) + lv))).set 6 (.int .i64 0)).set 8 (.bool false))) rfl
      replace HX := Lib.hid (hk6.ext HX.out (by intro k hk; simp at hk; subst hk; exact hsz))
      replace HP := Lib.hid (row_away HP.out hk6 (hng _ (by decide)))
      replace HBD := Lib.hid (blk_away HBD.out hk6 (hng _ (by decide)))
      replace HBR := Lib.hid (blk_away HBR.out hk6 (hng _ (by decide)))
      generalize (((((w5.setCell ⟨g, 2, none⟩ (.int .i64 (r1 : Int))).setCell ⟨g, 3, none⟩ (.int .i64 0)).setCell ⟨g, 4, none⟩ (.int .i64 (r1 : Int))).setCell ⟨g, 5, none⟩ (.int .i64 ((mv : Int) + lv))).setCell ⟨g, 6, none⟩ (.int .i64 0)).setCell ⟨g, 8, none⟩ (.bool false) = w6 at hk6 hH6 HX HP HBD HBR ⊢
      replace HH := Lib.hid hH6
      clear hk6 hH6 hng
      have b0 := HBR.out.cell 0
      simp only [List.getElem?_toArray, List.getElem?_cons_zero] at b0
      go_wp2_with fail
      clear b0
      go_loopg [13] (r2 - (r1 + 1)) (fun f2 jv W2 => ∃ (z : Nat) (te2 tp2 : Int) (v2 : Value), f2 = r2 - z ∧ r1 + 1 ≤ z ∧ z ≤ r2 ∧ jv = .int .i64 (z : Int) ∧ Hid (HunP w.heap.size W2 g A n c dr (hunN l dr (z - (r1 + 1)) (r1 + 1) ⟨r1, r1, (mv : Int) + lv, false, hu.valley, hu.out⟩) te2 tp2 v2) ∧ Hid (Ext w W2) ∧ Hid (PrL B2 W2 (.slice (some ⟨gr, 0, none⟩) nr cr) rs) ∧ Hid (Blk W2 w.heap.size 33 #[.int .i64 lv, .int .i64 dr, .int .i64 st, .int .i64 de]) ∧ Hid (Blk W2 gb 30 #[.int .i64 (r1 : Int), .int .i64 (r2 : Int)]))
      case atStart => exact ⟨r1 + 1, _, _, _, rfl, by omega, by omega, by go_num, by rw [Nat.sub_self]; exact HH, HX, HP, HBD, HBR⟩
      case round =>
        clear HH HX HP HBD HBR
        obtain ⟨z, te2, tp2, v2, rfl, hm, hm2, rfl, HH, HX, HP, HBD, HBR⟩ := hrel
        have hok := (HunOk.start l r1 ((mv : Int) + lv) hu.valley hu.out).steps dr (z - (r1 + 1))
        have hlen := hunN_out l dr (z - (r1 + 1)) (r1 + 1) ⟨r1, r1, (mv : Int) + lv, false, hu.valley, hu.out⟩
        have hsn := hunN_snoc l dr (z - (r1 + 1)) (r1 + 1) ⟨r1, r1, (mv : Int) + lv, false, hu.valley, hu.out⟩
        rw [show z - (r1 + 1) + 1 = z + 1 - (r1 + 1) by omega, show r1 + 1 + (z - (r1 + 1)) = z by omega] at hsn
        rw [show r1 + 1 + (z - (r1 + 1)) = z by omega] at hok
        generalize hhq : hunN l dr (z - (r1 + 1)) (r1 + 1) ⟨r1, r1, (mv : Int) + lv, false, hu.valley, hu.out⟩ = hq at HH hok hlen hsn
        have HSN := Lib.hid hsn
        have HHQ := Lib.hid hhq
        clear hsn hhq
        simp only at hlen
        obtain ⟨_, ⟨_, hpk⟩, hva⟩ := hok
        have b1 := HBR.out.cell 1
        have f8 := HH.out.blk.cell 8
        simp only [List.getElem?_toArray, List.getElem?_cons_zero, List.getElem?_cons_succ] at b1 f8
        have hI2 := Lib.hid (H0.out.ext HX.out)
        by_cases hj : z < r2
        · by_cases hf : hq.fall = true
          · rw [hf] at f8
            have hva := hva hf
            go_wp2_with fail
            refine (fallen_any w.heap.size g n c A l dr hq te2 tp2 v2 z wr HH.out hI2.out HSM.out ⟨by omega, d2⟩ hf HFAR.out (by omega) (by omega) (by omega) (by omega) HX.out.size).mono ?_
            rintro e W3 ⟨rfl, te3, tp3, v3, hH3, hK3, hv3⟩
            replace HX := Lib.hid (HH.out.kept hK3 HX.out (Nat.le_refl _))
            clear hv3
            replace HP := Lib.hid (row_away HP.out hK3 (HH.out.away (by decide) (by decide)))
            replace HBD := Lib.hid (blk_away HBD.out hK3 (HH.out.away (by decide) (by decide)))
            replace HBR := Lib.hid (blk_away HBR.out hK3 (HH.out.away (by decide) (by decide)))
            rw [← HSN.out] at hH3
            have HH3 := Lib.hid hH3
            clear HH hH3 hK3 b1 f8 hI2
            go_wp2
            go_roundg (r2 - (z + 1))
            case rel => exact ⟨z + 1, _, _, _, rfl, by omega, by omega, by go_num, HH3, HX, HP, HBD, HBR⟩
            case measure => omega
          · have hf := Bool.eq_false_iff.2 hf
            rw [hf] at f8
            go_wp2_with fail
            refine (rising_any w.heap.size g n c A l dr hq te2 tp2 v2 z wr HH.out hI2.out HSM.out ⟨by omega, d2⟩ hf (by omega) (by omega)).mono ?_
            rintro e W3 ⟨rfl, hH3, hK3⟩
            replace HX := Lib.hid (hK3.ext HX.out (by intro k hk; simp at hk; subst hk; exact hsz))
            replace HP := Lib.hid (row_away HP.out hK3 (fun k hk => by simp at hk; subst hk; exact NoRow.of_blk HH.out.blk (by decide)))
            replace HBD := Lib.hid (blk_away HBD.out hK3 (fun k hk => by simp at hk; subst hk; exact NoRow.of_blk HH.out.blk (by decide)))
            replace HBR := Lib.hid (blk_away HBR.out hK3 (fun k hk => by simp at hk; subst hk; exact NoRow.of_blk HH.out.blk (by decide)))
            rw [← HSN.out] at hH3
            have HH3 := Lib.hid hH3
            clear HH hH3 hK3 b1 f8 hI2
            go_wp2
            go_roundg (r2 - (z + 1))
            case rel => exact ⟨z + 1, _, _, _, rfl, by omega, by omega, by go_num, HH3, HX, HP, HBD, HBR⟩
            case measure => omega
        · obtain rfl : z = r2 := by omega
          go_wp2_with fail
          refine (end_any w.heap.size g n c A l dr hq te2 tp2 v2 z wr HH.out hI2.out HFAR.out (by omega) (by omega) HX.out.size).mono ?_
          rintro e W3 ⟨rfl, te3, tp3, v3, hH3, hK3, hv3⟩
          replace HX := Lib.hid (HH.out.kept hK3 HX.out (Nat.le_refl _))
          replace HP := Lib.hid (row_away HP.out hK3 (HH.out.away (by decide) (by decide)))
          replace HBD := Lib.hid (blk_away HBD.out hK3 (HH.out.away (by decide) (by decide)))
          have HH3 := Lib.hid hH3
          have HO3 : Hid (hq.out ++ [hq.close l z] = (rs.take (k + 1)).flatMap (hunR l dr (mv + lv))) := Lib.hid (by
            have h1 := hunR_out l dr ((mv : Int) + lv) (r1, z) hu.valley hu.out
            simp only at h1
            rw [HHQ.out] at h1
            rw [h1, HO.out, List.take_add_one, HRK.out]
            simp)
          have hol3 : (hq.out ++ [hq.close l z]).length ≤ (k + 1) * 257 := by simp; omega
          clear HH hH3 hK3 hv3 b1 f8 hI2 HBR
          go_wp2
          go_roundg (nr - (k + 1))
          case rel => exact ⟨k + 1, _, _, _, _, rfl, by omega, hol3, by go_num, HH3, HO3, HX, HP, HBD⟩
          case measure => omega
    · obtain rfl : k = nr := by omega
      have hown := HH.out.row
      have HE : Hid (hu.out = allE l ⟨lv, dr, st, de⟩) := Lib.hid (by rw [HO.out, HA.out, List.take_of_length_le (Nat.le_of_eq HNR.out)])
      obtain ⟨A9, c9, hv9⟩ := own_slice hown
      subst hv9
      have f9 := HH.out.blk.cell 9
      simp only [List.getElem?_toArray, List.getElem?_cons_zero, List.getElem?_cons_succ] at f9
      have HOW := Lib.hid hown
      obtain ⟨z, hz⟩ : ∃ z, hu.out.length = z := ⟨_, rfl⟩
      rw [hz] at f9
      have hcap := own_cap hown
      rw [hz] at hcap hol
      obtain ⟨hcap1, hcap2⟩ := hcap
      have HZ := Lib.hid hz
      clear hz hown HH HP HBD
      go_wp2_with fail
      have hy : (min (z : Int) 15).toNat = min z 15 := by omega
      go_region
      go_wp2
      go_ret2
      refine ⟨.slice A9 (min z 15) c9, by rw [HB.out]; rfl, ?_, HX.out.drew⟩
      rw [HB.out, ← HE.out]
      have h1 := HOW.out
      rw [HZ.out] at h1
      have h2 := (EcL.front h1 HZ.out (Nat.min_le_left z 15)).ext (Ext.refl wr).drew
      have e : hu.out.take (min z 15) = hu.out.take 15 := by
        by_cases h15 : z ≤ 15
        · rw [List.take_of_length_le (by have := HZ.out; omega), List.take_of_length_le (by have := HZ.out; omega)]
        · rw [show min z 15 = 15 by omega]
      rw [e] at h2
      exact h2
end Go.Proofs.Ytagcgldhhdecjaa
