/- A law for regions that leave their order open, with stores among their operations: 'J' says of the operations that are done what the world is; 'V' what each one's value is; both hold whatever the order. Conditions: as stated; checked by the kernel. -/
import Derived.Test.YteoijnaljkagfaaBase
import Derived.StillTail
namespace Go.Proofs.Yteoijnaljkagfaa
open Go.RowKit

/-- The operations of a region. -/
def regOf (n : Nat) : Code → Option (List Oper)
  | .region i ops _ => if i == n then some ops.toList else none
  | .seq a b => match regOf n a with
    | some c => some c
    | none => regOf n b
  | .block _ c => regOf n c
  | .loop c => regOf n c
  | .scope c => regOf n c
  | .cond _ a b => match regOf n a with
    | some c => some c
    | none => regOf n b
  | _ => none
def rops (f : Func) (n : Nat) : List Oper := (f.body.bind (regOf n)).getD []

/-- The act with the values 'us k', 'us (k + 1)', .. in the slots 'ds' (none: no slot). -/
def fillO (a : Act) : List (Option Tmp) → (Nat → Value) → Nat → Act
  | [], _, _ => a
  | d :: ds, us, k => fillO (a.put d (us k)) ds us (k + 1)
def updO (us : Nat → Value) (i : Nat) (v : Value) : Nat → Value := fun j => if j = i then v else us j

theorem putO_putO (a : Act) (d : Option Tmp) (x y : Value) : (a.put d x).put d y = a.put d y := by
  cases d <;> simp [Act.put, Array.setIfInBounds_setIfInBounds]
theorem putO_comm (a : Act) {d e : Option Tmp} (h : d = none ∨ d ≠ e) (x y : Value) : (a.put d x).put e y = (a.put e y).put d x := by
  cases d with
  | none => rfl
  | some d =>
    cases e with
    | none => rfl
    | some e =>
      have hne : d ≠ e := fun q => by rcases h with h | h <;> simp_all
      simp only [Act.put]
      rw [Array.setIfInBounds_comm _ _ hne]
/-- No slot twice. -/
def NoTwice (ds : List (Option Tmp)) : Prop := ds.Pairwise fun d e => d = none ∨ d ≠ e
theorem fillO_far (us : Nat → Value) (d : Option Tmp) (v : Value) : ∀ (ds : List (Option Tmp)), (∀ e ∈ ds, d = none ∨ d ≠ e) → ∀ (a : Act) (k : Nat), (fillO a ds us k).put d v = fillO (a.put d v) ds us k := by
  intro ds
  induction ds with
  | nil => intro _ a k; rfl
  | cons e ds ih =>
    intro hd a k
    simp only [fillO]
    rw [ih (fun e he => hd e (List.mem_cons_of_mem _ he)), putO_comm a (hd e (List.mem_cons_self ..))]
theorem fillO_congr (ds : List (Option Tmp)) (us us' : Nat → Value) : ∀ (a : Act) (k : Nat), (∀ j, k ≤ j → us j = us' j) → fillO a ds us k = fillO a ds us' k := by
  induction ds with
  | nil => intro a k _; rfl
  | cons e ds ih =>
    intro a k h
    simp only [fillO]
    rw [h k (Nat.le_refl _)]
    exact ih _ _ fun j hj => h j (by omega)
theorem fillO_put (us : Nat → Value) (v : Value) : ∀ (ds : List (Option Tmp)), NoTwice ds → ∀ (a : Act) (k i : Nat) (d : Option Tmp), ds[i]? = some d → (fillO a ds us k).put d v = fillO a ds (updO us (k + i) v) k := by
  intro ds
  induction ds with
  | nil => intro _ a k i d h; simp at h
  | cons e ds ih =>
    intro hn a k i d h
    have hn' := List.pairwise_cons.1 hn
    cases i with
    | zero =>
      simp at h
      subst h
      simp only [fillO]
      rw [fillO_far us e v ds hn'.1, putO_putO]
      have e1 : updO us (k + 0) v k = v := by simp [updO]
      rw [e1]
      exact fillO_congr ds _ _ _ _ fun j hj => by simp [updO]; omega
    | succ i =>
      simp only [fillO]
      have hi : ds[i]? = some d := by simpa using h
      rw [ih hn'.2 _ (k + 1) i d hi]
      have e1 : updO us (k + (i + 1)) v k = us k := by simp [updO]
      have e2 : k + 1 + i = k + (i + 1) := by omega
      rw [e1, e2]
theorem fillO_start : ∀ (ds : List (Option Tmp)) (a : Act) (k : Nat) (us : Nat → Value), (∀ d, some d ∈ ds → d < a.tmps.size) → (∀ i d, ds[i]? = some (some d) → us (k + i) = a.tmps.getD d undef) → fillO a ds us k = a := by
  intro ds
  induction ds with
  | nil => intro a k us _ _; rfl
  | cons e ds ih =>
    intro a k us hb hu
    simp only [fillO]
    have hput : a.put e (us k) = a := by
      cases e with
      | none => rfl
      | some d =>
        have h0 := hu 0 d rfl
        rw [Nat.add_zero] at h0
        rw [h0]
        have hd := hb d (List.mem_cons_self ..)
        simp only [Act.put]
        have : a.tmps.setIfInBounds d (a.tmps.getD d undef) = a.tmps := by
          apply Array.ext_getElem?
          intro i
          rw [Array.getElem?_setIfInBounds]
          by_cases hi : d = i
          · subst hi; simp [hd, Array.getD]
          · simp [hi]
        rw [this]
    rw [hput]
    exact ih a (k + 1) us (fun d hd => hb d (List.mem_cons_of_mem _ hd)) fun i d hi => by
      have := hu (i + 1) d (by simpa using hi)
      rw [← this]; congr 1; omega

theorem gen_act {P : Program} {c : Code} {Q : Exit → Act → World → Prop} {a : Act} {w : World} (h : ∀ a', a' = a → c.wp P Q a' w) : c.wp P Q a w := h a rfl

/-- What one operation must give: 'done' are those that were carried out; 'D' those whose values it uses, 'A' those that cannot have been carried out before it. -/
def JOp (P : Program) (ops : Array Oper) (V : Nat → Value → World → Prop) (J : (Nat → Prop) → World → Prop) (D A : List (List Nat)) (ds : List (Option Tmp)) (a : Act) (i : Nat) (o : Oper) : Prop :=
  ∀ (done : Nat → Prop) (us : Nat → Value) (W : World), J done W → (∀ j ∈ D.getD i [], V j (us j) W ∧ done j) → (∀ j ∈ A.getD i [], ¬ done j) → ¬ done i → ∀ K : Act → World → Prop,
    (∀ v W', V i v W' → (∀ j u, done j → V j u W → V j u W') → J (fun k => done k ∨ k = i) W' → K ((fillO a ds us 0).put o.dst v) W') → ∀ Q' : Exit → Act → World → Prop,
    if Region.wanted o (yielded ops (fillO a ds us 0).tmps) then o.wp P (fillO a ds us 0) W K Q' else K ((fillO a ds us 0).put o.dst undef) W
def JAll (P : Program) (ops : Array Oper) (V : Nat → Value → World → Prop) (J : (Nat → Prop) → World → Prop) (D A : List (List Nat)) (ds : List (Option Tmp)) (a : Act) : Nat → List Oper → Prop
  | _, [] => True
  | i, o :: rest => JOp P ops V J D A ds a i o ∧ JAll P ops V J D A ds a (i + 1) rest
theorem JAll.at {P : Program} {ops : Array Oper} {V : Nat → Value → World → Prop} {J : (Nat → Prop) → World → Prop} {D A : List (List Nat)} {ds : List (Option Tmp)} {a : Act} : ∀ (l : List Oper) (k : Nat), JAll P ops V J D A ds a k l → ∀ i o, l[i]? = some o → JOp P ops V J D A ds a (k + i) o := by
  intro l
  induction l with
  | nil => intro k _ i o h; simp at h
  | cons x l ih =>
    intro k h i o ho
    cases i with
    | zero => simp at ho; subst ho; exact h.1
    | succ i =>
      have := ih (k + 1) h.2 i o (by simpa using ho)
      rw [show k + 1 + i = k + (i + 1) by omega] at this
      exact this

theorem putO_size (a : Act) (d : Option Tmp) (v : Value) : (a.put d v).tmps.size = a.tmps.size := by
  cases d <;> simp [Act.put]
theorem putO_else (a : Act) (e : Option Tmp) (v : Value) {d : Tmp} (h : e ≠ some d) : (a.put e v).tmps[d]? = a.tmps[d]? := by
  cases e with
  | none => rfl
  | some e => simp only [Act.put]; rw [Array.getElem?_setIfInBounds, if_neg (fun q => h (by rw [q]))]
theorem fillO_else (us : Nat → Value) : ∀ (ds : List (Option Tmp)) (a : Act) (k : Nat) (d : Tmp), some d ∉ ds → (fillO a ds us k).tmps[d]? = a.tmps[d]? := by
  intro ds
  induction ds with
  | nil => intro a k d _; rfl
  | cons e ds ih =>
    intro a k d h
    simp only [List.mem_cons, not_or] at h
    simp only [fillO]
    rw [ih _ _ d h.2, putO_else _ _ _ (Ne.symm h.1)]
theorem fillO_get (us : Nat → Value) : ∀ (ds : List (Option Tmp)), NoTwice ds → ∀ (a : Act) (k i : Nat) (d : Tmp), ds[i]? = some (some d) → d < a.tmps.size → (fillO a ds us k).tmps[d]? = some (us (k + i)) := by
  intro ds
  induction ds with
  | nil => intro _ a k i d h; simp at h
  | cons e ds ih =>
    intro hn a k i d h hd
    have hn' := List.pairwise_cons.1 hn
    simp only [fillO]
    cases i with
    | zero =>
      simp at h
      subst h
      rw [fillO_else us ds _ _ d (fun hm => by rcases hn'.1 _ hm with h | h <;> simp at h)]
      simp only [Act.put]
      rw [Array.getElem?_setIfInBounds_self_of_lt hd]; rfl
    | succ i =>
      have hi : ds[i]? = some (some d) := by simpa using h
      rw [ih hn'.2 _ (k + 1) i d hi (by rw [putO_size]; exact hd)]
      congr 2; omega

/-- The same over a frame of which only the slots' values are known. -/
theorem JOp.of {P : Program} {ops : Array Oper} {V : Nat → Value → World → Prop} {J : (Nat → Prop) → World → Prop} {D A : List (List Nat)} {ds : List (Option Tmp)} {a : Act} {i : Nat} {o : Oper} (hn : NoTwice ds) (hs : ∀ d, some d ∈ ds → d < a.tmps.size)
    (h : ∀ (done : Nat → Prop) (us : Nat → Value) (W : World), J done W → (∀ j ∈ D.getD i [], V j (us j) W ∧ done j) → (∀ j ∈ A.getD i [], ¬ done j) → ¬ done i → ∀ b : Act, (∀ j d, ds[j]? = some (some d) → b.tmps[d]? = some (us j)) → (∀ d, some d ∉ ds → b.tmps[d]? = a.tmps[d]?) → ∀ K : Act → World → Prop,
      (∀ v W', V i v W' → (∀ j u, done j → V j u W → V j u W') → J (fun k => done k ∨ k = i) W' → K (b.put o.dst v) W') → ∀ Q' : Exit → Act → World → Prop,
      if Region.wanted o (yielded ops b.tmps) then o.wp P b W K Q' else K (b.put o.dst undef) W) : JOp P ops V J D A ds a i o := by
  intro done us W hJ hdep haft hnot K hK Q'
  refine h done us W hJ hdep haft hnot _ (fun j d hj => ?_) (fun d hd => fillO_else us ds a 0 d hd) K hK Q'
  have := fillO_get us ds hn a 0 j d hj (hs d (List.mem_of_getElem? hj))
  rwa [Nat.zero_add] at this

/-- What one operation must give, over a frame of which only the slots' values are known. -/
def JOq (P : Program) (ops : Array Oper) (V : Nat → Value → World → Prop) (J : (Nat → Prop) → World → Prop) (D A : List (List Nat)) (ds : List (Option Tmp)) (a : Act) (i : Nat) (o : Oper) : Prop :=
  ∀ (done : Nat → Prop) (us : Nat → Value) (W : World), J done W → (∀ j ∈ D.getD i [], V j (us j) W ∧ done j) → (∀ j ∈ A.getD i [], ¬ done j) → ¬ done i → ∀ b : Act, (∀ j d, ds[j]? = some (some d) → b.tmps[d]? = some (us j)) → (∀ d, some d ∉ ds → b.tmps[d]? = a.tmps[d]?) → ∀ K : Act → World → Prop,
      (∀ v W', V i v W' → (∀ j u, done j → V j u W → V j u W') → J (fun k => done k ∨ k = i) W' → K (b.put o.dst v) W') → ∀ Q' : Exit → Act → World → Prop,
      if Region.wanted o (yielded ops b.tmps) then o.wp P b W K Q' else K (b.put o.dst undef) W
def JAllq (P : Program) (ops : Array Oper) (V : Nat → Value → World → Prop) (J : (Nat → Prop) → World → Prop) (D A : List (List Nat)) (ds : List (Option Tmp)) (a : Act) : Nat → List Oper → Prop
  | _, [] => True
  | i, o :: rest => JOq P ops V J D A ds a i o ∧ JAllq P ops V J D A ds a (i + 1) rest
theorem JAllq.all {P : Program} {ops : Array Oper} {V : Nat → Value → World → Prop} {J : (Nat → Prop) → World → Prop} {D A : List (List Nat)} {ds : List (Option Tmp)} {a : Act} (hn : NoTwice ds) (hs : ∀ d, some d ∈ ds → d < a.tmps.size) : ∀ (l : List Oper) (k : Nat), JAllq P ops V J D A ds a k l → JAll P ops V J D A ds a k l := by
  intro l
  induction l with
  | nil => intro k _; trivial
  | cons o l ih => intro k h; exact ⟨JOp.of hn hs h.1, ih (k + 1) h.2⟩

def noTwiceB : List (Option Tmp) → Bool
  | [] => true
  | d :: ds => ds.all (fun e => d == none || d != e) && noTwiceB ds
theorem noTwice_of : ∀ (ds : List (Option Tmp)), noTwiceB ds = true → NoTwice ds := by
  intro ds
  induction ds with
  | nil => intro _; exact List.Pairwise.nil
  | cons d ds ih =>
    intro h
    simp only [noTwiceB, Bool.and_eq_true] at h
    refine List.Pairwise.cons (fun e he => ?_) (ih h.2)
    have := List.all_eq_true.1 h.1 e he
    simp at this
    rcases this with h | h
    · exact .inl h
    · exact .inr h

theorem slots_lt {ds : List (Option Tmp)} {N : Nat} (h : ds.all (fun x => match x with | some d => decide (d < N) | none => true) = true) {a : Act} (hs : N ≤ a.tmps.size) : ∀ d, some d ∈ ds → d < a.tmps.size := fun d hd => by
  have := List.all_eq_true.1 h _ hd
  simp at this
  exact Nat.lt_of_lt_of_le this hs

/-- What the kernel looks at. -/
def jB (ops : Array Oper) (n : Nat) (ds : List (Option Tmp)) (D A : List (List Nat)) : Bool :=
  decide (n ≤ ops.size) && decide (ds.length = n) && noTwiceB ds && (List.range n).all (fun i => (((ops[i]?).map (·.dst)) == ds[i]?) && (D.getD i []).all (fun j => decide (j < i) && Region.waitsFor .any ops i j) && (A.getD i []).all (fun j => decide (j < n) && Region.waitsFor .any ops j i)) &&
  (List.range n).all (fun i => match ops[i]? with | some o => o.after.all (fun e => !Region.binds .any e || decide (e.on < i)) | none => false) &&
  (decide (n = ops.size) || (Region.sinkB .any ops n && Region.chainB .any ops n)) && Region.seqB .any ops (ops.size - n) n ((List.range ops.size).map (fun i => decide (i < n))).toArray

section
variable {P : Program} {l : List Oper} {n : Nat} {ds : List (Option Tmp)} {D A : List (List Nat)} {V : Nat → Value → World → Prop} {J : (Nat → Prop) → World → Prop} {a : Act} {Q : Exit → Act → World → Prop}

theorem j_any (hB : jB l.toArray n ds D A = true) (hJ : ∀ p q W, (∀ k, p k ↔ q k) → J p W → J q W) (hop : JAll P l.toArray V J D A ds a 0 (l.take n))
    (hend : ∀ us W, (∀ j, j < n → V j (us j) W) → J (fun k => k < n) W → wpList P l.toArray Q (l.drop n) (fillO a ds us 0) W) :
    ∀ (f : Nat) (rem : List Nat) (listed : Array Bool) (us : Nat → Value) (W : World), rem.length = f → rem.Nodup → HeadInv .any l.toArray n listed → (∀ j, j < n → (listed.getD j true = false ↔ j ∈ rem)) → (∀ j ∈ rem, j < n) →
      (∀ j, j < n → j ∉ rem → V j (us j) W) → J (fun k => k < n ∧ k ∉ rem) W → wpAny P .any l.toArray Q (f + (l.toArray.size - n)) listed (fillO a ds us 0) W := by
  simp only [jB, Bool.and_eq_true, decide_eq_true_eq] at hB
  obtain ⟨⟨⟨⟨⟨⟨hn, hl⟩, hnt⟩, hD⟩, hless⟩, hsc⟩, hseq⟩ := hB
  have hnd := noTwice_of ds hnt
  intro f
  induction f with
  | zero =>
    intro rem listed us W hlen _ inv hrem _ hV hX
    obtain rfl : rem = [] := List.eq_nil_of_length_eq_zero hlen
    have hlist : listed = ((List.range l.toArray.size).map (fun i => decide (i < n))).toArray := by
      apply Array.ext
      · simp [inv.size]
      · intro i h1 h2
        have hsz := inv.size
        simp only [List.getElem_toArray, List.getElem_map, List.getElem_range]
        by_cases hi : i < n
        · have h3 := hrem i hi
          simp only [List.not_mem_nil, iff_false, Bool.not_eq_false] at h3
          have h4 : listed.getD i true = listed[i] := by simp [Array.getD, h1]
          rw [h4] at h3
          simp [h3, hi]
        · have h3 := inv.tail i (by omega) (by omega)
          have h4 : listed.getD i true = listed[i] := by simp [Array.getD, h1]
          rw [h4] at h3
          simp [h3, hi]
    have hdl : (l.drop n).length = l.toArray.size - n := by simp
    rw [Nat.zero_add, ← hdl]
    refine wpAny_of_seq (l.drop n) n listed _ W (fun j => by simp [List.getElem?_drop]) ?_ (hend us W (fun j hj => hV j hj (by simp)) (hJ _ _ W (by simp) hX))
    rw [hdl, hlist]
    exact hseq
  | succ f ih =>
    intro rem listed us W hlen hnodup inv hrem hlt hV hX
    rw [show f + 1 + (l.toArray.size - n) = (f + (l.toArray.size - n)) + 1 by omega]
    have hne : rem ≠ [] := by intro e; subst e; simp at hlen
    refine ⟨fun h0 => ?_, fun i hi => ?_⟩
    · exfalso
      obtain ⟨k, hk, hmin⟩ : ∃ k ∈ rem, ∀ j ∈ rem, k ≤ j := by
        obtain ⟨m, hm, hm2⟩ := exists_least (p := fun m => m ∈ rem) (by cases rem with | nil => exact absurd rfl hne | cons x xs => exact ⟨x, List.mem_cons_self ..⟩)
        exact ⟨m, hm, fun j hj => hm2 j hj⟩
      have hkn := hlt k hk
      have hr : k ∈ Region.ready .any l.toArray listed := by
        refine mem_ready.2 ⟨(hrem k hkn).2 hk, ?_⟩
        have h1 := List.all_eq_true.1 hless k (List.mem_range.2 hkn)
        cases ho : l.toArray[k]? with
        | none => rw [ho] at h1; simp at h1
        | some o =>
          rw [ho] at h1
          refine ⟨o, rfl, fun e he hb => ?_⟩
          have h2 := Array.all_eq_true_iff_forall_mem.1 h1 e he
          simp only [hb, Bool.not_true, Bool.false_or, decide_eq_true_eq] at h2
          have h3 : e.on ∉ rem := fun h => by have := hmin _ h; omega
          have h4 : listed.getD e.on true = true := by
            cases h5 : listed.getD e.on true with
            | true => rfl
            | false => exact absurd ((hrem e.on (by omega)).1 h5) h3
          have hsz : e.on < listed.size := by rw [inv.size]; omega
          simp [Array.getD, hsz] at h4 ⊢
          exact h4
      rw [h0] at hr
      cases hr
    · obtain ⟨hun, o, ho, hall⟩ := mem_ready.1 hi
      have hisz : i < l.toArray.size := (Array.getElem?_eq_some_iff.1 ho).1
      have hin : i < n := by
        rcases Nat.lt_or_ge i n with h | h
        · exact h
        · simp only [Bool.or_eq_true, Bool.and_eq_true, decide_eq_true_eq] at hsc
          rcases hsc with hsc | ⟨hs, hc⟩
          · omega
          · obtain ⟨k, hk⟩ : ∃ k, k ∈ rem := by cases rem with | nil => exact absurd rfl hne | cons x xs => exact ⟨x, List.mem_cons_self ..⟩
            exact absurd hi (tail_waits hs hc (by omega) inv _ k rfl (hlt k hk) ((hrem k (hlt k hk)).2 hk) i h)
      have hir : i ∈ rem := (hrem i hin).1 hun
      have hDi := List.all_eq_true.1 hD i (List.mem_range.2 hin)
      simp only [Bool.and_eq_true, beq_iff_eq] at hDi
      obtain ⟨⟨hdst, hdeps⟩, hafts⟩ := hDi
      rw [ho] at hdst
      simp only [Option.map_some] at hdst
      have hm := JAll.at (l.take n) 0 hop i o (by rw [List.getElem?_take, if_pos hin]; simpa using ho)
      rw [Nat.zero_add] at hm
      have hdp : ∀ j ∈ D.getD i [], V j (us j) W ∧ (j < n ∧ j ∉ rem) := fun j hj => by
        have h1 := List.all_eq_true.1 hdeps j hj
        simp only [Bool.and_eq_true, decide_eq_true_eq] at h1
        obtain ⟨oj, hoj, e, he, hb, hon⟩ := Region.waitsFor_spec h1.2
        have : oj = o := Option.some.inj (hoj.symm.trans ho)
        subst this
        have h2 := hall e he hb
        rw [hon] at h2
        have hjr : j ∉ rem := fun hjr => by
          have h3 := (hrem j (by omega)).2 hjr
          rw [getD_both h3] at h2
          cases h2
        exact ⟨hV j (by omega) hjr, by omega, hjr⟩
      have haf : ∀ j ∈ A.getD i [], ¬ (j < n ∧ j ∉ rem) := fun j hj hd => by
        have h1 := List.all_eq_true.1 hafts j hj
        simp only [Bool.and_eq_true, decide_eq_true_eq] at h1
        obtain ⟨oj, hoj, e, he, hb, hon⟩ := Region.waitsFor_spec h1.2
        have h4 : listed.getD j false = true := by
          have h5 : listed.getD j true = true := by
            cases h5 : listed.getD j true with
            | true => rfl
            | false => exact absurd ((hrem j hd.1).1 h5) hd.2
          have hsz : j < listed.size := by rw [inv.size]; omega
          simp [Array.getD, hsz] at h5 ⊢
          exact h5
        have h6 := inv.closed j oj hoj h4 e he hb
        rw [hon, getD_both hun] at h6
        cases h6
      have key : ∀ v W', V i v W' → (∀ j u, (j < n ∧ j ∉ rem) → V j u W → V j u W') → J (fun k => (k < n ∧ k ∉ rem) ∨ k = i) W' → wpAny P .any l.toArray Q (f + (l.toArray.size - n)) (listed.setIfInBounds i true) ((fillO a ds us 0).put o.dst v) W' := fun v W' hv hst hj => by
        rw [fillO_put us v ds hnd a 0 i o.dst hdst.symm, Nat.zero_add]
        refine ih (rem.erase i) _ (updO us i v) W' (by rw [List.length_erase_of_mem hir]; omega) (hnodup.erase i) (inv.set hi hin) (fun j hj => ?_) (fun j hj => hlt j (List.mem_of_mem_erase hj)) (fun j hj hjr => ?_) (hJ _ _ W' (fun k => ?_) hj)
        · by_cases hji : i = j
          · subst hji
            have hsz : i < listed.size := by rw [inv.size]; omega
            simp [Array.getD, hsz]
            exact fun h => (hnodup.mem_erase_iff.1 h).1 rfl
          · rw [getD_set_ne true hji, hrem j hj, hnodup.mem_erase_iff]
            exact ⟨fun h => ⟨Ne.symm hji, h⟩, fun h => h.2⟩
        · by_cases hji : j = i
          · subst hji; simpa [updO] using hv
          · have : updO us i v j = us j := by simp [updO, hji]
            rw [this]
            have hjr' : j ∉ rem := fun h => hjr (hnodup.mem_erase_iff.2 ⟨hji, h⟩)
            exact hst j _ ⟨hj, hjr'⟩ (hV j hj hjr')
        · rw [hnodup.mem_erase_iff]
          constructor
          · rintro (⟨h1, h2⟩ | rfl)
            · exact ⟨h1, fun h => h2 h.2⟩
            · exact ⟨hin, fun h => h.1 rfl⟩
          · rintro ⟨h1, h2⟩
            by_cases hki : k = i
            · exact .inr hki
            · exact .inl ⟨h1, fun h => h2 ⟨hki, h⟩⟩
      unfold wpOp
      rw [ho]
      simp only
      have hgo := hm (fun k => k < n ∧ k ∉ rem) us W hX hdp haf (fun h => h.2 hir) (wpAny P .any l.toArray Q (f + (l.toArray.size - n)) (listed.setIfInBounds i true)) key Q
      split
      · rename_i hw; rw [if_pos hw] at hgo; exact .inl hgo
      · rename_i hw; rw [if_neg hw] at hgo; exact hgo

/-- THE LAW. -/
theorem wp_region_j {id : Nat} {w : World} (n : Nat) (ds : List (Option Tmp)) (D A : List (List Nat)) (V : Nat → Value → World → Prop) (J : (Nat → Prop) → World → Prop) (hm : P.follows .mixedOrders = true) (hB : jB l.toArray n ds D A = true)
    (hd : ∀ d, some d ∈ ds → d < a.tmps.size) (hJ : ∀ p q W, (∀ k, p k ↔ q k) → J p W → J q W) (h0 : J (fun _ => False) w.drew) (hop : JAllq P l.toArray V J D A ds a 0 (l.take n))
    (hend : ∀ us W, (∀ j, j < n → V j (us j) W) → J (fun k => k < n) W → wpList P l.toArray Q (l.drop n) (fillO a ds us 0) W) : (Code.region id l.toArray true).wp P Q a w := by
  refine wp_region_any hm ?_
  have hB' := hB
  simp only [jB, Bool.and_eq_true, decide_eq_true_eq] at hB'
  obtain ⟨⟨⟨⟨⟨⟨hn, hl⟩, hnt⟩, _⟩, _⟩, _⟩, _⟩ := hB'
  have h := j_any hB hJ (JAllq.all (noTwice_of ds hnt) hd _ 0 hop) hend n (List.range n) (Array.replicate l.toArray.size false) (fun j => a.tmps.getD ((ds.getD j none).getD 0) undef) w.drew (by simp) List.nodup_range
    ⟨by simp, fun j oj _ hl => (by rw [getD_replicate_false] at hl; cases hl), fun t _ ht => getD_in (by simpa using ht) (getD_replicate_false _ _)⟩
    (fun j hj => ⟨fun _ => List.mem_range.2 hj, fun _ => getD_in (by simp at hn ⊢; omega) (getD_replicate_false _ _)⟩) (fun j hj => List.mem_range.1 hj)
    (fun j hj h => absurd (List.mem_range.2 hj) h) (hJ _ _ _ (fun k => by simp) h0)
  rw [fillO_start ds a 0 _ hd (fun i d hi => by simp [List.getD, hi])] at h
  have e : n + (l.toArray.size - n) = l.toArray.size := by omega
  rw [e] at h
  exact h
end
end Go.Proofs.Yteoijnaljkagfaa
