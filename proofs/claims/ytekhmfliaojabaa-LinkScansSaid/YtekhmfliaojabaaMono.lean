/- A law for regions that leave their order open: if each operation, in whatever world that has grown out of the first, leaves a value of which a fact holds that lasts while memory grows, then all these facts hold behind the region, whatever the order; what must come last ('tail') is walked in its order. Conditions: as stated; checked by the kernel. -/
import Derived.Test.YtekhmfliaojabaaBase
import Derived.StillTail
namespace Go.Proofs.Ytekhmfliaojabaa
open Go.RowKit

/-- The act with the values 'us k', 'us (k + 1)', .. in the slots 'ds'. -/
def fillA (a : Act) : List Tmp → (Nat → Value) → Nat → Act
  | [], _, _ => a
  | d :: ds, us, k => fillA (a.put (some d) (us k)) ds us (k + 1)

theorem put_put (a : Act) (d : Tmp) (x y : Value) : (a.put (some d) x).put (some d) y = a.put (some d) y := by
  simp [Act.put, Array.setIfInBounds_setIfInBounds]
theorem put_comm' (a : Act) {d e : Tmp} (h : d ≠ e) (x y : Value) : (a.put (some d) x).put (some e) y = (a.put (some e) y).put (some d) x := by
  simp only [Act.put]
  rw [Array.setIfInBounds_comm _ _ h]
theorem put_same (a : Act) (d : Tmp) (h : d < a.tmps.size) : a.put (some d) (a.tmps.getD d undef) = a := by
  simp only [Act.put]
  have : a.tmps.setIfInBounds d (a.tmps.getD d undef) = a.tmps := by
    apply Array.ext_getElem?
    intro i
    rw [Array.getElem?_setIfInBounds]
    by_cases hi : d = i
    · subst hi
      simp [h, Array.getD]
    · simp [hi]
  rw [this]

theorem fillA_far (ds : List Tmp) (us : Nat → Value) (d : Tmp) (v : Value) (hd : d ∉ ds) : ∀ (a : Act) (k : Nat), (fillA a ds us k).put (some d) v = fillA (a.put (some d) v) ds us k := by
  induction ds with
  | nil => intro a k; rfl
  | cons e ds ih =>
    intro a k
    simp only [List.mem_cons, not_or] at hd
    simp only [fillA]
    rw [ih hd.2, put_comm' a (Ne.symm hd.1)]
theorem fillA_congr (ds : List Tmp) (us us' : Nat → Value) : ∀ (a : Act) (k : Nat), (∀ j, k ≤ j → us j = us' j) → fillA a ds us k = fillA a ds us' k := by
  induction ds with
  | nil => intro a k _; rfl
  | cons e ds ih =>
    intro a k h
    simp only [fillA]
    rw [h k (Nat.le_refl _)]
    exact ih _ _ fun j hj => h j (by omega)
def upd (us : Nat → Value) (i : Nat) (v : Value) : Nat → Value := fun j => if j = i then v else us j
theorem fillA_put (ds : List Tmp) (us : Nat → Value) (v : Value) (hn : ds.Nodup) : ∀ (a : Act) (k i : Nat) (d : Tmp), ds[i]? = some d → (fillA a ds us k).put (some d) v = fillA a ds (upd us (k + i) v) k := by
  induction ds with
  | nil => intro a k i d h; simp at h
  | cons e ds ih =>
    intro a k i d h
    rw [List.nodup_cons] at hn
    cases i with
    | zero =>
      simp at h
      subst h
      simp only [fillA]
      rw [fillA_far ds us e v hn.1, put_put]
      have e1 : upd us (k + 0) v k = v := by simp [upd]
      rw [e1]
      exact fillA_congr ds _ _ _ _ fun j hj => by simp [upd]; omega
    | succ i =>
      simp only [fillA]
      have hi : ds[i]? = some d := by simpa using h
      rw [ih hn.2 _ (k + 1) i d hi]
      have e1 : upd us (k + (i + 1)) v k = us k := by simp [upd]
      have e2 : k + 1 + i = k + (i + 1) := by omega
      rw [e1, e2]
theorem fillA_start (ds : List Tmp) : ∀ (a : Act) (k : Nat) (us : Nat → Value), (∀ d ∈ ds, d < a.tmps.size) → (∀ i d, ds[i]? = some d → us (k + i) = a.tmps.getD d undef) → fillA a ds us k = a := by
  induction ds with
  | nil => intro a k us _ _; rfl
  | cons e ds ih =>
    intro a k us hb hu
    simp only [fillA]
    have h0 := hu 0 e rfl
    rw [Nat.add_zero] at h0
    rw [h0, put_same a e (hb e (List.mem_cons_self ..))]
    exact ih a (k + 1) us (fun d hd => hb d (List.mem_cons_of_mem _ hd)) fun i d hi => by
      have := hu (i + 1) d (by simpa using hi)
      rw [← this]; congr 1; omega

/-- What one operation must give. -/
def MonoOp (P : Program) (ops : Array Oper) (V : Nat → Value → World → Prop) (D : List (List Nat)) (ds : List Tmp) (a : Act) (w0 : World) (i : Nat) (o : Oper) : Prop :=
  ∀ (us : Nat → Value) (W : World), Ext w0 W → (∀ j ∈ D.getD i [], V j (us j) W) → ∀ K : Act → World → Prop, (∀ v W', V i v W' → Ext W W' → K ((fillA a ds us 0).put o.dst v) W') → ∀ Q' : Exit → Act → World → Prop,
    if Region.wanted o (yielded ops (fillA a ds us 0).tmps) then o.wp P (fillA a ds us 0) W K Q' else K ((fillA a ds us 0).put o.dst undef) W
def MonoAll (P : Program) (ops : Array Oper) (V : Nat → Value → World → Prop) (D : List (List Nat)) (ds : List Tmp) (a : Act) (w0 : World) : Nat → List Oper → Prop
  | _, [] => True
  | i, o :: rest => MonoOp P ops V D ds a w0 i o ∧ MonoAll P ops V D ds a w0 (i + 1) rest

theorem MonoAll.at {P : Program} {ops : Array Oper} {V : Nat → Value → World → Prop} {D : List (List Nat)} {ds : List Tmp} {a : Act} {w0 : World} : ∀ (l : List Oper) (k : Nat), MonoAll P ops V D ds a w0 k l → ∀ i o, l[i]? = some o → MonoOp P ops V D ds a w0 (k + i) o := by
  intro l
  induction l with
  | nil => intro k _ i o h; simp at h
  | cons x l ih =>
    intro k h i o ho
    cases i with
    | zero => simp at ho; subst ho; exact h.1
    | succ i =>
      have := ih (k + 1) h.2 i o (by simpa using ho)
      rw [show k + 1 + i = k + (i + 1) by omega] at this
      exact this

/-- What the kernel looks at: the head's slots; that each operation waits for those before it of which it makes use, and for none behind it; the tail's order. -/
def monoB (ops : Array Oper) (n : Nat) (ds : List Tmp) (D : List (List Nat)) : Bool :=
  decide (n < ops.size) && decide (ds.length = n) && decide ds.Nodup && (List.range n).all (fun i => (((ops[i]?).bind (·.dst)) == ds[i]?) && (D.getD i []).all (fun j => decide (j < i) && Region.waitsFor .any ops i j)) &&
  (List.range n).all (fun i => match ops[i]? with | some o => o.after.all (fun e => !Region.binds .any e || decide (e.on < i)) | none => false) &&
  Region.sinkB .any ops n && Region.chainB .any ops n && Region.seqB .any ops (ops.size - n) n ((List.range ops.size).map (fun i => decide (i < n))).toArray

section
variable {P : Program} {l : List Oper} {n : Nat} {ds : List Tmp} {D : List (List Nat)} {V : Nat → Value → World → Prop} {a : Act} {w0 : World} {Q : Exit → Act → World → Prop}

theorem mono_any (hB : monoB l.toArray n ds D = true) (hmono : ∀ i v W W', Ext W W' → V i v W → V i v W') (hop : MonoAll P l.toArray V D ds a w0 0 (l.take n))
    (hend : ∀ us W, (∀ j, j < n → V j (us j) W) → Ext w0 W → wpList P l.toArray Q (l.drop n) (fillA a ds us 0) W) :
    ∀ (f : Nat) (rem : List Nat) (listed : Array Bool) (us : Nat → Value) (W : World), rem.length = f → rem.Nodup → HeadInv .any l.toArray n listed → (∀ j, j < n → (listed.getD j true = false ↔ j ∈ rem)) → (∀ j ∈ rem, j < n) →
      (∀ j, j < n → j ∉ rem → V j (us j) W) → Ext w0 W → wpAny P .any l.toArray Q (f + (l.toArray.size - n)) listed (fillA a ds us 0) W := by
  simp only [monoB, Bool.and_eq_true, decide_eq_true_eq] at hB
  obtain ⟨⟨⟨⟨⟨⟨⟨hn, hl⟩, hnd⟩, hD⟩, hless⟩, hs⟩, hc⟩, hseq⟩ := hB
  intro f
  induction f with
  | zero =>
    intro rem listed us W hlen _ inv hrem _ hV hX
    obtain rfl : rem = [] := List.eq_nil_of_length_eq_zero hlen
    have hlist : listed = ((List.range l.toArray.size).map (fun i => decide (i < n))).toArray := by
      apply Array.ext
      · simp [inv.size]
      · intro i h1 h2
        have hsz := inv.size
        simp only [List.getElem_toArray, List.getElem_map, List.getElem_range]
        by_cases hi : i < n
        · have h3 := hrem i hi
          simp only [List.not_mem_nil, iff_false, Bool.not_eq_false] at h3
          have h4 : listed.getD i true = listed[i] := by simp [Array.getD, h1]
          rw [h4] at h3
          simp [h3, hi]
        · have h3 := inv.tail i (by omega) (by omega)
          have h4 : listed.getD i true = listed[i] := by simp [Array.getD, h1]
          rw [h4] at h3
          simp [h3, hi]
    have hdl : (l.drop n).length = l.toArray.size - n := by simp
    rw [Nat.zero_add, ← hdl]
    refine wpAny_of_seq (l.drop n) n listed _ W (fun j => by simp [List.getElem?_drop]) ?_ (hend us W (fun j hj => hV j hj (by simp)) hX)
    rw [hdl, hlist]
    exact hseq
  | succ f ih =>
    intro rem listed us W hlen hnodup inv hrem hlt hV hX
    rw [show f + 1 + (l.toArray.size - n) = (f + (l.toArray.size - n)) + 1 by omega]
    -- the least operation of the head that is left
    have hne : rem ≠ [] := by intro e; subst e; simp at hlen
    refine ⟨fun h0 => ?_, fun i hi => ?_⟩
    · exfalso
      obtain ⟨k, hk, hmin⟩ : ∃ k ∈ rem, ∀ j ∈ rem, k ≤ j := by
        obtain ⟨m, hm, hm2⟩ := exists_least (p := fun m => m ∈ rem) (by cases rem with | nil => exact absurd rfl hne | cons x xs => exact ⟨x, List.mem_cons_self ..⟩)
        exact ⟨m, hm, fun j hj => hm2 j hj⟩
      have hkn := hlt k hk
      have hr : k ∈ Region.ready .any l.toArray listed := by
        refine mem_ready.2 ⟨(hrem k hkn).2 hk, ?_⟩
        have h1 := List.all_eq_true.1 hless k (List.mem_range.2 hkn)
        cases ho : l.toArray[k]? with
        | none => rw [ho] at h1; simp at h1
        | some o =>
          rw [ho] at h1
          refine ⟨o, rfl, fun e he hb => ?_⟩
          have h2 := Array.all_eq_true_iff_forall_mem.1 h1 e he
          simp only [hb, Bool.not_true, Bool.false_or, decide_eq_true_eq] at h2
          have h3 : e.on ∉ rem := fun h => by have := hmin _ h; omega
          have h4 : listed.getD e.on true = true := by
            cases h5 : listed.getD e.on true with
            | true => rfl
            | false => exact absurd ((hrem e.on (by omega)).1 h5) h3
          have hsz : e.on < listed.size := by rw [inv.size]; omega
          simp [Array.getD, hsz] at h4 ⊢
          exact h4
      rw [h0] at hr
      cases hr
    · have hin : i < n := by
        rcases Nat.lt_or_ge i n with h | h
        · exact h
        · obtain ⟨k, hk⟩ : ∃ k, k ∈ rem := by cases rem with | nil => exact absurd rfl hne | cons x xs => exact ⟨x, List.mem_cons_self ..⟩
          exact absurd hi (tail_waits hs hc hn inv _ k rfl (hlt k hk) ((hrem k (hlt k hk)).2 hk) i h)
      obtain ⟨hun, o, ho, hall⟩ := mem_ready.1 hi
      have hir : i ∈ rem := (hrem i hin).1 hun
      have hDi := List.all_eq_true.1 hD i (List.mem_range.2 hin)
      simp only [Bool.and_eq_true, beq_iff_eq] at hDi
      obtain ⟨hdst, hdeps⟩ := hDi
      rw [ho] at hdst
      simp only [Option.bind_some] at hdst
      have hid : i < ds.length := by omega
      obtain ⟨d, hd⟩ : ∃ d, ds[i]? = some d := ⟨_, List.getElem?_eq_getElem hid⟩
      rw [hd] at hdst
      have hm := MonoAll.at (l.take n) 0 hop i o (by rw [List.getElem?_take, if_pos hin]; simpa using ho)
      rw [Nat.zero_add] at hm
      have hdp : ∀ j ∈ D.getD i [], V j (us j) W := fun j hj => by
        have h1 := List.all_eq_true.1 hdeps j hj
        simp only [Bool.and_eq_true, decide_eq_true_eq] at h1
        obtain ⟨oj, hoj, e, he, hb, hon⟩ := Region.waitsFor_spec h1.2
        have : oj = o := Option.some.inj (hoj.symm.trans ho)
        subst this
        have h2 := hall e he hb
        rw [hon] at h2
        refine hV j (by omega) fun hjr => ?_
        have h3 := (hrem j (by omega)).2 hjr
        rw [getD_both h3] at h2
        cases h2
      have key : ∀ v W', V i v W' → Ext W W' → wpAny P .any l.toArray Q (f + (l.toArray.size - n)) (listed.setIfInBounds i true) ((fillA a ds us 0).put o.dst v) W' := fun v W' hv hx => by
        rw [hdst, fillA_put ds us v hnd a 0 i d hd, Nat.zero_add]
        refine ih (rem.erase i) _ (upd us i v) W' (by rw [List.length_erase_of_mem hir]; omega) (hnodup.erase i) (inv.set hi hin) (fun j hj => ?_) (fun j hj => hlt j (List.mem_of_mem_erase hj)) (fun j hj hjr => ?_) (hX.trans hx)
        · by_cases hji : i = j
          · subst hji
            have hsz : i < listed.size := by rw [inv.size]; omega
            simp [Array.getD, hsz]
            exact fun h => (hnodup.mem_erase_iff.1 h).1 rfl
          · rw [getD_set_ne true hji, hrem j hj, hnodup.mem_erase_iff]
            exact ⟨fun h => ⟨Ne.symm hji, h⟩, fun h => h.2⟩
        · by_cases hji : j = i
          · subst hji; simpa [upd] using hv
          · have : upd us i v j = us j := by simp [upd, hji]
            rw [this]
            exact hmono j _ _ _ hx (hV j hj fun h => hjr (hnodup.mem_erase_iff.2 ⟨hji, h⟩))
      unfold wpOp
      rw [ho]
      simp only
      have hgo := hm us W hX hdp (wpAny P .any l.toArray Q (f + (l.toArray.size - n)) (listed.setIfInBounds i true)) key Q
      split
      · rename_i hw; rw [if_pos hw] at hgo; exact .inl hgo
      · rename_i hw; rw [if_neg hw] at hgo; exact hgo

/-- THE LAW. -/
theorem wp_region_mono {id : Nat} {w : World} (n : Nat) (ds : List Tmp) (D : List (List Nat)) (V : Nat → Value → World → Prop) (hm : P.follows .mixedOrders = true) (hB : monoB l.toArray n ds D = true)
    (hd : ∀ d ∈ ds, d < a.tmps.size) (hmono : ∀ i v W W', Ext W W' → V i v W → V i v W') (hop : MonoAll P l.toArray V D ds a w.drew 0 (l.take n))
    (hend : ∀ us W, (∀ j, j < n → V j (us j) W) → Ext w.drew W → wpList P l.toArray Q (l.drop n) (fillA a ds us 0) W) : (Code.region id l.toArray true).wp P Q a w := by
  refine wp_region_any hm ?_
  have hB' := hB
  simp only [monoB, Bool.and_eq_true, decide_eq_true_eq] at hB'
  obtain ⟨⟨⟨⟨⟨⟨⟨hn, hl⟩, hnd⟩, _⟩, _⟩, _⟩, _⟩, _⟩ := hB'
  have h := mono_any hB hmono hop hend n (List.range n) (Array.replicate l.toArray.size false) (fun j => a.tmps.getD (ds.getD j 0) undef) w.drew (by simp) List.nodup_range
    ⟨by simp, fun j oj _ hl => (by rw [getD_replicate_false] at hl; cases hl), fun t _ ht => getD_in (by simpa using ht) (getD_replicate_false _ _)⟩
    (fun j hj => ⟨fun _ => List.mem_range.2 hj, fun _ => getD_in (by simp at hn ⊢; omega) (getD_replicate_false _ _)⟩) (fun j hj => List.mem_range.1 hj)
    (fun j hj h => absurd (List.mem_range.2 hj) h) (Ext.refl _)
  rw [fillA_start ds a 0 _ hd (fun i d hi => by simp [List.getD, hi])] at h
  have e : n + (l.toArray.size - n) = l.toArray.size := by omega
  rw [e] at h
  exact h
end
end Go.Proofs.Ytekhmfliaojabaa
