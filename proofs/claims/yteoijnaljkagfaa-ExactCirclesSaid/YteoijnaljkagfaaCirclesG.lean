/- Lemmas of the proof that follows (Circles, part 7): walks of functions by contract, and plain lemmas. Conditions: none. -/
import Derived.Test.YteoijnaljkagfaaCirclesF
namespace Go.Proofs.Yteoijnaljkagfaa
open Go.RowKit

/-- A rational number of the reference. -/
def QZ (w : World) (v : Value) (q : Rat) : Prop := ∃ b A l c B m k, v = .agg #[.bool b, .slice A l c, .slice B m k] ∧ b = decide (q.num < 0) ∧ Z16 w (.slice A l c) q.num.natAbs ∧ Z16 w (.slice B m k) q.den
theorem QZ.ext {w w' : World} {v : Value} {q : Rat} (h : QZ w v q) (he : Ext w w') : QZ w' v q := by
  obtain ⟨b, A, l, c, B, m, k, h0, h1, h2, h3⟩ := h
  exact ⟨b, A, l, c, B, m, k, h0, h1, h2.ext he, h3.ext he⟩
theorem QZ.open {w : World} {v : Value} {q : Rat} (h : QZ w v q) : ∃ b A l c B m k, v = .agg #[.bool b, .slice A l c, .slice B m k] := by
  obtain ⟨b, A, l, c, B, m, k, h0, _⟩ := h
  exact ⟨b, A, l, c, B, m, k, h0⟩
section
variable {w : World} {b : Bool} {A B : Option Addr} {l c m k : Nat} {q : Rat}
theorem QZ.num (h : QZ w (.agg #[.bool b, .slice A l c, .slice B m k]) q) : IntZ w (.agg #[.bool b, .slice A l c]) q.num := by
  obtain ⟨b', A', l', c', B', m', k', e, h1, h2, h3⟩ := h
  simp only [Value.agg.injEq, Array.mk.injEq, List.cons.injEq, Value.bool.injEq, Value.slice.injEq, and_true] at e
  obtain ⟨rfl, ⟨rfl, rfl, rfl⟩, rfl, rfl, rfl⟩ := e
  exact ⟨_, _, _, by rw [h1], h2⟩
theorem QZ.sgn (h : QZ w (.agg #[.bool b, .slice A l c, .slice B m k]) q) : b = decide (q.num < 0) := by
  obtain ⟨b', A', l', c', B', m', k', e, h1, h2, h3⟩ := h
  simp only [Value.agg.injEq, Array.mk.injEq, List.cons.injEq, Value.bool.injEq, Value.slice.injEq, and_true] at e
  rw [e.1, h1]
theorem QZ.nat (h : QZ w (.agg #[.bool b, .slice A l c, .slice B m k]) q) : Z16 w (.slice A l c) q.num.natAbs := by
  obtain ⟨b', A', l', c', B', m', k', e, h1, h2, h3⟩ := h
  simp only [Value.agg.injEq, Array.mk.injEq, List.cons.injEq, Value.bool.injEq, Value.slice.injEq, and_true] at e
  obtain ⟨rfl, ⟨rfl, rfl, rfl⟩, rfl, rfl, rfl⟩ := e
  exact h2
theorem QZ.den (h : QZ w (.agg #[.bool b, .slice A l c, .slice B m k]) q) : Z16 w (.slice B m k) q.den := by
  obtain ⟨b', A', l', c', B', m', k', e, h1, h2, h3⟩ := h
  simp only [Value.agg.injEq, Array.mk.injEq, List.cons.injEq, Value.bool.injEq, Value.slice.injEq, and_true] at e
  obtain ⟨rfl, ⟨rfl, rfl, rfl⟩, rfl, rfl, rfl⟩ := e
  exact h3
theorem QZ.past (h : QZ w (.agg #[.bool b, .slice A l c, .slice B m k]) q) {g : Nat} (hN : NoInts w g) : QZ (((w.setCell ⟨g, 0, none⟩ (.bool b)).setCell ⟨g, 1, none⟩ (.slice A l c)).setCell ⟨g, 2, none⟩ (.slice B m k)) (.agg #[.bool b, .slice A l c, .slice B m k]) q :=
  ⟨_, _, _, _, _, _, _, rfl, h.sgn, h.nat.box3 hN _ _ _ _ _ _ _, h.den.box3 hN _ _ _ _ _ _ _⟩
end
/-- What a call returns that makes a rational number. -/
def RetQz (w : World) (q : Rat) (e : Ending) (w' : World) : Prop := ∃ v, e = .returned v ∧ QZ w' v q ∧ Ext w w'
/-- How many limbs a rational number has. -/
def FitR (q : Rat) (L : Nat) : Prop := Fit 65536 q.num.natAbs L ∧ Fit 65536 q.den L
theorem FitR.mono {q : Rat} {L M : Nat} (h : FitR q L) (k : L ≤ M) : FitR q M := ⟨h.1.mono (by omega) k, h.2.mono (by omega) k⟩
theorem RetQz.of {w : World} {q r : Rat} (h : q = r) : ∀ e w', RetQz w q e w' → RetQz w r e w' := by rintro e w' ⟨v, h1, h2, h3⟩; exact ⟨v, h1, h ▸ h2, h3⟩
theorem fit_mul {n m a b L : Nat} (h : Fit 65536 n a) (k : Fit 65536 m b) (hL : a + b ≤ L) : Fit 65536 (n * m) L := (h.mul (by omega) k).mono (by omega) hL
theorem fit_mulI {x y : Int} {a b L : Nat} (h : Fit 65536 x.natAbs a) (k : Fit 65536 y.natAbs b) (hL : a + b ≤ L) : Fit 65536 (x * y).natAbs L := by
  rw [Int.natAbs_mul]; exact fit_mul h k hL
theorem fit_addI {x y : Int} {a L : Nat} (h : Fit 65536 x.natAbs a) (k : Fit 65536 y.natAbs a) (hL : a + 1 ≤ L) : Fit 65536 (x + y).natAbs L :=
  ((h.add (by omega) k).le (Int.natAbs_add_le x y)).mono (by omega) hL
end Go.Proofs.Yteoijnaljkagfaa
namespace Go.Proofs.Yteoijnaljkagfaa
open Go.RowKit

theorem Z16.pos {w : World} {A : Option Addr} {l c n : Nat} (h : Z16 w (.slice A l c) n) : IntZ w (.agg #[.bool false, .slice A l c]) (n : Int) := ⟨A, l, c, by rw [decide_eq_false (by omega)], h⟩
theorem IntZ.open {w : World} {v : Value} {z : Int} (h : IntZ w v z) : ∃ A l c, v = .agg #[.bool (decide (z < 0)), .slice A l c] ∧ Z16 w (.slice A l c) z.natAbs := by
  obtain ⟨A, l, c, rfl, h1⟩ := h
  exact ⟨A, l, c, rfl, h1⟩
theorem QZ.mk' {w : World} {b : Bool} {A B : Option Addr} {l c m k : Nat} {q : Rat} (hb : b = decide (q.num < 0)) (h : Z16 w (.slice A l c) q.num.natAbs) (h' : Z16 w (.slice B m k) q.den) : QZ w (.agg #[.bool b, .slice A l c, .slice B m k]) q :=
  ⟨_, _, _, _, _, _, _, rfl, hb, h, h'⟩
end Go.Proofs.Yteoijnaljkagfaa
namespace Go.Proofs.Yteoijnaljkagfaa
open Go.RowKit

/-- What one operation must give, over a frame of which only the slots' values are known. -/
def GOq (P : Program) (ops : Array Oper) (J : (Nat → Prop) → (Nat → Value) → World → Prop) (D A : List (List Nat)) (ds : List (Option Tmp)) (a : Act) (i : Nat) (o : Oper) : Prop :=
  ∀ (done : Nat → Prop) (us : Nat → Value) (W : World), J done us W → (∀ j ∈ D.getD i [], done j) → (∀ j ∈ A.getD i [], ¬ done j) → ¬ done i → ∀ b : Act, (∀ j d, ds[j]? = some (some d) → b.tmps[d]? = some (us j)) → (∀ d, some d ∉ ds → b.tmps[d]? = a.tmps[d]?) → ∀ K : Act → World → Prop,
      (∀ v W', J (fun k => done k ∨ k = i) (updO us i v) W' → K (b.put o.dst v) W') → ∀ Q' : Exit → Act → World → Prop,
      if Region.wanted o (yielded ops b.tmps) then o.wp P b W K Q' else K (b.put o.dst undef) W
def GAllq (P : Program) (ops : Array Oper) (J : (Nat → Prop) → (Nat → Value) → World → Prop) (D A : List (List Nat)) (ds : List (Option Tmp)) (a : Act) : Nat → List Oper → Prop
  | _, [] => True
  | i, o :: rest => GOq P ops J D A ds a i o ∧ GAllq P ops J D A ds a (i + 1) rest
theorem GAllq.at {P : Program} {ops : Array Oper} {J : (Nat → Prop) → (Nat → Value) → World → Prop} {D A : List (List Nat)} {ds : List (Option Tmp)} {a : Act} : ∀ (l : List Oper) (k : Nat), GAllq P ops J D A ds a k l → ∀ i o, l[i]? = some o → GOq P ops J D A ds a (k + i) o := by
  intro l
  induction l with
  | nil => intro k _ i o h; simp at h
  | cons x l ih =>
    intro k h i o ho
    cases i with
    | zero => simp at ho; subst ho; exact h.1
    | succ i =>
      have := ih (k + 1) h.2 i o (by simpa using ho)
      rw [show k + 1 + i = k + (i + 1) by omega] at this
      exact this

section
variable {P : Program} {l : List Oper} {n : Nat} {ds : List (Option Tmp)} {D A : List (List Nat)} {J : (Nat → Prop) → (Nat → Value) → World → Prop} {a : Act} {Q : Exit → Act → World → Prop}

theorem g_any (hB : jB l.toArray n ds D A = true) (hs : ∀ d, some d ∈ ds → d < a.tmps.size) (hJ : ∀ p q us W, (∀ k, p k ↔ q k) → J p us W → J q us W) (hop : GAllq P l.toArray J D A ds a 0 (l.take n))
    (hend : ∀ us W, J (fun k => k < n) us W → wpList P l.toArray Q (l.drop n) (fillO a ds us 0) W) :
    ∀ (f : Nat) (rem : List Nat) (listed : Array Bool) (us : Nat → Value) (W : World), rem.length = f → rem.Nodup → HeadInv .any l.toArray n listed → (∀ j, j < n → (listed.getD j true = false ↔ j ∈ rem)) → (∀ j ∈ rem, j < n) →
      J (fun k => k < n ∧ k ∉ rem) us W → wpAny P .any l.toArray Q (f + (l.toArray.size - n)) listed (fillO a ds us 0) W := by
  simp only [jB, Bool.and_eq_true, decide_eq_true_eq] at hB
  obtain ⟨⟨⟨⟨⟨⟨hn, hl⟩, hnt⟩, hD⟩, hless⟩, hsc⟩, hseq⟩ := hB
  have hnd := noTwice_of ds hnt
  intro f
  induction f with
  | zero =>
    intro rem listed us W hlen _ inv hrem _ hX
    obtain rfl : rem = [] := List.eq_nil_of_length_eq_zero hlen
    have hlist : listed = ((List.range l.toArray.size).map (fun i => decide (i < n))).toArray := by
      apply Array.ext
      · simp [inv.size]
      · intro i h1 h2
        have hsz := inv.size
        simp only [List.getElem_toArray, List.getElem_map, List.getElem_range]
        by_cases hi : i < n
        · have h3 := hrem i hi
          simp only [List.not_mem_nil, iff_false, Bool.not_eq_false] at h3
          have h4 : listed.getD i true = listed[i] := by simp [Array.getD, h1]
          rw [h4] at h3
          simp [h3, hi]
        · have h3 := inv.tail i (by omega) (by omega)
          have h4 : listed.getD i true = listed[i] := by simp [Array.getD, h1]
          rw [h4] at h3
          simp [h3, hi]
    have hdl : (l.drop n).length = l.toArray.size - n := by simp
    rw [Nat.zero_add, ← hdl]
    refine wpAny_of_seq (l.drop n) n listed _ W (fun j => by simp [List.getElem?_drop]) ?_ (hend us W (hJ _ _ us W (by simp) hX))
    rw [hdl, hlist]
    exact hseq
  | succ f ih =>
    intro rem listed us W hlen hnodup inv hrem hlt hX
    rw [show f + 1 + (l.toArray.size - n) = (f + (l.toArray.size - n)) + 1 by omega]
    have hne : rem ≠ [] := by intro e; subst e; simp at hlen
    refine ⟨fun h0 => ?_, fun i hi => ?_⟩
    · exfalso
      obtain ⟨k, hk, hmin⟩ : ∃ k ∈ rem, ∀ j ∈ rem, k ≤ j := by
        obtain ⟨m, hm, hm2⟩ := exists_least (p := fun m => m ∈ rem) (by cases rem with | nil => exact absurd rfl hne | cons x xs => exact ⟨x, List.mem_cons_self ..⟩)
        exact ⟨m, hm, fun j hj => hm2 j hj⟩
      have hkn := hlt k hk
      have hr : k ∈ Region.ready .any l.toArray listed := by
        refine mem_ready.2 ⟨(hrem k hkn).2 hk, ?_⟩
        have h1 := List.all_eq_true.1 hless k (List.mem_range.2 hkn)
        cases ho : l.toArray[k]? with
        | none => rw [ho] at h1; simp at h1
        | some o =>
          rw [ho] at h1
          refine ⟨o, rfl, fun e he hb => ?_⟩
          have h2 := Array.all_eq_true_iff_forall_mem.1 h1 e he
          simp only [hb, Bool.not_true, Bool.false_or, decide_eq_true_eq] at h2
          have h3 : e.on ∉ rem := fun h => by have := hmin _ h; omega
          have h4 : listed.getD e.on true = true := by
            cases h5 : listed.getD e.on true with
            | true => rfl
            | false => exact absurd ((hrem e.on (by omega)).1 h5) h3
          have hsz : e.on < listed.size := by rw [inv.size]; omega
          simp [Array.getD, hsz] at h4 ⊢
          exact h4
      rw [h0] at hr
      cases hr
    · obtain ⟨hun, o, ho, hall⟩ := mem_ready.1 hi
      have hisz : i < l.toArray.size := (Array.getElem?_eq_some_iff.1 ho).1
      have hin : i < n := by
        rcases Nat.lt_or_ge i n with h | h
        · exact h
        · simp only [Bool.or_eq_true, Bool.and_eq_true, decide_eq_true_eq] at hsc
          rcases hsc with hsc | ⟨hs, hc⟩
          · omega
          · obtain ⟨k, hk⟩ : ∃ k, k ∈ rem := by cases rem with | nil => exact absurd rfl hne | cons x xs => exact ⟨x, List.mem_cons_self ..⟩
            exact absurd hi (tail_waits hs hc (by omega) inv _ k rfl (hlt k hk) ((hrem k (hlt k hk)).2 hk) i h)
      have hir : i ∈ rem := (hrem i hin).1 hun
      have hDi := List.all_eq_true.1 hD i (List.mem_range.2 hin)
      simp only [Bool.and_eq_true, beq_iff_eq] at hDi
      obtain ⟨⟨hdst, hdeps⟩, hafts⟩ := hDi
      rw [ho] at hdst
      simp only [Option.map_some] at hdst
      have hm := GAllq.at (l.take n) 0 hop i o (by rw [List.getElem?_take, if_pos hin]; simpa using ho)
      rw [Nat.zero_add] at hm
      have hdp : ∀ j ∈ D.getD i [], (j < n ∧ j ∉ rem) := fun j hj => by
        have h1 := List.all_eq_true.1 hdeps j hj
        simp only [Bool.and_eq_true, decide_eq_true_eq] at h1
        obtain ⟨oj, hoj, e, he, hb, hon⟩ := Region.waitsFor_spec h1.2
        have : oj = o := Option.some.inj (hoj.symm.trans ho)
        subst this
        have h2 := hall e he hb
        rw [hon] at h2
        have hjr : j ∉ rem := fun hjr => by
          have h3 := (hrem j (by omega)).2 hjr
          rw [getD_both h3] at h2
          cases h2
        exact ⟨by omega, hjr⟩
      have haf : ∀ j ∈ A.getD i [], ¬ (j < n ∧ j ∉ rem) := fun j hj hd => by
        have h1 := List.all_eq_true.1 hafts j hj
        simp only [Bool.and_eq_true, decide_eq_true_eq] at h1
        obtain ⟨oj, hoj, e, he, hb, hon⟩ := Region.waitsFor_spec h1.2
        have h4 : listed.getD j false = true := by
          have h5 : listed.getD j true = true := by
            cases h5 : listed.getD j true with
            | true => rfl
            | false => exact absurd ((hrem j hd.1).1 h5) hd.2
          have hsz : j < listed.size := by rw [inv.size]; omega
          simp [Array.getD, hsz] at h5 ⊢
          exact h5
        have h6 := inv.closed j oj hoj h4 e he hb
        rw [hon, getD_both hun] at h6
        cases h6
      have key : ∀ v W', J (fun k => (k < n ∧ k ∉ rem) ∨ k = i) (updO us i v) W' → wpAny P .any l.toArray Q (f + (l.toArray.size - n)) (listed.setIfInBounds i true) ((fillO a ds us 0).put o.dst v) W' := fun v W' hj => by
        rw [fillO_put us v ds hnd a 0 i o.dst hdst.symm, Nat.zero_add]
        refine ih (rem.erase i) _ (updO us i v) W' (by rw [List.length_erase_of_mem hir]; omega) (hnodup.erase i) (inv.set hi hin) (fun j hj => ?_) (fun j hj => hlt j (List.mem_of_mem_erase hj)) (hJ _ _ _ W' (fun k => ?_) hj)
        · by_cases hji : i = j
          · subst hji
            have hsz : i < listed.size := by rw [inv.size]; omega
            simp [Array.getD, hsz]
            exact fun h => (hnodup.mem_erase_iff.1 h).1 rfl
          · rw [getD_set_ne true hji, hrem j hj, hnodup.mem_erase_iff]
            exact ⟨fun h => ⟨Ne.symm hji, h⟩, fun h => h.2⟩
        · rw [hnodup.mem_erase_iff]
          constructor
          · rintro (⟨h1, h2⟩ | rfl)
            · exact ⟨h1, fun h => h2 h.2⟩
            · exact ⟨hin, fun h => h.1 rfl⟩
          · rintro ⟨h1, h2⟩
            by_cases hki : k = i
            · exact .inr hki
            · exact .inl ⟨h1, fun h => h2 ⟨hki, h⟩⟩
      unfold wpOp
      rw [ho]
      simp only
      have hgo := hm (fun k => k < n ∧ k ∉ rem) us W hX hdp haf (fun h => h.2 hir) (fillO a ds us 0) (fun j d hj => by
        have := fillO_get us ds hnd a 0 j d hj (hs d (List.mem_of_getElem? hj))
        rwa [Nat.zero_add] at this) (fun d hd => fillO_else us ds a 0 d hd) (wpAny P .any l.toArray Q (f + (l.toArray.size - n)) (listed.setIfInBounds i true)) key Q
      split
      · rename_i hw; rw [if_pos hw] at hgo; exact .inl hgo
      · rename_i hw; rw [if_neg hw] at hgo; exact hgo

/-- THE LAW. -/
theorem wp_region_g {id : Nat} {w : World} (n : Nat) (ds : List (Option Tmp)) (D A : List (List Nat)) (J : (Nat → Prop) → (Nat → Value) → World → Prop) (hm : P.follows .mixedOrders = true) (hB : jB l.toArray n ds D A = true)
    (hd : ∀ d, some d ∈ ds → d < a.tmps.size) (hJ : ∀ p q us W, (∀ k, p k ↔ q k) → J p us W → J q us W) (h0 : ∀ us, J (fun _ => False) us w.drew) (hop : GAllq P l.toArray J D A ds a 0 (l.take n))
    (hend : ∀ us W, J (fun k => k < n) us W → wpList P l.toArray Q (l.drop n) (fillO a ds us 0) W) : (Code.region id l.toArray true).wp P Q a w := by
  refine wp_region_any hm ?_
  have hB' := hB
  simp only [jB, Bool.and_eq_true, decide_eq_true_eq] at hB'
  obtain ⟨⟨⟨⟨⟨⟨hn, hl⟩, hnt⟩, _⟩, _⟩, _⟩, _⟩ := hB'
  have h := g_any hB hd hJ hop hend n (List.range n) (Array.replicate l.toArray.size false) (fun j => a.tmps.getD ((ds.getD j none).getD 0) undef) w.drew (by simp) List.nodup_range
    ⟨by simp, fun j oj _ hl => (by rw [getD_replicate_false] at hl; cases hl), fun t _ ht => getD_in (by simpa using ht) (getD_replicate_false _ _)⟩
    (fun j hj => ⟨fun _ => List.mem_range.2 hj, fun _ => getD_in (by simp at hn ⊢; omega) (getD_replicate_false _ _)⟩) (fun j hj => List.mem_range.1 hj)
    (hJ _ _ _ _ (fun k => by simp) (h0 _))
  rw [fillO_start ds a 0 _ hd (fun i d hi => by simp [List.getD, hi])] at h
  have e : n + (l.toArray.size - n) = l.toArray.size := by omega
  rw [e] at h
  exact h
end

/-- A local struct of a region: its cells are 'zs' until they are stored, then 'vs'. -/
structure Loc (w W : World) (T : TypeId) (zs vs : Array Value) (da dst : Prop) (v : Value) : Prop where
  ptr : da → ∃ g, v = .pointer (some ⟨g, 0, none⟩) ∧ w.heap.size ≤ g ∧ (dst → Blk W g T vs) ∧ (¬ dst → Blk W g T zs)
/-- Two addresses, if both are made, differ. -/
def Far (da db : Prop) (u v : Value) : Prop := da → db → u ≠ v
section
variable {w W W' : World} {T : TypeId} {zs vs : Array Value} {da dst da' dst' : Prop} {v u : Value}
theorem Loc.unmade (h : ¬ da) : Loc w W T zs vs da dst v := ⟨fun h' => absurd h' h⟩
theorem Loc.lt (h : Loc w W T zs vs da dst v) (hd : da) : ∃ g, v = .pointer (some ⟨g, 0, none⟩) ∧ w.heap.size ≤ g ∧ g < W.heap.size := by
  obtain ⟨g, h1, h2, h3, h4⟩ := h.ptr hd
  refine ⟨g, h1, h2, ?_⟩
  by_cases hs : dst
  · exact (h3 hs).lt
  · exact (h4 hs).lt
theorem Loc.far_new (h : Loc w W T zs vs da dst v) (hd : da) : v ≠ .pointer (some ⟨W.heap.size, 0, Option.none⟩) := by
  obtain ⟨g, h1, _, h2⟩ := h.lt hd
  intro e
  rw [h1] at e
  injection e with e
  injection e with e
  injection e with e1
  omega
theorem Loc.stored (h : Loc w W T zs vs da dst v) (hd : da) (hs : ¬ dst) : ∃ g, v = .pointer (some ⟨g, 0, Option.none⟩) ∧ w.heap.size ≤ g ∧ Blk W g T zs := by
  obtain ⟨g, h1, h2, _, h4⟩ := h.ptr hd
  exact ⟨g, h1, h2, h4 hs⟩
theorem Loc.done (h : Loc w W T zs vs da dst v) (hd : da) (hs : dst) : ∃ g, v = .pointer (some ⟨g, 0, Option.none⟩) ∧ w.heap.size ≤ g ∧ Blk W g T vs := by
  obtain ⟨g, h1, h2, h3, _⟩ := h.ptr hd
  exact ⟨g, h1, h2, h3 hs⟩
theorem Loc.same (h : Loc w W T zs vs da dst v) (ha : da' ↔ da) (hs : dst' ↔ dst) : Loc w W T zs vs da' dst' v := by
  have e1 := propext ha
  have e2 := propext hs
  subst e1 e2
  exact h
theorem Loc.ext (h : Loc w W T zs vs da dst v) (hX : Ext W W') : Loc w W' T zs vs da dst v := ⟨fun hd => by
  obtain ⟨g, h1, h2, h3, h4⟩ := h.ptr hd
  exact ⟨g, h1, h2, fun h => (h3 h).ext hX, fun h => (h4 h).ext hX⟩⟩
theorem Loc.new (w W : World) (hw : Ext w W) (hs : ¬ dst) (hX : Ext (W.alloc (.cells zs T)) W') : Loc w W' T zs vs da dst (.pointer (some ⟨W.heap.size, 0, none⟩)) :=
  ⟨fun _ => ⟨_, rfl, hw.size, fun h => absurd h hs, fun _ => (Blk.new W T zs).ext hX⟩⟩
theorem Loc.keep (h : Loc w W T zs vs da dst v) {g : Nat} {f : Far da da' v u} (hu : da') (e : u = .pointer (some ⟨g, 0, none⟩)) {i : Nat} {x : Value} : Loc w (W.setCell ⟨g, i, none⟩ x) T zs vs da dst v := ⟨fun hd => by
  obtain ⟨g', h1, h2, h3, h4⟩ := h.ptr hd
  have hne : g' ≠ g := by
    intro e'
    subst e'
    exact f hd hu (by rw [h1, e])
  exact ⟨g', h1, h2, fun h => (h3 h).far hne _, fun h => (h4 h).far hne _⟩⟩
end
end Go.Proofs.Yteoijnaljkagfaa
namespace Go.Proofs.Yteoijnaljkagfaa
open Go.RowKit

theorem IntZ.past {w : World} {v : Value} {z : Int} {g : Nat} (h : IntZ w v z) (hN : NoInts w g) {b : Bool} {A : Option Addr} {l c : Nat} : IntZ ((w.setCell ⟨g, 0, none⟩ (.bool b)).setCell ⟨g, 1, none⟩ (.slice A l c)) v z := by
  obtain ⟨A', l', c', h1, h2⟩ := h
  exact ⟨A', l', c', h1, h2.two hN _ _ _ _⟩
end Go.Proofs.Yteoijnaljkagfaa
namespace Go.Proofs.Yteoijnaljkagfaa
open Go.RowKit

/-- A place is valid. -/
def okP (p : Int × Int) : Bool := decide (-268435456 ≤ p.1 ∧ p.1 ≤ 268435456 ∧ -268435456 ≤ p.2 ∧ p.2 ≤ 268435456)
def okPs (ps : List (Int × Int)) : Bool := ps.all okP
/-- The block g holds the places. -/
def Pts (w : World) (g : Nat) (ps : List (Int × Int)) : Prop := ∀ j p, ps[j]? = some p → w.cell? ⟨g, j * 2, none⟩ = some (.int .i64 p.1) ∧ w.cell? ⟨g, j * 2 + 1, none⟩ = some (.int .i64 p.2)
theorem Pts.ext {w w' : World} {g : Nat} {ps : List (Int × Int)} (h : Pts w g ps) (he : Ext w w') : Pts w' g ps := fun j p hp => ⟨he.cell (h j p hp).1, he.cell (h j p hp).2⟩

set_option maxHeartbeats 1000000 in
theorem inside_any (g l : Nat) (ps : List (Int × Int)) (w : World) (hl : ps.length = l) (hm : l ≤ 1000000) (h : Pts w g ps) :
    Calls Try.prog 72 #[.slice (some ⟨g, 0, none⟩) l l] w fun e w' => e = .returned (.bool (okPs ps)) ∧ Ext w w' := by
  have HP := Lib.hid h
  have HL := Lib.hid hl
  clear h hl
  go_enter Try.func72, Try.ntmps72
  go_wp2
  go_loopg [7] l (fun g' i wr => ∃ k : Nat, g' = l - k ∧ k ≤ l ∧ i = .int .i64 (k : Int) ∧ Hid (okPs (ps.take k) = true) ∧ Hid (Ext w wr))
  case atStart => exact ⟨0, rfl, by omega, rfl, rfl, Ext.refl _⟩
  case round =>
    obtain ⟨k, rfl, hk, rfl, hok, HX⟩ := hrel
    by_cases hkl : k < l
    · have hkI : (k : Int) < (l : Int) := by omega
      have hk0 : (0 : Int) ≤ (k : Int) := by omega
      obtain ⟨x, y, hp⟩ : ∃ x y, ps[k]? = some (x, y) := ⟨_, _, List.getElem?_eq_getElem (by rw [HL.out]; exact hkl)⟩
      obtain ⟨c1, c2⟩ := HP.out.ext HX.out k _ hp
      simp only at c1 c2
      by_cases hb : okP (x, y) = true
      · have hb' := hb
        simp only [okP, decide_eq_true_eq] at hb'
        obtain ⟨b1, b2, b3, b4⟩ := hb'
        have HOK : Hid (okPs (ps.take (k + 1)) = true) := by
          show _ = _
          rw [List.take_add_one, hp]
          have := hok.out
          simp only [okPs] at this ⊢
          simp [this, hb]
        clear hb hok hp
        go_wp2
        go_roundg (l - (k + 1))
        case rel => exact ⟨k + 1, rfl, by omega, by go_num, HOK, HX.out.alloc _⟩
        case measure => omega
      · have HF : Hid (okPs ps = false) := by
          show _ = _
          simp only [okPs, List.all_eq_false]
          exact ⟨_, List.mem_of_getElem? hp, hb⟩
        have hb' : x < -268435456 ∨ (-268435456 ≤ x ∧ 268435456 < x) ∨ (-268435456 ≤ x ∧ x ≤ 268435456 ∧ y < -268435456) ∨ (-268435456 ≤ x ∧ x ≤ 268435456 ∧ -268435456 ≤ y ∧ 268435456 < y) := by
          simp only [okP, decide_eq_true_eq] at hb; omega
        clear hb hok hp
        rcases hb' with b1 | ⟨b1, b2⟩ | ⟨b1, b2, b3⟩ | ⟨b1, b2, b3, b4⟩
        all_goals
          go_wp2
          go_ret
          exact ⟨by rw [HF.out]; rfl, HX.out.alloc _⟩
    · obtain rfl : k = l := by omega
      have HF : Hid (okPs ps = true) := by
        have := hok.out
        rw [List.take_of_length_le (by rw [HL.out]; exact Nat.le_refl _)] at this
        exact this
      clear hok
      go_wp2
      go_ret
      exact ⟨by rw [HF.out]; rfl, HX.out⟩
end Go.Proofs.Yteoijnaljkagfaa
namespace Go.Proofs.Yteoijnaljkagfaa
open Go.RowKit

/-- Twice the directed area of a triangle. -/
def crossI (a b c : Int × Int) : Int := (b.1 - a.1) * (c.2 - a.2) - (b.2 - a.2) * (c.1 - a.1)
theorem mul_in {x y B C : Int} (hx : -B ≤ x ∧ x ≤ B) (hy : -C ≤ y ∧ y ≤ C) : -(B * C) ≤ x * y ∧ x * y ≤ B * C := by
  have hB : 0 ≤ B := by omega
  have h1 : (x * y).natAbs ≤ (B * C).natAbs := by
    rw [Int.natAbs_mul, Int.natAbs_mul]
    exact Nat.mul_le_mul (by omega) (by omega)
  have h2 : 0 ≤ B * C := Int.mul_nonneg hB (by omega)
  omega
theorem diff_in {x y : Int} (hx : -268435456 ≤ x ∧ x ≤ 268435456) (hy : -268435456 ≤ y ∧ y ≤ 268435456) : -536870912 ≤ x - y ∧ x - y ≤ 536870912 := by omega
theorem okP_in {x y : Int} (h : okP (x, y) = true) : (-268435456 ≤ x ∧ x ≤ 268435456) ∧ (-268435456 ≤ y ∧ y ≤ 268435456) := by
  simp only [okP, decide_eq_true_eq] at h; omega

set_option maxHeartbeats 1000000 in
theorem cross_any (a1 a2 b1 b2 c1 c2 : Int) (w : World) (ha : okP (a1, a2) = true) (hb : okP (b1, b2) = true) (hc : okP (c1, c2) = true) :
    Calls Try.prog 74 #[.agg #[.int .i64 a1, .int .i64 a2], .agg #[.int .i64 b1, .int .i64 b2], .agg #[.int .i64 c1, .int .i64 c2]] w fun e w' => e = .returned (.int .i64 (crossI (a1, a2) (b1, b2) (c1, c2))) ∧ Ext w w' := by
  obtain ⟨ha1, ha2⟩ := okP_in ha
  obtain ⟨hb1, hb2⟩ := okP_in hb
  obtain ⟨hc1, hc2⟩ := okP_in hc
  obtain ⟨p1, p2⟩ := mul_in (diff_in hb1 ha1) (diff_in hc2 ha2)
  obtain ⟨q1, q2⟩ := mul_in (diff_in hb2 ha2) (diff_in hc1 ha1)
  obtain ⟨d1, d1'⟩ := diff_in hb1 ha1
  obtain ⟨d2, d2'⟩ := diff_in hc2 ha2
  obtain ⟨d3, d3'⟩ := diff_in hb2 ha2
  obtain ⟨d4, d4'⟩ := diff_in hc1 ha1
  rw [show (536870912 : Int) * 536870912 = 288230376151711744 by decide] at p1 p2 q1 q2
  clear ha hb hc ha1 ha2 hb1 hb2 hc1 hc2
  go_enter Try.func74, Try.ntmps74
  go_wp2
  go_ret
  exact ⟨rfl, (((Ext.refl w).alloc _).alloc _).alloc _⟩
end Go.Proofs.Yteoijnaljkagfaa
namespace Go.Proofs.Yteoijnaljkagfaa
open Go.RowKit

theorem okPs3 (a b c : Int × Int) : okPs [a, b, c] = true ↔ okP a = true ∧ okP b = true ∧ okP c = true := by simp [okPs]
theorem pts3 {w : World} {g : Nat} {t : TypeId} {a1 a2 b1 b2 c1 c2 : Int} (h : Blk w g t #[.int .i64 a1, .int .i64 a2, .int .i64 b1, .int .i64 b2, .int .i64 c1, .int .i64 c2]) : Pts w g [(a1, a2), (b1, b2), (c1, c2)] := by
  intro j p hp
  rcases j with _ | _ | _ | j
  · obtain rfl : (a1, a2) = p := by simpa using hp
    exact ⟨h.cell 0, h.cell 1⟩
  · obtain rfl : (b1, b2) = p := by simpa using hp
    exact ⟨h.cell 2, h.cell 3⟩
  · obtain rfl : (c1, c2) = p := by simpa using hp
    exact ⟨h.cell 4, h.cell 5⟩
  · simp at hp

/-- What Turn returns. -/
def turnI (a b c : Int × Int) : Int := bif okPs [a, b, c] then sgI (crossI a b c) else 0
def turnE (a b c : Int × Int) : Int := bif okPs [a, b, c] then 0 else 11

set_option maxHeartbeats 1000000 in
theorem turn_any (a1 a2 b1 b2 c1 c2 : Int) (w : World) :
    Calls Try.prog 18 #[.agg #[.int .i64 a1, .int .i64 a2], .agg #[.int .i64 b1, .int .i64 b2], .agg #[.int .i64 c1, .int .i64 c2]] w fun e w' => e = .returned (.tuple #[.int .i64 (turnI (a1, a2) (b1, b2) (c1, c2)), .int .i64 (turnE (a1, a2) (b1, b2) (c1, c2))]) ∧ Ext w w' := by
  obtain ⟨r, hr⟩ : ∃ r, turnI (a1, a2) (b1, b2) (c1, c2) = r := ⟨_, rfl⟩
  obtain ⟨er, her⟩ : ∃ r, turnE (a1, a2) (b1, b2) (c1, c2) = r := ⟨_, rfl⟩
  rw [hr, her]
  have HR := Lib.hid hr
  have HE := Lib.hid her
  clear hr her
  go_enter Try.func18, Try.ntmps18
  go_wp2_with fail
  have hXw : Ext w ((((w.alloc (.cells #[.int .i64 a1, .int .i64 a2] 23)).alloc (.cells #[.int .i64 b1, .int .i64 b2] 23)).alloc (.cells #[.int .i64 c1, .int .i64 c2] 23)).alloc (.cells #[.int .i64 a1, .int .i64 a2, .int .i64 b1, .int .i64 b2, .int .i64 c1, .int .i64 c2] 23)) := ((((Ext.refl w).alloc _).alloc _).alloc _).alloc _
  have k1 := (((Blk.new w 23 #[.int .i64 a1, .int .i64 a2]).alloc (.cells #[.int .i64 b1, .int .i64 b2] 23)).alloc (.cells #[.int .i64 c1, .int .i64 c2] 23)).alloc (.cells #[.int .i64 a1, .int .i64 a2, .int .i64 b1, .int .i64 b2, .int .i64 c1, .int .i64 c2] 23)
  have k2 := ((Blk.new (w.alloc (.cells #[.int .i64 a1, .int .i64 a2] 23)) 23 #[.int .i64 b1, .int .i64 b2]).alloc (.cells #[.int .i64 c1, .int .i64 c2] 23)).alloc (.cells #[.int .i64 a1, .int .i64 a2, .int .i64 b1, .int .i64 b2, .int .i64 c1, .int .i64 c2] 23)
  have k3 := (Blk.new ((w.alloc (.cells #[.int .i64 a1, .int .i64 a2] 23)).alloc (.cells #[.int .i64 b1, .int .i64 b2] 23)) 23 #[.int .i64 c1, .int .i64 c2]).alloc (.cells #[.int .i64 a1, .int .i64 a2, .int .i64 b1, .int .i64 b2, .int .i64 c1, .int .i64 c2] 23)
  have k4 := Blk.new (((w.alloc (.cells #[.int .i64 a1, .int .i64 a2] 23)).alloc (.cells #[.int .i64 b1, .int .i64 b2] 23)).alloc (.cells #[.int .i64 c1, .int .i64 c2] 23)) 23 #[.int .i64 a1, .int .i64 a2, .int .i64 b1, .int .i64 b2, .int .i64 c1, .int .i64 c2]
  have es : ∀ (W : World) (o : Obj), (W.alloc o).heap.size = W.heap.size + 1 := fun W o => by simp
  simp only [es] at k2 k3 k4
  clear es
  generalize ((((w.alloc (.cells #[.int .i64 a1, .int .i64 a2] 23)).alloc (.cells #[.int .i64 b1, .int .i64 b2] 23)).alloc (.cells #[.int .i64 c1, .int .i64 c2] 23)).alloc (.cells #[.int .i64 a1, .int .i64 a2, .int .i64 b1, .int .i64 b2, .int .i64 c1, .int .i64 c2] 23)) = w1 at hXw k1 k2 k3 k4 ⊢
  have HXw := Lib.hid hXw
  have HP := Lib.hid (pts3 k4)
  have K1 := Lib.hid k1
  have K2 := Lib.hid k2
  have K3 := Lib.hid k3
  clear k1 k2 k3 k4 hXw
  refine (inside_any _ 3 _ _ rfl (by omega) HP.out).mono ?_
  rintro e w2 ⟨rfl, hX2⟩
  have x1 := (K1.out.ext hX2).cell 0
  have x2 := (K1.out.ext hX2).cell 1
  have x3 := (K2.out.ext hX2).cell 0
  have x4 := (K2.out.ext hX2).cell 1
  have x5 := (K3.out.ext hX2).cell 0
  have x6 := (K3.out.ext hX2).cell 1
  simp only [List.getElem?_toArray, List.getElem?_cons_zero, List.getElem?_cons_succ] at x1 x2 x3 x4 x5 x6
  have HX2 := Lib.hid (HXw.out.trans hX2)
  clear hX2
  rcases hb : okPs [(a1, a2), (b1, b2), (c1, c2)] with _ | _
  · have hr := HR.out
    have he := HE.out
    simp only [turnI, turnE, hb, cond_false] at hr he
    have H1 := Lib.hid hr
    have H2 := Lib.hid he
    clear hr he hb
    go_wp2
    go_ret2
    exact ⟨by rw [← H1.out, ← H2.out]; rfl, HX2.out⟩
  · have hr := HR.out
    have he := HE.out
    simp only [turnI, turnE, hb, cond_true] at hr he
    have H1 := Lib.hid hr
    have H2 := Lib.hid he
    obtain ⟨o1, o2, o3⟩ := (okPs3 _ _ _).1 hb
    have O1 := Lib.hid o1
    have O2 := Lib.hid o2
    have O3 := Lib.hid o3
    clear hr he hb o1 o2 o3
    go_wp2_with fail
    refine (cross_any a1 a2 b1 b2 c1 c2 _ O1.out O2.out O3.out).mono ?_
    rintro e w3 ⟨rfl, hX3⟩
    have HX3 := Lib.hid (HX2.out.trans hX3)
    clear hX3
    go_wp2_with fail
    refine (isign_any _ _).mono ?_
    rintro e w4 ⟨rfl, rfl⟩
    rw [H1.out]
    go_wp2
    go_ret2
    exact ⟨by rw [← H2.out]; rfl, HX3.out⟩
end Go.Proofs.Yteoijnaljkagfaa
namespace Go.Proofs.Yteoijnaljkagfaa
open Go.RowKit

theorem SmallR.fit {neg : Bool} {xs ys : List Int} (h : SmallR xs ys) : FitQ (ratOf neg xs ys) 256 := fit_red (wD_pos ys) h.1.fit h.den.fit
theorem FitQW.of {q : Rat} (h : FitQ q 256) : FitQW q := ⟨⟨h.1⟩, ⟨h.2⟩⟩
/-- A pair of a value and an error. -/
def RetE (w : World) (v : Value) (n : Int) (e : Ending) (w' : World) : Prop := e = .returned (.tuple #[v, .int .i64 n]) ∧ Ext w w'

set_option maxRecDepth 100000 in
set_option maxHeartbeats 2000000 in
theorem etext_ok (v : Value) (neg : Bool) (xs ys : List Int) (w : World) (h : RatV w v neg xs ys) (hs : SmallR xs ys) :
    Calls Try.prog 37 #[v] w (fun e w' => ∃ b, e = .returned (.tuple #[.string b, .int .i64 0]) ∧ TextB (decide ((ratOf neg xs ys).num < 0)) (ratOf neg xs ys).num.natAbs (ratOf neg xs ys).den b ∧ Ext w w') := by
  have HR := Lib.hid h
  have HS := Lib.hid hs
  clear hs
  obtain ⟨A, l, c, B, m, k, rfl, _⟩ := h
  have hXw : Ext w ((w.alloc (.cells #[.bool neg, .slice A l c, .slice B m k] 33)).alloc (.cells #[.bool neg, .slice A l c, .slice B m k] 33)) := (((Ext.refl w).alloc _).alloc _)
  have hB1 : Blk ((w.alloc (.cells #[.bool neg, .slice A l c, .slice B m k] 33)).alloc (.cells #[.bool neg, .slice A l c, .slice B m k] 33)) w.heap.size 33 #[.bool neg, .slice A l c, .slice B m k] := (Blk.new w _ _).alloc _
  have hB2 : Blk ((w.alloc (.cells #[.bool neg, .slice A l c, .slice B m k] 33)).alloc (.cells #[.bool neg, .slice A l c, .slice B m k] 33)) (w.heap.size + 1) 33 #[.bool neg, .slice A l c, .slice B m k] := by
    have := Blk.new (w.alloc (.cells #[.bool neg, .slice A l c, .slice B m k] 33)) 33 #[.bool neg, .slice A l c, .slice B m k]
    simpa using this
  go_enter Try.func37, Try.ntmps37
  go_wp2_with fail
  generalize ((w.alloc (.cells #[.bool neg, .slice A l c, .slice B m k] 33)).alloc (.cells #[.bool neg, .slice A l c, .slice B m k] 33)) = w1 at hXw hB1 hB2 ⊢
  refine (anyLarge_one false _ _ neg A B l c m k xs ys _ hB2 (HR.out.ext hXw) (by simp [HS.out])).mono ?_
  rintro e w2 ⟨rfl, hX2⟩
  obtain ⟨x0, x1, x2, _, _, _⟩ := (hB1.ext hX2).three
  have HX2 := Lib.hid (hXw.trans hX2)
  have HX12 := Lib.hid hX2
  clear hXw hB1 hB2 hX2
  go_wp2_with fail
  refine (of_any _ neg xs ys 256 _ (HR.out.ext HX2.out) HS.out.1.fit HS.out.den.fit (by omega)).mono ?_
  rintro e w3 ⟨v3, rfl, hv3, hX3⟩
  obtain ⟨A3, l3, c3, B3, m3, k3, rfl, _⟩ := NumV.open hv3
  have HV3 := Lib.hid (NumQ.numx hv3 HS.out.fit)
  have HQ3 := Lib.hid hv3
  have HX3 := Lib.hid (HX2.out.trans hX3)
  clear hX3 hv3 x0 x1 x2
  go_wp2_with fail
  refine (rtext_any _ _ _ _ 256 _ HQ3.out (ratOf neg xs ys).den_pos HS.out.fit.1 HS.out.fit.2 (by omega)).mono ?_
  rintro e w4 ⟨b, rfl, hb, hX4⟩
  have HX4 := Lib.hid (HX3.out.trans hX4)
  have HB := Lib.hid hb
  clear hX4 hb
  go_wp2
  go_ret2
  exact ⟨_, rfl, HB.out, HX4.out⟩

set_option maxRecDepth 100000 in
set_option maxHeartbeats 2000000 in
theorem eceil_ok (v : Value) (neg : Bool) (xs ys : List Int) (w : World) (h : RatV w v neg xs ys) (hs : SmallR xs ys) (h0 : -1152921504606846976 ≤ (-(ratOf neg xs ys)).floor) (h1 : (-(ratOf neg xs ys)).floor ≤ 1152921504606846976) :
    Calls Try.prog 29 #[v] w (RetE w (.int .i64 (-(-(ratOf neg xs ys)).floor)) 0) := by
  have HR := Lib.hid h
  have HS := Lib.hid hs
  clear hs
  obtain ⟨A, l, c, B, m, k, rfl, _⟩ := h
  have hXw : Ext w ((w.alloc (.cells #[.bool neg, .slice A l c, .slice B m k] 33)).alloc (.cells #[.bool neg, .slice A l c, .slice B m k] 33)) := (((Ext.refl w).alloc _).alloc _)
  have hB1 : Blk ((w.alloc (.cells #[.bool neg, .slice A l c, .slice B m k] 33)).alloc (.cells #[.bool neg, .slice A l c, .slice B m k] 33)) w.heap.size 33 #[.bool neg, .slice A l c, .slice B m k] := (Blk.new w _ _).alloc _
  have hB2 : Blk ((w.alloc (.cells #[.bool neg, .slice A l c, .slice B m k] 33)).alloc (.cells #[.bool neg, .slice A l c, .slice B m k] 33)) (w.heap.size + 1) 33 #[.bool neg, .slice A l c, .slice B m k] := by
    have := Blk.new (w.alloc (.cells #[.bool neg, .slice A l c, .slice B m k] 33)) 33 #[.bool neg, .slice A l c, .slice B m k]
    simpa using this
  go_enter Try.func29, Try.ntmps29
  go_wp2_with fail
  generalize ((w.alloc (.cells #[.bool neg, .slice A l c, .slice B m k] 33)).alloc (.cells #[.bool neg, .slice A l c, .slice B m k] 33)) = w1 at hXw hB1 hB2 ⊢
  refine (anyLarge_one false _ _ neg A B l c m k xs ys _ hB2 (HR.out.ext hXw) (by simp [HS.out])).mono ?_
  rintro e w2 ⟨rfl, hX2⟩
  obtain ⟨x0, x1, x2, _, _, _⟩ := (hB1.ext hX2).three
  have HX2 := Lib.hid (hXw.trans hX2)
  have HX12 := Lib.hid hX2
  clear hXw hB1 hB2 hX2
  go_wp2_with fail
  refine (of_any _ neg xs ys 256 _ (HR.out.ext HX2.out) HS.out.1.fit HS.out.den.fit (by omega)).mono ?_
  rintro e w3 ⟨v3, rfl, hv3, hX3⟩
  obtain ⟨A3, l3, c3, B3, m3, k3, rfl, _⟩ := NumV.open hv3
  have HV3 := Lib.hid (NumQ.numx hv3 HS.out.fit)
  have HQ3 := Lib.hid hv3
  have HX3 := Lib.hid (HX2.out.trans hX3)
  clear hX3 hv3 x0 x1 x2
  go_wp2_with fail
  refine (negX HV3.out).mono ?_
  rintro e w4 ⟨v4, rfl, hv4, hX4⟩
  obtain ⟨s4, A4, l4, c4, B4, m4, k4, rfl⟩ := hv4.open
  have HV4 := Lib.hid hv4
  have HX4 := Lib.hid (HX3.out.trans hX4)
  clear hX4 hv4
  go_wp2_with fail
  refine (xfloor_ok _ _ 256 _ HV4.out (by omega) h0 h1).mono ?_
  rintro e w5 ⟨rfl, hX5⟩
  have HX5 := Lib.hid (HX4.out.trans hX5)
  clear hX5
  generalize hf : (-(ratOf neg xs ys)).floor = f at h0 h1 ⊢
  have HF := Lib.hid hf
  clear hf
  go_wp2
  go_ret2
  exact ⟨by rw [HF.out]; rfl, HX5.out⟩

end Go.Proofs.Yteoijnaljkagfaa
namespace Go.Proofs.Yteoijnaljkagfaa
open Go.RowKit

theorem RatC.past {w : World} {v : Value} {q : Rat} {g : Nat} (h : RatC w v q) (hN : NoInts w g) (b : Bool) (A1 A2 : Option Addr) (l1 c1 l2 c2 : Nat) :
    RatC (((w.setCell ⟨g, 0, none⟩ (.bool b)).setCell ⟨g, 1, none⟩ (.slice A1 l1 c1)).setCell ⟨g, 2, none⟩ (.slice A2 l2 c2)) v q := by
  obtain ⟨xs, ys, ⟨A, l, c, B, m, k, rfl, h1, h2, h3, h4, h5, h6⟩, hx, hy⟩ := h
  refine ⟨xs, ys, ⟨A, l, c, B, m, k, rfl, ?_, h2, h3, ?_, h5, h6⟩, hx, hy⟩
  · exact ((h1.past hN.cell 0 _).past (hN.set 0 (noInt_bool _)).cell 1 _).past ((hN.set 0 (noInt_bool _)).set 1 (noInt_slice _ _ _)).cell 2 _
  · exact ((h4.past hN.cell 0 _).past (hN.set 0 (noInt_bool _)).cell 1 _).past ((hN.set 0 (noInt_bool _)).set 1 (noInt_slice _ _ _)).cell 2 _
theorem RatC.open {w : World} {v : Value} {q : Rat} (h : RatC w v q) : ∃ s A l c B m k, v = .agg #[.bool s, .slice A l c, .slice B m k] := by
  obtain ⟨xs, ys, ⟨A, l, c, B, m, k, rfl, _⟩, _⟩ := h
  exact ⟨_, _, _, _, _, _, _, rfl⟩
theorem FitQW.of4 {q : Rat} {L : Nat} (h : FitQ q L) (hl : L ≤ 256) : FitQW q := FitQW.of (h.mono hl)
set_option maxRecDepth 100000 in
set_option maxHeartbeats 2000000 in
theorem eratio_ok (a b : Int) (w : World) (h0 : -9223372036854775808 ≤ a) (h1 : a ≤ 9223372036854775807) (h2 : -9223372036854775808 ≤ b) (h3 : b ≤ 9223372036854775807) (hb : b ≠ 0) :
    Calls Try.prog 22 #[.int .i64 a, .int .i64 b] w (RetC w ((a : Rat) / (b : Rat))) := by
  have hXw : Ext w (w.alloc (.cells #[.bool false, .slice none 0 0, .slice none 0 0] 33)) := (Ext.refl w).alloc _
  have hBR : Blk (w.alloc (.cells #[.bool false, .slice none 0 0, .slice none 0 0] 33)) w.heap.size 33 #[.bool false, .slice none 0 0, .slice none 0 0] := Blk.new w _ _
  have hbq : ((b : Int) : Rat) ≠ 0 := by simpa using hb
  have HBQ := Lib.hid hbq
  have hb' : (b == 0) = false := by simpa using hb
  go_enter Try.func22, Try.ntmps22
  go_wp2_with fail
  generalize (w.alloc (.cells #[.bool false, .slice none 0 0, .slice none 0 0] 33)) = w1 at hXw hBR ⊢
  refine (intX a _ h0 h1).mono ?_
  rintro e w2 ⟨v2, rfl, hv2, hX2⟩
  obtain ⟨s2, A2, l2, c2, B2, m2, k2, rfl⟩ := hv2.open
  have HV2 := Lib.hid hv2
  have HX2 := Lib.hid (hXw.trans hX2)
  have HB2 := Lib.hid (hBR.ext hX2)
  clear hXw hBR hX2 hv2 hb' hbq hb
  go_wp2_with fail
  refine (intX b _ h2 h3).mono ?_
  rintro e w3 ⟨v3, rfl, hv3, hX3⟩
  obtain ⟨s3, A3, l3, c3, B3, m3, k3, rfl⟩ := hv3.open
  have HV3 := Lib.hid hv3
  have HV2' := Lib.hid (HV2.out.ext hX3)
  have HX3 := Lib.hid (HX2.out.trans hX3)
  have HB3 := Lib.hid (HB2.out.ext hX3)
  clear hX3 hv3
  go_wp2_with fail
  refine (divX HV2'.out HV3.out HBQ.out (by omega) (by omega)).mono ?_
  rintro e w4 ⟨v4, rfl, hv4, hX4⟩
  obtain ⟨s4, A4, l4, c4, B4, m4, k4, rfl⟩ := hv4.open
  have HV4 := Lib.hid hv4
  have HX4 := Lib.hid (HX3.out.trans hX4)
  have HB4 := Lib.hid (HB3.out.ext hX4)
  clear hX4 hv4
  go_wp2_with fail
  refine (done_ok _ _ 4 _ HV4.out (by omega) (FitQW.of4 HV4.out.fit (by omega))).mono ?_
  rintro e w5 ⟨v5, rfl, hv5, hX5⟩
  obtain ⟨s5, A5, l5, c5, B5, m5, k5, rfl⟩ := hv5.open
  have HX5 := Lib.hid (HX4.out.trans hX5)
  have hB5 := HB4.out.ext hX5
  obtain ⟨r0, r1, r2, g0, g1, g2⟩ := hB5.three
  have HV6 := Lib.hid (hv5.past (NoInts.three hB5) s5 A5 B5 l5 c5 m5 k5)
  clear hX5 hv5 hB5
  go_wp2
  refine bodyPost_ret (v := .tuple #[.agg #[.bool s5, .slice A5 l5 c5, .slice B5 m5 k5], .int .i64 0]) (by simp [results, Try.results22, go_sem, *]) rfl ?_
  exact ⟨_, rfl, HV6.out, Ext.boxed HX5.out (Nat.le_refl _) _ _ _⟩

end Go.Proofs.Yteoijnaljkagfaa
namespace Go.Proofs.Yteoijnaljkagfaa
open Go.RowKit

/-- A value that denotes a number and is not large. -/
def RatG (w : World) (v : Value) (q : Rat) : Prop := ∃ neg xs ys, RatV w v neg xs ys ∧ SmallR xs ys ∧ ratOf neg xs ys = q
theorem RatG.ext {w w' : World} {v : Value} {q : Rat} (h : RatG w v q) (he : Ext w w') : RatG w' v q := by
  obtain ⟨neg, xs, ys, h1, h2, h3⟩ := h
  exact ⟨neg, xs, ys, h1.ext he, h2, h3⟩
theorem RatG.fit {w : World} {v : Value} {q : Rat} (h : RatG w v q) : FitQ q 256 := by
  obtain ⟨neg, xs, ys, h1, h2, rfl⟩ := h
  exact h2.fit
theorem Rep.wN {xs : List Int} {n : Nat} (h : Rep 4294967296 xs n) : wN xs = n := by
  have := h.2.2
  unfold Go.Proofs.Yteoijnaljkagfaa.wN; omega
theorem RatC.good {w : World} {v : Value} {q : Rat} (h : RatC w v q) (hf : FitQW q) : RatG w v q := by
  obtain ⟨xs, ys, h1, h2, h3⟩ := h
  have e1 := h2.wN
  have e2 : wD ys = q.den ∧ FitW (wN ys) := by
    rcases h3 with ⟨hd, rfl⟩ | ⟨hd, hr⟩
    · have : wN [] = 0 := by simp [wN, val]
      refine ⟨by unfold wD; rw [this, hd]; rfl, ?_⟩
      rw [this]; exact ⟨Fit.zero (by omega)⟩
    · have e := hr.wN
      have := q.den_pos
      refine ⟨by unfold wD; rw [e, if_neg (by omega)], ?_⟩
      rw [e]; exact hf.den
  refine ⟨_, xs, ys, h1, ⟨by rw [e1]; exact hf.num, e2.2⟩, ?_⟩
  unfold ratOf
  rw [e1, e2.1, ratV_self]
theorem RatG.open {w : World} {v : Value} {q : Rat} (h : RatG w v q) : ∃ s A l c B m k, v = .agg #[.bool s, .slice A l c, .slice B m k] := by
  obtain ⟨neg, xs, ys, ⟨A, l, c, B, m, k, rfl, _⟩, _⟩ := h
  exact ⟨_, _, _, _, _, _, _, rfl⟩

section
variable {w : World} {v : Value} {q : Rat}
theorem textG (h : RatG w v q) : Calls Try.prog 37 #[v] w (fun e w' => ∃ b, e = .returned (.tuple #[.string b, .int .i64 0]) ∧ TextB (decide (q.num < 0)) q.num.natAbs q.den b ∧ Ext w w') := by
  obtain ⟨neg, xs, ys, h1, h2, rfl⟩ := h
  exact etext_ok v neg xs ys w h1 h2
theorem ceilG (h : RatG w v q) (h0 : -1152921504606846976 ≤ (-q).floor) (h1 : (-q).floor ≤ 1152921504606846976) : Calls Try.prog 29 #[v] w (RetE w (.int .i64 (-(-q).floor)) 0) := by
  obtain ⟨neg, xs, ys, k1, k2, rfl⟩ := h
  exact eceil_ok v neg xs ys w k1 k2 h0 h1
end

theorem q46 : (((4 : Int) : Rat) / ((6 : Int) : Rat)).num = 2 ∧ (((4 : Int) : Rat) / ((6 : Int) : Rat)).den = 3 := by decide +kernel
theorem q46_fl : (-(((4 : Int) : Rat) / ((6 : Int) : Rat))).floor = -1 := by decide +kernel
theorem q46_fit : FitQW (((4 : Int) : Rat) / ((6 : Int) : Rat)) := by
  refine ⟨⟨?_⟩, ⟨?_⟩⟩
  · rw [q46.1]; exact (show Fit 4294967296 2 1 by unfold Fit; omega).mono (by omega) (by omega)
  · rw [q46.2]; exact (show Fit 4294967296 3 1 by unfold Fit; omega).mono (by omega) (by omega)
theorem dec_digit (n : Nat) (h0 : 0 < n) (h1 : n < 10) : Dec n [48 + (n : Int)] := .inr ⟨by omega, [(n : Int)], Rep.small (B := 10) (x := (n : Int)) (by omega) (by omega), rfl⟩
theorem q46_text {b : ByteArray} (h : TextB false 2 3 b) : b = ⟨#[50, 47, 51]⟩ :=
  h.unique ⟨[50], [51], dec_digit 2 (by omega) (by omega), dec_digit 3 (by omega) (by omega), by decide +kernel⟩

set_option maxRecDepth 100000 in
set_option maxHeartbeats 2000000 in
theorem first_any (w : World) : Calls Try.prog 20 #[] w fun e w' => e = .returned (.bool true) ∧ Ext w w' := by
  go_enter Try.func20, Try.ntmps20
  go_wp2_with fail
  refine (eratio_ok 4 6 _ (by omega) (by omega) (by omega) (by omega) (by omega)).mono ?_
  rintro e w1 ⟨v1, rfl, hv1, hX1⟩
  have hg := hv1.good q46_fit
  obtain ⟨s, A, l, c, B, m, k, rfl⟩ := hg.open
  have hXa : Ext w1 (w1.alloc (.cells #[.bool s, .slice A l c, .slice B m k] 33)) := (Ext.refl w1).alloc _
  have HX2 := Lib.hid (hX1.trans hXa)
  have HG := Lib.hid (hg.ext hXa)
  have HB := Lib.hid (Blk.new w1 33 #[.bool s, .slice A l c, .slice B m k])
  clear hX1 hv1 hg hXa
  go_upto_region 2 with (fail)
  generalize w1.alloc (.cells #[.bool s, .slice A l c, .slice B m k] 33) = w2 at HX2 HB HG ⊢
  obtain ⟨x0, x1, x2, _, _, _⟩ := HB.out.three
  go_wp2_with fail
  refine (textG HG.out).mono ?_
  rintro e w3 ⟨b, rfl, hb, hX3⟩
  rw [q46.1, q46.2] at hb
  obtain rfl := q46_text hb
  have HX3 := Lib.hid (HX2.out.trans hX3)
  have HG3 := Lib.hid (HG.out.ext hX3)
  have HB3 := Lib.hid (HB.out.ext hX3)
  clear hX3 hb x0 x1 x2
  obtain ⟨x0, x1, x2, _, _, _⟩ := HB3.out.three
  go_wp2_with fail
  refine (ceilG HG3.out (by rw [q46_fl]; omega) (by rw [q46_fl]; omega)).mono ?_
  rw [q46_fl]
  rintro e w4 ⟨rfl, hX4⟩
  have HX4 := Lib.hid (HX3.out.trans hX4)
  clear hX4
  go_wp2_with fail
  refine (turn_any 0 0 1 0 0 1 _).mono ?_
  rw [show turnI (0, 0) (1, 0) (0, 1) = 1 by decide, show turnE (0, 0) (1, 0) (0, 1) = 0 by decide]
  rintro e w5 ⟨rfl, hX5⟩
  have HX5 := Lib.hid (HX4.out.trans hX5)
  clear hX5
  go_wp2
  go_ret
  exact ⟨rfl, HX5.out⟩
end Go.Proofs.Yteoijnaljkagfaa
namespace Go.Proofs.Yteoijnaljkagfaa
open Go.RowKit

/-- A value that denotes a number, and whether it is large. -/
def RatL (w : World) (v : Value) (big : Bool) : Prop := ∃ neg xs ys, RatV w v neg xs ys ∧ (big = true ↔ ¬ SmallR xs ys)
theorem RatL.ext {w w' : World} {v : Value} {b : Bool} (h : RatL w v b) (he : Ext w w') : RatL w' v b := by
  obtain ⟨neg, xs, ys, h1, h2⟩ := h
  exact ⟨neg, xs, ys, h1.ext he, h2⟩
theorem RatG.small {w : World} {v : Value} {q : Rat} (h : RatG w v q) : RatL w v false := by
  obtain ⟨neg, xs, ys, h1, h2, _⟩ := h
  exact ⟨neg, xs, ys, h1, by simp [h2]⟩
theorem RatL.is {w : World} {v : Value} {b : Bool} (h : RatL w v b) : Calls Try.prog 116 #[v] w fun e w' => e = .returned (.bool b) ∧ Ext w w' := by
  obtain ⟨neg, xs, ys, h1, h2⟩ := h
  exact large_is b v neg xs ys w h1 h2
theorem RatV.cases {w : World} {v : Value} {neg : Bool} {xs ys : List Int} (h : RatV w v neg xs ys) : RatL w v true ∨ (RatL w v false ∧ RatG w v (ratOf neg xs ys)) := by
  by_cases hs : SmallR xs ys
  · exact .inr ⟨⟨neg, xs, ys, h, by simp [hs]⟩, ⟨neg, xs, ys, h, hs, rfl⟩⟩
  · exact .inl ⟨neg, xs, ys, h, by simp [hs]⟩

end Go.Proofs.Yteoijnaljkagfaa
namespace Go.Proofs.Yteoijnaljkagfaa
open Go.RowKit

theorem pow_double (m : Nat) : (65536 : Int) ^ (2 * m) = 4294967296 ^ m := by rw [Int.pow_mul]; rfl
theorem fit_double {n L : Nat} : Fit 65536 n (2 * L) ↔ Fit 4294967296 n L := by unfold Fit; rw [pow_double]
theorem fitR_double {q : Rat} {L : Nat} (h : FitQ q L) : FitR q (2 * L) := ⟨fit_double.2 h.1, fit_double.2 h.2⟩
end Go.Proofs.Yteoijnaljkagfaa
namespace Go.Proofs.Yteoijnaljkagfaa
open Go.RowKit

/-- Some numbers in a block. -/
def RatsAt (w : World) (g n : Nat) : Prop := ∀ j, j < n → ∃ A l c xs B m k ys, w.cell? ⟨g, j * 3 + 1, none⟩ = some (.slice A l c) ∧ w.cell? ⟨g, j * 3 + 2, none⟩ = some (.slice B m k) ∧ Ints .u32 w A l xs ∧ Ints .u32 w B m ys ∧ l ≤ 9223372036854775807 ∧ m ≤ 9223372036854775807
theorem RatsAt.ext {w w' : World} {g n : Nat} (h : RatsAt w g n) (he : Ext w w') : RatsAt w' g n := fun j hj => by
  obtain ⟨A, l, c, xs, B, m, k, ys, h1, h2, h3, h4, h5⟩ := h j hj
  exact ⟨A, l, c, xs, B, m, k, ys, he.cell h1, he.cell h2, h3.ext he, h4.ext he, h5⟩


end Go.Proofs.Yteoijnaljkagfaa
namespace Go.Proofs.Yteoijnaljkagfaa
open Go.RowKit

theorem place_cases (x y : Int) : (okP (x, y) = true ∧ -268435456 ≤ x ∧ x ≤ 268435456 ∧ -268435456 ≤ y ∧ y ≤ 268435456) ∨ (okP (x, y) = false ∧ (x < -268435456 ∨ (-268435456 ≤ x ∧ 268435456 < x) ∨ (-268435456 ≤ x ∧ x ≤ 268435456 ∧ y < -268435456) ∨ (-268435456 ≤ x ∧ x ≤ 268435456 ∧ -268435456 ≤ y ∧ 268435456 < y))) := by
  by_cases hb : okP (x, y) = true
  · have hb' := hb
    simp only [okP, decide_eq_true_eq] at hb'
    exact .inl ⟨hb, hb'⟩
  · refine .inr ⟨by simpa using hb, ?_⟩
    simp only [okP, decide_eq_true_eq] at hb; omega

set_option maxHeartbeats 1000000 in
theorem place_any (x y : Int) (w : World) : Calls Try.prog 19 #[.agg #[.int .i64 x, .int .i64 y]] w fun e w' => e = .returned (.bool (okP (x, y))) ∧ Ext w w' := by
  have HX := Lib.hid ((Ext.refl w).alloc (.cells #[.int .i64 x, .int .i64 y] 23))
  rcases place_cases x y with ⟨hb, b1, b2, b3, b4⟩ | ⟨hb, b1 | ⟨b1, b2⟩ | ⟨b1, b2, b3⟩ | ⟨b1, b2, b3, b4⟩⟩
  all_goals
    rw [hb]
    clear hb
    go_enter Try.func19, Try.ntmps19
    go_wp2
    go_ret
    refine ⟨?_, HX.out⟩
    first
    | rfl
    | (show Ending.returned (.bool (decide (y ≤ 268435456))) = Ending.returned (.bool false); rw [decide_eq_false (by omega)])

set_option maxHeartbeats 1000000 in
theorem rturn_any (a1 a2 b1 b2 c1 c2 : Int) (w : World) (ha : okP (a1, a2) = true) (hb : okP (b1, b2) = true) (hc : okP (c1, c2) = true) :
    Calls Try.prog 21 #[.agg #[.int .i64 a1, .int .i64 a2], .agg #[.int .i64 b1, .int .i64 b2], .agg #[.int .i64 c1, .int .i64 c2]] w fun e w' => e = .returned (.int .i64 (sgI (crossI (a1, a2) (b1, b2) (c1, c2)))) ∧ Ext w w' := by
  obtain ⟨ha1, ha2⟩ := okP_in ha
  obtain ⟨hb1, hb2⟩ := okP_in hb
  obtain ⟨hc1, hc2⟩ := okP_in hc
  obtain ⟨p1, p2⟩ := mul_in (diff_in hb1 ha1) (diff_in hc2 ha2)
  obtain ⟨q1, q2⟩ := mul_in (diff_in hb2 ha2) (diff_in hc1 ha1)
  obtain ⟨d1, d1'⟩ := diff_in hb1 ha1
  obtain ⟨d2, d2'⟩ := diff_in hc2 ha2
  obtain ⟨d3, d3'⟩ := diff_in hb2 ha2
  obtain ⟨d4, d4'⟩ := diff_in hc1 ha1
  rw [show (536870912 : Int) * 536870912 = 288230376151711744 by decide] at p1 p2 q1 q2
  clear ha hb hc ha1 ha2 hb1 hb2 hc1 hc2
  have HX := Lib.hid ((((Ext.refl w).alloc (.cells #[.int .i64 a1, .int .i64 a2] 23)).alloc (.cells #[.int .i64 b1, .int .i64 b2] 23)).alloc (.cells #[.int .i64 c1, .int .i64 c2] 23))
  obtain ⟨N, hN⟩ : ∃ N, crossI (a1, a2) (b1, b2) (c1, c2) = N := ⟨_, rfl⟩
  have e : (b1 - a1) * (c2 - a2) - (b2 - a2) * (c1 - a1) = N := hN
  rw [hN]
  clear hN
  by_cases h1 : N < 0
  · rw [show sgI N = -1 by simp [sgI, h1]]
    rw [← e] at h1
    clear e
    go_enter Try.func21, Try.ntmps21
    go_wp2
    go_ret
    exact ⟨rfl, HX.out⟩
  · by_cases h2 : 0 < N
    · rw [show sgI N = 1 by simp [sgI, h1, h2]]
      rw [← e] at h1 h2
      clear e
      go_enter Try.func21, Try.ntmps21
      go_wp2
      go_ret
      exact ⟨rfl, HX.out⟩
    · rw [show sgI N = 0 by simp [sgI, h1, h2]]
      rw [← e] at h1 h2
      clear e
      go_enter Try.func21, Try.ntmps21
      go_wp2
      go_ret
      exact ⟨rfl, HX.out⟩
end Go.Proofs.Yteoijnaljkagfaa
namespace Go.Proofs.Yteoijnaljkagfaa
open Go.RowKit

theorem fitQ_int {n : Int} {L : Nat} (h : Fit 4294967296 n.natAbs L) (hL : 0 < L) : FitQ ((n : Int) : Rat) L := by
  refine ⟨by rw [Rat.num_intCast]; exact h, ?_⟩
  rw [Rat.den_intCast]
  exact Fit.one (by omega) hL
theorem fitQ_small {n : Int} (h0 : -9223372036854775808 ≤ n) (h1 : n ≤ 9223372036854775807) : FitQ ((n : Int) : Rat) 2 := by
  refine fitQ_int ?_ (by omega)
  unfold Fit
  have : (4294967296 : Int) ^ 2 = 18446744073709551616 := by decide
  omega
end Go.Proofs.Yteoijnaljkagfaa
namespace Go.Proofs.Yteoijnaljkagfaa
open Go.RowKit

theorem fitR_small {n : Int} (h0 : -9223372036854775808 ≤ n) (h1 : n ≤ 9223372036854775807) : FitR ((n : Int) : Rat) 4 := by
  have h := fitR_double (fitQ_small h0 h1)
  rw [show 2 * 2 = 4 from rfl] at h
  exact h
end Go.Proofs.Yteoijnaljkagfaa
namespace Go.Proofs.Yteoijnaljkagfaa
open Go.RowKit

/-- The square of the distance of two places. -/
def liftI (p d : Int × Int) : Int := (p.1 - d.1) * (p.1 - d.1) + (p.2 - d.2) * (p.2 - d.2)
/-- What Circle computes. -/
def detI (a b c d : Int × Int) : Int := liftI a d * crossI d b c + liftI b d * crossI d c a + liftI c d * crossI d a b
def circI (a b c d : Int × Int) : Int := sgI (crossI a b c) * sgI (detI a b c d)
theorem sgnQ_int (n : Int) : sgnQ ((n : Int) : Rat) = sgI n := by
  unfold sgnQ sgI
  simp only [Rat.num_intCast]
  by_cases h : n < 0
  · simp [h]
  · by_cases h2 : n = 0
    · simp [h2]
    · have : 0 < n := by omega
      simp [h, h2, this]
theorem detI_rat (a b c d : Int × Int) : ((liftI a d : Int) : Rat) * ((crossI d b c : Int) : Rat) + ((liftI b d : Int) : Rat) * ((crossI d c a : Int) : Rat) + ((liftI c d : Int) : Rat) * ((crossI d a b : Int) : Rat) = ((detI a b c d : Int) : Rat) := by
  unfold detI
  simp only [Rat.intCast_add, Rat.intCast_mul]
theorem lift_in {p1 p2 d1 d2 : Int} (hp : okP (p1, p2) = true) (hd : okP (d1, d2) = true) : -9223372036854775808 ≤ liftI (p1, p2) (d1, d2) ∧ liftI (p1, p2) (d1, d2) ≤ 9223372036854775807 := by
  obtain ⟨ha1, ha2⟩ := okP_in hp
  obtain ⟨hb1, hb2⟩ := okP_in hd
  obtain ⟨p1, p2⟩ := mul_in (diff_in ha1 hb1) (diff_in ha1 hb1)
  obtain ⟨q1, q2⟩ := mul_in (diff_in ha2 hb2) (diff_in ha2 hb2)
  rw [show (536870912 : Int) * 536870912 = 288230376151711744 by decide] at p1 p2 q1 q2
  unfold liftI
  simp only
  omega
theorem cross_in {a1 a2 b1 b2 c1 c2 : Int} (ha : okP (a1, a2) = true) (hb : okP (b1, b2) = true) (hc : okP (c1, c2) = true) : -9223372036854775808 ≤ crossI (a1, a2) (b1, b2) (c1, c2) ∧ crossI (a1, a2) (b1, b2) (c1, c2) ≤ 9223372036854775807 := by
  obtain ⟨ha1, ha2⟩ := okP_in ha
  obtain ⟨hb1, hb2⟩ := okP_in hb
  obtain ⟨hc1, hc2⟩ := okP_in hc
  obtain ⟨p1, p2⟩ := mul_in (diff_in hb1 ha1) (diff_in hc2 ha2)
  obtain ⟨q1, q2⟩ := mul_in (diff_in hb2 ha2) (diff_in hc1 ha1)
  rw [show (536870912 : Int) * 536870912 = 288230376151711744 by decide] at p1 p2 q1 q2
  unfold crossI
  simp only
  omega
theorem okPs4 (a b c d : Int × Int) : okPs [a, b, c, d] = true ↔ okP a = true ∧ okP b = true ∧ okP c = true ∧ okP d = true := by simp [okPs]
theorem pts4 {w : World} {g : Nat} {t : TypeId} {a1 a2 b1 b2 c1 c2 d1 d2 : Int} (h : Blk w g t #[.int .i64 a1, .int .i64 a2, .int .i64 b1, .int .i64 b2, .int .i64 c1, .int .i64 c2, .int .i64 d1, .int .i64 d2]) : Pts w g [(a1, a2), (b1, b2), (c1, c2), (d1, d2)] := by
  intro j p hp
  rcases j with _ | _ | _ | _ | j
  · obtain rfl : (a1, a2) = p := by simpa using hp
    exact ⟨h.cell 0, h.cell 1⟩
  · obtain rfl : (b1, b2) = p := by simpa using hp
    exact ⟨h.cell 2, h.cell 3⟩
  · obtain rfl : (c1, c2) = p := by simpa using hp
    exact ⟨h.cell 4, h.cell 5⟩
  · obtain rfl : (d1, d2) = p := by simpa using hp
    exact ⟨h.cell 6, h.cell 7⟩
  · simp at hp

set_option maxRecDepth 100000 in
set_option maxHeartbeats 2000000 in
theorem lift_any (p1 p2 d1 d2 : Int) (w : World) (hp : okP (p1, p2) = true) (hd : okP (d1, d2) = true) :
    Calls Try.prog 97 #[.agg #[.int .i64 p1, .int .i64 p2], .agg #[.int .i64 d1, .int .i64 d2]] w (fun e w' => e = .returned (.int .i64 (liftI (p1, p2) (d1, d2))) ∧ Ext w w') := by
  obtain ⟨ha1, ha2⟩ := okP_in hp
  obtain ⟨hb1, hb2⟩ := okP_in hd
  obtain ⟨x1, x2⟩ := mul_in (diff_in ha1 hb1) (diff_in ha1 hb1)
  obtain ⟨q1, q2⟩ := mul_in (diff_in ha2 hb2) (diff_in ha2 hb2)
  rw [show (536870912 : Int) * 536870912 = 288230376151711744 by decide] at x1 x2 q1 q2
  obtain ⟨e1, e2⟩ := diff_in ha1 hb1
  obtain ⟨e3, e4⟩ := diff_in ha2 hb2
  clear ha1 ha2 hb1 hb2 hp hd
  have hXe : Ext w ((w.alloc (.cells #[.int .i64 p1, .int .i64 p2] 23)).alloc (.cells #[.int .i64 d1, .int .i64 d2] 23)) := (((Ext.refl w).alloc _).alloc _)
  have kP : Blk ((w.alloc (.cells #[.int .i64 p1, .int .i64 p2] 23)).alloc (.cells #[.int .i64 d1, .int .i64 d2] 23)) w.heap.size 23 #[.int .i64 p1, .int .i64 p2] := Blk.alloc (Blk.at_ (by simp)) _
  have kD : Blk ((w.alloc (.cells #[.int .i64 p1, .int .i64 p2] 23)).alloc (.cells #[.int .i64 d1, .int .i64 d2] 23)) (w.heap.size + 1) 23 #[.int .i64 d1, .int .i64 d2] := Blk.at_ (by simp)
  go_enter Try.func97, Try.ntmps97
  go_wp2_with fail
  generalize ((w.alloc (.cells #[.int .i64 p1, .int .i64 p2] 23)).alloc (.cells #[.int .i64 d1, .int .i64 d2] 23)) = w1 at hXe kP kD ⊢
  have HX := Lib.hid hXe
  clear hXe
  have KP := Lib.hid kP
  clear kP
  have KD := Lib.hid kD
  clear kD
  have cP0 : w1.cell? ⟨w.heap.size, 0, none⟩ = some (.int .i64 p1) := KP.out.cell 0
  have cP1 : w1.cell? ⟨w.heap.size, 1, none⟩ = some (.int .i64 p2) := KP.out.cell 1
  have cD0 : w1.cell? ⟨(w.heap.size + 1), 0, none⟩ = some (.int .i64 d1) := KD.out.cell 0
  have cD1 : w1.cell? ⟨(w.heap.size + 1), 1, none⟩ = some (.int .i64 d2) := KD.out.cell 1
  go_quiet (fail)
  go_wp2
  go_ret
  exact ⟨rfl, HX.out.drewN _⟩

set_option maxRecDepth 100000 in
set_option maxHeartbeats 2000000 in
theorem circ_r6 (ga gb gc gd : Nat) (a1 a2 b1 b2 c1 c2 d1 d2 : Int) (w : World) (a0 : w.cell? ⟨ga, 0, none⟩ = some (.int .i64 a1)) (a1' : w.cell? ⟨ga, 1, none⟩ = some (.int .i64 a2)) (oa : okP (a1, a2) = true) (b0 : w.cell? ⟨gb, 0, none⟩ = some (.int .i64 b1)) (b1' : w.cell? ⟨gb, 1, none⟩ = some (.int .i64 b2)) (ob : okP (b1, b2) = true) (c0 : w.cell? ⟨gc, 0, none⟩ = some (.int .i64 c1)) (c1' : w.cell? ⟨gc, 1, none⟩ = some (.int .i64 c2)) (oc : okP (c1, c2) = true) (d0 : w.cell? ⟨gd, 0, none⟩ = some (.int .i64 d1)) (d1' : w.cell? ⟨gd, 1, none⟩ = some (.int .i64 d2)) (od : okP (d1, d2) = true) (a : Act) (Q : Exit → Act → World → Prop) (hsize : 36 ≤ a.tmps.size)
    (s4 : a.tmps[4]? = some (.pointer (some ⟨ga, 0, none⟩)))
    (s5 : a.tmps[5]? = some (.pointer (some ⟨gb, 0, none⟩)))
    (s6 : a.tmps[6]? = some (.pointer (some ⟨gc, 0, none⟩)))
    (s7 : a.tmps[7]? = some (.pointer (some ⟨gd, 0, none⟩)))
    (hend : ∀ (xv0 xv1 xv2 xv3 xv4 xv5 xv6 xv7 xv8 xv9 xv10 : Value) (W : World), (xv0 = .agg #[.int .i64 a1, .int .i64 a2]) → (xv1 = .agg #[.int .i64 d1, .int .i64 d2]) → (xv2 = .int .i64 (liftI (a1, a2) (d1, d2))) → (NumX W xv3 (((liftI (a1, a2) (d1, d2)) : Int) : Rat) 2) → (xv4 = .agg #[.int .i64 d1, .int .i64 d2]) → (xv5 = .agg #[.int .i64 b1, .int .i64 b2]) → (xv6 = .agg #[.int .i64 c1, .int .i64 c2]) → (xv7 = .int .i64 (crossI (d1, d2) (b1, b2) (c1, c2))) → (NumX W xv8 (((crossI (d1, d2) (b1, b2) (c1, c2)) : Int) : Rat) 2) → (NumX W xv9 ((((liftI (a1, a2) (d1, d2)) : Int) : Rat) * (((crossI (d1, d2) (b1, b2) (c1, c2)) : Int) : Rat)) (2 + 2)) → (∃ g, xv10 = .pointer (some ⟨g, 0, none⟩) ∧ w.heap.size ≤ g ∧ Blk W g 96 #[.bool false, .slice none 0 0, .slice none 0 0]) → Ext w W → wpList Try.prog (rops Try.f46 6).toArray Q ((rops Try.f46 6).drop 11) (((((((((((a.put (some 26) xv0).put (some 27) xv1).put (some 28) xv2).put (some 29) xv3).put (some 30) xv4).put (some 31) xv5).put (some 32) xv6).put (some 33) xv7).put (some 34) xv8).put (some 35) xv9).put (some 11) xv10) W) :
    (Code.region 6 (rops Try.f46 6).toArray true).wp Try.prog Q a w := by
  have hmono : ∀ (W W' : World) (j : Nat) (u : Value), Ext W W' → (fun (i : Nat) (v : Value) (W : World) => match i with
    | 0 => v = .agg #[.int .i64 a1, .int .i64 a2]
    | 1 => v = .agg #[.int .i64 d1, .int .i64 d2]
    | 2 => v = .int .i64 (liftI (a1, a2) (d1, d2))
    | 3 => NumX W v (((liftI (a1, a2) (d1, d2)) : Int) : Rat) 2
    | 4 => v = .agg #[.int .i64 d1, .int .i64 d2]
    | 5 => v = .agg #[.int .i64 b1, .int .i64 b2]
    | 6 => v = .agg #[.int .i64 c1, .int .i64 c2]
    | 7 => v = .int .i64 (crossI (d1, d2) (b1, b2) (c1, c2))
    | 8 => NumX W v (((crossI (d1, d2) (b1, b2) (c1, c2)) : Int) : Rat) 2
    | 9 => NumX W v ((((liftI (a1, a2) (d1, d2)) : Int) : Rat) * (((crossI (d1, d2) (b1, b2) (c1, c2)) : Int) : Rat)) (2 + 2)
    | 10 => ∃ g, v = .pointer (some ⟨g, 0, none⟩) ∧ w.heap.size ≤ g ∧ Blk W g 96 #[.bool false, .slice none 0 0, .slice none 0 0]
    | _ => True) j u W → (fun (i : Nat) (v : Value) (W : World) => match i with
    | 0 => v = .agg #[.int .i64 a1, .int .i64 a2]
    | 1 => v = .agg #[.int .i64 d1, .int .i64 d2]
    | 2 => v = .int .i64 (liftI (a1, a2) (d1, d2))
    | 3 => NumX W v (((liftI (a1, a2) (d1, d2)) : Int) : Rat) 2
    | 4 => v = .agg #[.int .i64 d1, .int .i64 d2]
    | 5 => v = .agg #[.int .i64 b1, .int .i64 b2]
    | 6 => v = .agg #[.int .i64 c1, .int .i64 c2]
    | 7 => v = .int .i64 (crossI (d1, d2) (b1, b2) (c1, c2))
    | 8 => NumX W v (((crossI (d1, d2) (b1, b2) (c1, c2)) : Int) : Rat) 2
    | 9 => NumX W v ((((liftI (a1, a2) (d1, d2)) : Int) : Rat) * (((crossI (d1, d2) (b1, b2) (c1, c2)) : Int) : Rat)) (2 + 2)
    | 10 => ∃ g, v = .pointer (some ⟨g, 0, none⟩) ∧ w.heap.size ≤ g ∧ Blk W g 96 #[.bool false, .slice none 0 0, .slice none 0 0]
    | _ => True) j u W' := by
    intro W W' j u hX h
    match j, h with
    | 0, h => exact h
    | 1, h => exact h
    | 2, h => exact h
    | 3, h => exact NumX.ext h hX
    | 4, h => exact h
    | 5, h => exact h
    | 6, h => exact h
    | 7, h => exact h
    | 8, h => exact NumX.ext h hX
    | 9, h => exact NumX.ext h hX
    | 10, h => obtain ⟨g, h1, h2, h3⟩ := h; exact ⟨g, h1, h2, h3.ext hX⟩
    | _ + 11, h => exact h
  have hsz : ∀ d, some d ∈ ([some 26, some 27, some 28, some 29, some 30, some 31, some 32, some 33, some 34, some 35, some 11] : List (Option Tmp)) → d < a.tmps.size := slots_lt (by decide) hsize
  refine wp_region_j 11 [some 26, some 27, some 28, some 29, some 30, some 31, some 32, some 33, some 34, some 35, some 11] [[], [], [0, 1], [2], [], [], [], [4, 5, 6], [7], [3, 8], []] [[], [], [], [], [], [], [], [], [], [], []] (fun (i : Nat) (v : Value) (W : World) => match i with
    | 0 => v = .agg #[.int .i64 a1, .int .i64 a2]
    | 1 => v = .agg #[.int .i64 d1, .int .i64 d2]
    | 2 => v = .int .i64 (liftI (a1, a2) (d1, d2))
    | 3 => NumX W v (((liftI (a1, a2) (d1, d2)) : Int) : Rat) 2
    | 4 => v = .agg #[.int .i64 d1, .int .i64 d2]
    | 5 => v = .agg #[.int .i64 b1, .int .i64 b2]
    | 6 => v = .agg #[.int .i64 c1, .int .i64 c2]
    | 7 => v = .int .i64 (crossI (d1, d2) (b1, b2) (c1, c2))
    | 8 => NumX W v (((crossI (d1, d2) (b1, b2) (c1, c2)) : Int) : Rat) 2
    | 9 => NumX W v ((((liftI (a1, a2) (d1, d2)) : Int) : Rat) * (((crossI (d1, d2) (b1, b2) (c1, c2)) : Int) : Rat)) (2 + 2)
    | 10 => ∃ g, v = .pointer (some ⟨g, 0, none⟩) ∧ w.heap.size ≤ g ∧ Blk W g 96 #[.bool false, .slice none 0 0, .slice none 0 0]
    | _ => True) (fun _ W => Ext w W) (by kernel_rfl) (by kernel_rfl) hsz (fun _ _ _ _ h => h) ((Ext.refl w).drew) ?_ ?_
  · clear hend
    simp only [rops, Try.f46, regOf, Option.bind_some, Nat.reduceBEq, if_true, if_false, Bool.false_eq_true, Option.getD_some]
    simp only [List.take_succ_cons, List.take_zero]
    refine ⟨?_, ?_, ?_, ?_, ?_, ?_, ?_, ?_, ?_, ?_, ?_, trivial⟩
    · intro done us W hJ hdep haft hnot b hb hb' K hK Q'
      have e4 := (hb' 4 (by simp)).trans s4
      clear hb hb'
      have q0 := Ext.cell hJ a0
      have q1 := Ext.cell hJ a1'
      go_simp
      exact hK _ _ rfl (fun _ _ _ h => h) hJ
    · intro done us W hJ hdep haft hnot b hb hb' K hK Q'
      have e7 := (hb' 7 (by simp)).trans s7
      clear hb hb'
      have q0 := Ext.cell hJ d0
      have q1 := Ext.cell hJ d1'
      go_simp
      exact hK _ _ rfl (fun _ _ _ h => h) hJ
    · intro done us W hJ hdep haft hnot b hb hb' K hK Q'
      simp only [List.getD_cons_succ, List.getD_cons_zero, List.mem_cons, List.not_mem_nil, or_false, forall_eq_or_imp, forall_eq] at hdep
      have e26 := hb 0 26 rfl
      have e27 := hb 1 27 rfl
      have d0 := hdep.1
      have d1 := hdep.2
      rw [d0.1] at e26
      rw [d1.1] at e27
      clear hb hb' hdep d0 d1
      go_simp
      refine (lift_any _ _ _ _ _ oa od).mono ?_
      rintro e w' ⟨rfl, hX⟩
      exact hK _ _ rfl (fun j u _ h => hmono _ _ j u hX h) (Ext.trans hJ hX)
    · intro done us W hJ hdep haft hnot b hb hb' K hK Q'
      simp only [List.getD_cons_succ, List.getD_cons_zero, List.mem_cons, List.not_mem_nil, or_false, forall_eq] at hdep
      have e28 := hb 2 28 rfl
      have d2 := hdep
      rw [d2.1] at e28
      clear hb hb' hdep d2
      go_simp
      refine (intX _ _ (lift_in oa od).1 (lift_in oa od).2).mono ?_
      rintro e w' ⟨v, rfl, hv, hX⟩
      exact hK _ _ hv (fun j u _ h => hmono _ _ j u hX h) (Ext.trans hJ hX)
    · intro done us W hJ hdep haft hnot b hb hb' K hK Q'
      have e7 := (hb' 7 (by simp)).trans s7
      clear hb hb'
      have q0 := Ext.cell hJ d0
      have q1 := Ext.cell hJ d1'
      go_simp
      exact hK _ _ rfl (fun _ _ _ h => h) hJ
    · intro done us W hJ hdep haft hnot b hb hb' K hK Q'
      have e5 := (hb' 5 (by simp)).trans s5
      clear hb hb'
      have q0 := Ext.cell hJ b0
      have q1 := Ext.cell hJ b1'
      go_simp
      exact hK _ _ rfl (fun _ _ _ h => h) hJ
    · intro done us W hJ hdep haft hnot b hb hb' K hK Q'
      have e6 := (hb' 6 (by simp)).trans s6
      clear hb hb'
      have q0 := Ext.cell hJ c0
      have q1 := Ext.cell hJ c1'
      go_simp
      exact hK _ _ rfl (fun _ _ _ h => h) hJ
    · intro done us W hJ hdep haft hnot b hb hb' K hK Q'
      simp only [List.getD_cons_succ, List.getD_cons_zero, List.mem_cons, List.not_mem_nil, or_false, forall_eq_or_imp, forall_eq] at hdep
      have e30 := hb 4 30 rfl
      have e31 := hb 5 31 rfl
      have e32 := hb 6 32 rfl
      have d4 := hdep.1
      have d5 := hdep.2.1
      have d6 := hdep.2.2
      rw [d4.1] at e30
      rw [d5.1] at e31
      rw [d6.1] at e32
      clear hb hb' hdep d4 d5 d6
      go_simp
      refine (cross_any _ _ _ _ _ _ _ od ob oc).mono ?_
      rintro e w' ⟨rfl, hX⟩
      exact hK _ _ rfl (fun j u _ h => hmono _ _ j u hX h) (Ext.trans hJ hX)
    · intro done us W hJ hdep haft hnot b hb hb' K hK Q'
      simp only [List.getD_cons_succ, List.getD_cons_zero, List.mem_cons, List.not_mem_nil, or_false, forall_eq] at hdep
      have e33 := hb 7 33 rfl
      have d7 := hdep
      rw [d7.1] at e33
      clear hb hb' hdep d7
      go_simp
      refine (intX _ _ (cross_in od ob oc).1 (cross_in od ob oc).2).mono ?_
      rintro e w' ⟨v, rfl, hv, hX⟩
      exact hK _ _ hv (fun j u _ h => hmono _ _ j u hX h) (Ext.trans hJ hX)
    · intro done us W hJ hdep haft hnot b hb hb' K hK Q'
      simp only [List.getD_cons_succ, List.getD_cons_zero, List.mem_cons, List.not_mem_nil, or_false, forall_eq_or_imp, forall_eq] at hdep
      have e29 := hb 3 29 rfl
      have e34 := hb 8 34 rfl
      have d3 := hdep.1
      have d8 := hdep.2
      clear hb hb' hdep 
      go_simp
      refine (mulX d3.1 d8.1 (by omega) (by omega)).mono ?_
      rintro e w' ⟨v, rfl, hv, hX⟩
      exact hK _ _ hv (fun j u _ h => hmono _ _ j u hX h) (Ext.trans hJ hX)
    · intro done us W hJ hdep haft hnot b hb hb' K hK Q'
      clear hb hb'
      go_simp
      exact hK _ _ ⟨W.heap.size, rfl, Ext.size hJ, Blk.new _ _ _⟩ (fun j u _ h => hmono _ _ j u ((Ext.refl _).alloc _) h) (Ext.alloc hJ _)
  · intro us W hV hJ
    exact hend (us 0) (us 1) (us 2) (us 3) (us 4) (us 5) (us 6) (us 7) (us 8) (us 9) (us 10) W (hV 0 (by omega)) (hV 1 (by omega)) (hV 2 (by omega)) (hV 3 (by omega)) (hV 4 (by omega)) (hV 5 (by omega)) (hV 6 (by omega)) (hV 7 (by omega)) (hV 8 (by omega)) (hV 9 (by omega)) (hV 10 (by omega)) hJ
set_option maxRecDepth 100000 in
set_option maxHeartbeats 2000000 in
theorem circ_r7 (gz : Nat) (s : Bool) (A1 A2 : Option Addr) (l1 n1 l2 n2 : Nat) (q : Rat) (ga gb gc gd : Nat) (a1 a2 b1 b2 c1 c2 d1 d2 : Int) (w : World) (z0 : w.cell? ⟨gz, 0, none⟩ = some (.bool s)) (z1 : w.cell? ⟨gz, 1, none⟩ = some (.slice A1 l1 n1)) (z2 : w.cell? ⟨gz, 2, none⟩ = some (.slice A2 l2 n2)) (hq : NumX w (.agg #[.bool s, .slice A1 l1 n1, .slice A2 l2 n2]) q 4) (a0 : w.cell? ⟨ga, 0, none⟩ = some (.int .i64 a1)) (a1' : w.cell? ⟨ga, 1, none⟩ = some (.int .i64 a2)) (oa : okP (a1, a2) = true) (b0 : w.cell? ⟨gb, 0, none⟩ = some (.int .i64 b1)) (b1' : w.cell? ⟨gb, 1, none⟩ = some (.int .i64 b2)) (ob : okP (b1, b2) = true) (c0 : w.cell? ⟨gc, 0, none⟩ = some (.int .i64 c1)) (c1' : w.cell? ⟨gc, 1, none⟩ = some (.int .i64 c2)) (oc : okP (c1, c2) = true) (d0 : w.cell? ⟨gd, 0, none⟩ = some (.int .i64 d1)) (d1' : w.cell? ⟨gd, 1, none⟩ = some (.int .i64 d2)) (od : okP (d1, d2) = true) (a : Act) (Q : Exit → Act → World → Prop) (hsize : 48 ≤ a.tmps.size)
    (s4 : a.tmps[4]? = some (.pointer (some ⟨ga, 0, none⟩)))
    (s5 : a.tmps[5]? = some (.pointer (some ⟨gb, 0, none⟩)))
    (s6 : a.tmps[6]? = some (.pointer (some ⟨gc, 0, none⟩)))
    (s7 : a.tmps[7]? = some (.pointer (some ⟨gd, 0, none⟩)))
    (s11 : a.tmps[11]? = some (.pointer (some ⟨gz, 0, none⟩)))
    (hend : ∀ (xv0 xv1 xv2 xv3 xv4 xv5 xv6 xv7 xv8 xv9 xv10 xv11 : Value) (W : World), (xv0 = .agg #[.bool s, .slice A1 l1 n1, .slice A2 l2 n2]) → (xv1 = .agg #[.int .i64 b1, .int .i64 b2]) → (xv2 = .agg #[.int .i64 d1, .int .i64 d2]) → (xv3 = .int .i64 (liftI (b1, b2) (d1, d2))) → (NumX W xv4 (((liftI (b1, b2) (d1, d2)) : Int) : Rat) 2) → (xv5 = .agg #[.int .i64 d1, .int .i64 d2]) → (xv6 = .agg #[.int .i64 c1, .int .i64 c2]) → (xv7 = .agg #[.int .i64 a1, .int .i64 a2]) → (xv8 = .int .i64 (crossI (d1, d2) (c1, c2) (a1, a2))) → (NumX W xv9 (((crossI (d1, d2) (c1, c2) (a1, a2)) : Int) : Rat) 2) → (NumX W xv10 ((((liftI (b1, b2) (d1, d2)) : Int) : Rat) * (((crossI (d1, d2) (c1, c2) (a1, a2)) : Int) : Rat)) (2 + 2)) → (NumX W xv11 (q + (((liftI (b1, b2) (d1, d2)) : Int) : Rat) * (((crossI (d1, d2) (c1, c2) (a1, a2)) : Int) : Rat)) (4 + 4 + 1)) → Ext w W → wpList Try.prog (rops Try.f46 7).toArray Q ((rops Try.f46 7).drop 12) ((((((((((((a.put (some 36) xv0).put (some 37) xv1).put (some 38) xv2).put (some 39) xv3).put (some 40) xv4).put (some 41) xv5).put (some 42) xv6).put (some 43) xv7).put (some 44) xv8).put (some 45) xv9).put (some 46) xv10).put (some 47) xv11) W) :
    (Code.region 7 (rops Try.f46 7).toArray true).wp Try.prog Q a w := by
  have hmono : ∀ (W W' : World) (j : Nat) (u : Value), Ext W W' → (fun (i : Nat) (v : Value) (W : World) => match i with
    | 0 => v = .agg #[.bool s, .slice A1 l1 n1, .slice A2 l2 n2]
    | 1 => v = .agg #[.int .i64 b1, .int .i64 b2]
    | 2 => v = .agg #[.int .i64 d1, .int .i64 d2]
    | 3 => v = .int .i64 (liftI (b1, b2) (d1, d2))
    | 4 => NumX W v (((liftI (b1, b2) (d1, d2)) : Int) : Rat) 2
    | 5 => v = .agg #[.int .i64 d1, .int .i64 d2]
    | 6 => v = .agg #[.int .i64 c1, .int .i64 c2]
    | 7 => v = .agg #[.int .i64 a1, .int .i64 a2]
    | 8 => v = .int .i64 (crossI (d1, d2) (c1, c2) (a1, a2))
    | 9 => NumX W v (((crossI (d1, d2) (c1, c2) (a1, a2)) : Int) : Rat) 2
    | 10 => NumX W v ((((liftI (b1, b2) (d1, d2)) : Int) : Rat) * (((crossI (d1, d2) (c1, c2) (a1, a2)) : Int) : Rat)) (2 + 2)
    | 11 => NumX W v (q + (((liftI (b1, b2) (d1, d2)) : Int) : Rat) * (((crossI (d1, d2) (c1, c2) (a1, a2)) : Int) : Rat)) (4 + 4 + 1)
    | _ => True) j u W → (fun (i : Nat) (v : Value) (W : World) => match i with
    | 0 => v = .agg #[.bool s, .slice A1 l1 n1, .slice A2 l2 n2]
    | 1 => v = .agg #[.int .i64 b1, .int .i64 b2]
    | 2 => v = .agg #[.int .i64 d1, .int .i64 d2]
    | 3 => v = .int .i64 (liftI (b1, b2) (d1, d2))
    | 4 => NumX W v (((liftI (b1, b2) (d1, d2)) : Int) : Rat) 2
    | 5 => v = .agg #[.int .i64 d1, .int .i64 d2]
    | 6 => v = .agg #[.int .i64 c1, .int .i64 c2]
    | 7 => v = .agg #[.int .i64 a1, .int .i64 a2]
    | 8 => v = .int .i64 (crossI (d1, d2) (c1, c2) (a1, a2))
    | 9 => NumX W v (((crossI (d1, d2) (c1, c2) (a1, a2)) : Int) : Rat) 2
    | 10 => NumX W v ((((liftI (b1, b2) (d1, d2)) : Int) : Rat) * (((crossI (d1, d2) (c1, c2) (a1, a2)) : Int) : Rat)) (2 + 2)
    | 11 => NumX W v (q + (((liftI (b1, b2) (d1, d2)) : Int) : Rat) * (((crossI (d1, d2) (c1, c2) (a1, a2)) : Int) : Rat)) (4 + 4 + 1)
    | _ => True) j u W' := by
    intro W W' j u hX h
    match j, h with
    | 0, h => exact h
    | 1, h => exact h
    | 2, h => exact h
    | 3, h => exact h
    | 4, h => exact NumX.ext h hX
    | 5, h => exact h
    | 6, h => exact h
    | 7, h => exact h
    | 8, h => exact h
    | 9, h => exact NumX.ext h hX
    | 10, h => exact NumX.ext h hX
    | 11, h => exact NumX.ext h hX
    | _ + 12, h => exact h
  have hsz : ∀ d, some d ∈ ([some 36, some 37, some 38, some 39, some 40, some 41, some 42, some 43, some 44, some 45, some 46, some 47] : List (Option Tmp)) → d < a.tmps.size := slots_lt (by decide) hsize
  refine wp_region_j 12 [some 36, some 37, some 38, some 39, some 40, some 41, some 42, some 43, some 44, some 45, some 46, some 47] [[], [], [], [1, 2], [3], [], [], [], [5, 6, 7], [8], [4, 9], [0, 10]] [[], [], [], [], [], [], [], [], [], [], [], []] (fun (i : Nat) (v : Value) (W : World) => match i with
    | 0 => v = .agg #[.bool s, .slice A1 l1 n1, .slice A2 l2 n2]
    | 1 => v = .agg #[.int .i64 b1, .int .i64 b2]
    | 2 => v = .agg #[.int .i64 d1, .int .i64 d2]
    | 3 => v = .int .i64 (liftI (b1, b2) (d1, d2))
    | 4 => NumX W v (((liftI (b1, b2) (d1, d2)) : Int) : Rat) 2
    | 5 => v = .agg #[.int .i64 d1, .int .i64 d2]
    | 6 => v = .agg #[.int .i64 c1, .int .i64 c2]
    | 7 => v = .agg #[.int .i64 a1, .int .i64 a2]
    | 8 => v = .int .i64 (crossI (d1, d2) (c1, c2) (a1, a2))
    | 9 => NumX W v (((crossI (d1, d2) (c1, c2) (a1, a2)) : Int) : Rat) 2
    | 10 => NumX W v ((((liftI (b1, b2) (d1, d2)) : Int) : Rat) * (((crossI (d1, d2) (c1, c2) (a1, a2)) : Int) : Rat)) (2 + 2)
    | 11 => NumX W v (q + (((liftI (b1, b2) (d1, d2)) : Int) : Rat) * (((crossI (d1, d2) (c1, c2) (a1, a2)) : Int) : Rat)) (4 + 4 + 1)
    | _ => True) (fun _ W => Ext w W) (by kernel_rfl) (by kernel_rfl) hsz (fun _ _ _ _ h => h) ((Ext.refl w).drew) ?_ ?_
  · clear hend
    simp only [rops, Try.f46, regOf, Option.bind_some, Nat.reduceBEq, if_true, if_false, Bool.false_eq_true, Option.getD_some]
    simp only [List.take_succ_cons, List.take_zero]
    refine ⟨?_, ?_, ?_, ?_, ?_, ?_, ?_, ?_, ?_, ?_, ?_, ?_, trivial⟩
    · intro done us W hJ hdep haft hnot b hb hb' K hK Q'
      have e11 := (hb' 11 (by simp)).trans s11
      clear hb hb'
      have q0 := Ext.cell hJ z0
      have q1 := Ext.cell hJ z1
      have q2 := Ext.cell hJ z2
      go_simp
      exact hK _ _ rfl (fun _ _ _ h => h) hJ
    · intro done us W hJ hdep haft hnot b hb hb' K hK Q'
      have e5 := (hb' 5 (by simp)).trans s5
      clear hb hb'
      have q0 := Ext.cell hJ b0
      have q1 := Ext.cell hJ b1'
      go_simp
      exact hK _ _ rfl (fun _ _ _ h => h) hJ
    · intro done us W hJ hdep haft hnot b hb hb' K hK Q'
      have e7 := (hb' 7 (by simp)).trans s7
      clear hb hb'
      have q0 := Ext.cell hJ d0
      have q1 := Ext.cell hJ d1'
      go_simp
      exact hK _ _ rfl (fun _ _ _ h => h) hJ
    · intro done us W hJ hdep haft hnot b hb hb' K hK Q'
      simp only [List.getD_cons_succ, List.getD_cons_zero, List.mem_cons, List.not_mem_nil, or_false, forall_eq_or_imp, forall_eq] at hdep
      have e37 := hb 1 37 rfl
      have e38 := hb 2 38 rfl
      have d1 := hdep.1
      have d2 := hdep.2
      rw [d1.1] at e37
      rw [d2.1] at e38
      clear hb hb' hdep d1 d2
      go_simp
      refine (lift_any _ _ _ _ _ ob od).mono ?_
      rintro e w' ⟨rfl, hX⟩
      exact hK _ _ rfl (fun j u _ h => hmono _ _ j u hX h) (Ext.trans hJ hX)
    · intro done us W hJ hdep haft hnot b hb hb' K hK Q'
      simp only [List.getD_cons_succ, List.getD_cons_zero, List.mem_cons, List.not_mem_nil, or_false, forall_eq] at hdep
      have e39 := hb 3 39 rfl
      have d3 := hdep
      rw [d3.1] at e39
      clear hb hb' hdep d3
      go_simp
      refine (intX _ _ (lift_in ob od).1 (lift_in ob od).2).mono ?_
      rintro e w' ⟨v, rfl, hv, hX⟩
      exact hK _ _ hv (fun j u _ h => hmono _ _ j u hX h) (Ext.trans hJ hX)
    · intro done us W hJ hdep haft hnot b hb hb' K hK Q'
      have e7 := (hb' 7 (by simp)).trans s7
      clear hb hb'
      have q0 := Ext.cell hJ d0
      have q1 := Ext.cell hJ d1'
      go_simp
      exact hK _ _ rfl (fun _ _ _ h => h) hJ
    · intro done us W hJ hdep haft hnot b hb hb' K hK Q'
      have e6 := (hb' 6 (by simp)).trans s6
      clear hb hb'
      have q0 := Ext.cell hJ c0
      have q1 := Ext.cell hJ c1'
      go_simp
      exact hK _ _ rfl (fun _ _ _ h => h) hJ
    · intro done us W hJ hdep haft hnot b hb hb' K hK Q'
      have e4 := (hb' 4 (by simp)).trans s4
      clear hb hb'
      have q0 := Ext.cell hJ a0
      have q1 := Ext.cell hJ a1'
      go_simp
      exact hK _ _ rfl (fun _ _ _ h => h) hJ
    · intro done us W hJ hdep haft hnot b hb hb' K hK Q'
      simp only [List.getD_cons_succ, List.getD_cons_zero, List.mem_cons, List.not_mem_nil, or_false, forall_eq_or_imp, forall_eq] at hdep
      have e41 := hb 5 41 rfl
      have e42 := hb 6 42 rfl
      have e43 := hb 7 43 rfl
      have d5 := hdep.1
      have d6 := hdep.2.1
      have d7 := hdep.2.2
      rw [d5.1] at e41
      rw [d6.1] at e42
      rw [d7.1] at e43
      clear hb hb' hdep d5 d6 d7
      go_simp
      refine (cross_any _ _ _ _ _ _ _ od oc oa).mono ?_
      rintro e w' ⟨rfl, hX⟩
      exact hK _ _ rfl (fun j u _ h => hmono _ _ j u hX h) (Ext.trans hJ hX)
    · intro done us W hJ hdep haft hnot b hb hb' K hK Q'
      simp only [List.getD_cons_succ, List.getD_cons_zero, List.mem_cons, List.not_mem_nil, or_false, forall_eq] at hdep
      have e44 := hb 8 44 rfl
      have d8 := hdep
      rw [d8.1] at e44
      clear hb hb' hdep d8
      go_simp
      refine (intX _ _ (cross_in od oc oa).1 (cross_in od oc oa).2).mono ?_
      rintro e w' ⟨v, rfl, hv, hX⟩
      exact hK _ _ hv (fun j u _ h => hmono _ _ j u hX h) (Ext.trans hJ hX)
    · intro done us W hJ hdep haft hnot b hb hb' K hK Q'
      simp only [List.getD_cons_succ, List.getD_cons_zero, List.mem_cons, List.not_mem_nil, or_false, forall_eq_or_imp, forall_eq] at hdep
      have e40 := hb 4 40 rfl
      have e45 := hb 9 45 rfl
      have d4 := hdep.1
      have d9 := hdep.2
      clear hb hb' hdep 
      go_simp
      refine (mulX d4.1 d9.1 (by omega) (by omega)).mono ?_
      rintro e w' ⟨v, rfl, hv, hX⟩
      exact hK _ _ hv (fun j u _ h => hmono _ _ j u hX h) (Ext.trans hJ hX)
    · intro done us W hJ hdep haft hnot b hb hb' K hK Q'
      simp only [List.getD_cons_succ, List.getD_cons_zero, List.mem_cons, List.not_mem_nil, or_false, forall_eq_or_imp, forall_eq] at hdep
      have e36 := hb 0 36 rfl
      have e46 := hb 10 46 rfl
      have d0 := hdep.1
      have d10 := hdep.2
      rw [d0.1] at e36
      clear hb hb' hdep d0
      go_simp
      refine (addX (NumX.ext hq hJ) d10.1 (by omega)).mono ?_
      rintro e w' ⟨v, rfl, hv, hX⟩
      exact hK _ _ hv (fun j u _ h => hmono _ _ j u hX h) (Ext.trans hJ hX)
  · intro us W hV hJ
    exact hend (us 0) (us 1) (us 2) (us 3) (us 4) (us 5) (us 6) (us 7) (us 8) (us 9) (us 10) (us 11) W (hV 0 (by omega)) (hV 1 (by omega)) (hV 2 (by omega)) (hV 3 (by omega)) (hV 4 (by omega)) (hV 5 (by omega)) (hV 6 (by omega)) (hV 7 (by omega)) (hV 8 (by omega)) (hV 9 (by omega)) (hV 10 (by omega)) (hV 11 (by omega)) hJ
set_option maxRecDepth 100000 in
set_option maxHeartbeats 2000000 in
theorem circ_r8 (gz : Nat) (s : Bool) (A1 A2 : Option Addr) (l1 n1 l2 n2 : Nat) (q : Rat) (ga gb gc gd : Nat) (a1 a2 b1 b2 c1 c2 d1 d2 : Int) (w : World) (z0 : w.cell? ⟨gz, 0, none⟩ = some (.bool s)) (z1 : w.cell? ⟨gz, 1, none⟩ = some (.slice A1 l1 n1)) (z2 : w.cell? ⟨gz, 2, none⟩ = some (.slice A2 l2 n2)) (hq : NumX w (.agg #[.bool s, .slice A1 l1 n1, .slice A2 l2 n2]) q 9) (a0 : w.cell? ⟨ga, 0, none⟩ = some (.int .i64 a1)) (a1' : w.cell? ⟨ga, 1, none⟩ = some (.int .i64 a2)) (oa : okP (a1, a2) = true) (b0 : w.cell? ⟨gb, 0, none⟩ = some (.int .i64 b1)) (b1' : w.cell? ⟨gb, 1, none⟩ = some (.int .i64 b2)) (ob : okP (b1, b2) = true) (c0 : w.cell? ⟨gc, 0, none⟩ = some (.int .i64 c1)) (c1' : w.cell? ⟨gc, 1, none⟩ = some (.int .i64 c2)) (oc : okP (c1, c2) = true) (d0 : w.cell? ⟨gd, 0, none⟩ = some (.int .i64 d1)) (d1' : w.cell? ⟨gd, 1, none⟩ = some (.int .i64 d2)) (od : okP (d1, d2) = true) (a : Act) (Q : Exit → Act → World → Prop) (hsize : 60 ≤ a.tmps.size)
    (s4 : a.tmps[4]? = some (.pointer (some ⟨ga, 0, none⟩)))
    (s5 : a.tmps[5]? = some (.pointer (some ⟨gb, 0, none⟩)))
    (s6 : a.tmps[6]? = some (.pointer (some ⟨gc, 0, none⟩)))
    (s7 : a.tmps[7]? = some (.pointer (some ⟨gd, 0, none⟩)))
    (s11 : a.tmps[11]? = some (.pointer (some ⟨gz, 0, none⟩)))
    (hend : ∀ (xv0 xv1 xv2 xv3 xv4 xv5 xv6 xv7 xv8 xv9 xv10 xv11 : Value) (W : World), (xv0 = .agg #[.bool s, .slice A1 l1 n1, .slice A2 l2 n2]) → (xv1 = .agg #[.int .i64 c1, .int .i64 c2]) → (xv2 = .agg #[.int .i64 d1, .int .i64 d2]) → (xv3 = .int .i64 (liftI (c1, c2) (d1, d2))) → (NumX W xv4 (((liftI (c1, c2) (d1, d2)) : Int) : Rat) 2) → (xv5 = .agg #[.int .i64 d1, .int .i64 d2]) → (xv6 = .agg #[.int .i64 a1, .int .i64 a2]) → (xv7 = .agg #[.int .i64 b1, .int .i64 b2]) → (xv8 = .int .i64 (crossI (d1, d2) (a1, a2) (b1, b2))) → (NumX W xv9 (((crossI (d1, d2) (a1, a2) (b1, b2)) : Int) : Rat) 2) → (NumX W xv10 ((((liftI (c1, c2) (d1, d2)) : Int) : Rat) * (((crossI (d1, d2) (a1, a2) (b1, b2)) : Int) : Rat)) (2 + 2)) → (NumX W xv11 (q + (((liftI (c1, c2) (d1, d2)) : Int) : Rat) * (((crossI (d1, d2) (a1, a2) (b1, b2)) : Int) : Rat)) (9 + 4 + 1)) → Ext w W → wpList Try.prog (rops Try.f46 8).toArray Q ((rops Try.f46 8).drop 12) ((((((((((((a.put (some 48) xv0).put (some 49) xv1).put (some 50) xv2).put (some 51) xv3).put (some 52) xv4).put (some 53) xv5).put (some 54) xv6).put (some 55) xv7).put (some 56) xv8).put (some 57) xv9).put (some 58) xv10).put (some 59) xv11) W) :
    (Code.region 8 (rops Try.f46 8).toArray true).wp Try.prog Q a w := by
  have hmono : ∀ (W W' : World) (j : Nat) (u : Value), Ext W W' → (fun (i : Nat) (v : Value) (W : World) => match i with
    | 0 => v = .agg #[.bool s, .slice A1 l1 n1, .slice A2 l2 n2]
    | 1 => v = .agg #[.int .i64 c1, .int .i64 c2]
    | 2 => v = .agg #[.int .i64 d1, .int .i64 d2]
    | 3 => v = .int .i64 (liftI (c1, c2) (d1, d2))
    | 4 => NumX W v (((liftI (c1, c2) (d1, d2)) : Int) : Rat) 2
    | 5 => v = .agg #[.int .i64 d1, .int .i64 d2]
    | 6 => v = .agg #[.int .i64 a1, .int .i64 a2]
    | 7 => v = .agg #[.int .i64 b1, .int .i64 b2]
    | 8 => v = .int .i64 (crossI (d1, d2) (a1, a2) (b1, b2))
    | 9 => NumX W v (((crossI (d1, d2) (a1, a2) (b1, b2)) : Int) : Rat) 2
    | 10 => NumX W v ((((liftI (c1, c2) (d1, d2)) : Int) : Rat) * (((crossI (d1, d2) (a1, a2) (b1, b2)) : Int) : Rat)) (2 + 2)
    | 11 => NumX W v (q + (((liftI (c1, c2) (d1, d2)) : Int) : Rat) * (((crossI (d1, d2) (a1, a2) (b1, b2)) : Int) : Rat)) (9 + 4 + 1)
    | _ => True) j u W → (fun (i : Nat) (v : Value) (W : World) => match i with
    | 0 => v = .agg #[.bool s, .slice A1 l1 n1, .slice A2 l2 n2]
    | 1 => v = .agg #[.int .i64 c1, .int .i64 c2]
    | 2 => v = .agg #[.int .i64 d1, .int .i64 d2]
    | 3 => v = .int .i64 (liftI (c1, c2) (d1, d2))
    | 4 => NumX W v (((liftI (c1, c2) (d1, d2)) : Int) : Rat) 2
    | 5 => v = .agg #[.int .i64 d1, .int .i64 d2]
    | 6 => v = .agg #[.int .i64 a1, .int .i64 a2]
    | 7 => v = .agg #[.int .i64 b1, .int .i64 b2]
    | 8 => v = .int .i64 (crossI (d1, d2) (a1, a2) (b1, b2))
    | 9 => NumX W v (((crossI (d1, d2) (a1, a2) (b1, b2)) : Int) : Rat) 2
    | 10 => NumX W v ((((liftI (c1, c2) (d1, d2)) : Int) : Rat) * (((crossI (d1, d2) (a1, a2) (b1, b2)) : Int) : Rat)) (2 + 2)
    | 11 => NumX W v (q + (((liftI (c1, c2) (d1, d2)) : Int) : Rat) * (((crossI (d1, d2) (a1, a2) (b1, b2)) : Int) : Rat)) (9 + 4 + 1)
    | _ => True) j u W' := by
    intro W W' j u hX h
    match j, h with
    | 0, h => exact h
    | 1, h => exact h
    | 2, h => exact h
    | 3, h => exact h
    | 4, h => exact NumX.ext h hX
    | 5, h => exact h
    | 6, h => exact h
    | 7, h => exact h
    | 8, h => exact h
    | 9, h => exact NumX.ext h hX
    | 10, h => exact NumX.ext h hX
    | 11, h => exact NumX.ext h hX
    | _ + 12, h => exact h
  have hsz : ∀ d, some d ∈ ([some 48, some 49, some 50, some 51, some 52, some 53, some 54, some 55, some 56, some 57, some 58, some 59] : List (Option Tmp)) → d < a.tmps.size := slots_lt (by decide) hsize
  refine wp_region_j 12 [some 48, some 49, some 50, some 51, some 52, some 53, some 54, some 55, some 56, some 57, some 58, some 59] [[], [], [], [1, 2], [3], [], [], [], [5, 6, 7], [8], [4, 9], [0, 10]] [[], [], [], [], [], [], [], [], [], [], [], []] (fun (i : Nat) (v : Value) (W : World) => match i with
    | 0 => v = .agg #[.bool s, .slice A1 l1 n1, .slice A2 l2 n2]
    | 1 => v = .agg #[.int .i64 c1, .int .i64 c2]
    | 2 => v = .agg #[.int .i64 d1, .int .i64 d2]
    | 3 => v = .int .i64 (liftI (c1, c2) (d1, d2))
    | 4 => NumX W v (((liftI (c1, c2) (d1, d2)) : Int) : Rat) 2
    | 5 => v = .agg #[.int .i64 d1, .int .i64 d2]
    | 6 => v = .agg #[.int .i64 a1, .int .i64 a2]
    | 7 => v = .agg #[.int .i64 b1, .int .i64 b2]
    | 8 => v = .int .i64 (crossI (d1, d2) (a1, a2) (b1, b2))
    | 9 => NumX W v (((crossI (d1, d2) (a1, a2) (b1, b2)) : Int) : Rat) 2
    | 10 => NumX W v ((((liftI (c1, c2) (d1, d2)) : Int) : Rat) * (((crossI (d1, d2) (a1, a2) (b1, b2)) : Int) : Rat)) (2 + 2)
    | 11 => NumX W v (q + (((liftI (c1, c2) (d1, d2)) : Int) : Rat) * (((crossI (d1, d2) (a1, a2) (b1, b2)) : Int) : Rat)) (9 + 4 + 1)
    | _ => True) (fun _ W => Ext w W) (by kernel_rfl) (by kernel_rfl) hsz (fun _ _ _ _ h => h) ((Ext.refl w).drew) ?_ ?_
  · clear hend
    simp only [rops, Try.f46, regOf, Option.bind_some, Nat.reduceBEq, if_true, if_false, Bool.false_eq_true, Option.getD_some]
    simp only [List.take_succ_cons, List.take_zero]
    refine ⟨?_, ?_, ?_, ?_, ?_, ?_, ?_, ?_, ?_, ?_, ?_, ?_, trivial⟩
    · intro done us W hJ hdep haft hnot b hb hb' K hK Q'
      have e11 := (hb' 11 (by simp)).trans s11
      clear hb hb'
      have q0 := Ext.cell hJ z0
      have q1 := Ext.cell hJ z1
      have q2 := Ext.cell hJ z2
      go_simp
      exact hK _ _ rfl (fun _ _ _ h => h) hJ
    · intro done us W hJ hdep haft hnot b hb hb' K hK Q'
      have e6 := (hb' 6 (by simp)).trans s6
      clear hb hb'
      have q0 := Ext.cell hJ c0
      have q1 := Ext.cell hJ c1'
      go_simp
      exact hK _ _ rfl (fun _ _ _ h => h) hJ
    · intro done us W hJ hdep haft hnot b hb hb' K hK Q'
      have e7 := (hb' 7 (by simp)).trans s7
      clear hb hb'
      have q0 := Ext.cell hJ d0
      have q1 := Ext.cell hJ d1'
      go_simp
      exact hK _ _ rfl (fun _ _ _ h => h) hJ
    · intro done us W hJ hdep haft hnot b hb hb' K hK Q'
      simp only [List.getD_cons_succ, List.getD_cons_zero, List.mem_cons, List.not_mem_nil, or_false, forall_eq_or_imp, forall_eq] at hdep
      have e49 := hb 1 49 rfl
      have e50 := hb 2 50 rfl
      have d1 := hdep.1
      have d2 := hdep.2
      rw [d1.1] at e49
      rw [d2.1] at e50
      clear hb hb' hdep d1 d2
      go_simp
      refine (lift_any _ _ _ _ _ oc od).mono ?_
      rintro e w' ⟨rfl, hX⟩
      exact hK _ _ rfl (fun j u _ h => hmono _ _ j u hX h) (Ext.trans hJ hX)
    · intro done us W hJ hdep haft hnot b hb hb' K hK Q'
      simp only [List.getD_cons_succ, List.getD_cons_zero, List.mem_cons, List.not_mem_nil, or_false, forall_eq] at hdep
      have e51 := hb 3 51 rfl
      have d3 := hdep
      rw [d3.1] at e51
      clear hb hb' hdep d3
      go_simp
      refine (intX _ _ (lift_in oc od).1 (lift_in oc od).2).mono ?_
      rintro e w' ⟨v, rfl, hv, hX⟩
      exact hK _ _ hv (fun j u _ h => hmono _ _ j u hX h) (Ext.trans hJ hX)
    · intro done us W hJ hdep haft hnot b hb hb' K hK Q'
      have e7 := (hb' 7 (by simp)).trans s7
      clear hb hb'
      have q0 := Ext.cell hJ d0
      have q1 := Ext.cell hJ d1'
      go_simp
      exact hK _ _ rfl (fun _ _ _ h => h) hJ
    · intro done us W hJ hdep haft hnot b hb hb' K hK Q'
      have e4 := (hb' 4 (by simp)).trans s4
      clear hb hb'
      have q0 := Ext.cell hJ a0
      have q1 := Ext.cell hJ a1'
      go_simp
      exact hK _ _ rfl (fun _ _ _ h => h) hJ
    · intro done us W hJ hdep haft hnot b hb hb' K hK Q'
      have e5 := (hb' 5 (by simp)).trans s5
      clear hb hb'
      have q0 := Ext.cell hJ b0
      have q1 := Ext.cell hJ b1'
      go_simp
      exact hK _ _ rfl (fun _ _ _ h => h) hJ
    · intro done us W hJ hdep haft hnot b hb hb' K hK Q'
      simp only [List.getD_cons_succ, List.getD_cons_zero, List.mem_cons, List.not_mem_nil, or_false, forall_eq_or_imp, forall_eq] at hdep
      have e53 := hb 5 53 rfl
      have e54 := hb 6 54 rfl
      have e55 := hb 7 55 rfl
      have d5 := hdep.1
      have d6 := hdep.2.1
      have d7 := hdep.2.2
      rw [d5.1] at e53
      rw [d6.1] at e54
      rw [d7.1] at e55
      clear hb hb' hdep d5 d6 d7
      go_simp
      refine (cross_any _ _ _ _ _ _ _ od oa ob).mono ?_
      rintro e w' ⟨rfl, hX⟩
      exact hK _ _ rfl (fun j u _ h => hmono _ _ j u hX h) (Ext.trans hJ hX)
    · intro done us W hJ hdep haft hnot b hb hb' K hK Q'
      simp only [List.getD_cons_succ, List.getD_cons_zero, List.mem_cons, List.not_mem_nil, or_false, forall_eq] at hdep
      have e56 := hb 8 56 rfl
      have d8 := hdep
      rw [d8.1] at e56
      clear hb hb' hdep d8
      go_simp
      refine (intX _ _ (cross_in od oa ob).1 (cross_in od oa ob).2).mono ?_
      rintro e w' ⟨v, rfl, hv, hX⟩
      exact hK _ _ hv (fun j u _ h => hmono _ _ j u hX h) (Ext.trans hJ hX)
    · intro done us W hJ hdep haft hnot b hb hb' K hK Q'
      simp only [List.getD_cons_succ, List.getD_cons_zero, List.mem_cons, List.not_mem_nil, or_false, forall_eq_or_imp, forall_eq] at hdep
      have e52 := hb 4 52 rfl
      have e57 := hb 9 57 rfl
      have d4 := hdep.1
      have d9 := hdep.2
      clear hb hb' hdep 
      go_simp
      refine (mulX d4.1 d9.1 (by omega) (by omega)).mono ?_
      rintro e w' ⟨v, rfl, hv, hX⟩
      exact hK _ _ hv (fun j u _ h => hmono _ _ j u hX h) (Ext.trans hJ hX)
    · intro done us W hJ hdep haft hnot b hb hb' K hK Q'
      simp only [List.getD_cons_succ, List.getD_cons_zero, List.mem_cons, List.not_mem_nil, or_false, forall_eq_or_imp, forall_eq] at hdep
      have e48 := hb 0 48 rfl
      have e58 := hb 10 58 rfl
      have d0 := hdep.1
      have d10 := hdep.2
      rw [d0.1] at e48
      clear hb hb' hdep d0
      go_simp
      refine (addX (NumX.ext hq hJ) d10.1 (by omega)).mono ?_
      rintro e w' ⟨v, rfl, hv, hX⟩
      exact hK _ _ hv (fun j u _ h => hmono _ _ j u hX h) (Ext.trans hJ hX)
  · intro us W hV hJ
    exact hend (us 0) (us 1) (us 2) (us 3) (us 4) (us 5) (us 6) (us 7) (us 8) (us 9) (us 10) (us 11) W (hV 0 (by omega)) (hV 1 (by omega)) (hV 2 (by omega)) (hV 3 (by omega)) (hV 4 (by omega)) (hV 5 (by omega)) (hV 6 (by omega)) (hV 7 (by omega)) (hV 8 (by omega)) (hV 9 (by omega)) (hV 10 (by omega)) (hV 11 (by omega)) hJ
end Go.Proofs.Yteoijnaljkagfaa
