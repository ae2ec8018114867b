/- Lemmas of the proof that follows (Solves, part 8): walks of functions by contract, and plain lemmas. Conditions: none. -/
import Derived.Test.YtikhlcgnlbinfaaSolvesG
set_option maxRecDepth 100000
set_option maxHeartbeats 8000000
namespace Go.Proofs.Ytikhlcgnlbinfaa
open Lib (hid)
open Go.RowKit
/-- The cells of a match. -/
def Mt.cells (m : Mt) : List Value := [.int .i64 m.a, .int .i64 m.b, .int .i64 m.x, .int .i64 m.y, .int .i64 m.z, .int .i64 m.d, .int .i64 m.w]
def p8 (ms : List Mt) : List Value := (ms.map Mt.cells).flatten
theorem p9 (ms : List Mt) : (p8 ms).length = ms.length * 7 := by
 induction ms with
 | nil => rfl
 | cons m ms ih =>
  have : p8 (m :: ms) = m.cells ++ p8 ms := rfl;rw [this, List.length_append, ih, List.length_cons];simp [Mt.cells]; omega
theorem qa {ms : List Mt} {j : Nat} {m : Mt} (h : ms[j]? = some m) (i : Nat) (u : Value) (hu : m.cells[i]? = some u) : (p8 ms)[j * 7 + i]? = some u := by
 induction ms generalizing j with
 | nil => simp at h
 | cons x ms ih =>
  have e : p8 (x :: ms) = x.cells ++ p8 ms := rfl;have hl : x.cells.length = 7 := rfl
  cases j with
  | zero =>
   simp at h;subst h;have hi := (List.getElem?_eq_some_iff.1 hu).1;rw [e, Nat.zero_mul, Nat.zero_add, List.getElem?_append_left hi, hu]
  | succ j =>
   rw [e, List.getElem?_append_right (by omega), hl, <- ih (by simpa using h)]
   congr 1; omega
/-- A slice of matches reads as 'ms'. -/
def MsAt (w : World) (A : Option Addr) (n : Nat) (ms : List Mt) : Prop := ms.length = n /\ At w A (p8 ms)
section
variable {w w' : World} {A : Option Addr} {n : Nat} {ms : List Mt}
theorem MsAt.ext (h : MsAt w A n ms) (he : Ext w w') : MsAt w' A n ms := ⟨h.1, h.2.ext he⟩
theorem MsAt.get (h : MsAt w A n ms) {j : Nat} (hj : j < n) : ∃ b off m, A = some ⟨b, off, none⟩ /\ ms[j]? = some m /\ m ∈ ms /\
  w.cell? ⟨b, off + j * 7, none⟩ = some (.int .i64 m.a) /\ w.cell? ⟨b, off + j * 7 + 1, none⟩ = some (.int .i64 m.b) /\ w.cell? ⟨b, off + j * 7 + 2, none⟩ = some (.int .i64 m.x) /\ w.cell? ⟨b, off + j * 7 + 3, none⟩ = some (.int .i64 m.y) /\
  w.cell? ⟨b, off + j * 7 + 4, none⟩ = some (.int .i64 m.z) /\ w.cell? ⟨b, off + j * 7 + 5, none⟩ = some (.int .i64 m.d) /\ w.cell? ⟨b, off + j * 7 + 6, none⟩ = some (.int .i64 m.w) := by
 have hj' : j < ms.length := by rw [h.1]; exact hj
 obtain ⟨b, off, hA, hc⟩ := h.2 (by intro e; have := p9 ms; rw [e] at this; simp at this; omega);have hm : ms[j]? = some ms[j] := List.getElem?_eq_getElem hj';have g := fun i u hu => hc (j * 7 + i) u (qa hm i u hu)
 simp only [<- Nat.add_assoc] at g;exact ⟨b, off, ms[j], hA, hm, List.getElem_mem hj', g 0 _ rfl, g 1 _ rfl, g 2 _ rfl, g 3 _ rfl, g 4 _ rfl, g 5 _ rfl, g 6 _ rfl⟩
end
/-- A relation between the k cells of an element and the element: stable under what grows and under stores into blocks without integers. -/
structure KindK {α : Type} (k : Nat) (R : World -> List Value -> α -> Prop) : Prop where
 len : ∀ w cs x, R w cs x -> cs.length = k
 keep : ∀ w w' L cs x, R w cs x -> Keeps L w w' -> (∀ g ∈ L, NoInts w g) -> R w' cs x
 free : k = 1 -> ∀ w w' cs x, R w cs x -> R w' cs x
theorem KindK.ext {α : Type} {k : Nat} {R : World -> List Value -> α -> Prop} (h : KindK k R) {w w' : World} {cs : List Value} {x : α} (hr : R w cs x) (he : Ext w w') : R w' cs x := h.keep w w' [] cs x hr (.of_ext he []) fun g hg => by simp at hg
/-- The cells 'vs' are those of the n elements 'f 0', 'f 1' .. -/
def NumK {α : Type} (k : Nat) (R : World -> List Value -> α -> Prop) (w : World) (vs : List Value) (n : Nat) (f : Nat -> α) : Prop :=
 vs.length = n * k /\ ∀ j, j < n -> ∃ cs : List Value, cs.length = k /\ R w cs (f j) /\ ∀ i, i < k -> vs[j * k + i]? = cs[i]?
section
variable {α : Type} {k n m : Nat} {R : World -> List Value -> α -> Prop} {w w' : World} {vs : List Value} {f g : Nat -> α}
theorem NumK.nil (k : Nat) (R : World -> List Value -> α -> Prop) (w : World) (f : Nat -> α) : NumK k R w [] 0 f := ⟨by simp, fun j hj => by omega⟩
theorem NumK.imp {R' : World -> List Value -> α -> Prop} (h : NumK k R w vs n f) (hi : ∀ cs x, R w cs x -> R' w' cs x) : NumK k R' w' vs n f :=
 ⟨h.1, fun j hj => by obtain ⟨cs, h1, h2, h3⟩ := h.2 j hj; exact ⟨cs, h1, hi _ _ h2, h3⟩⟩
theorem NumK.congr (h : NumK k R w vs n f) (e : ∀ j, j < n -> f j = g j) : NumK k R w vs n g :=
 ⟨h.1, fun j hj => by obtain ⟨cs, h1, h2, h3⟩ := h.2 j hj; exact ⟨cs, h1, e j hj ▸ h2, h3⟩⟩
theorem NumK.ext (hk : KindK k R) (h : NumK k R w vs n f) (he : Ext w w') : NumK k R w' vs n f := h.imp fun _ _ hr => hk.ext hr he
theorem NumK.keep (hk : KindK k R) {L : List Nat} (h : NumK k R w vs n f) (he : Keeps L w w') (hN : ∀ g ∈ L, NoInts w g) : NumK k R w' vs n f := h.imp fun _ _ hr => hk.keep _ _ L _ _ hr he hN
/-- One element is written anew. -/
theorem NumK.put (h : NumK k R w vs n f) {j : Nat} (_hj : j < n) {cs : List Value} (hl : cs.length = k) {x : α} (hR : R w cs x) {us : List Value} (hv : us.length = vs.length) (h1 : ∀ i, i < k -> us[j * k + i]? = cs[i]?) (h2 : ∀ p, p < j * k \/ j * k + k <= p -> us[p]? = vs[p]?) :
  NumK k R w us n (fun i => if i = j then x else f i) := by
 refine ⟨by rw [hv]; exact h.1, fun i hi => ?_⟩
 by_cases e : i = j
 .
  subst e;exact ⟨cs, hl, by simp only [if_true]; exact hR, h1⟩
 .
  obtain ⟨ds, d1, d2, d3⟩ := h.2 i hi;refine ⟨ds, d1, by simp only [if_neg e]; exact d2, fun p hp => ?_⟩;rw [<- d3 p hp];refine h2 _ ?_
  rcases Nat.lt_or_gt_of_ne e with h5 | h5
  .
   left
   have : (i + 1) * k <= j * k := Nat.mul_le_mul_right _ h5;rw [Nat.succ_mul] at this;omega
  .
   right
   have : (j + 1) * k <= i * k := Nat.mul_le_mul_right _ h5;rw [Nat.succ_mul] at this;omega
/-- One more element behind them. -/
theorem NumK.snoc (h : NumK k R w vs n f) {cs : List Value} (hl : cs.length = k) {x : α} (hR : R w cs x) : NumK k R w (vs ++ cs) (n + 1) (fun i => if i = n then x else f i) := by
 refine ⟨by rw [List.length_append, h.1, hl, Nat.succ_mul], fun j hj => ?_⟩
 by_cases e : j = n
 .
  subst e;refine ⟨cs, hl, by simp only [if_true]; exact hR, fun i hi => ?_⟩;rw [List.getElem?_append_right (by rw [h.1]; omega), h.1]
  congr 1; omega
 .
  obtain ⟨ds, d1, d2, d3⟩ := h.2 j (by omega);refine ⟨ds, d1, by simp only [if_neg e]; exact d2, fun i hi => ?_⟩;rw [<- d3 i hi];refine List.getElem?_append_left ?_;rw [h.1];have : (j + 1) * k <= n * k := Nat.mul_le_mul_right _ (by omega);rw [Nat.succ_mul] at this;omega
theorem NumK.new (k : Nat) (R : World -> List Value -> α -> Prop) (w : World) (vs : List Value) (n : Nat) (hl : vs.length = n * k) {cs : List Value} (hcs : cs.length = k) {x : α} (hR : R w cs x) (h : ∀ i, i < n * k -> vs[i]? = cs[i % k]?) : NumK k R w vs n (fun _ => x) :=
 ⟨hl, fun j hj => ⟨cs, hcs, hR, fun i hi => by
  have hb : j * k + i < n * k := by
   have : (j + 1) * k <= n * k := Nat.mul_le_mul_right _ (by omega);rw [Nat.succ_mul] at this;omega
  rw [h _ hb, Nat.add_comm, Nat.mul_comm, Nat.add_mul_mod_self_left, Nat.mod_eq_of_lt hi]⟩⟩
end
theorem fY (vs : List Value) (p : Nat) (a b c : Value) (_h : p + 3 <= vs.length) : ((((vs.set p a).set (p + 1) b).set (p + 2) c).length = vs.length) /\ (∀ i, i < 3 -> (((vs.set p a).set (p + 1) b).set (p + 2) c)[p + i]? = ([a, b, c] : List Value)[i]?) /\ (∀ q, q < p \/ p + 3 <= q -> (((vs.set p a).set (p + 1) b).set (p + 2) c)[q]? = vs[q]?) := by
 refine ⟨by simp, fun i hi => ?_, fun q hq => ?_⟩
 .
  match i, hi with
  | 0, _ =>
   show (((vs.set p a).set (p + 1) b).set (p + 2) c)[p]? = some a;rw [List.getElem?_set_ne (by omega), List.getElem?_set_ne (by omega), List.getElem?_set_self (by omega)]
  | 1, _ => rw [List.getElem?_set_ne (by omega), List.getElem?_set_self (by rw [List.length_set]; omega)]; rfl
  | 2, _ => rw [List.getElem?_set_self (by rw [List.length_set, List.length_set]; omega)]; rfl
  | _ + 3, hi => omega
 .
  rw [List.getElem?_set_ne (by omega), List.getElem?_set_ne (by omega), List.getElem?_set_ne (by omega)]
theorem qb (vs : List Value) (p : Nat) (a b : Value) (_h : p + 2 <= vs.length) : (((vs.set p a).set (p + 1) b).length = vs.length) /\ (∀ i, i < 2 -> ((vs.set p a).set (p + 1) b)[p + i]? = ([a, b] : List Value)[i]?) /\ (∀ q, q < p \/ p + 2 <= q -> ((vs.set p a).set (p + 1) b)[q]? = vs[q]?) := by
 refine ⟨by simp, fun i hi => ?_, fun q hq => ?_⟩
 .
  match i, hi with
  | 0, _ =>
   show ((vs.set p a).set (p + 1) b)[p]? = some a;rw [List.getElem?_set_ne (by omega), List.getElem?_set_self (by omega)]
  | 1, _ => rw [List.getElem?_set_self (by rw [List.length_set]; omega)]; rfl
  | _ + 2, hi => omega
 .
  rw [List.getElem?_set_ne (by omega), List.getElem?_set_ne (by omega)]
theorem km (vs : List Value) (p : Nat) (a : Value) (_h : p + 1 <= vs.length) : ((vs.set p a).length = vs.length) /\ (∀ i, i < 1 -> (vs.set p a)[p + i]? = ([a] : List Value)[i]?) /\ (∀ q, q < p \/ p + 1 <= q -> (vs.set p a)[q]? = vs[q]?) := by
 refine ⟨by simp, fun i hi => ?_, fun q hq => List.getElem?_set_ne (by omega)⟩;obtain rfl : i = 0 := by omega
 rw [Nat.add_zero, List.getElem?_set_self (by omega)]; rfl
/-- Numbers of three cells: the program's, the reference's, those of the interface. -/
def Tri (P : World -> Value -> Rat -> Prop) (w : World) (cs : List Value) (q : Rat) : Prop := ∃ s A l c B m k, cs = [.bool s, .slice A l c, .slice B m k] /\ P w (.agg #[.bool s, .slice A l c, .slice B m k]) q
theorem Tri.mk {P : World -> Value -> Rat -> Prop} {w : World} {s : Bool} {A B : Option Addr} {l c m k : Nat} {q : Rat} (h : P w (.agg #[.bool s, .slice A l c, .slice B m k]) q) : Tri P w [.bool s, .slice A l c, .slice B m k] q := ⟨_, _, _, _, _, _, _, rfl, h⟩
/-- Integers of the reference: two cells. -/
def o4 (w : World) (cs : List Value) (z : Int) : Prop := ∃ s A l c, cs = [.bool s, .slice A l c] /\ IntZ w (.agg #[.bool s, .slice A l c]) z
/-- Plain integers: one cell. -/
def dk (_ : World) (cs : List Value) (z : Int) : Prop := cs = [.int .i64 z]
theorem bX : KindK 1 dk := ⟨fun w cs x h => by rw [show cs = _ from h]; rfl, fun w w' L cs x h _ _ => h, fun _ _ _ _ _ h => h⟩
theorem cz : KindK 2 o4 := ⟨fun w cs x h => by obtain ⟨s, A, l, c, rfl, _⟩ := h; rfl, fun w w' L cs x h hk hN => by obtain ⟨s, A, l, c, e, h⟩ := h; exact ⟨s, A, l, c, e, h.keepsNI hk hN⟩, fun h => by omega⟩
theorem aB (K : Nat) : KindK 3 (Tri fun w v q => NumX w v q K) := ⟨fun w cs x h => by obtain ⟨s, A, l, c, B, m, k, rfl, _⟩ := h; rfl, fun w w' L cs x h hk hN => by obtain ⟨s, A, l, c, B, m, k, e, h⟩ := h; exact ⟨s, A, l, c, B, m, k, e, h.keepsNI hk hN⟩, fun h => by omega⟩
section
variable {P : World -> Value -> Rat -> Prop} {w : World} {vs : List Value} {n : Nat} {f : Nat -> Rat}
/-- The cells of number j. -/
theorem NumK.three (h : NumK 3 (Tri P) w vs n f) {j : Nat} (hj : j < n) : ∃ s A l c B m k, vs[j * 3]? = some (.bool s) /\ vs[j * 3 + 1]? = some (.slice A l c) /\ vs[j * 3 + 2]? = some (.slice B m k) /\ P w (.agg #[.bool s, .slice A l c, .slice B m k]) (f j) := by
 obtain ⟨cs, h1, ⟨s, A, l, c, B, m, k, rfl, h2⟩, h3⟩ := h.2 j hj;exact ⟨s, A, l, c, B, m, k, by have := h3 0 (by omega); simpa using this, by have := h3 1 (by omega); simpa using this, by have := h3 2 (by omega); simpa using this, h2⟩
end
section
variable {w : World} {vs : List Value} {n : Nat} {f : Nat -> Int}
theorem NumK.two (h : NumK 2 o4 w vs n f) {j : Nat} (hj : j < n) : ∃ s A l c, vs[j * 2]? = some (.bool s) /\ vs[j * 2 + 1]? = some (.slice A l c) /\ IntZ w (.agg #[.bool s, .slice A l c]) (f j) := by
 obtain ⟨cs, h1, ⟨s, A, l, c, rfl, h2⟩, h3⟩ := h.2 j hj;exact ⟨s, A, l, c, by have := h3 0 (by omega); simpa using this, by have := h3 1 (by omega); simpa using this, h2⟩
theorem NumK.one (h : NumK 1 dk w vs n f) {j : Nat} (hj : j < n) : vs[j]? = some (.int .i64 (f j)) := by
 obtain ⟨cs, h1, h2, h3⟩ := h.2 j hj;have h4 : cs = [.int .i64 (f j)] := h2;subst h4;have := h3 0 (by omega); simpa using this
theorem NumK.put1 (h : NumK 1 dk w vs n f) {j : Nat} (hj : j < n) (x : Int) : NumK 1 dk w (vs.set j (.int .i64 x)) n (fun i => if i = j then x else f i) := by
 have hb : j * 1 + 1 <= vs.length := by rw [h.1]; omega
 obtain ⟨h1, h2, h3⟩ := km vs (j * 1) (.int .i64 x) hb;rw [Nat.mul_one] at h1 h2 h3;exact h.put hj rfl rfl h1 (by simpa using h2) (by simpa using h3)
/-- Integers that stand in a row of their own are what they are in every world. -/
theorem NumK.any (h : NumK 1 dk w vs n f) (w' : World) : NumK 1 dk w' vs n f := h.imp fun _ _ hr => hr
theorem NumK.map (h : NumK 1 dk w vs n f) : vs = (List.range n).map fun j => .int .i64 (f j) := by
 refine List.ext_getElem? fun j => ?_
 rcases Nat.lt_or_ge j n with h1 | h1
 .
  rw [h.one h1, List.getElem?_map, List.getElem?_range h1]; rfl
 .
  rw [List.getElem?_eq_none (by rw [h.1]; omega), List.getElem?_eq_none (by simp; omega)]
end
/-- A table of m rows, each of n elements of k cells and in a row of its own. -/
structure Tbl {α : Type} (k : Nat) (R : World -> List Value -> α -> Prop) (te : TypeId) (base : Nat) (w : World) (m n : Nat) (vs : List Value) (T : Nat -> Nat -> α) : Prop where
 len : vs.length = m
 rows : ∃ rows, RowsT te k base w n vs rows /\ ∀ i r, rows[i]? = some r -> NumK k R w r n (T i)
section
variable {α : Type} {k m n base : Nat} {te : TypeId} {R : World -> List Value -> α -> Prop} {w w' : World} {vs : List Value} {T U : Nat -> Nat -> α}
theorem Tbl.nil (k : Nat) (R : World -> List Value -> α -> Prop) (te : TypeId) (base : Nat) (w : World) (n : Nat) (T : Nat -> Nat -> α) : Tbl k R te base w 0 n [] T := ⟨rfl, [], RowsT.nil te k base w n, by simp⟩
theorem Tbl.congr (h : Tbl k R te base w m n vs T) (e : ∀ i j, i < m -> j < n -> T i j = U i j) : Tbl k R te base w m n vs U := by
 obtain ⟨hl, rows, h1, h2⟩ := h;refine ⟨hl, rows, h1, fun i r hr => (h2 i r hr).congr fun j hj => e i j ?_ hj⟩;have := (List.getElem?_eq_some_iff.1 hr).1;rw [<- h1.len, hl] at this;exact this
theorem Tbl.keep (hk : KindK k R) {L : List Nat} (h : Tbl k R te base w m n vs T) (he : Keeps L w w') (hN : ∀ g ∈ L, NoInts w g) (hn : ∀ v ∈ vs, ∀ g, v.ownBlock = some g -> g ∉ L) : Tbl k R te base w' m n vs T := by
 obtain ⟨hl, rows, h1, h2⟩ := h;exact ⟨hl, rows, h1.keeps he hn, fun i r hr => (h2 i r hr).keep hk he hN⟩
theorem Tbl.ext (hk : KindK k R) (h : Tbl k R te base w m n vs T) (he : Ext w w') : Tbl k R te base w' m n vs T := h.keep hk (.of_ext he []) (fun g hg => by simp at hg) fun _ _ _ _ hg => by simp at hg
theorem Tbl.row (h : Tbl k R te base w m n vs T) {i : Nat} (hi : i < m) : ∃ v r, vs[i]? = some v /\ w.ownsRow base te k v n r /\ NumK k R w r n (T i) := by
 obtain ⟨hl, rows, h1, h2⟩ := h;have hi' : i < rows.length := by rw [<- h1.len, hl]; exact hi
 obtain ⟨v, hv, ho⟩ := h1.get (List.getElem?_eq_getElem hi');exact ⟨v, _, hv, ho, h2 i _ (List.getElem?_eq_getElem hi')⟩
theorem Tbl.low (h : Tbl k R te base w m n vs T) {v : Value} (hv : v ∈ vs) {g : Nat} (hg : v.ownBlock = some g) : base <= g /\ g < w.heap.size := by
 obtain ⟨i, hi, rfl⟩ := List.getElem_of_mem hv;obtain ⟨v', r, h1, h2, _⟩ := h.row (i := i) (by rw [<- h.len]; exact hi);rw [List.getElem?_eq_getElem hi] at h1;injection h1 with h1;subst h1;exact cB h2 hg
/-- The rows' blocks hold no integers. -/
def TblNI (w : World) (vs : List Value) : Prop := ∀ v ∈ vs, RowNI w v
theorem TblNI.ext (h : TblNI w vs) (he : Ext w w') : TblNI w' vs := fun v hv => (h v hv).ext he
theorem RowNI.keeps {w w' : World} {v : Value} {L : List Nat} (h : RowNI w v) (he : Keeps L w w') (hn : ∀ g, v.ownBlock = some g -> g ∉ L) : RowNI w' v := fun g hg => by
 obtain ⟨t, cs, h1, h2⟩ := h g hg;exact ⟨t, cs, (he.block g h1.lt (hn g hg)).trans h1, h2⟩
/-- One element of row i is stored anew: the world w' differs from w in its row's block alone, which is still its own. -/
theorem Tbl.put (hk : KindK k R) (h : Tbl k R te base w m n vs T) {i j g : Nat} (hi : i < m) (hj : j < n) {c : Nat} (hv : vs[i]? = some (.slice (some ⟨g, 0, none⟩) n c)) {r us : List Value} (ho : w.ownsRow base te k (.slice (some ⟨g, 0, none⟩) n c) n r) (ho' : w'.ownsRow base te k (.slice (some ⟨g, 0, none⟩) n c) n us)
  (he : Keeps [g] w w') (hN : NoInts w g \/ ∀ w w' cs x, R w cs x -> R w' cs x) {cs : List Value} (hl : cs.length = k) {x : α} (hR : R w' cs x) (h1 : ∀ i, i < k -> us[j * k + i]? = cs[i]?) (h2 : ∀ p, p < j * k \/ j * k + k <= p -> us[p]? = r[p]?) :
  Tbl k R te base w' m n vs (fun a b => if a = i /\ b = j then x else T a b) := by
 have hst : ∀ cs x, R w cs x -> R w' cs x := fun cs x hr => by
  rcases hN with hN | hN
  .
   exact hk.keep w w' [g] cs x hr he fun q hq => by simp at hq; subst hq; exact hN
  .
   exact hN w w' cs x hr
 obtain ⟨hlen, rows, hr, hn⟩ := h;have hi' : i < rows.length := by rw [<- hr.len, hlen]; exact hi
 have hri : rows[i]? = some rows[i] := List.getElem?_eq_getElem hi';have hoi := hr.row i _ _ hv hri
 have hrr : rows[i] = r := by
  obtain ⟨cur, hB, _, _, _, _, h4⟩ := cA ho;obtain ⟨cur', hB', _, _, _, _, h4'⟩ := cA hoi
  have e : cur = cur' := by
   have h : some (Obj.cells cur te (0, 0)) = some (Obj.cells cur' te (0, 0)) := hB.symm.trans hB';injection h with h;injection h
  rw [<- h4, <- h4', e]
 have hnum := hn i _ hri;rw [hrr] at hnum;refine ⟨hlen, rows.set i us, ⟨by rw [List.length_set, hr.len], fun a v q hv' hq => ?_, hr.far⟩, fun a q hq => ?_⟩
 .
  by_cases e : a = i
  .
   subst e;rw [List.getElem?_set_self hi'] at hq;injection hq with hq;subst hq;rw [hv] at hv';injection hv' with hv';subst hv';exact ho'
  .
   rw [List.getElem?_set_ne (fun q => e q.symm)] at hq;refine aj (L := [g]) (hr.row a v q hv' hq) he fun b hb hl => ?_
   simp at hl;subst hl;obtain ⟨ha, rfl⟩ := List.getElem?_eq_some_iff.1 hv';obtain ⟨hi2, hiv⟩ := List.getElem?_eq_some_iff.1 hv;have hp := List.pairwise_iff_getElem.1 hr.far;have hb2 : (vs[i]).ownBlock = some b := by rw [hiv]; simp [Value.ownBlock]
   rcases Nat.lt_or_gt_of_ne e with h5 | h5
   .
    exact hp a i ha hi2 h5 (by rw [hb, hb2])
   .
    exact hp i a hi2 ha h5 (by rw [hb, hb2])
 .
  by_cases e : a = i
  .
   subst e;rw [List.getElem?_set_self hi'] at hq;injection hq with hq;subst hq;have hp := (hnum.imp (R' := R) (w' := w') hst).put hj hl hR (us := us) (by rw [<- hrr]; have := ho'.1; rw [this, hoi.1]) h1 h2;refine hp.congr fun b hb => ?_
   simp
  .
   rw [List.getElem?_set_ne (fun q => e q.symm)] at hq;refine ((hn a q hq).imp (R' := R) (w' := w') hst).congr fun b hb => ?_
   simp [e]
/-- Another row behind them. -/
theorem Tbl.push (h : Tbl k R te base w m n vs T) {v : Value} {r : List Value} (ho : w.ownsRow base te k v n r) {f : Nat -> α} (hr : NumK k R w r n f) (hf : ∀ u ∈ vs, u.ownBlock ≠ v.ownBlock) : Tbl k R te base w (m + 1) n (vs ++ [v]) (fun i => if i = m then f else T i) := by
 obtain ⟨hl, rows, h1, h2⟩ := h;refine ⟨by simp [hl], rows ++ [r], h1.push ho hf, fun i q hq => ?_⟩;have hrl : rows.length = m := by rw [<- h1.len, hl]
 by_cases e : i = m
 .
  subst e;rw [List.getElem?_append_right (by omega), hrl] at hq;simp at hq;subst hq;simp only [if_true];exact hr
 .
  have hi : i < rows.length := by
   have := (List.getElem?_eq_some_iff.1 hq).1;simp at this;omega
  rw [List.getElem?_append_left hi] at hq;simp only [if_neg e];exact h2 i q hq
/-- Two rows change their places. -/
theorem Tbl.swap (h : Tbl k R te base w m n vs T) {a b : Nat} (ha : a < m) (hb : b < m) {va vb : Value} (h1 : vs[a]? = some va) (h2 : vs[b]? = some vb) : Tbl k R te base w m n ((vs.set a vb).set b va) (fun i => if i = b then T a else if i = a then T b else T i) := by
 obtain ⟨hl, rows, hr, hn⟩ := h;have ha' : a < rows.length := by rw [<- hr.len, hl]; exact ha
 have hb' : b < rows.length := by rw [<- hr.len, hl]; exact hb
 have g1 : rows[a]? = some rows[a] := List.getElem?_eq_getElem ha';have g2 : rows[b]? = some rows[b] := List.getElem?_eq_getElem hb';refine ⟨by simp [hl], _, hr.swap h1 h2 g1 g2, fun i q hq => ?_⟩
 by_cases e1 : i = b
 .
  subst e1;rw [List.getElem?_set_self (by rw [List.length_set]; exact hb')] at hq;injection hq with hq;subst hq;simp only [if_true];exact hn a _ g1
 .
  rw [List.getElem?_set_ne (fun q => e1 q.symm)] at hq;simp only [if_neg e1]
  by_cases e2 : i = a
  .
   subst e2;rw [List.getElem?_set_self ha'] at hq;injection hq with hq;subst hq;simp only [if_true];exact hn b _ g2
  .
   rw [List.getElem?_set_ne (fun q => e2 q.symm)] at hq;simp only [if_neg e2];exact hn i q hq
end
/-- Shifts of S strips in memory: number k of strip s is 'u (3 * s + k)'. -/
def ShP (P : World -> Value -> Rat -> Prop) (w : World) (g o S : Nat) (u : Nat -> Rat) : Prop :=
 ∀ s k, s < S -> k < 3 -> ∃ sg A l c B m n, w.cell? ⟨g, o + s * 9 + k * 3, none⟩ = some (.bool sg) /\ w.cell? ⟨g, o + s * 9 + k * 3 + 1, none⟩ = some (.slice A l c) /\ w.cell? ⟨g, o + s * 9 + k * 3 + 2, none⟩ = some (.slice B m n) /\ P w (.agg #[.bool sg, .slice A l c, .slice B m n]) (u (3 * s + k))
/-- A relation that growing memory leaves as it is. -/
def iF (P : World -> Value -> Rat -> Prop) : Prop := ∀ w w' v q, P w v q -> Ext w w' -> P w' v q
theorem bs (L : Nat) : iF fun w v q => NumX w v q L := fun _ _ _ _ h he => h.ext he
theorem bK : iF QZ := fun _ _ _ _ h he => h.ext he
theorem n7 : iF RatG := fun _ _ _ _ h he => h.ext he
theorem dl : iF RatC := fun _ _ _ _ h he => h.ext he
theorem ShP.ext {P : World -> Value -> Rat -> Prop} (hP : iF P) {w w' : World} {g o S : Nat} {u : Nat -> Rat} (h : ShP P w g o S u) (he : Ext w w') : ShP P w' g o S u := fun s k hs hk => by
 obtain ⟨sg, A, l, c, B, m, n, h0, h1, h2, h3⟩ := h s k hs hk;exact ⟨sg, A, l, c, B, m, n, he.cell h0, he.cell h1, he.cell h2, hP _ _ _ _ h3 he⟩
/-- A row of its own that holds shifts. -/
theorem ShP.of_row {P : World -> Value -> Rat -> Prop} {w : World} {base g S c : Nat} {te : TypeId} {vs : List Value} {u : Nat -> Rat} (ho : w.ownsRow base te 9 (.slice (some ⟨g, 0, none⟩) S c) S vs) (h : NumK 3 (Tri P) w vs (3 * S) u) : ShP P w g 0 S u := fun s k hs hk => by
 obtain ⟨sg, A, l, c', B, m, n, h0, h1, h2, h3⟩ := h.three (j := 3 * s + k) (by omega);have hc := ho.cells (g := g) rfl;have e : (3 * s + k) * 3 = 0 + s * 9 + k * 3 := by omega
 rw [e] at h0 h1 h2;refine ⟨sg, A, l, c', B, m, n, ?_, ?_, ?_, h3⟩
 .
  have := hc _ _ h0; rwa [Addr.add_lit, Nat.zero_add (0 + s * 9 + k * 3)] at this
 .
  have := hc _ _ h1; rwa [Addr.add_lit, Nat.zero_add (0 + s * 9 + k * 3 + 1)] at this
 .
  have := hc _ _ h2; rwa [Addr.add_lit, Nat.zero_add (0 + s * 9 + k * 3 + 2)] at this
/-- Element k of an array of three. -/
def aA {α : Type} (x y z : α) (k : Nat) : α := if k = 0 then x else if k = 1 then y else z
theorem n8 (x y z : Int) {k : Nat} (hk : k < 3) (w : World) : (Instr.index 22 (.agg #[.int .i64 x, .int .i64 y, .int .i64 z]) (.int .i64 (k : Int))).run Try.prog w = .ok (.int .i64 (aA x y z k)) w := by
 have i0 : ∀ w : World, (Instr.index 22 (.agg #[.int .i64 x, .int .i64 y, .int .i64 z]) (.int .i64 0)).run Try.prog w = .ok (.int .i64 x) w := fun _ => by kernel_rfl
 have i1 : ∀ w : World, (Instr.index 22 (.agg #[.int .i64 x, .int .i64 y, .int .i64 z]) (.int .i64 1)).run Try.prog w = .ok (.int .i64 y) w := fun _ => by kernel_rfl
 have i2 : ∀ w : World, (Instr.index 22 (.agg #[.int .i64 x, .int .i64 y, .int .i64 z]) (.int .i64 2)).run Try.prog w = .ok (.int .i64 z) w := fun _ => by kernel_rfl
 match k, hk with
 | 0, _ => exact i0 w
 | 1, _ => exact i1 w
 | 2, _ => exact i2 w
 | _ + 3, hk => omega
/-- The residual, number by number of the normal. -/
def fv (m : Mt) (u : Nat -> Rat) : Nat -> Rat
 | 0 => (m.d : Rat)
 | k + 1 => fv m u k + ((m.nrm k : Int) : Rat) * oZ m u k
theorem fw {S : Nat} {m : Mt} (h : VM S m) (u : Nat -> Rat) : fv m u 3 = dA (3 * S) m u := by
 unfold dA;rw [lI h];simp only [fv, Mt.nrm];simp only [if_true, Nat.reduceEqDiff, if_false, Nat.succ_ne_zero];grind
/-- The slice at block gt has m rows of n elements each. -/
structure TabG {α : Type} (k : Nat) (R : World -> List Value -> α -> Prop) (te tr : TypeId) (base : Nat) (w : World) (gt ct m n : Nat) (vs : List Value) (T : Nat -> Nat -> α) : Prop where
 out : w.ownsRow base tr 1 (.slice (some ⟨gt, 0, none⟩) m ct) m vs
 tbl : Tbl k R te base w m n vs T
 ni : k = 1 \/ (TblNI w vs /\ NoInts w gt)
section
variable {α : Type} {k base m n gt ct : Nat} {te tr : TypeId} {R : World -> List Value -> α -> Prop} {w w' : World} {vs : List Value} {T U : Nat -> Nat -> α}
theorem TabG.congr (h : TabG k R te tr base w gt ct m n vs T) (e : ∀ i j, i < m -> j < n -> T i j = U i j) : TabG k R te tr base w gt ct m n vs U := ⟨h.out, h.tbl.congr e, h.ni⟩
theorem TabG.ext (hk : KindK k R) (h : TabG k R te tr base w gt ct m n vs T) (he : Ext w w') : TabG k R te tr base w' gt ct m n vs T :=
 ⟨World.ownsRow.ext' h.out he, h.tbl.ext hk he, h.ni.imp id fun q => ⟨q.1.ext he, q.2.ext he⟩⟩
theorem TabG.low (h : TabG k R te tr base w gt ct m n vs T) : base <= gt /\ gt < w.heap.size := cB h.out (by simp [Value.ownBlock])
theorem TabG.keeps (hk : KindK k R) {L : List Nat} (h : TabG k R te tr base w gt ct m n vs T) (he : Keeps L w w') (hL : ∀ g ∈ L, NoInts w g) (hn : ∀ g ∈ L, g ≠ gt /\ ∀ v ∈ vs, v.ownBlock ≠ some g) : TabG k R te tr base w' gt ct m n vs T := by
 refine ⟨aj h.out he fun g hg hl => ?_, h.tbl.keep hk he hL fun v hv g hg hl => (hn g hl).2 v hv hg, h.ni.imp id fun q => ⟨fun v hv => (q.1 v hv).keeps he fun g hg hl => (hn g hl).2 v hv hg, ?_⟩⟩
 .
  simp [Value.ownBlock] at hg;subst hg;exact (hn _ hl).1 rfl
 .
  have := (RowNI.keeps (v := .slice (some ⟨gt, 0, none⟩) m ct) (fun g hg => by simp [Value.ownBlock] at hg; subst hg; exact q.2) he fun g hg hl => by simp [Value.ownBlock] at hg; subst hg; exact (hn _ hl).1 rfl) gt (by simp [Value.ownBlock]);exact this
/-- Row i. -/
theorem TabG.row (h : TabG k R te tr base w gt ct m n vs T) (hne : te ≠ tr) (h0 : 0 < n) {i : Nat} (hi : i < m) : ∃ g c r, w.cell? ⟨gt, i, none⟩ = some (.slice (some ⟨g, 0, none⟩) n c) /\ vs[i]? = some (.slice (some ⟨g, 0, none⟩) n c) /\
  w.ownsRow base te k (.slice (some ⟨g, 0, none⟩) n c) n r /\ NumK k R w r n (T i) /\ base <= g /\ g < w.heap.size /\ g ≠ gt /\ n <= c /\ c <= 9223372036854775807 := by
 obtain ⟨v, r, hv, ho, hr⟩ := h.tbl.row hi;obtain ⟨A, c, rfl⟩ := ar ho;obtain ⟨g, rfl, h1, h2⟩ := eU ho h0;have hc := f9 ho;refine ⟨g, c, r, ?_, hv, ho, hr, h1, h2, ?_, hc.1, hc.2⟩
 .
  have := h.out.cells (g := gt) rfl i _ hv
  rwa [Addr.add_lit, Nat.zero_add] at this
 .
  rintro rfl
  rcases de ho h.out hne with q | q
  .
   simp [Value.ownBlock] at q
  .
   exact q rfl
theorem aL {base g size n c : Nat} {e : TypeId} {xs : List Value} (h : w.ownsRow base e size (.slice (some ⟨g, 0, none⟩) n c) n xs) (i : Nat) : w.frozen? ⟨g, i, none⟩ = false := by
 obtain ⟨cur, hB, _⟩ := cA h;exact hB.free i
theorem af {base g size n c : Nat} {e : TypeId} {xs : List Value} (h : w.ownsRow base e size (.slice (some ⟨g, 0, none⟩) n c) n xs) {i : Nat} {u : Value} (hu : xs[i]? = some u) : w.cell? ⟨g, i, none⟩ = some u := by
 have := h.cells (g := g) rfl i u hu
 rwa [Addr.add_lit, Nat.zero_add] at this
/-- One element is stored anew. -/
theorem TabG.put (hk : KindK k R) (h : TabG k R te tr base w gt ct m n vs T) {i j g : Nat} (hi : i < m) (hj : j < n) {c : Nat} (hv : vs[i]? = some (.slice (some ⟨g, 0, none⟩) n c)) (_hgt : g ≠ gt) {r us : List Value} (ho : w.ownsRow base te k (.slice (some ⟨g, 0, none⟩) n c) n r) (ho' : w'.ownsRow base te k (.slice (some ⟨g, 0, none⟩) n c) n us)
  (he : Keeps [g] w w') (hN' : NoInts w g -> NoInts w' g) {cs : List Value} (hl : cs.length = k) {x : α} (hR : R w' cs x) (h1 : ∀ i, i < k -> us[j * k + i]? = cs[i]?) (h2 : ∀ p, p < j * k \/ j * k + k <= p -> us[p]? = r[p]?) :
  TabG k R te tr base w' gt ct m n vs (fun a b => if a = i /\ b = j then x else T a b) := by
 have hmem : (Value.slice (some ⟨g, 0, none⟩) n c) ∈ vs := List.mem_of_getElem? hv;refine ⟨aj h.out he fun q hq hl => ?_, h.tbl.put hk hi hj hv ho ho' he ?_ hl hR h1 h2, ?_⟩
 .
  simp [Value.ownBlock] at hq hl;omega
 .
  rcases h.ni with q | q
  .
   exact .inr (hk.free q)
  .
   exact .inl (q.1 _ hmem g (by simp [Value.ownBlock]))
 .
  rcases h.ni with q | q
  .
   exact .inl q
  .
   refine .inr ⟨fun v hv' b hb => ?_, ?_⟩
   .
    by_cases e : b = g
    .
     subst e;exact hN' (q.1 _ hmem b (by simp [Value.ownBlock]))
    .
     obtain ⟨t, cs, h3, h4⟩ := q.1 v hv' b hb;exact ⟨t, cs, (he.block b h3.lt (by simp [e])).trans h3, h4⟩
   .
    obtain ⟨t, cs, h3, h4⟩ := q.2;exact ⟨t, cs, (he.block gt h3.lt (by simp; omega)).trans h3, h4⟩
end
/-- A number is stored in row i, column j. -/
theorem TabG.put3 {P : World -> Value -> Rat -> Prop} (hk : KindK 3 (Tri P)) {te tr : TypeId} {base : Nat} {w : World} {gt ct m n : Nat} {vs : List Value} {T : Nat -> Nat -> Rat} (h : TabG 3 (Tri P) te tr base w gt ct m n vs T) {i j g : Nat} (hi : i < m) (hj : j < n) {c : Nat} (hv : vs[i]? = some (.slice (some ⟨g, 0, none⟩) n c)) (hgt : g ≠ gt)
  {sg : Bool} {A B : Option Addr} {l c1 l2 c2 : Nat} {x : Rat} (hx : P (((w.setCell ⟨g, j * 3, none⟩ (.bool sg)).setCell ⟨g, j * 3 + 1, none⟩ (.slice A l c1)).setCell ⟨g, j * 3 + 2, none⟩ (.slice B l2 c2)) (.agg #[.bool sg, .slice A l c1, .slice B l2 c2]) x) :
  TabG 3 (Tri P) te tr base (((w.setCell ⟨g, j * 3, none⟩ (.bool sg)).setCell ⟨g, j * 3 + 1, none⟩ (.slice A l c1)).setCell ⟨g, j * 3 + 2, none⟩ (.slice B l2 c2)) gt ct m n vs (fun a b => if a = i /\ b = j then x else T a b) /\
  Keeps [g] w (((w.setCell ⟨g, j * 3, none⟩ (.bool sg)).setCell ⟨g, j * 3 + 1, none⟩ (.slice A l c1)).setCell ⟨g, j * 3 + 2, none⟩ (.slice B l2 c2)) := by
 obtain ⟨v, r, hv', ho, hr⟩ := h.tbl.row hi;rw [hv] at hv';injection hv' with hv';subst hv';have hb : j * 3 + 3 <= r.length := by rw [ho.1]; omega
 obtain ⟨h1, h2, h3⟩ := fY r (j * 3) (.bool sg) (.slice A l c1) (.slice B l2 c2) hb;have hkp : Keeps [g] w (((w.setCell ⟨g, j * 3, none⟩ (.bool sg)).setCell ⟨g, j * 3 + 1, none⟩ (.slice A l c1)).setCell ⟨g, j * 3 + 2, none⟩ (.slice B l2 c2)) := (((Keeps.refl [g] w).setCell (.inl (by simp)) _).setCell (.inl (by simp)) _).setCell (.inl (by simp)) _;exact ⟨h.put hk hi hj hv hgt ho (bq (bq (bq ho))) hkp (fun q => ((q.set _ (ak sg)).set _ (ag A l c1)).set _ (ag B l2 c2)) rfl (Tri.mk hx) h2 h3, hkp⟩
/-- A plain integer is stored in row i, column j. -/
theorem TabG.put1 {te tr : TypeId} {base : Nat} {w : World} {gt ct m n : Nat} {vs : List Value} {T : Nat -> Nat -> Int} (h : TabG 1 dk te tr base w gt ct m n vs T) {i j g : Nat} (hi : i < m) (hj : j < n) {c : Nat} (hv : vs[i]? = some (.slice (some ⟨g, 0, none⟩) n c)) (_hgt : g ≠ gt) (x : Int) :
  TabG 1 dk te tr base (w.setCell ⟨g, j, none⟩ (.int .i64 x)) gt ct m n vs (fun a b => if a = i /\ b = j then x else T a b) /\ Keeps [g] w (w.setCell ⟨g, j, none⟩ (.int .i64 x)) := by
 obtain ⟨v, r, hv', ho, hr⟩ := h.tbl.row hi;rw [hv] at hv';injection hv' with hv';subst hv';have hb : j * 1 + 1 <= r.length := by rw [ho.1]; omega
 obtain ⟨h1, h2, h3⟩ := km r (j * 1) (.int .i64 x) hb;rw [Nat.mul_one] at h1 h2 h3;have hkp : Keeps [g] w (w.setCell ⟨g, j, none⟩ (.int .i64 x)) := (Keeps.refl [g] w).setCell (.inl (by simp)) _;have hp := h.tbl;refine ⟨⟨aj h.out hkp fun q hq hl => ?_, h.tbl.put bX hi hj hv ho (bq ho) hkp (.inr fun _ _ _ _ q => q) rfl rfl (by simpa using h2) (by simpa using h3), .inl rfl⟩, hkp⟩;simp [Value.ownBlock] at hq hl;omega
/-- Two rows change their places. -/
theorem TabG.swap {α : Type} {k : Nat} {R : World -> List Value -> α -> Prop} (hk : KindK k R) {te tr : TypeId} (hne : te ≠ tr) {base : Nat} {w : World} {gt ct m n : Nat} {vs : List Value} {T : Nat -> Nat -> α} (h : TabG k R te tr base w gt ct m n vs T) {a b : Nat} (ha : a < m) (hb : b < m) {va vb : Value} (h1 : vs[a]? = some va) (h2 : vs[b]? = some vb) (n1 : bC va) (n2 : bC vb) :
  TabG k R te tr base ((w.setCell ⟨gt, a, none⟩ vb).setCell ⟨gt, b, none⟩ va) gt ct m n ((vs.set a vb).set b va) (fun i => if i = b then T a else if i = a then T b else T i) /\ Keeps [gt] w ((w.setCell ⟨gt, a, none⟩ vb).setCell ⟨gt, b, none⟩ va) := by
 have hkp : Keeps [gt] w ((w.setCell ⟨gt, a, none⟩ vb).setCell ⟨gt, b, none⟩ va) := ((Keeps.refl [gt] w).setCell (.inl (by simp)) _).setCell (.inl (by simp)) _
 have hfar : ∀ v ∈ vs, ∀ g, v.ownBlock = some g -> g ∉ [gt] := fun v hv g hg hl => by
  simp at hl;subst hl;obtain ⟨i, hi, rfl⟩ := List.getElem_of_mem hv;obtain ⟨v', r, h3, ho, _⟩ := h.tbl.row (i := i) (by rw [<- h.tbl.len]; exact hi);rw [List.getElem?_eq_getElem hi] at h3;injection h3 with h3;subst h3
  rcases de ho h.out hne with q | q
  .
   rw [hg] at q; cases q
  .
   rw [hg] at q; exact q rfl
 have hmem : ∀ v ∈ (vs.set a vb).set b va, v ∈ vs := fun v hv => by
  rcases List.mem_or_eq_of_mem_set hv with hv | rfl
  .
   rcases List.mem_or_eq_of_mem_set hv with hv | rfl
   .
    exact hv
   .
    exact List.mem_of_getElem? h2
  .
   exact List.mem_of_getElem? h1
 have key : Tbl k R te base ((w.setCell ⟨gt, a, none⟩ vb).setCell ⟨gt, b, none⟩ va) m n vs T := by
  rcases h.ni with q | q
  .
   obtain ⟨hl, rows, hr, hn⟩ := h.tbl;exact ⟨hl, rows, hr.keeps hkp hfar, fun i r hi => (hn i r hi).imp fun _ _ => hk.free q _ _ _ _⟩
  .
   exact h.tbl.keep hk hkp (fun g hg => by simp at hg; subst hg; exact q.2) hfar
 refine ⟨⟨bq (bq h.out), key.swap ha hb h1 h2, ?_⟩, hkp⟩
 rcases h.ni with q | q
 .
  exact .inl q
 .
  exact .inr ⟨fun v hv => (q.1 v (hmem v hv)).keeps hkp (hfar v (hmem v hv)), (q.2.set _ n2).set _ n1⟩
theorem n9 (gm gx gt ot S ct bn kk L : Nat) (s1 : Bool) (A1 B1 : Option Addr) (l1 c1 m1 k1 : Nat) (s2 : Bool) (A2 B2 : Option Addr) (l2 c2 m2 k2 : Nat) (q r : Rat) (w : World) (x0 : w.cell? ⟨gx, 0, none⟩ = some (.bool s1)) (x1 : w.cell? ⟨gx, 1, none⟩ = some (.slice A1 l1 c1)) (x2 : w.cell? ⟨gx, 2, none⟩ = some (.slice B1 m1 k1)) (y0 : w.cell? ⟨gt, ot + bn * 9 + kk * 3, none⟩ = some (.bool s2)) (y1 : w.cell? ⟨gt, ot + bn * 9 + kk * 3 + 1, none⟩ = some (.slice A2 l2 c2)) (y2 : w.cell? ⟨gt, ot + bn * 9 + kk * 3 + 2, none⟩ = some (.slice B2 m2 k2)) (hb : w.cell? ⟨gm, 1, none⟩ = some (.int .i64 (bn : Int))) (_hbS : bn < S) (_hkk : kk < 3) (_hk3 : (kk : Int) < 3) (hx : NumX w (.agg #[.bool s1, .slice A1 l1 c1, .slice B1 m1 k1]) q L) (hy : NumX w (.agg #[.bool s2, .slice A2 l2 c2, .slice B2 m2 k2]) r L) (_hL : L <= 100000) (a : Act) (Q : Exit -> Act -> World -> Prop) (hsize : 37 <= a.tmps.size)
  (s0 : a.tmps[0]? = some (.slice (some ⟨gt, ot, none⟩) S ct))
  (s3 : a.tmps[3]? = some (.pointer (some ⟨gm, 0, none⟩)))
  (s6 : a.tmps[6]? = some (.int .i64 (kk : Int)))
  (s8 : a.tmps[8]? = some (.pointer (some ⟨gx, 0, none⟩)))
  (hend : ∀ (xv0 xv1 xv2 xv3 xv4 xv5 xv6 xv7 xv8 : Value) (W : World), (xv0 = .agg #[.bool s1, .slice A1 l1 c1, .slice B1 m1 k1]) -> (xv1 = .slice (some ⟨gt, ot, none⟩) S ct) -> (xv2 = .pointer (some ⟨gm, 1, none⟩)) -> (xv3 = .int .i64 (bn : Int)) -> (xv4 = .int .i64 (kk : Int)) -> (xv5 = .pointer (some ⟨gt, ot + bn * 9, none⟩)) -> (xv6 = .pointer (some ⟨gt, ot + bn * 9 + kk * 3, none⟩)) -> (xv7 = .agg #[.bool s2, .slice A2 l2 c2, .slice B2 m2 k2]) -> (NumX W xv8 (q - r) (L + L + 1)) -> Ext w W -> wpList Try.prog (ae Try.f136 7).toArray Q ((ae Try.f136 7).drop 9) (((((((((a.put (some 28) xv0).put (some 29) xv1).put (some 30) xv2).put (some 31) xv3).put (some 32) xv4).put (some 33) xv5).put (some 34) xv6).put (some 35) xv7).put (some 36) xv8) W) :
  (Code.region 7 (ae Try.f136 7).toArray true).wp Try.prog Q a w := by
 refine bB 9 [some 28, some 29, some 30, some 31, some 32, some 33, some 34, some 35, some 36] [[], [], [], [2], [], [1, 3], [4, 5], [6], [0, 7]] [cd (.agg #[.bool s1, .slice A1 l1 c1, .slice B1 m1 k1]), cd (.slice (some ⟨gt, ot, none⟩) S ct), cd (.pointer (some ⟨gm, 1, none⟩)), cd (.int .i64 (bn : Int)), cd (.int .i64 (kk : Int)), cd (.pointer (some ⟨gt, ot + bn * 9, none⟩)), cd (.pointer (some ⟨gt, ot + bn * 9 + kk * 3, none⟩)), cd (.agg #[.bool s2, .slice A2 l2 c2, .slice B2 m2 k2]), fun v W => NumX W v (q - r) (L + L + 1)] (by kernel_rfl) (by kernel_rfl) rfl (by decide) hsize ⟨aN, aN, aN, aN, aN, aN, aN, aN, by intro v W W' h hX; exact NumX.ext h hX, trivial⟩ ?_ ?_
 .
  clear hend;simp only [ae, Try.f136, ab, Option.bind_some, Nat.reduceBEq, if_true, if_false, Bool.false_eq_true, Option.getD_some];simp only [List.take_succ_cons, List.take_zero];refine ⟨?_, ?_, ?_, ?_, ?_, ?_, ?_, ?_, ?_, trivial⟩
  .
   rintro us W hJ _ b hb hbz K hK0 hK Qz;have e8 := (hbz 8 (by simp)).trans s8;clear hb hbz;have z0 := Ext.cell hJ x0;have z1 := Ext.cell hJ x1;have z2 := Ext.cell hJ x2;go_simp;exact hK0 _ rfl
  .
   rintro us W hJ _ b hb hbz K hK0 hK Qz;have e0 := (hbz 0 (by simp)).trans s0;clear hb hbz;go_simp;exact hK0 _ rfl
  .
   rintro us W hJ _ b hb hbz K hK0 hK Qz;have e3 := (hbz 3 (by simp)).trans s3;clear hb hbz;go_simp;exact hK0 _ rfl
  .
   rintro us W hJ d2 b hb hbz K hK0 hK Qz;have e30 := ay (hb 2 30 rfl) d2;clear hb hbz d2;have q := Ext.cell hJ hb;go_simp;exact hK0 _ rfl
  .
   rintro us W hJ _ b hb hbz K hK0 hK Qz;have e6 := (hbz 6 (by simp)).trans s6;clear hb hbz;go_simp;exact hK0 _ rfl
  .
   rintro us W hJ ⟨d1, d3⟩ b hb hbz K hK0 hK Qz;have e29 := ay (hb 1 29 rfl) d1;have e31 := ay (hb 3 31 rfl) d3;clear hb hbz d1 d3;go_simp;exact hK0 _ rfl
  .
   rintro us W hJ ⟨d4, d5⟩ b hb hbz K hK0 hK Qz;have e32 := ay (hb 4 32 rfl) d4;have e33 := ay (hb 5 33 rfl) d5;clear hb hbz d4 d5;go_simp;exact hK0 _ rfl
  .
   rintro us W hJ d6 b hb hbz K hK0 hK Qz;have e34 := ay (hb 6 34 rfl) d6;clear hb hbz d6;have z0 := Ext.cell hJ y0;have z1 := Ext.cell hJ y1;have z2 := Ext.cell hJ y2;go_simp;exact hK0 _ rfl
  .
   rintro us W hJ ⟨d0, d7⟩ b hb hbz K hK0 hK Qz;have e28 := ay (hb 0 28 rfl) d0;have e35 := ay (hb 7 35 rfl) d7;clear hb hbz d0 d7;go_simp;refine (re (hx.ext hJ) (hy.ext hJ) (by omega)).mono ?_;rintro e w' ⟨v, rfl, hv, hX⟩;exact hK _ _ hv hX
 .
  rintro us W ⟨v0, v1, v2, v3, v4, v5, v6, v7, v8, _⟩ hJ;exact hend _ _ _ _ _ _ _ _ _ W v0 v1 v2 v3 v4 v5 v6 v7 v8 hJ
theorem iG (gs gx L M : Nat) (nn : Int) (s1 : Bool) (A1 B1 : Option Addr) (l1 c1 m1 k1 : Nat) (s2 : Bool) (A2 B2 : Option Addr) (l2 c2 m2 k2 : Nat) (q r : Rat) (w : World) (x0 : w.cell? ⟨gs, 0, none⟩ = some (.bool s1)) (x1 : w.cell? ⟨gs, 1, none⟩ = some (.slice A1 l1 c1)) (x2 : w.cell? ⟨gs, 2, none⟩ = some (.slice B1 m1 k1)) (y0 : w.cell? ⟨gx, 0, none⟩ = some (.bool s2)) (y1 : w.cell? ⟨gx, 1, none⟩ = some (.slice A2 l2 c2)) (y2 : w.cell? ⟨gx, 2, none⟩ = some (.slice B2 m2 k2)) (h0 : -9223372036854775808 <= nn) (h1 : nn <= 9223372036854775807) (hx : NumX w (.agg #[.bool s1, .slice A1 l1 c1, .slice B1 m1 k1]) q M) (hy : NumX w (.agg #[.bool s2, .slice A2 l2 c2, .slice B2 m2 k2]) r L) (_hL : L <= 1000000000) (_hM : M <= 1000000000) : aF Try.prog Try.f136 8 7 44 w [37, 38, 39, 40, 41, 42, 43] [.c (.agg #[.bool s1, .slice A1 l1 c1, .slice B1 m1 k1]), .c (.int .i64 (nn)), .p fun v W => NumX W v ((nn : Int) : Rat) (2), .c (.agg #[.bool s2, .slice A2 l2 c2, .slice B2 m2 k2]), .p fun v W => NumX W v (((nn : Int) : Rat) * r) (2 + L), .p fun v W => NumX W v (q + ((nn : Int) : Rat) * r) (M + (2 + L) + 1), .p fun v W => NumX W v (q + ((nn : Int) : Rat) * r) (M + (2 + L) + 1)] [(5, .pointer (some ⟨gs, 0, none⟩)), (7, .int .i64 (nn)), (8, .pointer (some ⟨gx, 0, none⟩))] := by
 refine aJ [[], [], [1], [], [2, 3], [0, 4], [5]] (by kernel_rfl) (by kernel_rfl) rfl ⟨by intro v W W' h hX; exact NumX.ext h hX, by intro v W W' h hX; exact NumX.ext h hX, by intro v W W' h hX; exact NumX.ext h hX, by intro v W W' h hX; exact NumX.ext h hX, trivial⟩ ?_;simp only [ae, Try.f136, ab, Option.bind_some, Nat.reduceBEq, if_true, if_false, Bool.false_eq_true, Option.getD_some];simp only [List.take_succ_cons, List.take_zero]
 repeat' first | refine ⟨?_, ?_⟩ | fail
 all_goals first | (intro us W b hJ K hK0 hK Qz; simp only [aC, al, am, List.getD_cons_succ, List.getD_cons_zero]) | exact True.intro
 all_goals try (intros; have q0 := Ext.cell hJ x0; have q1 := Ext.cell hJ x1; have q2 := Ext.cell hJ x2; have q3 := Ext.cell hJ y0; have q4 := Ext.cell hJ y1; have q5 := Ext.cell hJ y2; go_simp; exact hK0 _ rfl)
 .
  intro e38 e5 e7 e8;go_simp;refine (hY nn _ h0 h1).mono ?_;rintro e w' ⟨v, rfl, hv, hX⟩;exact hK _ _ hv hX
 .
  intro e39 d2 e40 e5 e7 e8;go_simp;refine (pw d2 (hy.ext hJ) (by omega) (by omega)).mono ?_;rintro e w' ⟨v, rfl, hv, hX⟩;exact hK _ _ hv hX
 .
  intro e37 e41 d4 e5 e7 e8;go_simp;refine (rd (hx.ext hJ) d4 (by omega)).mono ?_;rintro e w' ⟨v, rfl, hv, hX⟩;exact hK _ _ hv hX
 .
  intro e42 d5 e5 e7 e8;go_simp;refine (cF d5 (by omega)).mono ?_;rintro e w' ⟨v, rfl, hv, hX⟩;exact hK _ _ (hv.numx d5.fit) hX
theorem lS (gt ot S ct an bn L : Nat) (x y z d ww : Int) (u : Nat -> Rat) (w : World) (hS : ShP (fun w v q => NumX w v q L) w gt ot S u) (hm : VM S (⟨(an : Int), (bn : Int), x, y, z, d, ww⟩ : Mt)) (hL : L <= 100000) :
  Calls Try.prog 136 #[.slice (some ⟨gt, ot, none⟩) S ct, .agg #[.int .i64 (an : Int), .int .i64 (bn : Int), .int .i64 (x), .int .i64 (y), .int .i64 (z), .int .i64 (d), .int .i64 (ww)]] w (eM w (dA (3 * S) (⟨(an : Int), (bn : Int), x, y, z, d, ww⟩ : Mt) u) (6 * L + 14)) := by
 rw [<- fw hm u];have han : an < S := by have := hm.aS; simp only at this; omega
 have hbn : bn < S := by have := hm.bS; simp only at this; omega
 have hab : an ≠ bn := by have := hm.ne; simp only at this; omega
 clear hab;have hpt : ∀ k, oZ (⟨(an : Int), (bn : Int), x, y, z, d, ww⟩ : Mt) u k = u (3 * an + k) - u (3 * bn + k) := fun k => by unfold oZ; simp
 have hd1 := hm.d1;have hd2 := hm.d2
 have hn : ∀ k, -100 <= aA x y z k /\ aA x y z k <= 100 := fun k => by
  have h1 := hm.x1; have h2 := hm.x2; have h3 := hm.y1; have h4 := hm.y2; have h5 := hm.z1; have h6 := hm.z2;simp only at h1 h2 h3 h4 h5 h6;unfold aA; split; omega; split <;> omega
 have hr0 : fv (⟨(an : Int), (bn : Int), x, y, z, d, ww⟩ : Mt) u 0 = ((d : Int) : Rat) := rfl;have hrs : ∀ k, fv (⟨(an : Int), (bn : Int), x, y, z, d, ww⟩ : Mt) u (k + 1) = fv (⟨(an : Int), (bn : Int), x, y, z, d, ww⟩ : Mt) u k + ((aA x y z k : Int) : Rat) * (u (3 * an + k) - u (3 * bn + k)) := fun k => by rw [<- hpt]; rfl
 simp only at hd1 hd2;generalize fv (⟨(an : Int), (bn : Int), x, y, z, d, ww⟩ : Mt) u = rk at hr0 hrs |-;have HS := hid hS;have HR0 := hid hr0;have HRS := hid hrs;clear hS hm hpt hr0 hrs;have hXe : Ext w ((w.alloc (.cells #[.int .i64 (an : Int), .int .i64 (bn : Int), .int .i64 (x), .int .i64 (y), .int .i64 (z), .int .i64 (d), .int .i64 (ww)] 90)).alloc (.cells #[.bool false, .slice none 0 0, .slice none 0 0] 217)) := (((Ext.refl w).alloc _).alloc _);have kM : Blk ((w.alloc (.cells #[.int .i64 (an : Int), .int .i64 (bn : Int), .int .i64 (x), .int .i64 (y), .int .i64 (z), .int .i64 (d), .int .i64 (ww)] 90)).alloc (.cells #[.bool false, .slice none 0 0, .slice none 0 0] 217)) w.heap.size 90 #[.int .i64 (an : Int), .int .i64 (bn : Int), .int .i64 (x), .int .i64 (y), .int .i64 (z), .int .i64 (d), .int .i64 (ww)] := Blk.alloc (Blk.at_ (by simp)) _;have kR : Blk ((w.alloc (.cells #[.int .i64 (an : Int), .int .i64 (bn : Int), .int .i64 (x), .int .i64 (y), .int .i64 (z), .int .i64 (d), .int .i64 (ww)] 90)).alloc (.cells #[.bool false, .slice none 0 0, .slice none 0 0] 217)) (w.heap.size + 1) 217 #[.bool false, .slice none 0 0, .slice none 0 0] := Blk.at_ (by simp);go_enter Try.func136, Try.ntmps136
 go_wp2_with fail
 generalize ((w.alloc _).alloc _) = w1 at hXe kM kR |-;have HX := hid hXe;clear hXe;have KM := hid kM;clear kM;have KR := hid kR;clear kR;have cM0 : w1.cell? ⟨w.heap.size, 0, none⟩ = some (.int .i64 (an : Int)) := KM.out.cell 0;have cM1 : w1.cell? ⟨w.heap.size, 1, none⟩ = some (.int .i64 (bn : Int)) := KM.out.cell 1;have cM2 : w1.cell? ⟨w.heap.size, 2, none⟩ = some (.int .i64 (x)) := KM.out.cell 2;have cM3 : w1.cell? ⟨w.heap.size, 3, none⟩ = some (.int .i64 (y)) := KM.out.cell 3;have cM4 : w1.cell? ⟨w.heap.size, 4, none⟩ = some (.int .i64 (z)) := KM.out.cell 4;have cM5 : w1.cell? ⟨w.heap.size, 5, none⟩ = some (.int .i64 (d)) := KM.out.cell 5;have cM6 : w1.cell? ⟨w.heap.size, 6, none⟩ = some (.int .i64 (ww)) := KM.out.cell 6;clear cM0 cM1 cM2 cM3 cM4 cM5 cM6;refine (hY d _ (by omega) (by omega)).mono ?_;rintro e w2 ⟨v, rfl, hv, hX⟩;replace hX : Ext w1 w2 := by with_reducible exact hX
 replace HX := hid (HX.out.trans hX);replace KM := hid (KM.out.ext hX);replace KR := hid (KR.out.ext hX);clear hX;obtain ⟨s0, A0, l0, c0, B0, m0, k0, rfl⟩ := NumX.open hv;have HN := hid hv;clear hv
 go_upto_region 2 with (fail)
 have hXa : Ext w2 (w2.alloc (.cells #[.bool s0, .slice A0 l0 c0, .slice B0 m0 k0] 217)) := (Ext.refl _).alloc _;have kS := Blk.new w2 217 #[.bool s0, .slice A0 l0 c0, .slice B0 m0 k0];have zM := KM.out.lt;have zR := KR.out.lt;have zg := HX.out.size;replace HX := hid (HX.out.trans hXa);replace HN := hid (HN.out.ext hXa);replace KM := hid (KM.out.ext hXa);replace KR := hid (KR.out.ext hXa);generalize (w2.alloc _) = w3 at HX HN KM KR kS |-;have KS := hid kS;clear kS hXa;have hgs : w.heap.size + 2 <= w2.heap.size := by omega
 generalize w2.heap.size = gs at KS hgs |-;clear zM zR zg;have HN0 : Hid (NumX w3 (.agg #[.bool s0, .slice A0 l0 c0, .slice B0 m0 k0]) (rk 0) (2 + 0 * (2 * L + 4))) := hid (by rw [HR0.out]; exact HN.out.mono (by omega));clear HN;have cM0 : w3.cell? ⟨w.heap.size, 0, none⟩ = some (.int .i64 (an : Int)) := KM.out.cell 0;have cM1 : w3.cell? ⟨w.heap.size, 1, none⟩ = some (.int .i64 (bn : Int)) := KM.out.cell 1;have cM2 : w3.cell? ⟨w.heap.size, 2, none⟩ = some (.int .i64 (x)) := KM.out.cell 2;have cM3 : w3.cell? ⟨w.heap.size, 3, none⟩ = some (.int .i64 (y)) := KM.out.cell 3;have cM4 : w3.cell? ⟨w.heap.size, 4, none⟩ = some (.int .i64 (z)) := KM.out.cell 4;have cM5 : w3.cell? ⟨w.heap.size, 5, none⟩ = some (.int .i64 (d)) := KM.out.cell 5;have cM6 : w3.cell? ⟨w.heap.size, 6, none⟩ = some (.int .i64 (ww)) := KM.out.cell 6
 go_wp2_with fail
 go_loopg [14] 3 (fun f iv wr => ∃ (k : Nat) (s0 : Bool) (A0 B0 : Option Addr) (l0 c0 m0 k0 : Nat), f = 3 - k /\ k <= 3 /\ iv = .int .i64 (k : Int) /\ Hid (NumX wr (.agg #[.bool s0, .slice A0 l0 c0, .slice B0 m0 k0]) (rk k) (2 + k * (2 * L + 4))) /\ Hid (Blk wr gs 217 #[.bool s0, .slice A0 l0 c0, .slice B0 m0 k0]) /\ Hid (Blk wr w.heap.size 90 #[.int .i64 (an : Int), .int .i64 (bn : Int), .int .i64 (x), .int .i64 (y), .int .i64 (z), .int .i64 (d), .int .i64 (ww)]) /\ Hid (Blk wr (w.heap.size + 1) 217 #[.bool false, .slice none 0 0, .slice none 0 0]) /\ Hid (Ext w wr))
 case atStart => exact ⟨0, s0, A0, B0, l0, c0, m0, k0, rfl, by omega, rfl, HN0, KS, KM, KR, HX⟩
 case round =>
  clear HX KS KM KR HN0;obtain ⟨k, s0, A0, B0, l0, c0, m0, k0, rfl, hk, rfl, HN, KS, KM, KR, HX⟩ := hrel
  by_cases hlt : k < 3
  .
   have q1 : decide (k < 3) = true := decide_eq_true hlt;obtain ⟨s1, A1, l1, c1, B1, m1, k1, x0, x1, x2, hq⟩ := (HS.out.ext (bs L) HX.out) an k han hlt;have HQ := hid hq;clear hq;have ik := n8 x y z hlt;have hnk := hn k;have cM0 : wr.cell? ⟨w.heap.size, 0, none⟩ = some (.int .i64 (an : Int)) := KM.out.cell 0;have cM1 : wr.cell? ⟨w.heap.size, 1, none⟩ = some (.int .i64 (bn : Int)) := KM.out.cell 1;have cM2 : wr.cell? ⟨w.heap.size, 2, none⟩ = some (.int .i64 (x)) := KM.out.cell 2;have cM3 : wr.cell? ⟨w.heap.size, 3, none⟩ = some (.int .i64 (y)) := KM.out.cell 3;have cM4 : wr.cell? ⟨w.heap.size, 4, none⟩ = some (.int .i64 (z)) := KM.out.cell 4;have cM5 : wr.cell? ⟨w.heap.size, 5, none⟩ = some (.int .i64 (d)) := KM.out.cell 5;have cM6 : wr.cell? ⟨w.heap.size, 6, none⟩ = some (.int .i64 (ww)) := KM.out.cell 6
   go_upto_region 6 with (fail)
   clear cM0 cM1 cM2 cM3 cM4 cM5 cM6;have hXa : Ext wr (wr.alloc (.cells #[.bool s1, .slice A1 l1 c1, .slice B1 m1 k1] 217)) := (Ext.refl _).alloc _;have kX := Blk.new wr 217 #[.bool s1, .slice A1 l1 c1, .slice B1 m1 k1];have zM := KM.out.lt;have zR := KR.out.lt;have zS := KS.out.lt;have zg := HX.out.size;replace HX := hid (HX.out.trans hXa);replace HN := hid (HN.out.ext hXa);replace HQ := hid (HQ.out.ext hXa);replace KM := hid (KM.out.ext hXa);replace KR := hid (KR.out.ext hXa);replace KS := hid (KS.out.ext hXa);generalize (wr.alloc _) = w4 at HX HN HQ KM KR KS kX |-;have KX := hid kX;clear kX hXa;clear ik x0 x1 x2;have hgx : w.heap.size <= wr.heap.size /\ gs < wr.heap.size /\ w.heap.size + 1 < wr.heap.size := by omega
   generalize hwx : wr.heap.size = gx at KX hgx |-;clear zM zR zS zg;have cM0 : w4.cell? ⟨w.heap.size, 0, none⟩ = some (.int .i64 (an : Int)) := KM.out.cell 0;have cM1 : w4.cell? ⟨w.heap.size, 1, none⟩ = some (.int .i64 (bn : Int)) := KM.out.cell 1;have cM2 : w4.cell? ⟨w.heap.size, 2, none⟩ = some (.int .i64 (x)) := KM.out.cell 2;have cM3 : w4.cell? ⟨w.heap.size, 3, none⟩ = some (.int .i64 (y)) := KM.out.cell 3;have cM4 : w4.cell? ⟨w.heap.size, 4, none⟩ = some (.int .i64 (z)) := KM.out.cell 4;have cM5 : w4.cell? ⟨w.heap.size, 5, none⟩ = some (.int .i64 (d)) := KM.out.cell 5;have cM6 : w4.cell? ⟨w.heap.size, 6, none⟩ = some (.int .i64 (ww)) := KM.out.cell 6;obtain ⟨s2, A2, l2, c2, B2, m2, k2, y0, y1, y2, hr⟩ := (HS.out.ext (bs L) HX.out) bn k hbn hlt;have HY := hid hr;have hY0 := hid y0;have hY1 := hid y1;have hY2 := hid y2;clear hr y0 y1 y2;have hgx3 : gs ≠ gx /\ w.heap.size ≠ gx /\ w.heap.size + 1 ≠ gx := by omega
   go_upto_region 7 with (fail)
   clear cM0 cM1 cM2 cM3 cM4 cM5 cM6;refine n9 w.heap.size gx gt ot S ct bn k L s1 A1 B1 l1 c1 m1 k1 s2 A2 B2 l2 c2 m2 k2 _ _ w4 (KX.out.cell 0) (KX.out.cell 1) (KX.out.cell 2) (hY0.out) (hY1.out) (hY2.out) (KM.out.cell 1) hbn hlt (by omega) HQ.out HY.out hL _ _ (by simp) rfl rfl rfl rfl ?_;rintro xv0 xv1 xv2 xv3 xv4 xv5 xv6 xv7 xv8 w5 rfl rfl rfl rfl rfl rfl rfl rfl hv hXW;simp only [ae, Try.f136, ab, Option.bind_some, Nat.reduceBEq, if_true, if_false, Bool.false_eq_true, Option.getD_some, List.drop_succ_cons, List.drop_zero];simp only [Act.put, List.setIfInBounds_toArray, List.set_cons_succ, List.set_cons_zero];replace HX := hid (HX.out.trans hXW);replace HN := hid (HN.out.ext hXW);replace HQ := hid (HQ.out.ext hXW);replace HY := hid (HY.out.ext hXW);replace KM := hid (KM.out.ext hXW);replace KR := hid (KR.out.ext hXW);replace KS := hid (KS.out.ext hXW);replace KX := hid (KX.out.ext hXW);clear hXW;clear HQ HY;obtain ⟨s3, A3, l3, c3, B3, m3, k3, rfl⟩ := NumX.open hv;have HD := hid hv;clear hv;have cM0 : w5.cell? ⟨w.heap.size, 0, none⟩ = some (.int .i64 (an : Int)) := KM.out.cell 0;have cM1 : w5.cell? ⟨w.heap.size, 1, none⟩ = some (.int .i64 (bn : Int)) := KM.out.cell 1;have cM2 : w5.cell? ⟨w.heap.size, 2, none⟩ = some (.int .i64 (x)) := KM.out.cell 2;have cM3 : w5.cell? ⟨w.heap.size, 3, none⟩ = some (.int .i64 (y)) := KM.out.cell 3;have cM4 : w5.cell? ⟨w.heap.size, 4, none⟩ = some (.int .i64 (z)) := KM.out.cell 4;have cM5 : w5.cell? ⟨w.heap.size, 5, none⟩ = some (.int .i64 (d)) := KM.out.cell 5;have cM6 : w5.cell? ⟨w.heap.size, 6, none⟩ = some (.int .i64 (ww)) := KM.out.cell 6;have cX0 : w5.cell? ⟨gx, 0, none⟩ = some (.bool s1) := KX.out.cell 0;have fX0 : w5.frozen? ⟨gx, 0, none⟩ = false := KX.out.free 0;have cX1 : w5.cell? ⟨gx, 1, none⟩ = some (.slice A1 l1 c1) := KX.out.cell 1;have fX1 : w5.frozen? ⟨gx, 1, none⟩ = false := KX.out.free 1;have cX2 : w5.cell? ⟨gx, 2, none⟩ = some (.slice B1 m1 k1) := KX.out.cell 2;have fX2 : w5.frozen? ⟨gx, 2, none⟩ = false := KX.out.free 2
   go_upto_region 8 with (fail)
   clear cM0 cM1 cM2 cM3 cM4 cM5 cM6 cX0 fX0 cX1 fX1 cX2 fX2;have hXs : Ext w (((w5.setCell ⟨gx, 0, none⟩ (.bool s3)).setCell ⟨gx, 1, none⟩ (.slice A3 l3 c3)).setCell ⟨gx, 2, none⟩ (.slice B3 m3 k3)) := (((HX.out.setCell (show w.heap.size <= gx by omega) _).setCell (show w.heap.size <= gx by omega) _).setCell (show w.heap.size <= gx by omega) _);have kM : Blk (((w5.setCell ⟨gx, 0, none⟩ (.bool s3)).setCell ⟨gx, 1, none⟩ (.slice A3 l3 c3)).setCell ⟨gx, 2, none⟩ (.slice B3 m3 k3)) w.heap.size 90 #[.int .i64 (an : Int), .int .i64 (bn : Int), .int .i64 (x), .int .i64 (y), .int .i64 (z), .int .i64 (d), .int .i64 (ww)] := (Blk.far (Blk.far (Blk.far KM.out (show w.heap.size ≠ gx by omega) _) (show w.heap.size ≠ gx by omega) _) (show w.heap.size ≠ gx by omega) _);have kR : Blk (((w5.setCell ⟨gx, 0, none⟩ (.bool s3)).setCell ⟨gx, 1, none⟩ (.slice A3 l3 c3)).setCell ⟨gx, 2, none⟩ (.slice B3 m3 k3)) (w.heap.size + 1) 217 #[.bool false, .slice none 0 0, .slice none 0 0] := (Blk.far (Blk.far (Blk.far KR.out (show (w.heap.size + 1) ≠ gx by omega) _) (show (w.heap.size + 1) ≠ gx by omega) _) (show (w.heap.size + 1) ≠ gx by omega) _);have kS : Blk (((w5.setCell ⟨gx, 0, none⟩ (.bool s3)).setCell ⟨gx, 1, none⟩ (.slice A3 l3 c3)).setCell ⟨gx, 2, none⟩ (.slice B3 m3 k3)) gs 217 #[.bool s0, .slice A0 l0 c0, .slice B0 m0 k0] := (Blk.far (Blk.far (Blk.far KS.out (show gs ≠ gx by omega) _) (show gs ≠ gx by omega) _) (show gs ≠ gx by omega) _);have kX : Blk (((w5.setCell ⟨gx, 0, none⟩ (.bool s3)).setCell ⟨gx, 1, none⟩ (.slice A3 l3 c3)).setCell ⟨gx, 2, none⟩ (.slice B3 m3 k3)) gx 217 #[.bool s3, .slice A3 l3 c3, .slice B3 m3 k3] := (Blk.set (Blk.set (Blk.set KX.out 0 _) 1 _) 2 _);have hHN := NumX.boxed HN.out (NoInts.three KX.out) s3 A3 B3 l3 c3 m3 k3;have hHD := NumX.boxed HD.out (NoInts.three KX.out) s3 A3 B3 l3 c3 m3 k3;generalize (((w5.setCell _ _).setCell _ _).setCell _ _) = w6 at hXs kM kR kS kX hHN hHD |-;clear HX KM KR KS KX HN HD;have HX := hid hXs;clear hXs;have KM := hid kM;clear kM;have KR := hid kR;clear kR;have KS := hid kS;clear kS;have KX := hid kX;clear kX;have HN := hid hHN;clear hHN;have HD := hid hHD;clear hHD
   go_wp2_with fail
   refine iG gs gx (L + L + 1) (2 + k * (2 * L + 4)) (aA x y z k) s0 A0 B0 l0 c0 m0 k0 s3 A3 B3 l3 c3 m3 k3 _ _ w6 (KS.out.cell 0) (KS.out.cell 1) (KS.out.cell 2) (KX.out.cell 0) (KX.out.cell 1) (KX.out.cell 2) (by omega) (by omega) HN.out HD.out (by omega) (by have : k * (2 * L + 4) <= 3 * (2 * L + 4) := Nat.mul_le_mul_right _ hk; omega) _ _ (by simp) ⟨rfl, rfl, rfl, trivial⟩ ?_;rintro w7 hXW xv2 _ xv4 _ xv5 _ xv6 hv;simp only [EndK, ae, Try.f136, ab, Option.bind_some, Nat.reduceBEq, if_true, if_false, Bool.false_eq_true, Option.getD_some, List.drop_succ_cons, List.drop_zero];simp only [Act.put, List.setIfInBounds_toArray, List.set_cons_succ, List.set_cons_zero];replace HX := hid (HX.out.trans hXW);replace HN := hid (HN.out.ext hXW);replace HD := hid (HD.out.ext hXW);replace KM := hid (KM.out.ext hXW);replace KR := hid (KR.out.ext hXW);replace KS := hid (KS.out.ext hXW);replace KX := hid (KX.out.ext hXW);clear hXW;clear HN HD;obtain ⟨s4, A4, l4, c4, B4, m4, k4, rfl⟩ := NumX.open hv;have HN := hid hv;clear hv;have cS0 : w7.cell? ⟨gs, 0, none⟩ = some (.bool s0) := KS.out.cell 0;have fS0 : w7.frozen? ⟨gs, 0, none⟩ = false := KS.out.free 0;have cS1 : w7.cell? ⟨gs, 1, none⟩ = some (.slice A0 l0 c0) := KS.out.cell 1;have fS1 : w7.frozen? ⟨gs, 1, none⟩ = false := KS.out.free 1;have cS2 : w7.cell? ⟨gs, 2, none⟩ = some (.slice B0 m0 k0) := KS.out.cell 2;have fS2 : w7.frozen? ⟨gs, 2, none⟩ = false := KS.out.free 2
   go_upto_region 9 with (fail)
   clear cS0 fS0 cS1 fS1 cS2 fS2;have hXs : Ext w (((w7.setCell ⟨gs, 0, none⟩ (.bool s4)).setCell ⟨gs, 1, none⟩ (.slice A4 l4 c4)).setCell ⟨gs, 2, none⟩ (.slice B4 m4 k4)) := (((HX.out.setCell (show w.heap.size <= gs by omega) _).setCell (show w.heap.size <= gs by omega) _).setCell (show w.heap.size <= gs by omega) _);have kM : Blk (((w7.setCell ⟨gs, 0, none⟩ (.bool s4)).setCell ⟨gs, 1, none⟩ (.slice A4 l4 c4)).setCell ⟨gs, 2, none⟩ (.slice B4 m4 k4)) w.heap.size 90 #[.int .i64 (an : Int), .int .i64 (bn : Int), .int .i64 (x), .int .i64 (y), .int .i64 (z), .int .i64 (d), .int .i64 (ww)] := (Blk.far (Blk.far (Blk.far KM.out (show w.heap.size ≠ gs by omega) _) (show w.heap.size ≠ gs by omega) _) (show w.heap.size ≠ gs by omega) _);have kR : Blk (((w7.setCell ⟨gs, 0, none⟩ (.bool s4)).setCell ⟨gs, 1, none⟩ (.slice A4 l4 c4)).setCell ⟨gs, 2, none⟩ (.slice B4 m4 k4)) (w.heap.size + 1) 217 #[.bool false, .slice none 0 0, .slice none 0 0] := (Blk.far (Blk.far (Blk.far KR.out (show (w.heap.size + 1) ≠ gs by omega) _) (show (w.heap.size + 1) ≠ gs by omega) _) (show (w.heap.size + 1) ≠ gs by omega) _);have kX : Blk (((w7.setCell ⟨gs, 0, none⟩ (.bool s4)).setCell ⟨gs, 1, none⟩ (.slice A4 l4 c4)).setCell ⟨gs, 2, none⟩ (.slice B4 m4 k4)) gx 217 #[.bool s3, .slice A3 l3 c3, .slice B3 m3 k3] := (Blk.far (Blk.far (Blk.far KX.out (show gx ≠ gs by omega) _) (show gx ≠ gs by omega) _) (show gx ≠ gs by omega) _);have kS : Blk (((w7.setCell ⟨gs, 0, none⟩ (.bool s4)).setCell ⟨gs, 1, none⟩ (.slice A4 l4 c4)).setCell ⟨gs, 2, none⟩ (.slice B4 m4 k4)) gs 217 #[.bool s4, .slice A4 l4 c4, .slice B4 m4 k4] := (Blk.set (Blk.set (Blk.set KS.out 0 _) 1 _) 2 _);have hHN := NumX.boxed HN.out (NoInts.three KS.out) s4 A4 B4 l4 c4 m4 k4;generalize (((w7.setCell _ _).setCell _ _).setCell _ _) = w8 at hXs kM kR kS kX hHN |-;clear HX KM KR KS KX HN;have HX := hid hXs;clear hXs;have KM := hid kM;clear kM;have KR := hid kR;clear kR;have KS := hid kS;clear kS;have KX := hid kX;clear kX;have HN := hid hHN;clear hHN

   go_wp2;go_roundg (3 - (k + 1))
   case rel => exact ⟨k + 1, s4, A4, B4, l4, c4, m4, k4, rfl, by omega, by go_num, hid (by rw [HRS.out]; exact HN.out.mono (by have e : (k + 1) * (2 * L + 4) = k * (2 * L + 4) + (2 * L + 4) := Nat.succ_mul _ _; omega)), KS, KM, KR, HX⟩
   case measure => omega
  .
   obtain rfl : k = 3 := by omega
   have cR0 : wr.cell? ⟨(w.heap.size + 1), 0, none⟩ = some (.bool false) := KR.out.cell 0;have fR0 : wr.frozen? ⟨(w.heap.size + 1), 0, none⟩ = false := KR.out.free 0;have cR1 : wr.cell? ⟨(w.heap.size + 1), 1, none⟩ = some (.slice none 0 0) := KR.out.cell 1;have fR1 : wr.frozen? ⟨(w.heap.size + 1), 1, none⟩ = false := KR.out.free 1;have cR2 : wr.cell? ⟨(w.heap.size + 1), 2, none⟩ = some (.slice none 0 0) := KR.out.cell 2;have fR2 : wr.frozen? ⟨(w.heap.size + 1), 2, none⟩ = false := KR.out.free 2;have cS0 : wr.cell? ⟨gs, 0, none⟩ = some (.bool s0) := KS.out.cell 0;have cS1 : wr.cell? ⟨gs, 1, none⟩ = some (.slice A0 l0 c0) := KS.out.cell 1;have cS2 : wr.cell? ⟨gs, 2, none⟩ = some (.slice B0 m0 k0) := KS.out.cell 2;go_wp2;refine bodyPost_ret (v := .agg #[.bool s0, .slice A0 l0 c0, .slice B0 m0 k0]) (by simp [results, Try.results136, go_sem, *]) rfl ?_;exact ⟨_, rfl, (HN.out.mono (by omega)).boxed (NoInts.three KR.out) _ _ _ _ _ _ _, Ext.boxed HX.out (by omega) _ _ _⟩
theorem lT (gt ot S ct an L : Nat) (x y z d ww : Int) (u : Nat -> Rat) (w : World) (hS : ShP (fun w v q => NumX w v q L) w gt ot S u) (hm : VM S (⟨(an : Int), (-1 : Int), x, y, z, d, ww⟩ : Mt)) (_hL : L <= 100000) :
  Calls Try.prog 136 #[.slice (some ⟨gt, ot, none⟩) S ct, .agg #[.int .i64 (an : Int), .int .i64 (-1 : Int), .int .i64 (x), .int .i64 (y), .int .i64 (z), .int .i64 (d), .int .i64 (ww)]] w (eM w (dA (3 * S) (⟨(an : Int), (-1 : Int), x, y, z, d, ww⟩ : Mt) u) (6 * L + 14)) := by
 rw [<- fw hm u];have han : an < S := by have := hm.aS; simp only at this; omega
 have hpt : ∀ k, oZ (⟨(an : Int), (-1 : Int), x, y, z, d, ww⟩ : Mt) u k = u (3 * an + k) := fun k => by unfold oZ; simp
 have hd1 := hm.d1;have hd2 := hm.d2
 have hn : ∀ k, -100 <= aA x y z k /\ aA x y z k <= 100 := fun k => by
  have h1 := hm.x1; have h2 := hm.x2; have h3 := hm.y1; have h4 := hm.y2; have h5 := hm.z1; have h6 := hm.z2;simp only at h1 h2 h3 h4 h5 h6;unfold aA; split; omega; split <;> omega
 have hr0 : fv (⟨(an : Int), (-1 : Int), x, y, z, d, ww⟩ : Mt) u 0 = ((d : Int) : Rat) := rfl;have hrs : ∀ k, fv (⟨(an : Int), (-1 : Int), x, y, z, d, ww⟩ : Mt) u (k + 1) = fv (⟨(an : Int), (-1 : Int), x, y, z, d, ww⟩ : Mt) u k + ((aA x y z k : Int) : Rat) * (u (3 * an + k)) := fun k => by rw [<- hpt]; rfl
 simp only at hd1 hd2;generalize fv (⟨(an : Int), (-1 : Int), x, y, z, d, ww⟩ : Mt) u = rk at hr0 hrs |-;have HS := hid hS;have HR0 := hid hr0;have HRS := hid hrs;clear hS hm hpt hr0 hrs;have hXe : Ext w ((w.alloc (.cells #[.int .i64 (an : Int), .int .i64 (-1 : Int), .int .i64 (x), .int .i64 (y), .int .i64 (z), .int .i64 (d), .int .i64 (ww)] 90)).alloc (.cells #[.bool false, .slice none 0 0, .slice none 0 0] 217)) := (((Ext.refl w).alloc _).alloc _);have kM : Blk ((w.alloc (.cells #[.int .i64 (an : Int), .int .i64 (-1 : Int), .int .i64 (x), .int .i64 (y), .int .i64 (z), .int .i64 (d), .int .i64 (ww)] 90)).alloc (.cells #[.bool false, .slice none 0 0, .slice none 0 0] 217)) w.heap.size 90 #[.int .i64 (an : Int), .int .i64 (-1 : Int), .int .i64 (x), .int .i64 (y), .int .i64 (z), .int .i64 (d), .int .i64 (ww)] := Blk.alloc (Blk.at_ (by simp)) _;have kR : Blk ((w.alloc (.cells #[.int .i64 (an : Int), .int .i64 (-1 : Int), .int .i64 (x), .int .i64 (y), .int .i64 (z), .int .i64 (d), .int .i64 (ww)] 90)).alloc (.cells #[.bool false, .slice none 0 0, .slice none 0 0] 217)) (w.heap.size + 1) 217 #[.bool false, .slice none 0 0, .slice none 0 0] := Blk.at_ (by simp);go_enter Try.func136, Try.ntmps136
 go_wp2_with fail
 generalize ((w.alloc _).alloc _) = w1 at hXe kM kR |-;have HX := hid hXe;clear hXe;have KM := hid kM;clear kM;have KR := hid kR;clear kR;have cM0 : w1.cell? ⟨w.heap.size, 0, none⟩ = some (.int .i64 (an : Int)) := KM.out.cell 0;have cM1 : w1.cell? ⟨w.heap.size, 1, none⟩ = some (.int .i64 (-1 : Int)) := KM.out.cell 1;have cM2 : w1.cell? ⟨w.heap.size, 2, none⟩ = some (.int .i64 (x)) := KM.out.cell 2;have cM3 : w1.cell? ⟨w.heap.size, 3, none⟩ = some (.int .i64 (y)) := KM.out.cell 3;have cM4 : w1.cell? ⟨w.heap.size, 4, none⟩ = some (.int .i64 (z)) := KM.out.cell 4;have cM5 : w1.cell? ⟨w.heap.size, 5, none⟩ = some (.int .i64 (d)) := KM.out.cell 5;have cM6 : w1.cell? ⟨w.heap.size, 6, none⟩ = some (.int .i64 (ww)) := KM.out.cell 6;clear cM0 cM1 cM2 cM3 cM4 cM5 cM6;refine (hY d _ (by omega) (by omega)).mono ?_;rintro e w2 ⟨v, rfl, hv, hX⟩;replace hX : Ext w1 w2 := by with_reducible exact hX
 replace HX := hid (HX.out.trans hX);replace KM := hid (KM.out.ext hX);replace KR := hid (KR.out.ext hX);clear hX;obtain ⟨s0, A0, l0, c0, B0, m0, k0, rfl⟩ := NumX.open hv;have HN := hid hv;clear hv
 go_upto_region 2 with (fail)
 have hXa : Ext w2 (w2.alloc (.cells #[.bool s0, .slice A0 l0 c0, .slice B0 m0 k0] 217)) := (Ext.refl _).alloc _;have kS := Blk.new w2 217 #[.bool s0, .slice A0 l0 c0, .slice B0 m0 k0];have zM := KM.out.lt;have zR := KR.out.lt;have zg := HX.out.size;replace HX := hid (HX.out.trans hXa);replace HN := hid (HN.out.ext hXa);replace KM := hid (KM.out.ext hXa);replace KR := hid (KR.out.ext hXa);generalize (w2.alloc _) = w3 at HX HN KM KR kS |-;have KS := hid kS;clear kS hXa;have hgs : w.heap.size + 2 <= w2.heap.size := by omega
 generalize w2.heap.size = gs at KS hgs |-;clear zM zR zg;have HN0 : Hid (NumX w3 (.agg #[.bool s0, .slice A0 l0 c0, .slice B0 m0 k0]) (rk 0) (2 + 0 * (2 * L + 4))) := hid (by rw [HR0.out]; exact HN.out.mono (by omega));clear HN;have cM0 : w3.cell? ⟨w.heap.size, 0, none⟩ = some (.int .i64 (an : Int)) := KM.out.cell 0;have cM1 : w3.cell? ⟨w.heap.size, 1, none⟩ = some (.int .i64 (-1 : Int)) := KM.out.cell 1;have cM2 : w3.cell? ⟨w.heap.size, 2, none⟩ = some (.int .i64 (x)) := KM.out.cell 2;have cM3 : w3.cell? ⟨w.heap.size, 3, none⟩ = some (.int .i64 (y)) := KM.out.cell 3;have cM4 : w3.cell? ⟨w.heap.size, 4, none⟩ = some (.int .i64 (z)) := KM.out.cell 4;have cM5 : w3.cell? ⟨w.heap.size, 5, none⟩ = some (.int .i64 (d)) := KM.out.cell 5;have cM6 : w3.cell? ⟨w.heap.size, 6, none⟩ = some (.int .i64 (ww)) := KM.out.cell 6
 go_wp2_with fail
 go_loopg [14] 3 (fun f iv wr => ∃ (k : Nat) (s0 : Bool) (A0 B0 : Option Addr) (l0 c0 m0 k0 : Nat), f = 3 - k /\ k <= 3 /\ iv = .int .i64 (k : Int) /\ Hid (NumX wr (.agg #[.bool s0, .slice A0 l0 c0, .slice B0 m0 k0]) (rk k) (2 + k * (2 * L + 4))) /\ Hid (Blk wr gs 217 #[.bool s0, .slice A0 l0 c0, .slice B0 m0 k0]) /\ Hid (Blk wr w.heap.size 90 #[.int .i64 (an : Int), .int .i64 (-1 : Int), .int .i64 (x), .int .i64 (y), .int .i64 (z), .int .i64 (d), .int .i64 (ww)]) /\ Hid (Blk wr (w.heap.size + 1) 217 #[.bool false, .slice none 0 0, .slice none 0 0]) /\ Hid (Ext w wr))
 case atStart => exact ⟨0, s0, A0, B0, l0, c0, m0, k0, rfl, by omega, rfl, HN0, KS, KM, KR, HX⟩
 case round =>
  clear HX KS KM KR HN0;obtain ⟨k, s0, A0, B0, l0, c0, m0, k0, rfl, hk, rfl, HN, KS, KM, KR, HX⟩ := hrel
  by_cases hlt : k < 3
  .
   have q1 : decide (k < 3) = true := decide_eq_true hlt;obtain ⟨s1, A1, l1, c1, B1, m1, k1, x0, x1, x2, hq⟩ := (HS.out.ext (bs L) HX.out) an k han hlt;have HQ := hid hq;clear hq;have ik := n8 x y z hlt;have hnk := hn k;have cM0 : wr.cell? ⟨w.heap.size, 0, none⟩ = some (.int .i64 (an : Int)) := KM.out.cell 0;have cM1 : wr.cell? ⟨w.heap.size, 1, none⟩ = some (.int .i64 (-1 : Int)) := KM.out.cell 1;have cM2 : wr.cell? ⟨w.heap.size, 2, none⟩ = some (.int .i64 (x)) := KM.out.cell 2;have cM3 : wr.cell? ⟨w.heap.size, 3, none⟩ = some (.int .i64 (y)) := KM.out.cell 3;have cM4 : wr.cell? ⟨w.heap.size, 4, none⟩ = some (.int .i64 (z)) := KM.out.cell 4;have cM5 : wr.cell? ⟨w.heap.size, 5, none⟩ = some (.int .i64 (d)) := KM.out.cell 5;have cM6 : wr.cell? ⟨w.heap.size, 6, none⟩ = some (.int .i64 (ww)) := KM.out.cell 6
   go_upto_region 6 with (fail)
   clear cM0 cM1 cM2 cM3 cM4 cM5 cM6;have hXa : Ext wr (wr.alloc (.cells #[.bool s1, .slice A1 l1 c1, .slice B1 m1 k1] 217)) := (Ext.refl _).alloc _;have kX := Blk.new wr 217 #[.bool s1, .slice A1 l1 c1, .slice B1 m1 k1];have zM := KM.out.lt;have zR := KR.out.lt;have zS := KS.out.lt;have zg := HX.out.size;replace HX := hid (HX.out.trans hXa);replace HN := hid (HN.out.ext hXa);replace HQ := hid (HQ.out.ext hXa);replace KM := hid (KM.out.ext hXa);replace KR := hid (KR.out.ext hXa);replace KS := hid (KS.out.ext hXa);generalize (wr.alloc _) = w4 at HX HN HQ KM KR KS kX |-;have KX := hid kX;clear kX hXa;clear ik x0 x1 x2;have hgx : w.heap.size <= wr.heap.size /\ gs < wr.heap.size /\ w.heap.size + 1 < wr.heap.size := by omega
   generalize hwx : wr.heap.size = gx at KX hgx |-;clear zM zR zS zg;have cM0 : w4.cell? ⟨w.heap.size, 0, none⟩ = some (.int .i64 (an : Int)) := KM.out.cell 0;have cM1 : w4.cell? ⟨w.heap.size, 1, none⟩ = some (.int .i64 (-1 : Int)) := KM.out.cell 1;have cM2 : w4.cell? ⟨w.heap.size, 2, none⟩ = some (.int .i64 (x)) := KM.out.cell 2;have cM3 : w4.cell? ⟨w.heap.size, 3, none⟩ = some (.int .i64 (y)) := KM.out.cell 3;have cM4 : w4.cell? ⟨w.heap.size, 4, none⟩ = some (.int .i64 (z)) := KM.out.cell 4;have cM5 : w4.cell? ⟨w.heap.size, 5, none⟩ = some (.int .i64 (d)) := KM.out.cell 5;have cM6 : w4.cell? ⟨w.heap.size, 6, none⟩ = some (.int .i64 (ww)) := KM.out.cell 6
   go_upto_region 8 with (fail)
   clear cM0 cM1 cM2 cM3 cM4 cM5 cM6
   go_wp2_with fail
   refine iG gs gx L (2 + k * (2 * L + 4)) (aA x y z k) s0 A0 B0 l0 c0 m0 k0 s1 A1 B1 l1 c1 m1 k1 _ _ w4 (KS.out.cell 0) (KS.out.cell 1) (KS.out.cell 2) (KX.out.cell 0) (KX.out.cell 1) (KX.out.cell 2) (by omega) (by omega) HN.out HQ.out (by omega) (by have : k * (2 * L + 4) <= 3 * (2 * L + 4) := Nat.mul_le_mul_right _ hk; omega) _ _ (by simp) ⟨rfl, rfl, rfl, trivial⟩ ?_;rintro w5 hXW xv2 _ xv4 _ xv5 _ xv6 hv;simp only [EndK, ae, Try.f136, ab, Option.bind_some, Nat.reduceBEq, if_true, if_false, Bool.false_eq_true, Option.getD_some, List.drop_succ_cons, List.drop_zero];simp only [Act.put, List.setIfInBounds_toArray, List.set_cons_succ, List.set_cons_zero];replace HX := hid (HX.out.trans hXW);replace HN := hid (HN.out.ext hXW);replace HQ := hid (HQ.out.ext hXW);replace KM := hid (KM.out.ext hXW);replace KR := hid (KR.out.ext hXW);replace KS := hid (KS.out.ext hXW);replace KX := hid (KX.out.ext hXW);clear hXW;clear HN HQ;obtain ⟨s4, A4, l4, c4, B4, m4, k4, rfl⟩ := NumX.open hv;have HN := hid hv;clear hv;have cS0 : w5.cell? ⟨gs, 0, none⟩ = some (.bool s0) := KS.out.cell 0;have fS0 : w5.frozen? ⟨gs, 0, none⟩ = false := KS.out.free 0;have cS1 : w5.cell? ⟨gs, 1, none⟩ = some (.slice A0 l0 c0) := KS.out.cell 1;have fS1 : w5.frozen? ⟨gs, 1, none⟩ = false := KS.out.free 1;have cS2 : w5.cell? ⟨gs, 2, none⟩ = some (.slice B0 m0 k0) := KS.out.cell 2;have fS2 : w5.frozen? ⟨gs, 2, none⟩ = false := KS.out.free 2
   go_upto_region 9 with (fail)
   clear cS0 fS0 cS1 fS1 cS2 fS2;have hXs : Ext w (((w5.setCell ⟨gs, 0, none⟩ (.bool s4)).setCell ⟨gs, 1, none⟩ (.slice A4 l4 c4)).setCell ⟨gs, 2, none⟩ (.slice B4 m4 k4)) := (((HX.out.setCell (show w.heap.size <= gs by omega) _).setCell (show w.heap.size <= gs by omega) _).setCell (show w.heap.size <= gs by omega) _);have kM : Blk (((w5.setCell ⟨gs, 0, none⟩ (.bool s4)).setCell ⟨gs, 1, none⟩ (.slice A4 l4 c4)).setCell ⟨gs, 2, none⟩ (.slice B4 m4 k4)) w.heap.size 90 #[.int .i64 (an : Int), .int .i64 (-1 : Int), .int .i64 (x), .int .i64 (y), .int .i64 (z), .int .i64 (d), .int .i64 (ww)] := (Blk.far (Blk.far (Blk.far KM.out (show w.heap.size ≠ gs by omega) _) (show w.heap.size ≠ gs by omega) _) (show w.heap.size ≠ gs by omega) _);have kR : Blk (((w5.setCell ⟨gs, 0, none⟩ (.bool s4)).setCell ⟨gs, 1, none⟩ (.slice A4 l4 c4)).setCell ⟨gs, 2, none⟩ (.slice B4 m4 k4)) (w.heap.size + 1) 217 #[.bool false, .slice none 0 0, .slice none 0 0] := (Blk.far (Blk.far (Blk.far KR.out (show (w.heap.size + 1) ≠ gs by omega) _) (show (w.heap.size + 1) ≠ gs by omega) _) (show (w.heap.size + 1) ≠ gs by omega) _);have kX : Blk (((w5.setCell ⟨gs, 0, none⟩ (.bool s4)).setCell ⟨gs, 1, none⟩ (.slice A4 l4 c4)).setCell ⟨gs, 2, none⟩ (.slice B4 m4 k4)) gx 217 #[.bool s1, .slice A1 l1 c1, .slice B1 m1 k1] := (Blk.far (Blk.far (Blk.far KX.out (show gx ≠ gs by omega) _) (show gx ≠ gs by omega) _) (show gx ≠ gs by omega) _);have kS : Blk (((w5.setCell ⟨gs, 0, none⟩ (.bool s4)).setCell ⟨gs, 1, none⟩ (.slice A4 l4 c4)).setCell ⟨gs, 2, none⟩ (.slice B4 m4 k4)) gs 217 #[.bool s4, .slice A4 l4 c4, .slice B4 m4 k4] := (Blk.set (Blk.set (Blk.set KS.out 0 _) 1 _) 2 _);have hHN := NumX.boxed HN.out (NoInts.three KS.out) s4 A4 B4 l4 c4 m4 k4;generalize (((w5.setCell _ _).setCell _ _).setCell _ _) = w6 at hXs kM kR kS kX hHN |-;clear HX KM KR KS KX HN;have HX := hid hXs;clear hXs;have KM := hid kM;clear kM;have KR := hid kR;clear kR;have KS := hid kS;clear kS;have KX := hid kX;clear kX;have HN := hid hHN;clear hHN

   go_wp2;go_roundg (3 - (k + 1))
   case rel => exact ⟨k + 1, s4, A4, B4, l4, c4, m4, k4, rfl, by omega, by go_num, hid (by rw [HRS.out]; exact HN.out.mono (by have e : (k + 1) * (2 * L + 4) = k * (2 * L + 4) + (2 * L + 4) := Nat.succ_mul _ _; omega)), KS, KM, KR, HX⟩
   case measure => omega
  .
   obtain rfl : k = 3 := by omega
   have cR0 : wr.cell? ⟨(w.heap.size + 1), 0, none⟩ = some (.bool false) := KR.out.cell 0;have fR0 : wr.frozen? ⟨(w.heap.size + 1), 0, none⟩ = false := KR.out.free 0;have cR1 : wr.cell? ⟨(w.heap.size + 1), 1, none⟩ = some (.slice none 0 0) := KR.out.cell 1;have fR1 : wr.frozen? ⟨(w.heap.size + 1), 1, none⟩ = false := KR.out.free 1;have cR2 : wr.cell? ⟨(w.heap.size + 1), 2, none⟩ = some (.slice none 0 0) := KR.out.cell 2;have fR2 : wr.frozen? ⟨(w.heap.size + 1), 2, none⟩ = false := KR.out.free 2;have cS0 : wr.cell? ⟨gs, 0, none⟩ = some (.bool s0) := KS.out.cell 0;have cS1 : wr.cell? ⟨gs, 1, none⟩ = some (.slice A0 l0 c0) := KS.out.cell 1;have cS2 : wr.cell? ⟨gs, 2, none⟩ = some (.slice B0 m0 k0) := KS.out.cell 2;go_wp2;refine bodyPost_ret (v := .agg #[.bool s0, .slice A0 l0 c0, .slice B0 m0 k0]) (by simp [results, Try.results136, go_sem, *]) rfl ?_;exact ⟨_, rfl, (HN.out.mono (by omega)).boxed (NoInts.three KR.out) _ _ _ _ _ _ _, Ext.boxed HX.out (by omega) _ _ _⟩
/-- The value of a match. -/
def Mt.val (m : Mt) : Value := .agg #[.int .i64 m.a, .int .i64 m.b, .int .i64 m.x, .int .i64 m.y, .int .i64 m.z, .int .i64 m.d, .int .i64 m.w]
theorem gK {gt ot S ct L : Nat} {m : Mt} {u : Nat -> Rat} {w : World} (hS : ShP (fun w v q => NumX w v q L) w gt ot S u) (hm : VM S m) (hL : L <= 100000) :
  Calls Try.prog 136 #[.slice (some ⟨gt, ot, none⟩) S ct, m.val] w (eM w (dA (3 * S) m u) (6 * L + 14)) := by
 obtain ⟨a, b, x, y, z, d, ww⟩ := m;obtain ⟨an, rfl⟩ : ∃ an : Nat, a = an := ⟨a.toNat, by have := hm.a0; simp only at this; omega⟩
 by_cases hb : b = -1
 .
  subst hb;exact lT gt ot S ct an L x y z d ww u w hS hm hL
 .
  obtain ⟨bn, rfl⟩ : ∃ bn : Nat, b = bn := ⟨b.toNat, by have := hm.b0; simp only at this; omega⟩;exact lS gt ot S ct an bn L x y z d ww u w hS hm hL
theorem ob (gm gr M : Nat) (ww : Int) (s1 : Bool) (A1 B1 : Option Addr) (l1 c1 m1 k1 : Nat) (q : Rat) (w : World) (x0 : w.cell? ⟨gr, 0, none⟩ = some (.bool s1)) (x1 : w.cell? ⟨gr, 1, none⟩ = some (.slice A1 l1 c1)) (x2 : w.cell? ⟨gr, 2, none⟩ = some (.slice B1 m1 k1)) (hw : w.cell? ⟨gm, 6, none⟩ = some (.int .i64 (ww))) (_h0 : 1 <= ww) (_h1 : ww <= 1000) (hx : NumX w (.agg #[.bool s1, .slice A1 l1 c1, .slice B1 m1 k1]) q M) (_hM : M <= 1000000000) : aF Try.prog Try.f129 2 8 17 w [9, 10, 11, 12, 13, 14, 15, 16] [.c (.pointer (some ⟨gm, 6, none⟩)), .c (.int .i64 (ww)), .p fun v W => NumX W v ((ww : Int) : Rat) (2), .c (.agg #[.bool s1, .slice A1 l1 c1, .slice B1 m1 k1]), .c (.agg #[.bool s1, .slice A1 l1 c1, .slice B1 m1 k1]), .p fun v W => NumX W v (q * q) (M + M), .p fun v W => NumX W v (((ww : Int) : Rat) * (q * q)) (2 + (M + M)), .p fun v W => NumX W v (((ww : Int) : Rat) * (q * q)) (2 + (M + M))] [(3, .pointer (some ⟨gm, 0, none⟩)), (5, .pointer (some ⟨gr, 0, none⟩))] := by
 refine aJ [[], [0], [1], [], [], [3, 4], [2, 5], [6]] (by kernel_rfl) (by kernel_rfl) rfl ⟨by intro v W W' h hX; exact NumX.ext h hX, by intro v W W' h hX; exact NumX.ext h hX, by intro v W W' h hX; exact NumX.ext h hX, by intro v W W' h hX; exact NumX.ext h hX, trivial⟩ ?_;simp only [ae, Try.f129, ab, Option.bind_some, Nat.reduceBEq, if_true, if_false, Bool.false_eq_true, Option.getD_some];simp only [List.take_succ_cons, List.take_zero]
 repeat' first | refine ⟨?_, ?_⟩ | fail
 all_goals first | (intro us W b hJ K hK0 hK Qz; simp only [aC, al, am, List.getD_cons_succ, List.getD_cons_zero]) | exact True.intro
 all_goals try (intros; have q0 := Ext.cell hJ hw; have q1 := Ext.cell hJ x0; have q2 := Ext.cell hJ x1; have q3 := Ext.cell hJ x2; go_simp; exact hK0 _ rfl)
 .
  intro e10 e3 e5;go_simp;refine (hY ww _ (by omega) (by omega)).mono ?_;rintro e w' ⟨v, rfl, hv, hX⟩;exact hK _ _ hv hX
 .
  intro e12 e13 e3 e5;go_simp;refine (pw (hx.ext hJ) (hx.ext hJ) (by omega) (by omega)).mono ?_;rintro e w' ⟨v, rfl, hv, hX⟩;exact hK _ _ hv hX
 .
  intro e11 d2 e14 d5 e3 e5;go_simp;refine (pw d2 d5 (by omega) (by omega)).mono ?_;rintro e w' ⟨v, rfl, hv, hX⟩;exact hK _ _ hv hX
 .
  intro e15 d6 e3 e5;go_simp;refine (cF d6 (by omega)).mono ?_;rintro e w' ⟨v, rfl, hv, hX⟩;exact hK _ _ (hv.numx d6.fit) hX
theorem jJ (gt ot S ct L : Nat) (a b x y z d ww : Int) (u : Nat -> Rat) (w : World) (hS : ShP (fun w v q => NumX w v q L) w gt ot S u) (hm : VM S ⟨a, b, x, y, z, d, ww⟩) (hL : L <= 100000) :
  Calls Try.prog 129 #[.slice (some ⟨gt, ot, none⟩) S ct, Mt.val ⟨a, b, x, y, z, d, ww⟩] w (eM w (cL (3 * S) u ⟨a, b, x, y, z, d, ww⟩) (2 + (6 * L + 14 + (6 * L + 14)))) := by
 unfold cL;simp only;have hw1 := hm.w1;have hw2 := hm.w2;simp only at hw1 hw2;have HM := hid hm;have HS := hid hS;clear hS hm;obtain ⟨q, hq⟩ : ∃ q, dA (3 * S) ⟨a, b, x, y, z, d, ww⟩ u = q := ⟨_, rfl⟩;rw [hq];have HQ := hid hq;clear hq;unfold Mt.val;have hXe : Ext w ((w.alloc (.cells #[.int .i64 (a), .int .i64 (b), .int .i64 (x), .int .i64 (y), .int .i64 (z), .int .i64 (d), .int .i64 (ww)] 90)).alloc (.cells #[.bool false, .slice none 0 0, .slice none 0 0] 217)) := (((Ext.refl w).alloc _).alloc _);have kM : Blk ((w.alloc (.cells #[.int .i64 (a), .int .i64 (b), .int .i64 (x), .int .i64 (y), .int .i64 (z), .int .i64 (d), .int .i64 (ww)] 90)).alloc (.cells #[.bool false, .slice none 0 0, .slice none 0 0] 217)) w.heap.size 90 #[.int .i64 (a), .int .i64 (b), .int .i64 (x), .int .i64 (y), .int .i64 (z), .int .i64 (d), .int .i64 (ww)] := Blk.alloc (Blk.at_ (by simp)) _;have kR : Blk ((w.alloc (.cells #[.int .i64 (a), .int .i64 (b), .int .i64 (x), .int .i64 (y), .int .i64 (z), .int .i64 (d), .int .i64 (ww)] 90)).alloc (.cells #[.bool false, .slice none 0 0, .slice none 0 0] 217)) (w.heap.size + 1) 217 #[.bool false, .slice none 0 0, .slice none 0 0] := Blk.at_ (by simp);go_enter Try.func129, Try.ntmps129
 go_wp2_with fail
 generalize ((w.alloc _).alloc _) = w1 at hXe kM kR |-;have HX := hid hXe;clear hXe;have KM := hid kM;clear kM;have KR := hid kR;clear kR;have cM0 : w1.cell? ⟨w.heap.size, 0, none⟩ = some (.int .i64 (a)) := KM.out.cell 0;have cM1 : w1.cell? ⟨w.heap.size, 1, none⟩ = some (.int .i64 (b)) := KM.out.cell 1;have cM2 : w1.cell? ⟨w.heap.size, 2, none⟩ = some (.int .i64 (x)) := KM.out.cell 2;have cM3 : w1.cell? ⟨w.heap.size, 3, none⟩ = some (.int .i64 (y)) := KM.out.cell 3;have cM4 : w1.cell? ⟨w.heap.size, 4, none⟩ = some (.int .i64 (z)) := KM.out.cell 4;have cM5 : w1.cell? ⟨w.heap.size, 5, none⟩ = some (.int .i64 (d)) := KM.out.cell 5;have cM6 : w1.cell? ⟨w.heap.size, 6, none⟩ = some (.int .i64 (ww)) := KM.out.cell 6;clear cM0 cM1 cM2 cM3 cM4 cM5 cM6;refine (gK (HS.out.ext (bs L) HX.out) HM.out hL).mono ?_;rw [HQ.out];rintro e w2 ⟨v, rfl, hv, hX⟩;replace hX : Ext w1 w2 := by with_reducible exact hX
 replace HX := hid (HX.out.trans hX);replace KM := hid (KM.out.ext hX);replace KR := hid (KR.out.ext hX);clear hX;obtain ⟨s1, A1, l1, c1, B1, m1, k1, rfl⟩ := NumX.open hv;have HN := hid hv;clear hv
 go_upto_region 2 with (fail)
 have hXa : Ext w2 (w2.alloc (.cells #[.bool s1, .slice A1 l1 c1, .slice B1 m1 k1] 217)) := (Ext.refl _).alloc _;have kS := Blk.new w2 217 #[.bool s1, .slice A1 l1 c1, .slice B1 m1 k1];have zM := KM.out.lt;have zR := KR.out.lt;have zg := HX.out.size;replace HX := hid (HX.out.trans hXa);replace HN := hid (HN.out.ext hXa);replace KM := hid (KM.out.ext hXa);replace KR := hid (KR.out.ext hXa);generalize (w2.alloc _) = w3 at HX HN KM KR kS |-;have KS := hid kS;clear kS hXa
 go_wp2_with fail
 refine ob w.heap.size w2.heap.size (6 * L + 14) ww s1 A1 B1 l1 c1 m1 k1 _ w3 (KS.out.cell 0) (KS.out.cell 1) (KS.out.cell 2) (KM.out.cell 6) hw1 hw2 HN.out (by omega) _ _ (by simp) ⟨rfl, rfl, trivial⟩ ?_;rintro w4 hXW xv2 _ xv5 _ xv6 _ xv7 hv;simp only [EndK, ae, Try.f129, ab, Option.bind_some, Nat.reduceBEq, if_true, if_false, Bool.false_eq_true, Option.getD_some, List.drop_succ_cons, List.drop_zero];simp only [Act.put, List.setIfInBounds_toArray, List.set_cons_succ, List.set_cons_zero];replace HX := hid (HX.out.trans hXW);replace HN := hid (HN.out.ext hXW);replace KM := hid (KM.out.ext hXW);replace KR := hid (KR.out.ext hXW);replace KS := hid (KS.out.ext hXW);clear hXW;clear HN;obtain ⟨s2, A2, l2, c2, B2, m2, k2, rfl⟩ := NumX.open hv;have HN := hid hv;clear hv;have cR0 : w4.cell? ⟨(w.heap.size + 1), 0, none⟩ = some (.bool false) := KR.out.cell 0;have fR0 : w4.frozen? ⟨(w.heap.size + 1), 0, none⟩ = false := KR.out.free 0;have cR1 : w4.cell? ⟨(w.heap.size + 1), 1, none⟩ = some (.slice none 0 0) := KR.out.cell 1;have fR1 : w4.frozen? ⟨(w.heap.size + 1), 1, none⟩ = false := KR.out.free 1;have cR2 : w4.cell? ⟨(w.heap.size + 1), 2, none⟩ = some (.slice none 0 0) := KR.out.cell 2;have fR2 : w4.frozen? ⟨(w.heap.size + 1), 2, none⟩ = false := KR.out.free 2;go_wp2;refine bodyPost_ret (v := .agg #[.bool s2, .slice A2 l2 c2, .slice B2 m2 k2]) (by simp [results, Try.results129, go_sem, *]) rfl ?_;exact ⟨_, rfl, HN.out.boxed (NoInts.three KR.out) _ _ _ _ _ _ _, Ext.boxed HX.out (by omega) _ _ _⟩
theorem eh {gt ot S ct L : Nat} {m : Mt} {u : Nat -> Rat} {w : World} (hS : ShP (fun w v q => NumX w v q L) w gt ot S u) (hm : VM S m) (hL : L <= 100000) :
  Calls Try.prog 129 #[.slice (some ⟨gt, ot, none⟩) S ct, m.val] w (eM w (cL (3 * S) u m) (12 * L + 30)) := by
 obtain ⟨a, b, x, y, z, d, ww⟩ := m;have h := jJ gt ot S ct L a b x y z d ww u w hS hm hL;rw [show 12 * L + 30 = 2 + (6 * L + 14 + (6 * L + 14)) by omega];exact h
/-- The coefficients of the first k elements of the normal. -/
def jf (m : Mt) (k u : Nat) : Int := if u % 3 < k then aG m u else 0
/-- A row of n integers in memory of one's own. -/
def RowI (base : Nat) (w : World) (g n c : Nat) (f : Nat -> Int) : Prop := ∃ us, w.ownsRow base 3 1 (.slice (some ⟨g, 0, none⟩) n c) n us /\ NumK 1 dk w us n f
theorem RowI.ext {base g n c : Nat} {w w' : World} {f : Nat -> Int} (h : RowI base w g n c f) (he : Ext w w') : RowI base w' g n c f := by
 obtain ⟨us, h1, h2⟩ := h;exact ⟨us, World.ownsRow.ext' h1 he, h2.any w'⟩
theorem RowI.keeps {base g n c : Nat} {w w' : World} {f : Nat -> Int} {L : List Nat} (h : RowI base w g n c f) (he : Keeps L w w') (hg : g ∉ L) : RowI base w' g n c f := by
 obtain ⟨us, h1, h2⟩ := h;exact ⟨us, aj h1 he (fun q hq => by simp [Value.ownBlock] at hq; subst hq; exact hg), h2.any w'⟩
theorem RowI.cell {base g n c : Nat} {w : World} {f : Nat -> Int} (h : RowI base w g n c f) {j : Nat} (hj : j < n) : w.cell? ⟨g, j, none⟩ = some (.int .i64 (f j)) := by
 obtain ⟨us, h1, h2⟩ := h;exact af h1 (h2.one hj)
theorem RowI.free {base g n c : Nat} {w : World} {f : Nat -> Int} (h : RowI base w g n c f) (j : Nat) : w.frozen? ⟨g, j, none⟩ = false := by
 obtain ⟨us, h1, h2⟩ := h;exact aL h1 j
theorem RowI.put {base g n c : Nat} {w : World} {f : Nat -> Int} (h : RowI base w g n c f) {j : Nat} (hj : j < n) (x : Int) : RowI base (w.setCell ⟨g, j, none⟩ (.int .i64 x)) g n c (fun i => if i = j then x else f i) := by
 obtain ⟨us, h1, h2⟩ := h;exact ⟨_, bq h1, (h2.put1 hj x).any _⟩
theorem RowI.congr {base g n c : Nat} {w : World} {f h : Nat -> Int} (k : RowI base w g n c f) (e : ∀ j, j < n -> f j = h j) : RowI base w g n c h := by
 obtain ⟨us, h1, h2⟩ := k;exact ⟨us, h1, h2.congr e⟩
theorem RowI.low {base g n c : Nat} {w : World} {f : Nat -> Int} (h : RowI base w g n c f) : base <= g /\ g < w.heap.size := by
 obtain ⟨us, h1, h2⟩ := h;exact cB h1 (by simp [Value.ownBlock])
theorem RowI.zero {base g n c : Nat} {w : World} (h : w.ownsRow base 3 1 (.slice (some ⟨g, 0, none⟩) n c) n (List.replicate n (.int .i64 0))) : RowI base w g n c (fun _ => 0) :=
 ⟨_, h, NumK.new 1 dk w _ n (by simp) rfl rfl (x := 0) (fun i hi => by rw [List.getElem?_replicate, if_pos (by omega), Nat.mod_one]; rfl)⟩
theorem RowI.list {base g n c : Nat} {w : World} {f : Nat -> Int} (h : RowI base w g n c f) : w.ownsRow base 3 1 (.slice (some ⟨g, 0, none⟩) n c) n ((List.range n).map fun j => .int .i64 (f j)) := by
 obtain ⟨us, h1, h2⟩ := h;rw [<- h2.map];exact h1
theorem fZ {m : Mt} {an k : Nat} (ha : m.a = (an : Int)) (_hk : k < 3) : aG m (3 * an + k) = m.nrm k := by
 unfold aG;rw [show (3 * an + k) / 3 = an by omega, show (3 * an + k) % 3 = k by omega, if_pos ha.symm]
theorem jK {m : Mt} {bn k : Nat} (_hab : m.a ≠ m.b) (hb : m.b = (bn : Int)) (_hk : k < 3) : aG m (3 * bn + k) = -m.nrm k := by
 unfold aG;rw [show (3 * bn + k) / 3 = bn by omega, show (3 * bn + k) % 3 = k by omega, if_neg (by omega), if_pos hb.symm]
theorem iH {m : Mt} {u : Nat} (h1 : ((u / 3 : Nat) : Int) ≠ m.a) (h2 : ((u / 3 : Nat) : Int) ≠ m.b) : aG m u = 0 := by
 unfold aG;rw [if_neg h1, if_neg h2]
theorem oc (S N an bn n c : Nat) (A : Option Addr) (x y z d ww : Int) (w : World) (hm : VM S (⟨(an : Int), (bn : Int), x, y, z, d, ww⟩ : Mt)) (_hS : S <= 8) (hN : N = 3 * S) :
  Calls Try.prog 118 #[.agg #[.int .i64 (S : Int), .slice A n c], .agg #[.int .i64 (an : Int), .int .i64 (bn : Int), .int .i64 (x), .int .i64 (y), .int .i64 (z), .int .i64 (d), .int .i64 (ww)]] w (fun e w' => ∃ g, e = .returned (.slice (some ⟨g, 0, none⟩) N N) /\ RowI w.heap.size w' g N N (aG (⟨(an : Int), (bn : Int), x, y, z, d, ww⟩ : Mt)) /\ Ext w w') := by
 have han : an < S := by have := hm.aS; simp only at this; omega
 have hbn : bn < S := by have := hm.bS; simp only at this; omega
 have hab : an ≠ bn := by have := hm.ne; simp only at this; omega
 have hn : ∀ k, -100 <= aA x y z k /\ aA x y z k <= 100 := fun k => by
  have h1 := hm.x1; have h2 := hm.x2; have h3 := hm.y1; have h4 := hm.y2; have h5 := hm.z1; have h6 := hm.z2;simp only at h1 h2 h3 h4 h5 h6;unfold aA; split; omega; split <;> omega
 have hqN : IntKind.i64.wrap (3 * (S : Int)) = (N : Int) := by rw [IntWalk.i64_in _ (by omega)]; omega
 have hNb : N <= 24 := by omega
 have HNN := hid hN;have HNE := hid hm.ne;have HC1 : Hid (∀ k, k < 3 -> aG (⟨(an : Int), (bn : Int), x, y, z, d, ww⟩ : Mt) (3 * an + k) = aA x y z k) := hid (fun k hk => fZ (m := (⟨(an : Int), (bn : Int), x, y, z, d, ww⟩ : Mt)) rfl hk);have HC2 : Hid (∀ k, k < 3 -> aG (⟨(an : Int), (bn : Int), x, y, z, d, ww⟩ : Mt) (3 * bn + k) = -aA x y z k) := hid (fun k hk => jK (m := (⟨(an : Int), (bn : Int), x, y, z, d, ww⟩ : Mt)) hm.ne rfl hk);have HC3 : Hid (∀ u, u / 3 ≠ an -> u / 3 ≠ bn -> aG (⟨(an : Int), (bn : Int), x, y, z, d, ww⟩ : Mt) u = 0) := hid (fun u h1 h2 => iH (by simp only; omega) (by simp only; omega));have hXe : Ext w ((w.alloc (.cells #[.int .i64 (S : Int), .slice A n c] 76)).alloc (.cells #[.int .i64 (an : Int), .int .i64 (bn : Int), .int .i64 (x), .int .i64 (y), .int .i64 (z), .int .i64 (d), .int .i64 (ww)] 90)) := ((Ext.refl w).alloc _).alloc _;have kP : Blk ((w.alloc (.cells #[.int .i64 (S : Int), .slice A n c] 76)).alloc (.cells #[.int .i64 (an : Int), .int .i64 (bn : Int), .int .i64 (x), .int .i64 (y), .int .i64 (z), .int .i64 (d), .int .i64 (ww)] 90)) w.heap.size 76 #[.int .i64 (S : Int), .slice A n c] := Blk.alloc (Blk.new w _ _) _;have kM : Blk ((w.alloc (.cells #[.int .i64 (S : Int), .slice A n c] 76)).alloc (.cells #[.int .i64 (an : Int), .int .i64 (bn : Int), .int .i64 (x), .int .i64 (y), .int .i64 (z), .int .i64 (d), .int .i64 (ww)] 90)) (w.heap.size + 1) 90 #[.int .i64 (an : Int), .int .i64 (bn : Int), .int .i64 (x), .int .i64 (y), .int .i64 (z), .int .i64 (d), .int .i64 (ww)] := Blk.at_ (by simp);generalize hmm : (⟨(an : Int), (bn : Int), x, y, z, d, ww⟩ : Mt) = mt at *;clear hmm hm hN;go_enter Try.func118, Try.ntmps118
 go_upto_region 1 with (fail)
 generalize (w.alloc _).alloc _ = w1 at hXe kP kM |-;have hs1 := hXe.size;have hs2 := kM.lt;have p0 := kP.cell 0;have m0 := kM.cell 0;have m1 := kM.cell 1;have m2 := kM.cell 2;have m3 := kM.cell 3;have m4 := kM.cell 4;simp only [List.getElem?_toArray, List.getElem?_cons_zero, List.getElem?_cons_succ] at p0 m0 m1 m2 m3 m4
 go_upto_region 2 with (at_make; refine ap w1 dX rfl rfl _ _ rfl w.heap.size _ _ _ _ N N rfl rfl (by first | rfl | omega) (by first | rfl | omega) (Nat.le_refl _) (by omega) (by unfold maxLen; omega) hs1 ?_; intro w2 hown hext hsz)
 clear p0 m0 m1 m2 m3 m4;have hg : w.heap.size + 1 < w1.heap.size := hs2;generalize w1.heap.size = g at hown hg |-;have HX := hid (hXe.trans hext);have KM := hid (kM.ext hext);have HR : Hid (RowI w.heap.size w2 g N N (jf mt 0)) := hid ((RowI.zero hown).congr (fun j _ => by unfold jf; rw [if_neg (by omega)]));clear hXe kP kM hs1 hs2 hext hsz hown;have m2 := KM.out.cell 2;have m3 := KM.out.cell 3;have m4 := KM.out.cell 4;simp only [List.getElem?_toArray, List.getElem?_cons_zero, List.getElem?_cons_succ] at m2 m3 m4
 go_wp2_with fail
 clear m2 m3 m4
 go_loopg [14] 3 (fun f iv wr => ∃ k : Nat, f = 3 - k /\ k <= 3 /\ iv = .int .i64 (k : Int) /\ Hid (RowI w.heap.size wr g N N (jf mt k)) /\ Hid (Blk wr (w.heap.size + 1) 90 #[.int .i64 (an : Int), .int .i64 (bn : Int), .int .i64 (x), .int .i64 (y), .int .i64 (z), .int .i64 (d), .int .i64 (ww)]) /\ Hid (Ext w wr))
 case atStart => exact ⟨0, rfl, by omega, rfl, HR, KM, HX⟩
 case round =>
  clear HR KM HX;obtain ⟨k, rfl, hk, rfl, HR, KM, HX⟩ := hrel
  by_cases hlt : k < 3
  .
   have q1 : decide (k < 3) = true := decide_eq_true hlt;have ik := n8 x y z hlt;have hnk := hn k;have HCK := hid (HC1.out k hlt);obtain ⟨pa, hpa⟩ : ∃ pa, pa = 3 * an + k := ⟨_, rfl⟩;have hpaN : pa < N := by have := HNN.out; omega
   have q3 : IntKind.i64.wrap (3 * (an : Int)) = 3 * (an : Int) := IntWalk.i64_in _ (by omega);have q4 : IntKind.i64.wrap (3 * (an : Int) + (k : Int)) = (pa : Int) := by rw [IntWalk.i64_in _ (by omega)]; omega
   have xa := HR.out.cell hpaN;have fa := HR.out.free pa;have hz : jf mt k pa = 0 := by unfold jf; rw [if_neg (by omega)]
   rw [hz] at xa;have HPA := hid hpa;clear hz hpa;have m0 := KM.out.cell 0;have m1 := KM.out.cell 1;simp only [List.getElem?_toArray, List.getElem?_cons_zero, List.getElem?_cons_succ] at m0 m1;obtain ⟨nk, hnk2⟩ : ∃ nk, aA x y z k = nk := ⟨_, rfl⟩;rw [hnk2] at ik hnk HCK;clear hnk2;obtain ⟨hnk1, hnk3⟩ := hnk;have q5 : IntKind.i64.wrap nk = nk := IntWalk.i64_in _ (by omega);have q6 : IntKind.i64.wrap (-nk) = -nk := IntWalk.i64_in _ (by omega)
   go_upto_region 6 with (fail)
   clear xa fa m0 m1 q3 q4 ik;have hput := HR.out.put hpaN nk;replace KM := hid (KM.out.far (by simp only; omega) (.int .i64 nk) (p := ⟨g, pa, none⟩));replace HX := hid (HX.out.setCell (p := ⟨g, pa, none⟩) (by simp only; omega) (.int .i64 nk));clear HR;generalize wr.setCell _ _ = wa at hput KM HX |-;have HR := hid hput;clear hput;have m1 := KM.out.cell 1;simp only [List.getElem?_toArray, List.getElem?_cons_zero, List.getElem?_cons_succ] at m1;obtain ⟨pb, hpb⟩ : ∃ pb, pb = 3 * bn + k := ⟨_, rfl⟩;have hpbN : pb < N := by have := HNN.out; omega
   have hpab : pb ≠ pa := by have := HPA.out; omega
   have q3 : IntKind.i64.wrap (3 * (bn : Int)) = 3 * (bn : Int) := IntWalk.i64_in _ (by omega);have q4 : IntKind.i64.wrap (3 * (bn : Int) + (k : Int)) = (pb : Int) := by rw [IntWalk.i64_in _ (by omega)]; omega
   have xa := HR.out.cell hpbN;have fa := HR.out.free pb;rw [if_neg hpab] at xa;have hz : jf mt k pb = 0 := by unfold jf; rw [if_neg (by omega)]
   rw [hz] at xa;have HPB := hid hpb;have HCB := hid (HC2.out k hlt);have HPK : Hid (aA x y z k = nk) := hid (by rw [<- HCK.out, HC1.out k hlt]);clear hz hpb;have hput := HR.out.put hpbN (-nk);have HRP := hid hput;clear hput;go_wp2;go_roundg (3 - (k + 1))
   case rel =>
    refine ⟨k + 1, rfl, by omega, by go_num, hid (HRP.out.congr (fun j _ => ?_)), hid (KM.out.far (by simp only; omega) _), hid (HX.out.setCell (by simp only; omega) _)⟩;unfold jf;have h1 := HPA.out;have h2 := HPB.out;have h3 := HCK.out;have h4 := HCB.out;rw [HPK.out] at h4
    by_cases e1 : j = pb
    .
     rw [if_pos e1, e1, if_pos (by omega), h2, h4]
    .
     rw [if_neg e1]
     by_cases e2 : j = pa
     .
      rw [if_pos e2, e2, if_pos (by omega), h1, h3]
     .
      rw [if_neg e2]
      by_cases e3 : j % 3 < k
      .
       rw [if_pos e3, if_pos (by omega)]
      .
       rw [if_neg e3]
       by_cases e4 : j % 3 < k + 1
       .
        rw [if_pos e4, HC3.out j (by omega) (by omega)]
       .
        rw [if_neg e4]
   case measure => omega
  .
   obtain rfl : k = 3 := by omega
   go_wp2;go_ret
   exact ⟨g, rfl, HR.out.congr (fun j _ => by unfold jf; rw [if_pos (by omega)]), HX.out⟩
theorem od (S N an n c : Nat) (A : Option Addr) (x y z d ww : Int) (w : World) (hm : VM S (⟨(an : Int), (-1 : Int), x, y, z, d, ww⟩ : Mt)) (_hS : S <= 8) (hN : N = 3 * S) :
  Calls Try.prog 118 #[.agg #[.int .i64 (S : Int), .slice A n c], .agg #[.int .i64 (an : Int), .int .i64 (-1 : Int), .int .i64 (x), .int .i64 (y), .int .i64 (z), .int .i64 (d), .int .i64 (ww)]] w (fun e w' => ∃ g, e = .returned (.slice (some ⟨g, 0, none⟩) N N) /\ RowI w.heap.size w' g N N (aG (⟨(an : Int), (-1 : Int), x, y, z, d, ww⟩ : Mt)) /\ Ext w w') := by
 have han : an < S := by have := hm.aS; simp only at this; omega
 skip
 have hn : ∀ k, -100 <= aA x y z k /\ aA x y z k <= 100 := fun k => by
  have h1 := hm.x1; have h2 := hm.x2; have h3 := hm.y1; have h4 := hm.y2; have h5 := hm.z1; have h6 := hm.z2;simp only at h1 h2 h3 h4 h5 h6;unfold aA; split; omega; split <;> omega
 have hqN : IntKind.i64.wrap (3 * (S : Int)) = (N : Int) := by rw [IntWalk.i64_in _ (by omega)]; omega
 have hNb : N <= 24 := by omega
 have HNN := hid hN;have HNE := hid hm.ne;have HC1 : Hid (∀ k, k < 3 -> aG (⟨(an : Int), (-1 : Int), x, y, z, d, ww⟩ : Mt) (3 * an + k) = aA x y z k) := hid (fun k hk => fZ (m := (⟨(an : Int), (-1 : Int), x, y, z, d, ww⟩ : Mt)) rfl hk)
 skip
 have HC3 : Hid (∀ u, u / 3 ≠ an -> aG (⟨(an : Int), (-1 : Int), x, y, z, d, ww⟩ : Mt) u = 0) := hid (fun u h1 => iH (by simp only; omega) (by simp only; omega));have hXe : Ext w ((w.alloc (.cells #[.int .i64 (S : Int), .slice A n c] 76)).alloc (.cells #[.int .i64 (an : Int), .int .i64 (-1 : Int), .int .i64 (x), .int .i64 (y), .int .i64 (z), .int .i64 (d), .int .i64 (ww)] 90)) := ((Ext.refl w).alloc _).alloc _;have kP : Blk ((w.alloc (.cells #[.int .i64 (S : Int), .slice A n c] 76)).alloc (.cells #[.int .i64 (an : Int), .int .i64 (-1 : Int), .int .i64 (x), .int .i64 (y), .int .i64 (z), .int .i64 (d), .int .i64 (ww)] 90)) w.heap.size 76 #[.int .i64 (S : Int), .slice A n c] := Blk.alloc (Blk.new w _ _) _;have kM : Blk ((w.alloc (.cells #[.int .i64 (S : Int), .slice A n c] 76)).alloc (.cells #[.int .i64 (an : Int), .int .i64 (-1 : Int), .int .i64 (x), .int .i64 (y), .int .i64 (z), .int .i64 (d), .int .i64 (ww)] 90)) (w.heap.size + 1) 90 #[.int .i64 (an : Int), .int .i64 (-1 : Int), .int .i64 (x), .int .i64 (y), .int .i64 (z), .int .i64 (d), .int .i64 (ww)] := Blk.at_ (by simp);generalize hmm : (⟨(an : Int), (-1 : Int), x, y, z, d, ww⟩ : Mt) = mt at *;clear hmm hm hN;go_enter Try.func118, Try.ntmps118
 go_upto_region 1 with (fail)
 generalize (w.alloc _).alloc _ = w1 at hXe kP kM |-;have hs1 := hXe.size;have hs2 := kM.lt;have p0 := kP.cell 0;have m0 := kM.cell 0;have m1 := kM.cell 1;have m2 := kM.cell 2;have m3 := kM.cell 3;have m4 := kM.cell 4;simp only [List.getElem?_toArray, List.getElem?_cons_zero, List.getElem?_cons_succ] at p0 m0 m1 m2 m3 m4
 go_upto_region 2 with (at_make; refine ap w1 dX rfl rfl _ _ rfl w.heap.size _ _ _ _ N N rfl rfl (by first | rfl | omega) (by first | rfl | omega) (Nat.le_refl _) (by omega) (by unfold maxLen; omega) hs1 ?_; intro w2 hown hext hsz)
 clear p0 m0 m1 m2 m3 m4;have hg : w.heap.size + 1 < w1.heap.size := hs2;generalize w1.heap.size = g at hown hg |-;have HX := hid (hXe.trans hext);have KM := hid (kM.ext hext);have HR : Hid (RowI w.heap.size w2 g N N (jf mt 0)) := hid ((RowI.zero hown).congr (fun j _ => by unfold jf; rw [if_neg (by omega)]));clear hXe kP kM hs1 hs2 hext hsz hown;have m2 := KM.out.cell 2;have m3 := KM.out.cell 3;have m4 := KM.out.cell 4;simp only [List.getElem?_toArray, List.getElem?_cons_zero, List.getElem?_cons_succ] at m2 m3 m4
 go_wp2_with fail
 clear m2 m3 m4
 go_loopg [14] 3 (fun f iv wr => ∃ k : Nat, f = 3 - k /\ k <= 3 /\ iv = .int .i64 (k : Int) /\ Hid (RowI w.heap.size wr g N N (jf mt k)) /\ Hid (Blk wr (w.heap.size + 1) 90 #[.int .i64 (an : Int), .int .i64 (-1 : Int), .int .i64 (x), .int .i64 (y), .int .i64 (z), .int .i64 (d), .int .i64 (ww)]) /\ Hid (Ext w wr))
 case atStart => exact ⟨0, rfl, by omega, rfl, HR, KM, HX⟩
 case round =>
  clear HR KM HX;obtain ⟨k, rfl, hk, rfl, HR, KM, HX⟩ := hrel
  by_cases hlt : k < 3
  .
   have q1 : decide (k < 3) = true := decide_eq_true hlt;have ik := n8 x y z hlt;have hnk := hn k;have HCK := hid (HC1.out k hlt);obtain ⟨pa, hpa⟩ : ∃ pa, pa = 3 * an + k := ⟨_, rfl⟩;have hpaN : pa < N := by have := HNN.out; omega
   have q3 : IntKind.i64.wrap (3 * (an : Int)) = 3 * (an : Int) := IntWalk.i64_in _ (by omega);have q4 : IntKind.i64.wrap (3 * (an : Int) + (k : Int)) = (pa : Int) := by rw [IntWalk.i64_in _ (by omega)]; omega
   have xa := HR.out.cell hpaN;have fa := HR.out.free pa;have hz : jf mt k pa = 0 := by unfold jf; rw [if_neg (by omega)]
   rw [hz] at xa;have HPA := hid hpa;clear hz hpa;have m0 := KM.out.cell 0;have m1 := KM.out.cell 1;simp only [List.getElem?_toArray, List.getElem?_cons_zero, List.getElem?_cons_succ] at m0 m1;obtain ⟨nk, hnk2⟩ : ∃ nk, aA x y z k = nk := ⟨_, rfl⟩;rw [hnk2] at ik hnk HCK;clear hnk2;obtain ⟨hnk1, hnk3⟩ := hnk;have q5 : IntKind.i64.wrap nk = nk := IntWalk.i64_in _ (by omega);have q6 : IntKind.i64.wrap (-nk) = -nk := IntWalk.i64_in _ (by omega)
   go_upto_region 6 with (fail)
   clear xa fa m0 m1 q3 q4 ik;have hput := HR.out.put hpaN nk;replace KM := hid (KM.out.far (by simp only; omega) (.int .i64 nk) (p := ⟨g, pa, none⟩));replace HX := hid (HX.out.setCell (p := ⟨g, pa, none⟩) (by simp only; omega) (.int .i64 nk));clear HR;generalize wr.setCell _ _ = wa at hput KM HX |-;have HR := hid hput;clear hput;have m1 := KM.out.cell 1;simp only [List.getElem?_toArray, List.getElem?_cons_zero, List.getElem?_cons_succ] at m1;go_wp2;go_roundg (3 - (k + 1))
   case rel =>
    refine ⟨k + 1, rfl, by omega, by go_num, hid (HR.out.congr (fun j _ => ?_)), KM, HX⟩;unfold jf;have h1 := HPA.out;have h3 := HCK.out
    by_cases e2 : j = pa
    .
     rw [if_pos e2, e2, if_pos (by omega), h1, h3]
    .
     rw [if_neg e2]
     by_cases e3 : j % 3 < k
     .
      rw [if_pos e3, if_pos (by omega)]
     .
      rw [if_neg e3]
      by_cases e4 : j % 3 < k + 1
      .
       rw [if_pos e4, HC3.out j (by omega)]
      .
       rw [if_neg e4]
   case measure => omega
  .
   obtain rfl : k = 3 := by omega
   go_wp2;go_ret
   exact ⟨g, rfl, HR.out.congr (fun j _ => by unfold jf; rw [if_pos (by omega)]), HX.out⟩
theorem oe {S N n c : Nat} {A : Option Addr} {m : Mt} {w : World} (hm : VM S m) (hS : S <= 8) (hN : N = 3 * S) :
  Calls Try.prog 118 #[.agg #[.int .i64 (S : Int), .slice A n c], m.val] w (fun e w' => ∃ g, e = .returned (.slice (some ⟨g, 0, none⟩) N N) /\ RowI w.heap.size w' g N N (aG m) /\ Ext w w') := by
 obtain ⟨a, b, x, y, z, d, ww⟩ := m;obtain ⟨an, rfl⟩ : ∃ an : Nat, a = an := ⟨a.toNat, by have := hm.a0; simp only at this; omega⟩
 by_cases hb : b = -1
 .
  subst hb;exact od S N an n c A x y z d ww w hm hS hN
 .
  obtain ⟨bn, rfl⟩ : ∃ bn : Nat, b = bn := ⟨b.toNat, by have := hm.b0; simp only at this; omega⟩;exact oc S N an bn n c A x y z d ww w hm hS hN
end Go.Proofs.Ytikhlcgnlbinfaa
