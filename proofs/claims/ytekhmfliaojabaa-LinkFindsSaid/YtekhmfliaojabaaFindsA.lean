/- Lemmas of the proof that follows (Finds, part 1): walks of functions by contract, and plain lemmas. Conditions: none. -/
import Derived.WalkKit
import Derived.WalkSpells
import Derived.WalkLawsBesides
import Derived.ProofKit
import Derived.OpenShut
import Derived.ShutString
import Derived.ChangeOld
import Derived.Lib.Hide
import Derived.Maps.AppendAt
import Derived.Laws.CopyOwn
import Derived.Deep.Draws
import Derived.Maps.RangeWalk
import Derived.Deep.LoopGhost
import Derived.Deep.DeepCutAuto
import Derived.Deep.QuietTactic
import Derived.BigQuiet
import Derived.StillTailTactics
import Derived.Test.YtekhmfliaojabaaRows
import Derived.Deep.RegionHeld3
import Derived.Deep.Slices
import Derived.Deep.Strs
import Derived.Laws.BitsAllLaws
import Derived.Test.YtekhmfliaojabaaChecked
import Derived.StillTail
import Derived.Lib.SmallJoins
namespace Go.Proofs.Ytekhmfliaojabaa
open Go.RowKit

/-- 'w'' has every block of 'w' as it was, and perhaps more. -/
def Ext (w w' : World) : Prop := Below w.heap.size w w'

theorem Ext.refl (w : World) : Ext w w := Below.refl _ _
theorem Ext.size {a b : World} (h : Ext a b) : a.heap.size ≤ b.heap.size := Below.size h
theorem Ext.trans {a b c : World} (h : Ext a b) (k : Ext b c) : Ext a c := Below.trans h (Below.mono k h.size)
theorem Ext.drew {a b : World} (h : Ext a b) : Ext a b.drew := Below.drew h
theorem Ext.drewN {a b : World} (h : Ext a b) (n : Nat) : Ext a (b.drewN n) := ⟨h.os, h.tape, h.output, h.size, h.block⟩
theorem Ext.alloc {a b : World} (h : Ext a b) (o : Obj) : Ext a (b.alloc o) := Below.alloc h h.size o
theorem Ext.setCell {a b : World} (h : Ext a b) {p : Addr} (hp : a.heap.size ≤ p.block) (u : Value) : Ext a (b.setCell p u) := Below.setCell h hp u
theorem Ext.grown {a b c : World} {row : Option Nat} (h : Ext a b) (hg : b.grownBy c row) (hr : ∀ k, row = some k → a.heap.size ≤ k) : Ext a c := Below.grown h hg h.size hr
theorem Ext.cell {a b : World} (h : Ext a b) {p : Addr} {v : Value} (hc : a.cell? p = some v) : b.cell? p = some v :=
  (Below.cell h (World.block_lt_of_cell? a p hc)).trans hc
theorem Ext.of_grown {a b : World} (h : a.grownBy b none) : Ext a b := ⟨h.os, h.tape, h.output, h.size, fun k hk => h.block k hk (by simp)⟩
theorem Ext.row {a b : World} (h : Ext a b) (row : Option Nat) : a.grownBy b row := ⟨h.os, h.tape, h.output, h.size, fun k hk _ => h.block k hk⟩

/-- The address 'A' leads to the cells 'vs' (no matter where, if there are none). -/
def At (w : World) (A : Option Addr) (vs : List Value) : Prop :=
  vs ≠ [] → ∃ b off, A = some ⟨b, off, none⟩ ∧ ∀ j v, vs[j]? = some v → w.cell? ⟨b, off + j, none⟩ = some v

section
variable {w w' : World} {A : Option Addr} {vs : List Value}
theorem At.nil : At w A [] := fun h => absurd rfl h
theorem At.ext (h : At w A vs) (he : Ext w w') : At w' A vs := fun hn => by
  obtain ⟨b, off, hA, hc⟩ := h hn
  exact ⟨b, off, hA, fun j v hv => he.cell (hc j v hv)⟩
theorem At.get (h : At w A vs) {j : Nat} (hj : j < vs.length) : ∃ b off v, A = some ⟨b, off, none⟩ ∧ vs[j]? = some v ∧ w.cell? ⟨b, off + j, none⟩ = some v := by
  obtain ⟨b, off, hA, hc⟩ := h (by intro e; subst e; simp at hj)
  exact ⟨b, off, vs[j], hA, List.getElem?_eq_getElem hj, hc j _ (List.getElem?_eq_getElem hj)⟩
theorem At.take (h : At w A vs) (k : Nat) : At w A (vs.take k) := fun hn => by
  obtain ⟨b, off, hA, hc⟩ := h (by intro e; subst e; simp at hn)
  refine ⟨b, off, hA, fun j v hv => hc j v ?_⟩
  rw [List.getElem?_take] at hv
  split at hv
  · exact hv
  · cases hv
theorem At.drop (h : At w A vs) (k : Nat) {A' : Option Addr} (hA' : k < vs.length → ∀ b off, A = some ⟨b, off, none⟩ → A' = some ⟨b, off + k, none⟩) : At w A' (vs.drop k) := fun hn => by
  have hk : k < vs.length := by
    rcases Nat.lt_or_ge k vs.length with h1 | h1
    · exact h1
    · exact absurd (List.drop_eq_nil_of_le h1) hn
  obtain ⟨b, off, hA, hc⟩ := h (by intro e; subst e; simp at hk)
  refine ⟨b, off + k, hA' hk b off hA, fun j v hv => ?_⟩
  rw [Nat.add_assoc]
  exact hc _ v (by rw [← hv, List.getElem?_drop])
theorem At.add (h : At w A vs) : ∀ ad, A = some ad → ∀ j u, vs[j]? = some u → w.cell? (ad.add j) = some u := by
  intro ad hA j u hu
  obtain ⟨b, off, hA', hc⟩ := h (by intro e; subst e; simp at hu)
  rw [hA] at hA'
  injection hA' with hA'
  subst hA'
  rw [Addr.add_lit]
  exact hc j u hu
theorem At.of_own {base : Nat} {e : TypeId} {size n c : Nat} (h : w.ownsRow base e size (.slice A n c) n vs) : At w A vs := fun hn => by
  rcases h.2 with ⟨hv, h0⟩ | ⟨g, cap, cur, hv, _, hg, _⟩
  · subst h0
    exact absurd (List.eq_nil_of_length_eq_zero (by simpa using h.1)) hn
  · have hA : A = some ⟨g, 0, none⟩ := by injection hv
    subst hA
    refine ⟨g, 0, rfl, fun j v hj => ?_⟩
    have := h.cells (g := g) rfl j v hj
    rwa [Addr.add_lit] at this
end

theorem At.new (w : World) (vs : List Value) (t : TypeId) : At (w.alloc (.cells vs.toArray t)) (some ⟨w.heap.size, 0, none⟩) vs := fun _ =>
  ⟨w.heap.size, 0, rfl, fun j v hv => by
    rw [cell_of_row _ w.heap.size (0 + j) vs.toArray t (0, 0) (heap_alloc_new w _)]
    simpa using hv⟩

theorem own_slice {w : World} {base : Nat} {e : TypeId} {size n : Nat} {v : Value} {vs : List Value} (h : w.ownsRow base e size v n vs) : ∃ A c, v = .slice A n c := by
  rcases h.2 with ⟨rfl, rfl⟩ | ⟨g, cap, cur, rfl, _⟩
  · exact ⟨_, _, rfl⟩
  · exact ⟨_, _, rfl⟩

/-- Behind an append onto a row of the call's own, whose source was made just ahead of it. -/
theorem Ext.push {w wr w1 : World} {o : Obj} {e : TypeId} {size n : Nat} {v : Value} {vs : List Value} (h : Ext w wr) (hown : wr.ownsRow w.heap.size e size v n vs) (hg : (wr.alloc o).grownBy w1 v.ownBlock) : Ext w w1 :=
  (h.alloc o).grown hg fun k hk => (hown.lt k hk).1
theorem Ext.app {w wr w1 : World} {e : TypeId} {size n : Nat} {v : Value} {vs : List Value} (h : Ext w wr) (hown : wr.ownsRow w.heap.size e size v n vs) (hg : wr.grownBy w1 v.ownBlock) : Ext w w1 :=
  h.grown hg fun k hk => (hown.lt k hk).1

/-- A callee's contract inside a region that reads alone. -/
theorem quiet_left {P : Program} {f : FuncId} {args : Array Value} {w : World} {n : Nat} {v : Value}
    (h : Calls P f args (w.drewN n) fun e w' => e = .returned v ∧ w.drewN n = w') : Calls P f args (w.drewN n) fun e w'' => e = .returned v ∧ ∃ m, w'' = w.drewN m :=
  h.mono fun _ _ ⟨he, hm⟩ => ⟨he, n, hm.symm⟩

/-- A slice of integers of kind 'k' with 'n' elements reads as 'xs'. -/
def Ints (k : IntKind) (w : World) (A : Option Addr) (n : Nat) (xs : List Int) : Prop :=
  xs.length = n ∧ (∀ x ∈ xs, (Lit.int k x).wf = true) ∧ At w A (xs.map (Value.int k))

section
variable {w w' : World} {A : Option Addr} {n : Nat} {xs : List Int} {k : IntKind}
theorem Ints.ext (h : Ints k w A n xs) (he : Ext w w') : Ints k w' A n xs := ⟨h.1, h.2.1, h.2.2.ext he⟩
theorem Ints.nil : Ints k w A 0 [] := ⟨rfl, by simp, At.nil⟩
theorem Ints.get (h : Ints k w A n xs) {j : Nat} (hj : j < n) : ∃ b off x, A = some ⟨b, off, none⟩ ∧ xs[j]? = some x ∧ (Lit.int k x).wf = true ∧ w.cell? ⟨b, off + j, none⟩ = some (.int k x) := by
  have hj' : j < xs.length := by rw [h.1]; exact hj
  obtain ⟨b, off, v, hA, hv, hc⟩ := h.2.2.get (j := j) (by simpa using hj')
  rw [List.getElem?_map, List.getElem?_eq_getElem hj'] at hv
  simp only [Option.map_some, Option.some.injEq] at hv
  subst hv
  exact ⟨b, off, xs[j], hA, List.getElem?_eq_getElem hj', h.2.1 _ (List.getElem_mem hj'), hc⟩
theorem u8_bounds {x : Int} (h : (Lit.int .u8 x).wf = true) : 0 ≤ x ∧ x ≤ 255 := by
  simp [Lit.wf, IntKind.min, IntKind.max, IntKind.bits, IntKind.signed] at h; omega
theorem i64_bounds {x : Int} (h : (Lit.int .i64 x).wf = true) : -9223372036854775808 ≤ x ∧ x ≤ 9223372036854775807 := by
  simp [Lit.wf, IntKind.min, IntKind.max, IntKind.bits, IntKind.signed] at h; omega
theorem Ints.take (h : Ints k w A n xs) {m : Nat} (hm : m ≤ n) : Ints k w A m (xs.take m) :=
  ⟨by rw [List.length_take, h.1]; omega, fun x hx => h.2.1 x (List.mem_of_mem_take hx), by rw [List.map_take]; exact h.2.2.take m⟩
theorem Ints.drop (h : Ints k w A n xs) (m : Nat) {A' : Option Addr} (hA' : m < n → ∀ b off, A = some ⟨b, off, none⟩ → A' = some ⟨b, off + m, none⟩) : Ints k w A' (n - m) (xs.drop m) :=
  ⟨by rw [List.length_drop, h.1], fun x hx => h.2.1 x (List.mem_of_mem_drop hx), by rw [List.map_drop]; exact h.2.2.drop m (by simpa [h.1] using hA')⟩
end

theorem World.ownsRow.ext' {w w' : World} {base : Nat} {e : TypeId} {size n : Nat} {v : Value} {vs : List Value} (h : w.ownsRow base e size v n vs) (he : Ext w w') : w'.ownsRow base e size v n vs :=
  h.kept (he.row none) (by cases hv : v.ownBlock <;> simp)
theorem World.ownsRow.mono' {w : World} {base base' : Nat} {e : TypeId} {size n : Nat} {v : Value} {vs : List Value} (h : w.ownsRow base e size v n vs) (hb : base' ≤ base) : w.ownsRow base' e size v n vs := by
  refine ⟨h.1, ?_⟩
  rcases h.2 with hn | ⟨g, cap, cur, hv, hg, rest⟩
  · exact .inl hn
  · exact .inr ⟨g, cap, cur, hv, by omega, rest⟩

/-- A slice of integers in memory from block 'base' on, with a row of its own, which reads as 'xs'. -/
structure OwnS (k : IntKind) (e : TypeId) (base : Nat) (w : World) (A : Option Addr) (n c : Nat) (xs : List Int) : Prop where
  own : w.ownsRow base e 1 (.slice A n c) n (xs.map (Value.int k))
  len : xs.length = n
  wf : ∀ x ∈ xs, (Lit.int k x).wf = true
section
variable {k : IntKind} {e : TypeId} {base : Nat} {w w' : World} {A : Option Addr} {n c : Nat} {xs : List Int}
theorem OwnS.ints (h : OwnS k e base w A n c xs) : Ints k w A n xs := ⟨h.len, h.wf, At.of_own h.own⟩
theorem OwnS.ext (h : OwnS k e base w A n c xs) (he : Ext w w') : OwnS k e base w' A n c xs := ⟨World.ownsRow.ext' h.own he, h.len, h.wf⟩
theorem OwnS.mono {base' : Nat} (h : OwnS k e base w A n c xs) (hb : base' ≤ base) : OwnS k e base' w A n c xs := ⟨World.ownsRow.mono' h.own hb, h.len, h.wf⟩
theorem own_cap {e : TypeId} {size : Nat} {vs : List Value} (h : w.ownsRow base e size (.slice A n c) n vs) : n ≤ c ∧ c ≤ 9223372036854775807 := by
  rcases h.2 with ⟨hv, h0⟩ | ⟨g, cap, cur, hv, _, _, h1, h2, _⟩
  · injection hv with _ _ h3; omega
  · injection hv with _ _ h3
    subst h3
    unfold maxLen at h2
    exact ⟨h1, by omega⟩
theorem OwnS.cap (h : OwnS k e base w A n c xs) : n ≤ c ∧ c ≤ 9223372036854775807 := own_cap h.own
end

/-- A value that is a slice of integers, which reads as 'xs'. -/
def SlV (k : IntKind) (w : World) (v : Value) (xs : List Int) : Prop := ∃ A n c, v = .slice A n c ∧ Ints k w A n xs ∧ n ≤ c ∧ c ≤ 9223372036854775807
/-- A slice of slices of integers reads as 'xss'. -/
def Lists (k : IntKind) (w : World) (A : Option Addr) (n : Nat) (xss : List (List Int)) : Prop :=
  xss.length = n ∧ ∃ vs : List Value, vs.length = n ∧ At w A vs ∧ ∀ (j : Nat) v xs, vs[j]? = some v → xss[j]? = some xs → SlV k w v xs
section
variable {k : IntKind} {w w' : World} {A : Option Addr} {n : Nat} {xss : List (List Int)}
theorem SlV.ext {v : Value} {xs : List Int} (h : SlV k w v xs) (he : Ext w w') : SlV k w' v xs := by
  obtain ⟨A, n, c, hv, hi, h1, h2⟩ := h
  exact ⟨A, n, c, hv, hi.ext he, h1, h2⟩
theorem Lists.ext (h : Lists k w A n xss) (he : Ext w w') : Lists k w' A n xss := by
  obtain ⟨hl, vs, h1, h2, h3⟩ := h
  exact ⟨hl, vs, h1, h2.ext he, fun j v xs a b => (h3 j v xs a b).ext he⟩
theorem Lists.get (h : Lists k w A n xss) {j : Nat} (hj : j < n) : ∃ b off A' n' c' xs, A = some ⟨b, off, none⟩ ∧ xss[j]? = some xs ∧ w.cell? ⟨b, off + j, none⟩ = some (.slice A' n' c') ∧ Ints k w A' n' xs ∧ n' ≤ c' ∧ c' ≤ 9223372036854775807 := by
  obtain ⟨hl, vs, h1, h2, h3⟩ := h
  obtain ⟨b, off, v, hA, hv, hc⟩ := h2.get (j := j) (by omega)
  have hx : xss[j]? = some xss[j] := List.getElem?_eq_getElem (by omega)
  obtain ⟨A', n', c', rfl, hi, h4, h5⟩ := h3 j v _ hv hx
  exact ⟨b, off, A', n', c', _, hA, hx, hc, hi, h4, h5⟩
theorem Lists.one {xs : List Int} {v : Value} (hat : At w A [v]) (h : SlV k w v xs) : Lists k w A 1 [xs] :=
  ⟨rfl, [v], rfl, hat, fun j u ys hu hy => by
    match j with
    | 0 => simp at hu hy; subst hu hy; exact h
    | j + 1 => simp at hu⟩
end

/-- The element type 'e' of the slice type 't': one value of 'size' cells and 'bytes' bytes, whose zero is 'z'. -/
structure Elem (P : Program) (t e : TypeId) (size bytes : Nat) (z : Value) : Prop where
  und : P.underlying t = some (.slice e)
  info : ∃ i, P.info? e = some i ∧ i.zero = some z ∧ i.size = size ∧ i.bytes = bytes
  cells : z.cells.size = size
  pos : 0 < size

theorem Elem.mk' {P : Program} {t e : TypeId} {size bytes : Nat} {z : Value} (h1 : P.underlying t = some (.slice e))
    (h2 : (P.info? e).map (fun i => (i.zero, i.size, i.bytes)) = some (some z, size, bytes)) (h3 : z.cells.size = size) (h4 : 0 < size) : Elem P t e size bytes z :=
  ⟨h1, info_parts h2, h3, h4⟩

section
variable {P : Program}

theorem run_app (w : World) {t e : TypeId} {size bytes : Nat} {z : Value} (E : Elem P t e size bytes z) (ty : TypeId) (base : Nat)
    (v : Value) (n : Nat) (xs : List Value) (hown : w.ownsRow base e size v n xs)
    (A : Option Addr) (m c : Nat) (news : List Value) (hl : news.length = m * size) (hat : At w A news) (h1 : ∀ u ∈ news, u.oneCell' = true)
    (hbytes : (n + m) * bytes ≤ 140737488355328) (h63 : n + m ≤ maxLen) (hbase : base ≤ w.heap.size) :
    ∃ v' w', (Builtin.append_ #[t, t] ty #[v, .slice A m c]).run P w = .ok v' w' ∧ w'.ownsRow base e size v' (n + m) (xs ++ news) ∧ w.grownBy w' v.ownBlock ∧
      (v'.ownBlock = v.ownBlock ∨ v'.ownBlock = some w.heap.size) := by
  obtain ⟨i, hi, hz, hs, hb⟩ := E.info
  rcases A with _ | ad
  · have hn : news = [] := by
      rcases news with _ | ⟨u, us⟩
      · rfl
      · obtain ⟨b, off, hA, _⟩ := hat (by simp)
        cases hA
    subst hn
    have hm : m = 0 := by
      have h0 : m * size = 0 := by simpa using hl.symm
      rcases Nat.mul_eq_zero.1 h0 with h | h
      · exact h
      · have := E.pos; omega
    subst hm
    refine ⟨v, w, ?_, by simpa using hown, World.grownBy.refl w _, .inl rfl⟩
    rcases hown.2 with ⟨rfl, rfl⟩ | ⟨g, cap, cur, rfl, _, _, hnc, _⟩
    · simp [Builtin.append_, run_underlying E.und, sizeOf, typeInfo, hi, Builtin.lenOf, Builtin.firstCells]
    · simp [Builtin.append_, run_underlying E.und, sizeOf, typeInfo, hi, Builtin.lenOf, Builtin.firstCells, hnc, storeCells]
  · obtain ⟨v', w', hrun, h2, h3, _, h5⟩ := run_append_own_at (P := P) w base t ty e i z size bytes E.und hi hz hs hb E.cells E.pos v n xs hown ad m c news hl (hat.add ad rfl) h1 h63 hbytes hbase
    exact ⟨v', w', hrun, h2, h3, h5⟩

/-- 'append(s, x...)' onto a row of the call's own, whatever the source. -/
theorem wpList_app (w : World) {t e : TypeId} {size bytes : Nat} {z : Value} (E : Elem P t e size bytes z) {ops : Array Oper} {rest : List Oper} {o : Oper} {a : Act} {Q : Exit → Act → World → Prop}
    (hgd : o.guard = none) (s x : Operand) (ho : o.op = .call { callee := .builtin .append, args := #[s, x], argTypes := #[t, t] })
    (base : Nat) (v : Value) (n : Nat) (xs : List Value) (hs : a.eval s = v) (hown : w.ownsRow base e size v n xs)
    (A : Option Addr) (m c : Nat) (news : List Value) (hx : a.eval x = .slice A m c) (hl : news.length = m * size) (hat : At w A news) (h1 : ∀ u ∈ news, u.oneCell' = true)
    (hbytes : (n + m) * bytes ≤ 140737488355328) (h63 : n + m ≤ maxLen) (hbase : base ≤ w.heap.size)
    (h : ∀ v' w', w'.ownsRow base e size v' (n + m) (xs ++ news) → w.grownBy w' v.ownBlock → (v'.ownBlock = v.ownBlock ∨ v'.ownBlock = some w.heap.size) → wpList P ops Q rest (a.put o.dst v') w') :
    wpList P ops Q (o :: rest) a w :=
  wpList_plain hgd fun K hK => by
    obtain ⟨v', w', hrun, h2, h3, h4⟩ := run_app (P := P) w E o.type base v n xs hown A m c news hl hat h1 hbytes h63 hbase
    unfold Oper.wp execOp
    simp only [ho, resolve, invoke, builtin, Sem.run_bind, Sem.run_pure, Result.andThen_ok, List.map_toArray, List.map_cons, List.map_nil, hs, hx, hrun]
    exact hK _ _ (h v' w' h2 h3 h4)

/-- 'make([]T, n, c)', T of one cell. -/
theorem wpList_mk (w : World) {t e : TypeId} {bytes : Nat} {z : Value} (E : Elem P t e 1 bytes z) (hz1 : z.cells = #[z]) {ops : Array Oper} {rest : List Oper} {o : Oper} {a : Act} {Q : Exit → Act → World → Prop}
    (hgd : o.guard = none) (l c : Operand) (ho : o.op = .makeSlice t l c) (base : Nat) (kl kc : IntKind) (L C : Int) (n m : Nat) (hl : a.eval l = .int kl L) (hc : a.eval c = .int kc C)
    (hL : L = n) (hC : C = m) (hnm : n ≤ m) (hb : bytes * m ≤ 281474976710656) (hm : m ≤ maxLen) (hbase : base ≤ w.heap.size)
    (h : ∀ w', w'.ownsRow base e 1 (.slice (some ⟨w.heap.size, 0, none⟩) n m) n (List.replicate n z) → Ext w w' → w.heap.size < w'.heap.size → wpList P ops Q rest (a.put o.dst (.slice (some ⟨w.heap.size, 0, none⟩) n m)) w') :
    wpList P ops Q (o :: rest) a w :=
  wpList_plain hgd fun K hK => by
    obtain ⟨i, hi, hz, hs, hby⟩ := E.info
    subst hL hC hby
    have hbI : (i.bytes : Int) * (m : Int) ≤ 281474976710656 := by
      have h : ((i.bytes * m : Nat) : Int) ≤ 281474976710656 := by omega
      rwa [Int.natCast_mul] at h
    have hrun := run_make (P := P) w t e i z E.und hi hz kl kc n m (by omega) (by omega) hbI (by unfold maxLen at hm; omega)
    simp only [Int.toNat_natCast] at hrun
    rw [hs, Nat.mul_one, hz1] at hrun
    have hown : (w.alloc (.cells (madeCells #[z] m) e)).ownsRow base e 1 (.slice (some ⟨w.heap.size, 0, none⟩) n m) n (List.replicate n z) := by
      refine ⟨by simp, .inr ⟨w.heap.size, m, _, rfl, hbase, heap_alloc_new w _, hnm, hm, by rw [size_madeCells]; simp, ?_⟩⟩
      rw [toList_madeCells_one, Nat.mul_one, List.take_replicate, Nat.min_eq_left hnm]
    unfold Oper.wp
    simp [execOp, ho, hl, hc, hrun, Result.andThen]
    exact hK _ _ (h _ hown ((Ext.refl w).alloc _) (by simp))

/-- 'copy(d, s)' into a row of the call's own, from its head, elements of one cell. -/
theorem wpList_cp (w : World) {t u e : TypeId} {bytes : Nat} {z : Value} (E : Elem P t e 1 bytes z) {ops : Array Oper} {rest : List Oper} {o : Oper} {a : Act} {Q : Exit → Act → World → Prop}
    (hgd : o.guard = none) (d s : Operand) (ho : o.op = .call { callee := .builtin .copy, args := #[d, s], argTypes := #[t, u] }) (base : Nat)
    (D : Option Addr) (n dc : Nat) (xs : List Value) (hd : a.eval d = .slice D n dc) (hown : w.ownsRow base e 1 (.slice D n dc) n xs)
    (A : Option Addr) (m c : Nat) (news : List Value) (hx : a.eval s = .slice A m c) (hl : news.length = m) (hat : At w A news) (h1 : ∀ u ∈ news, u.oneCell' = true)
    (h : ∀ w' (r : Int), w'.ownsRow base e 1 (.slice D n dc) n (news.take n ++ xs.drop m) → w.grownBy w' (Value.slice D n dc).ownBlock → Hid (r = (Nat.min m n : Nat)) → wpList P ops Q rest (a.put o.dst (.int .i64 r)) w') :
    wpList P ops Q (o :: rest) a w := by
  obtain ⟨i, hi, hz, hs, hby⟩ := E.info
  have hsz : (P.info? e).map (·.size) = some 1 := by rw [hi]; simp [hs]
  have hxl : xs.length = n := by simpa using hown.1
  by_cases h0 : Nat.min m n = 0
  · refine wpList_copy_nothing hgd d s t u ho e E.und hsz D A n dc m c hd hx h0 ?_
    have e1 : news.take n ++ xs.drop m = xs := by
      rcases Nat.le_total m n with hmn | hmn
      · have hm0 : m = 0 := by simpa [Nat.min_eq_left hmn] using h0
        subst hm0
        obtain rfl : news = [] := List.eq_nil_of_length_eq_zero hl
        simp
      · have hn0 : n = 0 := by simpa [Nat.min_eq_right hmn] using h0
        subst hn0
        obtain rfl : xs = [] := List.eq_nil_of_length_eq_zero hxl
        simp
    exact h w 0 (by rw [e1]; exact hown) (World.grownBy.refl w _) (by rw [h0]; rfl)
  · have hq : (m ≤ n ∧ Nat.min m n = m) ∨ (n ≤ m ∧ Nat.min m n = n) := by
      rcases Nat.le_total m n with hmn | hmn
      · exact .inl ⟨hmn, Nat.min_eq_left hmn⟩
      · exact .inr ⟨hmn, Nat.min_eq_right hmn⟩
    have hmp : 0 < m := by omega
    have hnp : 0 < n := by omega
    rcases hown.2 with ⟨_, h3⟩ | ⟨g, cap, cur, hv, hbg, hg, hnc, hcm, hcs, htake⟩
    · omega
    · simp only [Value.slice.injEq] at hv
      obtain ⟨rfl, _, rfl⟩ := hv
      obtain ⟨b, off, rfl, hcell⟩ := hat (by intro e; subst e; simp at hl; omega)
      have hlen : (news.take n).length = Nat.min m n := by rw [List.length_take, hl]; exact Nat.min_comm n m
      have hcs' : cur.size = dc := by simpa using hcs
      refine wpList_copy_own hgd d s t u ho e E.und hsz g 0 n dc ⟨b, off, none⟩ m c hd hx cur e hg (news.take n) hlen ?_ ?_ ?_ ?_
      · intro j v hv
        rw [Addr.add_lit]
        rw [List.getElem?_take] at hv
        split at hv
        · exact hcell j v hv
        · cases hv
      · rw [hlen, hcs']
        omega
      · exact fun v hv => h1 v (List.mem_of_mem_take hv)
      · rw [hlen]
        refine h _ _ ⟨?_, .inr ⟨g, dc, _, rfl, hbg, setRow_heap w g cur _ e _ hg, hnc, hcm, ?_, ?_⟩⟩ ⟨rfl, rfl, rfl, by simp, fun k _ hk => setRow_other w g k _ (fun e => hk (by simp [Value.ownBlock, e]))⟩ rfl
        · rw [List.length_append, hlen, List.length_drop, hxl]
          omega
        · simp only [List.size_toArray, List.length_append, hlen, List.length_take, List.length_drop, Array.length_toList, hcs']
          omega
        · simp only [Nat.mul_one] at htake ⊢
          rw [← htake]
          simp only [List.take_zero, List.nil_append, Nat.zero_add]
          rw [List.take_append, hlen, List.take_take, Nat.min_self, List.drop_take]
          rcases hq with ⟨hmn, hq⟩ | ⟨hmn, hq⟩
          · rw [hq]
          · rw [hq]
            simp [Nat.sub_eq_zero_of_le hmn]

/-- 'x[l:]' -/
theorem wpList_cutL (w : World) {t e : TypeId} {size bytes : Nat} {z : Value} (E : Elem P t e size bytes z) {ops : Array Oper} {rest : List Oper} {o : Oper} {a : Act} {Q : Exit → Act → World → Prop}
    (hgd : o.guard = none) (x lo : Operand) (ho : o.op = .slice t x (some lo) none none) (A : Option Addr) (n c : Nat) (hx : a.eval x = .slice A n c) (kl : IntKind) (L : Int) (l : Nat) (hl : a.eval lo = .int kl L) (hL : L = l) (hn : l ≤ n) (hc : n ≤ c)
    (h : ∀ A', (∀ w' vs, At w' A vs → vs.length = n * size → At w' A' (vs.drop (l * size))) → wpList P ops Q rest (a.put o.dst (.slice A' (n - l) (c - l))) w) :
    wpList P ops Q (o :: rest) a w :=
  wpList_plain hgd fun K hK => by
    subst hL
    obtain ⟨i, hi, hz, hs, hby⟩ := E.info
    have hrun : (Instr.sliceAt t (.slice A n c) (some (.int kl l)) none none).run P w = .ok (.slice (if c = l then A else A.map (·.add (l * size))) (n - l) (c - l)) w := by
      simp [Instr.sliceAt, Instr.slice, run_underlying E.und, Instr.sliceBounds, run_sliceBound, sizeOf, typeInfo, hi, hs, hn]
    unfold Oper.wp
    simp [execOp, ho, hx, hl, hrun, Result.andThen]
    refine hK _ _ (h _ fun w' vs hat hlen => ?_)
    refine hat.drop _ (fun hlt b off hA => ?_)
    rw [hlen] at hlt
    have : l < n := Nat.lt_of_mul_lt_mul_right hlt
    rw [if_neg (by omega), hA]
    simp [Addr.add_lit]

/-- 'string(b)' of a slice of bytes. -/
theorem run_str (w : World) {src e dst : TypeId} (hs : P.underlying src = some (.slice e)) (he : P.underlying e = some (.int .u8)) (hd : P.underlying dst = some .string) {A : Option Addr} {n c : Nat} {xs : List Int} (h : Ints .u8 w A n xs) :
    (convert src dst (.slice A n c)).run P w = .ok (.string (strOfNums xs)) w := by
  rcases xs with _ | ⟨x, xs⟩
  · have hn : n = 0 := by simpa using h.1.symm
    subst hn
    rcases A with _ | ad
    · rw [run_convert_bytes_nil w src e hs he 0 c dst hd]; rfl
    · have hl : (loadCells ad 0).run P w = .ok (([] : List Int).map (Value.int .u8)).toArray w := by simp [loadCells, loadCellsFrom]
      rw [run_convert_bytes_string w src dst e _ 0 c hs he hd, run_bytesToString w _ 0 c [] hl]
      rfl
  · obtain ⟨b, off, rfl, hc⟩ := h.2.2 (by simp)
    refine run_convert_bytes_arg w src e hs he b off n c (x :: xs) h.1 (fun i hi => ?_) dst hd
    have hi' : i < (x :: xs).length := by rw [h.1]; exact hi
    refine hc i _ ?_
    rw [List.getElem?_map, List.getElem?_eq_getElem hi']
    simp [List.getD, List.getElem?_eq_getElem hi']
end
end Go.Proofs.Ytekhmfliaojabaa
namespace Go.Proofs.Ytekhmfliaojabaa
open Go.ChangeShapes Go.WideShapes Go.ChangeAt Go.RowKit

theorem own : ownKnob Try.prog.godebug = none := by kernel_rfl
theorem laidOut : laidOutB Try.prog = true := by kernel_rfl

theorem ints_trod {P : Program} {W : World} {H : Type} {enc : TypeId × Value → H} {t e : TypeId} {k : IntKind} {a : Option Addr} {len cap fuel : Nat} {y : DataW H × List MemPlace} {b : Nat} {sp : Nat → Bool} {hd : Bool}
    (ht : P.underlying t = some (.slice e)) (he : P.underlying e = some (.int k)) (hc : P.cellsOf e = 1) (hf : DataW.trod enc P W b sp hd fuel t [.slice a len cap] = some y) :
    ∃ xs, Ints k W a len xs ∧ len ≤ cap ∧ cap ≤ 9223372036854775807 := by
  rcases open_ints ht he hc hf with ⟨hcs, _⟩ | ⟨x, l, c, zs, hcs, _, hl, hm, hz, _, hcell, hwz⟩
  · simp at hcs
    obtain ⟨rfl, rfl, rfl⟩ := hcs
    exact ⟨[], Ints.nil, by omega, by omega⟩
  · simp at hcs
    obtain ⟨rfl, rfl, rfl⟩ := hcs
    have hzl : len ≤ zs.length := by rw [hz]; split <;> omega
    refine ⟨zs.take len, ⟨by rw [List.length_take]; omega, fun x hx => hwz x (List.mem_of_mem_take hx), ?_⟩, hl, by unfold maxLen at hm; omega⟩
    intro hne
    have hpos : 0 < zs.length := by
      rcases zs with _ | ⟨z, zs⟩
      · simp at hne
      · simp
    have h0 := hcell 0 hpos
    obtain ⟨bb, off, spot⟩ := x
    have hspot : spot = none := by simpa [Addr.add] using World.cell?_spot h0
    subst hspot
    refine ⟨bb, off, rfl, fun j v hv => ?_⟩
    rw [List.getElem?_map, List.getElem?_take] at hv
    split at hv
    · have hj : j < zs.length := by omega
      have := hcell j hj
      rw [Addr.add_lit] at this
      rw [this]
      rw [List.getElem?_eq_getElem hj] at hv
      simp at hv
      simp [List.getD, List.getElem?_eq_getElem hj, hv]
    · simp at hv

theorem ints_open {P : Program} {W : World} {H : Type} {enc : TypeId × Value → H} {t e : TypeId} {k : IntKind} {a : Option Addr} {len cap : Nat} {d : DataW H} {p : List MemPlace} {b : Nat} {sp : Nat → Bool} {hd : Bool}
    (ht : P.underlying t = some (.slice e)) (he : P.underlying e = some (.int k)) (hc : P.cellsOf e = 1) (h : DataW.Trod enc P W b sp hd t (.slice a len cap) d p) :
    ∃ xs, Ints k W a len xs ∧ len ≤ cap ∧ cap ≤ 9223372036854775807 := by
  obtain ⟨fuel, hf⟩ := h
  exact ints_trod ht he hc hf
end Go.Proofs.Ytekhmfliaojabaa
namespace Go.Proofs.Ytekhmfliaojabaa
open Go.RowKit

/-- Block 'g' is just the cells 'cs'; none is frozen. -/
def Blk (w : World) (g : Nat) (t : TypeId) (cs : Array Value) : Prop := w.heap[g]? = some (.cells cs t (0, 0))

section
variable {w w' : World} {g : Nat} {t : TypeId} {cs : Array Value}
theorem Blk.lt (h : Blk w g t cs) : g < w.heap.size := (Array.getElem?_eq_some_iff.1 h).1
theorem Blk.cell (h : Blk w g t cs) (i : Nat) : w.cell? ⟨g, i, none⟩ = cs[i]? := cell_of_row w g i cs t (0, 0) h
theorem Blk.free (h : Blk w g t cs) (i : Nat) : w.frozen? ⟨g, i, none⟩ = false := by
  unfold World.frozen?; rw [show w.heap[g]? = some (.cells cs t (0, 0)) from h]; simp
theorem Blk.new (w : World) (t : TypeId) (cs : Array Value) : Blk (w.alloc (.cells cs t)) w.heap.size t cs := heap_alloc_new w _
theorem Blk.ext (h : Blk w g t cs) (he : Ext w w') : Blk w' g t cs := (Below.block he g h.lt).trans h
theorem Blk.drewN (h : Blk w g t cs) (n : Nat) : Blk (w.drewN n) g t cs := h
theorem Blk.drew (h : Blk w g t cs) : Blk w.drew g t cs := h
theorem Blk.alloc (h : Blk w g t cs) (o : Obj) : Blk (w.alloc o) g t cs := (Below.heap_alloc w o g h.lt).trans h
theorem Blk.set (h : Blk w g t cs) (i : Nat) (u : Value) : Blk (w.setCell ⟨g, i, none⟩ u) g t (cs.setIfInBounds i u) := by
  unfold Blk at h ⊢
  simp [World.setCell, Array.getElem?_modify, h]
theorem Blk.far (h : Blk w g t cs) {p : Addr} (hp : g ≠ p.block) (u : Value) : Blk (w.setCell p u) g t cs := (Below.heap_setCell w p u g hp).trans h
theorem Blk.grown {row : Option Nat} (h : Blk w g t cs) (hb : w.grownBy w' row) (hg : some g ≠ row) : Blk w' g t cs := (hb.block g h.lt hg).trans h
end

theorem At.drew {w : World} {A : Option Addr} {vs : List Value} (h : At w A vs) : At w.drew A vs := h.ext (Ext.refl w).drew
theorem At.drewN {w : World} {A : Option Addr} {vs : List Value} (h : At w A vs) (n : Nat) : At (w.drewN n) A vs := h.ext ((Ext.refl w).drewN n)

/-- A struct of three fields, in a block of its own: its cells. -/
theorem Blk.three {w : World} {g : Nat} {t : TypeId} {a b c : Value} (h : Blk w g t #[a, b, c]) :
    w.cell? ⟨g, 0, none⟩ = some a ∧ w.cell? ⟨g, 1, none⟩ = some b ∧ w.cell? ⟨g, 2, none⟩ = some c ∧ w.frozen? ⟨g, 0, none⟩ = false ∧ w.frozen? ⟨g, 1, none⟩ = false ∧ w.frozen? ⟨g, 2, none⟩ = false :=
  ⟨h.cell 0, h.cell 1, h.cell 2, h.free 0, h.free 1, h.free 2⟩
end Go.Proofs.Ytekhmfliaojabaa
namespace Go.Proofs.Ytekhmfliaojabaa
open Go.RowKit

/-- The cells 'vs' are those of the elements 'xs', one behind the other. -/
def CsR {α : Type} (R : List Value → α → Prop) : List Value → List α → Prop
  | vs, [] => vs = []
  | vs, x :: xs => ∃ cs rest, vs = cs ++ rest ∧ R cs x ∧ CsR R rest xs
section
variable {α : Type} {R R' : List Value → α → Prop} {vs cs : List Value} {xs : List α} {x : α}
theorem CsR.imp (h : CsR R vs xs) (hi : ∀ cs x, R cs x → R' cs x) : CsR R' vs xs := by
  induction xs generalizing vs with
  | nil => exact h
  | cons y ys ih =>
    obtain ⟨cs, rest, h1, h2, h3⟩ := h
    exact ⟨cs, rest, h1, hi _ _ h2, ih h3⟩
theorem CsR.nil : CsR R [] [] := rfl
theorem CsR.snoc (h : CsR R vs xs) (hx : R cs x) : CsR R (vs ++ cs) (xs ++ [x]) := by
  induction xs generalizing vs with
  | nil =>
    obtain rfl : vs = [] := h
    exact ⟨cs, [], by simp, hx, rfl⟩
  | cons y ys ih =>
    obtain ⟨ds, rest, rfl, h2, h3⟩ := h
    exact ⟨ds, rest ++ cs, by simp, h2, ih h3⟩
theorem CsR.append {us : List Value} {ys : List α} (h : CsR R vs xs) (k : CsR R us ys) : CsR R (vs ++ us) (xs ++ ys) := by
  induction xs generalizing vs with
  | nil =>
    obtain rfl : vs = [] := h
    exact k
  | cons y zs ih =>
    obtain ⟨ds, rest, rfl, h2, h3⟩ := h
    exact ⟨ds, rest ++ us, by simp, h2, ih h3⟩
theorem CsR.len {k : Nat} (h : CsR R vs xs) (hk : ∀ cs x, R cs x → cs.length = k) : vs.length = xs.length * k := by
  induction xs generalizing vs with
  | nil => obtain rfl : vs = [] := h; simp
  | cons y ys ih =>
    obtain ⟨cs, rest, rfl, h2, h3⟩ := h
    rw [List.length_append, hk _ _ h2, ih h3, List.length_cons, Nat.succ_mul]; omega
theorem CsR.one (h : CsR R vs xs) (hk : ∀ cs x, R cs x → ∀ u ∈ cs, u.oneCell' = true) : ∀ u ∈ vs, u.oneCell' = true := by
  induction xs generalizing vs with
  | nil => obtain rfl : vs = [] := h; simp
  | cons y ys ih =>
    obtain ⟨cs, rest, rfl, h2, h3⟩ := h
    intro u hu
    rcases List.mem_append.1 hu with hu | hu
    · exact hk _ _ h2 u hu
    · exact ih h3 u hu
theorem CsR.get {k : Nat} (h : CsR R vs xs) (hk : ∀ cs x, R cs x → cs.length = k) {j : Nat} (hj : xs[j]? = some x) : ∃ cs, R cs x ∧ ∀ i u, cs[i]? = some u → vs[j * k + i]? = some u := by
  induction xs generalizing vs j with
  | nil => simp at hj
  | cons y ys ih =>
    obtain ⟨cs, rest, rfl, h2, h3⟩ := h
    cases j with
    | zero =>
      simp at hj
      subst hj
      refine ⟨cs, h2, fun i u hu => ?_⟩
      have hi := (List.getElem?_eq_some_iff.1 hu).1
      rw [Nat.zero_mul, Nat.zero_add, List.getElem?_append_left hi, hu]
    | succ j =>
      obtain ⟨ds, h4, h5⟩ := ih h3 (by simpa using hj)
      refine ⟨ds, h4, fun i u hu => ?_⟩
      have hl := hk _ _ h2
      rw [Nat.succ_mul, List.getElem?_append_right (by omega), ← h5 i u hu]
      congr 1; omega
end

theorem At.new' (w : World) (vs : List Value) (t : TypeId) {N : Nat} (h : w.heap.size = N) : At (w.alloc (.cells vs.toArray t)) (some ⟨N, 0, none⟩) vs := by
  subst h; exact At.new w vs t

/-- Two rows of different element types never share a block. -/
theorem own_ne {w : World} {base base' : Nat} {e e' : TypeId} {size size' n n' : Nat} {v v' : Value} {vs vs' : List Value} (h : w.ownsRow base e size v n vs) (h' : w.ownsRow base' e' size' v' n' vs') (hne : e ≠ e') : v.ownBlock = none ∨ v.ownBlock ≠ v'.ownBlock := by
  rcases h.2 with ⟨rfl, _⟩ | ⟨g, cap, cur, rfl, _, hg, _⟩
  · exact .inl rfl
  · right
    rcases h'.2 with ⟨rfl, _⟩ | ⟨g', cap', cur', rfl, _, hg', _⟩
    · simp [Value.ownBlock]
    · intro he
      simp [Value.ownBlock] at he
      subst he
      rw [hg] at hg'
      injection hg' with hg'
      injection hg' with _ h3
      exact hne h3
theorem OwnS.kept {k : IntKind} {e e' : TypeId} {base base' size' n n' c : Nat} {w w' : World} {A : Option Addr} {xs : List Int} {v' : Value} {vs' : List Value} (h : OwnS k e base w A n c xs) (h' : w.ownsRow base' e' size' v' n' vs') (hne : e ≠ e') (hg : w.grownBy w' v'.ownBlock) : OwnS k e base w' A n c xs :=
  ⟨h.own.kept hg (own_ne h.own h' hne), h.len, h.wf⟩
end Go.Proofs.Ytekhmfliaojabaa
namespace Go.Proofs.Ytekhmfliaojabaa
open Go.ChangeShapes Go.WideShapes Go.ChangeAt Go.RowKit Go.Deep

theorem slice_trod {α : Type} {R : List Value → α → Prop} {P : Program} {W : World} {H : Type} {enc : TypeId × Value → H} {t e : TypeId} {a : Option Addr} {len cap fuel k : Nat} {y : DataW H × List MemPlace} {b : Nat} {sp : Nat → Bool} {hd : Bool}
    (ht : P.underlying t = some (.slice e)) (hk : P.cellsOf e = k) (hR : ∀ cs x, R cs x → cs.length = k) (hel : ∀ fuel cs z, cs.length = k → DataW.trod enc P W b sp hd fuel e cs = some z → ∃ x, R cs x)
    (hf : DataW.trod enc P W b sp hd fuel t [.slice a len cap] = some y) :
    ∃ (xs : List α) (vs : List Value), xs.length = len ∧ CsR R vs xs ∧ At W a vs ∧ len ≤ cap ∧ cap ≤ 9223372036854775807 := by
  rcases open_slice ht hf with ⟨hcs, _⟩ | ⟨ad, l, c, m, n, D, Pl, hcs, _, hl, hm, hmm, _, hx⟩
  · simp at hcs
    obtain ⟨rfl, rfl, rfl⟩ := hcs
    exact ⟨[], [], rfl, rfl, At.nil, by omega, by omega⟩
  · simp at hcs
    obtain ⟨rfl, rfl, rfl⟩ := hcs
    rw [hk] at hx
    have hlm : len ≤ m := by rw [hmm]; split <;> omega
    have key : ∀ j, j ≤ len → ∃ (xs : List α) (vs : List Value), xs.length = j ∧ CsR R vs xs ∧ ∀ i u, vs[i]? = some u → W.cell? (ad.add i) = some u := by
      intro j
      induction j with
      | zero => intro _; exact ⟨[], [], rfl, rfl, by simp⟩
      | succ j ih =>
        intro hj
        obtain ⟨xs, vs, h1, h2, h3⟩ := ih (by omega)
        obtain ⟨cs, h4, h5⟩ := hx j (by omega)
        obtain ⟨_, h7, h8⟩ := World.cells?_some h4
        obtain ⟨x, h6⟩ := hel _ _ _ h7 h5
        refine ⟨xs ++ [x], vs ++ cs, by simp [h1], h2.snoc h6, fun i u hu => ?_⟩
        have hvl := h2.len hR
        rw [h1] at hvl
        rcases Nat.lt_or_ge i vs.length with hi | hi
        · rw [List.getElem?_append_left hi] at hu; exact h3 i u hu
        · rw [List.getElem?_append_right hi] at hu
          have hil : i - vs.length < k := by
            have := (List.getElem?_eq_some_iff.1 hu).1
            rw [h7] at this; exact this
          have h9 := h8 (i - vs.length) hil
          rw [hu] at h9
          have e : (ad.add (j * k)).add (i - vs.length) = ad.add i := by
            have hij : i = j * k + (i - vs.length) := by omega
            generalize i - vs.length = r at *
            subst hij
            unfold Addr.add
            by_cases h10 : j * k = 0 <;> by_cases h11 : r = 0 <;> simp [h10, h11, Nat.add_assoc]
          rw [e] at h9
          exact h9
    obtain ⟨xs, vs, h1, h2, h3⟩ := key len (Nat.le_refl _)
    refine ⟨xs, vs, h1, h2, fun hne => ?_, hl, by unfold maxLen at hm; omega⟩
    obtain ⟨bb, off, spot⟩ := ad
    have h0 : ∃ u, vs[0]? = some u := by
      cases vs with
      | nil => exact absurd rfl hne
      | cons v vs => exact ⟨v, rfl⟩
    obtain ⟨u, hu⟩ := h0
    have hspot : spot = none := by simpa [Addr.add] using World.cell?_spot (h3 0 u hu)
    subst hspot
    exact ⟨bb, off, rfl, fun j v hv => by rw [← Addr.add_lit]; exact h3 j v hv⟩
end Go.Proofs.Ytekhmfliaojabaa
namespace Go.Proofs.Ytekhmfliaojabaa

def F2 {α β : Type} (R : α → β → Prop) : List α → List β → Prop
  | [], [] => True
  | a :: l, b :: m => R a b ∧ F2 R l m
  | _, _ => False
section
variable {α β : Type} {R S : α → β → Prop} {l l1 : List α} {m m1 : List β} {a : α} {b : β}
theorem F2.nil : F2 R [] [] := trivial
theorem F2.imp (h : F2 R l m) (hi : ∀ a b, a ∈ l → R a b → S a b) : F2 S l m := by
  induction l generalizing m with
  | nil => cases m with
    | nil => trivial
    | cons => exact h.elim
  | cons x l ih => cases m with
    | nil => exact h.elim
    | cons y m => exact ⟨hi _ _ (by simp) h.1, ih h.2 fun a b ha => hi a b (by simp [ha])⟩
theorem F2.len (h : F2 R l m) : l.length = m.length := by
  induction l generalizing m with
  | nil => cases m with
    | nil => rfl
    | cons => exact h.elim
  | cons x l ih => cases m with
    | nil => exact h.elim
    | cons y m => simp [ih h.2]
theorem F2.append (h : F2 R l m) (k : F2 R l1 m1) : F2 R (l ++ l1) (m ++ m1) := by
  induction l generalizing m with
  | nil => cases m with
    | nil => exact k
    | cons => exact h.elim
  | cons x l ih => cases m with
    | nil => exact h.elim
    | cons y m => exact ⟨h.1, ih h.2⟩
theorem F2.snoc (h : F2 R l m) (k : R a b) : F2 R (l ++ [a]) (m ++ [b]) := h.append ⟨k, trivial⟩
theorem F2.get (h : F2 R l m) {j : Nat} (hj : l[j]? = some a) : ∃ b, m[j]? = some b ∧ R a b := by
  induction l generalizing m j with
  | nil => simp at hj
  | cons x l ih => cases m with
    | nil => exact h.elim
    | cons y m =>
      cases j with
      | zero => simp at hj; subst hj; exact ⟨y, rfl, h.1⟩
      | succ j => simpa using ih h.2 (by simpa using hj)
theorem F2.find {p : α → Bool} {q : β → Bool} (h : F2 R l m) (hpq : ∀ a b, R a b → p a = q b) : (l.find? p = none ∧ m.find? q = none) ∨ ∃ a b, l.find? p = some a ∧ m.find? q = some b ∧ R a b := by
  induction l generalizing m with
  | nil => cases m with
    | nil => exact .inl ⟨rfl, rfl⟩
    | cons => exact h.elim
  | cons x l ih => cases m with
    | nil => exact h.elim
    | cons y m =>
      have e := hpq _ _ h.1
      cases hx : p x with
      | true =>
        rw [List.find?_cons_of_pos hx, List.find?_cons_of_pos (e ▸ hx)]
        exact .inr ⟨x, y, rfl, rfl, h.1⟩
      | false =>
        rw [List.find?_cons_of_neg (by simp [hx]), List.find?_cons_of_neg (by simp [← e, hx])]
        exact ih h.2
theorem F2.filter {p : α → Bool} {q : β → Bool} (h : F2 R l m) (hpq : ∀ a b, R a b → p a = q b) : F2 R (l.filter p) (m.filter q) := by
  induction l generalizing m with
  | nil => cases m with
    | nil => trivial
    | cons => exact h.elim
  | cons x l ih => cases m with
    | nil => exact h.elim
    | cons y m =>
      have e := hpq _ _ h.1
      cases hx : p x with
      | true =>
        rw [List.filter_cons_of_pos hx, List.filter_cons_of_pos (e ▸ hx)]
        exact ⟨h.1, ih h.2⟩
      | false =>
        rw [List.filter_cons_of_neg (by simp [hx]), List.filter_cons_of_neg (by simp [← e, hx])]
        exact ih h.2
end
end Go.Proofs.Ytekhmfliaojabaa
namespace Go.Proofs.Ytekhmfliaojabaa
open Go.RowKit

structure Keeps (L : List Nat) (w w' : World) : Prop where
  os : w'.os = w.os
  tape : w'.tape = w.tape
  output : w'.output = w.output
  size : w.heap.size ≤ w'.heap.size
  block : ∀ k, k < w.heap.size → k ∉ L → w'.heap[k]? = w.heap[k]?

section
variable {L M : List Nat} {w w1 w2 w' : World} {B : Nat}
theorem Keeps.refl (L : List Nat) (w : World) : Keeps L w w := ⟨rfl, rfl, rfl, Nat.le_refl _, fun _ _ _ => rfl⟩
theorem Keeps.trans (h : Keeps L w w1) (k : Keeps L w1 w2) : Keeps L w w2 :=
  ⟨k.os.trans h.os, k.tape.trans h.tape, k.output.trans h.output, Nat.le_trans h.size k.size, fun i hi hn => (k.block i (Nat.lt_of_lt_of_le hi h.size) hn).trans (h.block i hi hn)⟩
theorem Keeps.mono (h : Keeps L w w') (hL : ∀ k ∈ L, k < w.heap.size → k ∈ M) : Keeps M w w' := ⟨h.os, h.tape, h.output, h.size, fun i hi hn => h.block i hi fun hl => hn (hL i hl hi)⟩
theorem Keeps.of_ext (h : Ext w w') (L : List Nat) : Keeps L w w' := ⟨h.os, h.tape, h.output, h.size, fun i hi _ => h.block i hi⟩
theorem Keeps.of_grown {row : Option Nat} (h : w.grownBy w' row) (hr : ∀ k, row = some k → k ∈ L) : Keeps L w w' :=
  ⟨h.os, h.tape, h.output, h.size, fun i hi hn => h.block i hi fun e => hn (hr i e.symm)⟩
/-- Behind such a call memory has still only grown since an earlier world, if what was written into is newer. -/
theorem Keeps.ext {w0 : World} (h : Keeps L w w') (he : Ext w0 w) (hL : ∀ k ∈ L, w0.heap.size ≤ k) : Ext w0 w' :=
  ⟨h.os.trans he.os, h.tape.trans he.tape, h.output.trans he.output, Nat.le_trans he.size h.size, fun i hi =>
    (h.block i (Nat.lt_of_lt_of_le hi he.size) fun hl => by have := hL i hl; omega).trans (he.block i hi)⟩
theorem Keeps.alloc (h : Keeps L w w') (o : Obj) : Keeps L w (w'.alloc o) := h.trans (.of_ext ((Ext.refl _).alloc o) L)
theorem Keeps.setCell (h : Keeps L w w') {p : Addr} (hp : p.block ∈ L ∨ w.heap.size ≤ p.block) (u : Value) : Keeps L w (w'.setCell p u) :=
  ⟨h.os, h.tape, h.output, by simpa using h.size, fun i hi hn => (Below.heap_setCell w' p u i (fun e => by rcases hp with hp | hp; exact hn (e ▸ hp); omega)).trans (h.block i hi hn)⟩
theorem Keeps.grown {row : Option Nat} (h : Keeps L w w1) (hg : w1.grownBy w2 row) (hr : ∀ k, row = some k → k ∈ L ∨ w.heap.size ≤ k) : Keeps L w w2 :=
  ⟨hg.os.trans h.os, hg.tape.trans h.tape, hg.output.trans h.output, Nat.le_trans h.size hg.size, fun i hi hn =>
    (hg.block i (Nat.lt_of_lt_of_le hi h.size) fun e => by rcases hr i e.symm with h1 | h1; exact hn h1; omega).trans (h.block i hi hn)⟩
theorem Keeps.drew (h : Keeps L w w') : Keeps L w w'.drew := h.trans (.of_ext (Ext.refl _).drew L)

/-- Block k holds no bytes. -/
def NoRow (tb : TypeId) (w : World) (k : Nat) : Prop := ∀ cs fz, w.heap[k]? ≠ some (.cells cs tb fz)
theorem NoRow.of_blk {tb t : TypeId} {g : Nat} {cs : Array Value} (h : Blk w g t cs) (hne : t ≠ tb) : NoRow tb w g := by
  intro cs' fz e
  rw [show w.heap[g]? = _ from h] at e
  injection e with e
  injection e with _ e
  exact hne e
theorem NoRow.of_map {tb : TypeId} {g : Nat} {es : Array MapEntry} {n : Nat} (h : w.heap[g]? = some (.map es n)) : NoRow tb w g := by
  intro cs' fz e
  rw [h] at e
  injection e with e
  cases e
theorem NoRow.of_own {tb te : TypeId} {base size n g : Nat} {v : Value} {vs : List Value} (h : w.ownsRow base te size v n vs) (hg : v.ownBlock = some g) (hne : te ≠ tb) : NoRow tb w g := by
  intro cs' fz e
  rcases h.2 with ⟨rfl, _⟩ | ⟨g', cap, cur, rfl, _, hb, _⟩
  · simp [Value.ownBlock] at hg
  · simp [Value.ownBlock] at hg
    subst hg
    rw [hb] at e
    injection e with e
    injection e with _ e
    exact hne e
theorem ownsRow_keeps {e : TypeId} {base size n : Nat} {v : Value} {vs : List Value} (h : w.ownsRow base e size v n vs) (hk : Keeps L w w') (hn : ∀ g, v.ownBlock = some g → g ∉ L) : w'.ownsRow base e size v n vs := by
  refine ⟨h.1, ?_⟩
  rcases h.2 with hv | ⟨g, cap, cur, rfl, hb, hg, rest⟩
  · exact .inl hv
  · exact .inr ⟨g, cap, cur, rfl, hb, (hk.block g (Array.getElem?_eq_some_iff.1 hg).1 (hn g rfl)).trans hg, rest⟩
theorem OwnS.keeps {k : IntKind} {tb : TypeId} {base n c : Nat} {A : Option Addr} {xs : List Int} (h : OwnS k tb base w A n c xs) (hk : Keeps L w w') (hn : ∀ g ∈ L, NoRow tb w g) : OwnS k tb base w' A n c xs := by
  refine ⟨ownsRow_keeps h.own hk fun g hg hl => ?_, h.len, h.wf⟩
  rcases h.own.2 with ⟨hv, _⟩ | ⟨g', cap, cur, hv, _, hb, _⟩
  · rw [hv] at hg; simp [Value.ownBlock] at hg
  · rw [hv] at hg
    simp [Value.ownBlock] at hg
    subst hg
    exact hn g' hl _ _ hb
theorem Blk.keeps {g : Nat} {t : TypeId} {cs : Array Value} (h : Blk w g t cs) (hk : Keeps L w w') (hn : g ∉ L) : Blk w' g t cs := (hk.block g h.lt hn).trans h
end
end Go.Proofs.Ytekhmfliaojabaa
namespace Go.Proofs.Ytekhmfliaojabaa
open Go.RowKit

structure Flt where
  kind : Int
  place : Int
  num : Int

/-- A list without its element i. -/
def dele {α : Type} (l : List α) (i : Nat) : List α := l.take i ++ l.drop (i + 1)
/-- A list with one more element, which has the index i. -/
def inse {α : Type} (l : List α) (i : Nat) (x : α) : List α := l.take i ++ x :: l.drop i
/-- An integer, held between 0 and m. -/
def held (n : Int) (m : Nat) : Nat := Nat.min n.toNat m
/-- A byte string with the bit n inverted. -/
def flipped (x : List Int) (n : Nat) : List Int := x.set (n / 8) (((x.getD (n / 8) 0).toNat ^^^ 2 ^ (n % 8) : Nat) : Int)

def spoil1 (l : List (List Int)) (f : Flt) (i : Nat) (x : List Int) : List (List Int) :=
  if f.kind = 1 then dele l i
  else if f.kind = 2 then inse l (i + 1) x
  else if f.kind = 3 then inse (dele l i) (held f.num (l.length - 1)) x
  else if f.kind = 4 then (if f.num < 0 ∨ (x.length : Int) ≤ f.num.tdiv 8 then l else l.set i (flipped x f.num.toNat))
  else if f.kind = 5 then l.set i (x.take (held f.num x.length))
  else l
/-- One fault. -/
def fault1 (l : List (List Int)) (f : Flt) : List (List Int) :=
  if f.place < 0 ∨ (l.length : Int) ≤ f.place then l else spoil1 l f f.place.toNat (l.getD f.place.toNat [])
section
variable {α : Type} {l : List α} {i : Nat} {x : α}
theorem dele_len (h : i < l.length) : (dele l i).length = l.length - 1 := by
  unfold dele; rw [List.length_append, List.length_take, List.length_drop]; omega
theorem inse_len (h : i ≤ l.length) : (inse l i x).length = l.length + 1 := by
  unfold inse; rw [List.length_append, List.length_take, List.length_cons, List.length_drop]; omega
theorem dele_mem {y : α} (h : y ∈ dele l i) : y ∈ l := by
  rcases List.mem_append.1 h with h | h
  · exact List.mem_of_mem_take h
  · exact List.mem_of_mem_drop h
theorem inse_mem {y : α} (h : y ∈ inse l i x) : y = x ∨ y ∈ l := by
  rcases List.mem_append.1 h with h | h
  · exact .inr (List.mem_of_mem_take h)
  · rcases List.mem_cons.1 h with h | h
    · exact .inl h
    · exact .inr (List.mem_of_mem_drop h)
theorem set_inse (h : i < l.length) : inse (dele l i) i x = l.set i x := by
  have e1 : (l.take i).length = i := by rw [List.length_take]; omega
  unfold inse dele
  rw [List.set_eq_take_append_cons_drop, if_pos h]
  congr 1
  · rw [List.take_left' e1]
  · rw [List.drop_left' e1]
end
theorem held_le (n : Int) (m : Nat) : held n m ≤ m := Nat.min_le_right _ _
theorem flipped_len (x : List Int) (n : Nat) : (flipped x n).length = x.length := by simp [flipped]
theorem flipped_wf {x : List Int} (n : Nat) (h : ∀ y ∈ x, (Lit.int .u8 y).wf = true) : ∀ y ∈ flipped x n, (Lit.int .u8 y).wf = true := by
  intro y hy
  rcases List.mem_or_eq_of_mem_set hy with h1 | rfl
  · exact h y h1
  · have hb : (x.getD (n / 8) 0).toNat < 2 ^ 8 := by
      rcases Nat.lt_or_ge (n / 8) x.length with h2 | h2
      · have := u8_bounds (h _ (List.getElem_mem h2))
        simp [List.getD, List.getElem?_eq_getElem h2]; omega
      · simp [List.getD, List.getElem?_eq_none h2]
    have h3 : (x.getD (n / 8) 0).toNat ^^^ 2 ^ (n % 8) < 2 ^ 8 := Nat.xor_lt_two_pow hb (Nat.pow_lt_pow_right (by omega) (Nat.mod_lt _ (by omega)))
    generalize (x.getD (n / 8) 0).toNat ^^^ 2 ^ (n % 8) = z at h3 ⊢
    simp [Lit.wf, IntKind.min, IntKind.max, IntKind.bits, IntKind.signed]; omega

/-- What is known of the datagrams: how many, how long, of bytes. -/
def Grams (m k : Nat) (l : List (List Int)) : Prop := l.length ≤ m ∧ ∀ x ∈ l, x.length ≤ k ∧ ∀ y ∈ x, (Lit.int .u8 y).wf = true
theorem Grams.fault {m k : Nat} {l : List (List Int)} (h : Grams m k l) (f : Flt) : Grams (m + 1) k (fault1 l f) := by
  obtain ⟨h1, h2⟩ := h
  unfold fault1
  split
  · exact ⟨by omega, h2⟩
  · rename_i hn
    have hi : f.place.toNat < l.length := by omega
    have hx : l.getD f.place.toNat [] ∈ l := by simp [List.getD, List.getElem?_eq_getElem hi]
    have hd : (dele l f.place.toNat).length = l.length - 1 := dele_len hi
    generalize l.getD f.place.toNat [] = x at hx
    generalize f.place.toNat = i at hi hd
    unfold spoil1
    split
    · exact ⟨by omega, fun y hy => h2 y (dele_mem hy)⟩
    split
    · exact ⟨by rw [inse_len (by omega)]; omega, fun y hy => by rcases inse_mem hy with rfl | hy; exact h2 _ hx; exact h2 _ hy⟩
    split
    · exact ⟨by rw [inse_len (by have := held_le f.num (l.length - 1); omega)]; omega, fun y hy => by rcases inse_mem hy with rfl | hy; exact h2 _ hx; exact h2 _ (dele_mem hy)⟩
    split
    · split
      · exact ⟨by omega, h2⟩
      · refine ⟨by rw [List.length_set]; omega, fun y hy => ?_⟩
        rcases List.mem_or_eq_of_mem_set hy with hy | rfl
        · exact h2 _ hy
        · exact ⟨by rw [flipped_len]; exact (h2 _ hx).1, flipped_wf _ (h2 _ hx).2⟩
    split
    · refine ⟨by rw [List.length_set]; omega, fun y hy => ?_⟩
      rcases List.mem_or_eq_of_mem_set hy with hy | rfl
      · exact h2 _ hy
      · refine ⟨?_, fun z hz => (h2 _ hx).2 z (List.mem_of_mem_take hz)⟩
        rw [List.length_take]; have := (h2 _ hx).1; omega
    · exact ⟨by omega, h2⟩
end Go.Proofs.Ytekhmfliaojabaa
namespace Go.Proofs.Ytekhmfliaojabaa

/-- The number that digits denote. -/
def val (B : Int) : List Int → Int
  | [] => 0
  | x :: xs => x + B * val B xs
/-- All are digits. -/
def Dg (B : Int) (xs : List Int) : Prop := ∀ x ∈ xs, 0 ≤ x ∧ x < B

section
variable {B : Int} {xs ys : List Int} {x u : Int} {k : Nat}
theorem Dg.nil : Dg B [] := by simp [Dg]
theorem Dg.take (h : Dg B xs) (k : Nat) : Dg B (xs.take k) := fun x hx => h x (List.mem_of_mem_take hx)
theorem Dg.drop (h : Dg B xs) (k : Nat) : Dg B (xs.drop k) := fun x hx => h x (List.mem_of_mem_drop hx)
theorem Dg.append (h : Dg B xs) (k : Dg B ys) : Dg B (xs ++ ys) := fun x hx => by
  rcases List.mem_append.1 hx with hx | hx
  · exact h x hx
  · exact k x hx
theorem Dg.set (h : Dg B xs) (hu : 0 ≤ u ∧ u < B) (k : Nat) : Dg B (xs.set k u) := fun x hx => by
  rcases List.mem_or_eq_of_mem_set hx with hx | hx
  · exact h x hx
  · subst hx; exact hu
theorem Dg.get (h : Dg B xs) (hx : xs[k]? = some x) : 0 ≤ x ∧ x < B := h x (List.mem_of_getElem? hx)
theorem Dg.one (hx : 0 ≤ x ∧ x < B) : Dg B [x] := fun y hy => by simp at hy; subst hy; exact hx
theorem Dg.cons (hx : 0 ≤ x ∧ x < B) (h : Dg B xs) : Dg B (x :: xs) := fun y hy => by
  rcases List.mem_cons.1 hy with hy | hy
  · subst hy; exact hx
  · exact h y hy

theorem val_append (xs ys : List Int) : val B (xs ++ ys) = val B xs + B ^ xs.length * val B ys := by
  induction xs with
  | nil => simp [val]
  | cons x xs ih => simp only [List.cons_append, val, ih, List.length_cons, Int.pow_succ]; grind
theorem val_one (x : Int) : val B [x] = x := by simp [val]
theorem val_snoc (xs : List Int) (x : Int) : val B (xs ++ [x]) = val B xs + B ^ xs.length * x := by rw [val_append, val_one]
theorem val_nonneg (hB : 0 < B) (h : Dg B xs) : 0 ≤ val B xs := by
  induction xs with
  | nil => simp [val]
  | cons x xs ih =>
    have hx := h x (List.mem_cons_self ..)
    have hi := ih fun y hy => h y (List.mem_cons_of_mem _ hy)
    have := Int.mul_nonneg (Int.le_of_lt hB) hi
    rw [val]; omega
theorem pow_pos' (hB : 0 < B) (k : Nat) : 0 < B ^ k := Int.pow_pos hB
theorem val_lt (hB : 0 < B) (h : Dg B xs) : val B xs < B ^ xs.length := by
  induction xs with
  | nil => simp [val]
  | cons x xs ih =>
    have hx := h x (List.mem_cons_self ..)
    have hi := ih fun y hy => h y (List.mem_cons_of_mem _ hy)
    rw [val, List.length_cons, Int.pow_succ]
    have h1 : B * (val B xs + 1) ≤ B * B ^ xs.length := Int.mul_le_mul_of_nonneg_left (by omega) (Int.le_of_lt hB)
    have h2 : B * (val B xs + 1) = B * val B xs + B := by grind
    have h3 : B * B ^ xs.length = B ^ xs.length * B := Int.mul_comm _ _
    omega
end

/-- No most significant digit is 0. -/
def Nm (xs : List Int) : Prop := xs.getLast? ≠ some 0
/-- The normal digits of a number. -/
def Rep (B : Int) (xs : List Int) (n : Nat) : Prop := Dg B xs ∧ Nm xs ∧ val B xs = (n : Int)

section
variable {B : Int} {xs ys : List Int} {n m : Nat}
theorem Nm.nil : Nm [] := by simp [Nm]
theorem Nm.snoc {x : Int} (h : x ≠ 0) : Nm (xs ++ [x]) := by simp [Nm, h]
theorem Nm.one {x : Int} (h : x ≠ 0) : Nm [x] := by simp [Nm, h]
theorem Nm.split (h : Nm xs) (hne : xs ≠ []) : ∃ ys x, xs = ys ++ [x] ∧ x ≠ 0 := by
  refine ⟨xs.dropLast, xs.getLast hne, (List.dropLast_concat_getLast hne).symm, fun e => ?_⟩
  exact h (by rw [List.getLast?_eq_some_getLast hne, e])
theorem Nm.take {k : Nat} {x : Int} (h : xs[k]? = some x) (hx : x ≠ 0) : Nm (xs.take (k + 1)) := by
  rw [List.take_add_one, h]; exact Nm.snoc hx
theorem nm_low (hB : 1 < B) (hd : Dg B xs) (h : Nm xs) (hne : xs ≠ []) : B ^ (xs.length - 1) ≤ val B xs := by
  obtain ⟨ys, x, rfl, hx⟩ := h.split hne
  have hd1 : Dg B ys := fun y hy => hd y (List.mem_append_left _ hy)
  have hx1 := hd x (List.mem_append_right _ (List.mem_singleton.2 rfl))
  have h0 := val_nonneg (by omega) hd1
  rw [val_snoc, List.length_append, List.length_singleton, Nat.add_sub_cancel]
  have hp := pow_pos' (B := B) (by omega) ys.length
  have : B ^ ys.length * 1 ≤ B ^ ys.length * x := Int.mul_le_mul_of_nonneg_left (by omega) (Int.le_of_lt hp)
  omega
theorem pow_le {a b : Nat} (hB : 1 ≤ B) (h : a ≤ b) : B ^ a ≤ B ^ b := by
  obtain ⟨k, rfl⟩ := Nat.exists_eq_add_of_le h
  rw [Int.pow_add]
  have h1 := pow_pos' (B := B) (by omega) a
  have h2 := pow_pos' (B := B) (by omega) k
  have : B ^ a * 1 ≤ B ^ a * B ^ k := Int.mul_le_mul_of_nonneg_left (by omega) (Int.le_of_lt h1)
  omega
theorem Rep.len_le (hB : 1 < B) (h : Rep B xs n) {L : Nat} (hn : (n : Int) < B ^ L) : xs.length ≤ L := by
  rcases Nat.lt_or_ge L xs.length with hl | hl
  · have h1 := nm_low hB h.1 h.2.1 (by intro e; subst e; simp at hl)
    rw [h.2.2] at h1
    have := pow_le (B := B) (a := L) (b := xs.length - 1) (by omega) (by omega)
    omega
  · exact hl
theorem Rep.lt (hB : 1 < B) (h : Rep B xs n) : (n : Int) < B ^ xs.length := by rw [← h.2.2]; exact val_lt (by omega) h.1
theorem Rep.nil : Rep B [] 0 := ⟨Dg.nil, Nm.nil, rfl⟩
theorem Rep.zero (hB : 1 < B) (h : Rep B xs 0) : xs = [] := by
  rcases xs with _ | ⟨x, xs⟩
  · rfl
  · have h1 := nm_low hB h.1 h.2.1 (by simp)
    rw [h.2.2] at h1
    have := pow_pos' (B := B) (by omega) ((x :: xs).length - 1)
    omega
theorem Rep.pos (hB : 1 < B) (h : Rep B xs n) : n = 0 ↔ xs = [] := by
  constructor
  · rintro rfl; exact h.zero hB
  · rintro rfl; have := h.2.2; simp [val] at this; omega
theorem Rep.one (hB : 1 < B) : Rep B [1] 1 := ⟨Dg.one (by omega), Nm.one (by omega), val_one 1⟩
end

end Go.Proofs.Ytekhmfliaojabaa
namespace Go.Proofs.Ytekhmfliaojabaa
open Go.RowKit

/-- n has at most L digits. -/
def Fit (B : Int) (n L : Nat) : Prop := (n : Int) < B ^ L
section
variable {B : Int} {n m a b L : Nat} {xs : List Int}
theorem Fit.mono (hB : 1 ≤ B) (h : Fit B n a) (hl : a ≤ b) : Fit B n b := by
  have := pow_le (B := B) hB hl
  unfold Fit at *; omega
theorem Fit.add (hB : 2 ≤ B) (h : Fit B n a) (k : Fit B m a) : Fit B (n + m) (a + 1) := by
  unfold Fit at *
  rw [Int.pow_succ]
  have hp := pow_pos' (B := B) (by omega) a
  have : B ^ a * 2 ≤ B ^ a * B := Int.mul_le_mul_of_nonneg_left hB (Int.le_of_lt hp)
  omega
theorem Fit.len (hB : 1 < B) (h : Fit B n L) (hr : Rep B xs n) : xs.length ≤ L := hr.len_le hB h
theorem Fit.one (hB : 1 < B) (h : 0 < L) : Fit B 1 L := by
  have := pow_le (B := B) (a := 1) (b := L) (by omega) h
  unfold Fit; rw [Int.pow_succ, Int.pow_zero] at this; omega
theorem Fit.zero (hB : 0 < B) : Fit B 0 L := by have := pow_pos' hB L; unfold Fit; omega
end

/-- A value that is a slice of words, the normal form of n. -/
def NatV (k : IntKind) (B : Int) (w : World) (v : Value) (n : Nat) : Prop :=
  ∃ A m c xs, v = .slice A m c ∧ Ints k w A m xs ∧ Rep B xs n ∧ m ≤ c ∧ c ≤ 9223372036854775807
theorem NatV.ext {k : IntKind} {B : Int} {w w' : World} {v : Value} {n : Nat} (h : NatV k B w v n) (he : Ext w w') : NatV k B w' v n := by
  obtain ⟨A, m, c, xs, h1, h2, h3⟩ := h
  exact ⟨A, m, c, xs, h1, h2.ext he, h3⟩
theorem NatV.zero {k : IntKind} {B : Int} {w : World} : NatV k B w (.slice none 0 0) 0 := ⟨none, 0, 0, [], rfl, Ints.nil, Rep.nil, by omega, by omega⟩

/-- Storing at place j of a row of the call's own. -/
theorem OwnS.store {k : IntKind} {e : TypeId} {base : Nat} {w : World} {A : Option Addr} {n c : Nat} {xs : List Int} (h : OwnS k e base w A n c xs) {j : Nat} (hj : j < n) :
    ∃ g x, A = some ⟨g, 0, none⟩ ∧ xs[j]? = some x ∧ (Lit.int k x).wf = true ∧ w.cell? ⟨g, j, none⟩ = some (.int k x) ∧ w.frozen? ⟨g, j, none⟩ = false ∧ base ≤ g ∧
      Hid (∀ u, (Lit.int k u).wf = true → OwnS k e base (w.setCell ⟨g, j, none⟩ (.int k u)) A n c (xs.set j u)) := by
  have hj' : j < xs.length := by rw [h.len]; exact hj
  have hown := h.own
  rcases hown.2 with ⟨_, h0⟩ | ⟨g, cap, cur, hv, hg, _⟩
  · omega
  · injection hv with hA _ _
    subst hA
    have hc := hown.cellAt j (by omega)
    rw [List.getElem?_map, List.getElem?_eq_getElem hj'] at hc
    refine ⟨g, xs[j], rfl, List.getElem?_eq_getElem hj', h.wf _ (List.getElem_mem hj'), hc, hown.frozenAt j, hg, fun u hu => ⟨?_, by rw [List.length_set, h.len], fun x hx => ?_⟩⟩
    · have := (hown.stored j (.int k u)).1
      rwa [← List.map_set] at this
    · rcases List.mem_or_eq_of_mem_set hx with hx | hx
      · exact h.wf x hx
      · subst hx; exact hu
theorem OwnS.get {k : IntKind} {e : TypeId} {base : Nat} {w : World} {A : Option Addr} {n c : Nat} {xs : List Int} (h : OwnS k e base w A n c xs) {j : Nat} (hj : j < n) :
    ∃ g x, A = some ⟨g, 0, none⟩ ∧ xs[j]? = some x ∧ (Lit.int k x).wf = true ∧ w.cell? ⟨g, j, none⟩ = some (.int k x) := by
  obtain ⟨g, x, h1, h2, h3, h4, _⟩ := h.store hj
  exact ⟨g, x, h1, h2, h3, h4⟩
/-- The row that 'make' makes. -/
theorem OwnS.made {k : IntKind} {e : TypeId} {base : Nat} {w : World} {g n c : Nat} (h : w.ownsRow base e 1 (.slice (some ⟨g, 0, none⟩) n c) n (List.replicate n (.int k 0))) : OwnS k e base w (some ⟨g, 0, none⟩) n c (List.replicate n 0) := by
  refine ⟨by simpa using h, by simp, fun x hx => ?_⟩
  have := (List.mem_replicate.1 hx).2
  subst this
  cases k <;> decide
end Go.Proofs.Ytekhmfliaojabaa
namespace Go.Proofs.Ytekhmfliaojabaa
open Go.RowKit

/-- Two rows that do not share a block. -/
def Apart (u v : Value) : Prop := u.ownBlock = none ∨ u.ownBlock ≠ v.ownBlock
theorem Apart.symm {u v : Value} (h : Apart u v) : Apart v u := by
  unfold Apart at h ⊢
  cases hv : v.ownBlock with
  | none => exact .inl rfl
  | some k =>
    rw [hv] at h
    rcases h with h | h
    · rw [h]; right; simp
    · exact .inr (Ne.symm h)

/-- The slices 'vs' have rows of bytes of their own from block 'base' on, no two in one block, and read as 'xss'. -/
structure Deck (tb : TypeId) (base : Nat) (w : World) (vs : List Value) (xss : List (List Int)) : Prop where
  len : vs.length = xss.length
  row : ∀ (j : Nat) (v : Value) (xs : List Int), vs[j]? = some v → xss[j]? = some xs → ∃ A c, v = .slice A xs.length c ∧ OwnS .u8 tb base w A xs.length c xs
  far : vs.Pairwise Apart

theorem pairwise_dele {α : Type} {R : α → α → Prop} {l : List α} (h : l.Pairwise R) (i : Nat) : (dele l i).Pairwise R := by
  unfold dele
  have e : l.take i ++ l.drop (i + 1) = l.eraseIdx i := by rw [List.eraseIdx_eq_take_drop_succ]
  rw [e]
  exact h.sublist (List.eraseIdx_sublist l i)
theorem perm_inse {α : Type} (l : List α) (i : Nat) (x : α) : (inse l i x).Perm (x :: l) := by
  unfold inse
  have := @List.perm_middle α x (l.take i) (l.drop i)
  rwa [List.take_append_drop] at this
theorem perm_dele {α : Type} {l : List α} {i : Nat} {x : α} (h : l[i]? = some x) : l.Perm (x :: dele l i) := by
  obtain ⟨hi, rfl⟩ := List.getElem?_eq_some_iff.1 h
  have e : l = l.take i ++ l[i] :: l.drop (i + 1) := by rw [← List.drop_eq_getElem_cons hi, List.take_append_drop]
  conv => lhs; rw [e]
  exact List.perm_middle
theorem get_dele {α : Type} {l : List α} {i : Nat} (j : Nat) : (dele l i)[j]? = if j < i ∧ i ≤ l.length then l[j]? else if i ≤ l.length then l[j + 1]? else l[j]? := by
  unfold dele
  rcases Nat.lt_or_ge j i with h | h
  · rcases Nat.lt_or_ge l.length i with h2 | h2
    · rw [if_neg (by omega), if_neg (by omega), List.take_of_length_le (by omega), List.drop_eq_nil_of_le (by omega), List.append_nil]
    · rw [if_pos ⟨h, h2⟩, List.getElem?_append_left (by rw [List.length_take]; omega), List.getElem?_take, if_pos h]
  · rcases Nat.lt_or_ge l.length i with h2 | h2
    · rw [if_neg (by omega), if_neg (by omega), List.take_of_length_le (by omega), List.drop_eq_nil_of_le (by omega), List.append_nil]
    · rw [if_neg (by omega), if_pos h2, List.getElem?_append_right (by rw [List.length_take]; omega), List.length_take, Nat.min_eq_left h2, List.getElem?_drop]
      congr 1; omega
theorem get_inse {α : Type} {l : List α} {i : Nat} {x : α} (h : i ≤ l.length) (j : Nat) : (inse l i x)[j]? = if j < i then l[j]? else if j = i then some x else l[j - 1]? := by
  unfold inse
  rcases Nat.lt_or_ge j i with h1 | h1
  · rw [if_pos h1, List.getElem?_append_left (by rw [List.length_take]; omega), List.getElem?_take, if_pos h1]
  · rw [if_neg (by omega), List.getElem?_append_right (by rw [List.length_take]; omega), List.length_take, Nat.min_eq_left h]
    by_cases h2 : j = i
    · subst h2; rw [if_pos rfl]; simp
    · rw [if_neg h2]
      obtain ⟨k, rfl⟩ : ∃ k, j = i + (k + 1) := ⟨j - i - 1, by omega⟩
      rw [show i + (k + 1) - i = k + 1 by omega, List.getElem?_cons_succ, List.getElem?_drop]
      congr 1

section
variable {tb te : TypeId} {base : Nat} {w w' : World} {vs : List Value} {xss : List (List Int)}
theorem Deck.nil : Deck tb base w [] [] := ⟨rfl, by simp, List.Pairwise.nil⟩
theorem Deck.ext (h : Deck tb base w vs xss) (he : Ext w w') : Deck tb base w' vs xss :=
  ⟨h.len, fun j v xs a b => by obtain ⟨A, c, h1, h2⟩ := h.row j v xs a b; exact ⟨A, c, h1, h2.ext he⟩, h.far⟩
theorem Deck.kept {base' size n : Nat} {v' : Value} {us : List Value} (h : Deck tb base w vs xss) (h' : w.ownsRow base' te size v' n us) (hne : tb ≠ te) (hg : w.grownBy w' v'.ownBlock) : Deck tb base w' vs xss :=
  ⟨h.len, fun j v xs a b => by obtain ⟨A, c, h1, h2⟩ := h.row j v xs a b; exact ⟨A, c, h1, h2.kept h' hne hg⟩, h.far⟩
theorem Deck.one {v : Value} (h : Deck tb base w vs xss) (hv : v ∈ vs) : v.oneCell' = true := by
  obtain ⟨j, hj, rfl⟩ := List.getElem_of_mem hv
  obtain ⟨A, c, h1, _⟩ := h.row j _ _ (List.getElem?_eq_getElem hj) (List.getElem?_eq_getElem (by rw [← h.len]; exact hj))
  rw [h1]; rfl
theorem Deck.get (h : Deck tb base w vs xss) {j : Nat} (hj : j < xss.length) : ∃ A c, vs[j]? = some (.slice A (xss.getD j []).length c) ∧ OwnS .u8 tb base w A (xss.getD j []).length c (xss.getD j []) := by
  have hj' : j < vs.length := by rw [h.len]; exact hj
  have h1 : vs[j]? = some vs[j] := List.getElem?_eq_getElem hj'
  have h2 : xss[j]? = some (xss.getD j []) := by simp [List.getD, List.getElem?_eq_getElem hj]
  obtain ⟨A, c, h3, h4⟩ := h.row j _ _ h1 h2
  exact ⟨A, c, by rw [h1, h3], h4⟩
theorem Deck.dele (h : Deck tb base w vs xss) (i : Nat) : Deck tb base w (dele vs i) (dele xss i) := by
  refine ⟨by have := h.len; simp [Proofs.Ytekhmfliaojabaa.dele, this], fun j v xs a b => ?_, pairwise_dele h.far i⟩
  rw [get_dele] at a b
  rw [h.len] at a
  split at a
  · rename_i hc; rw [if_pos hc] at b; exact h.row _ _ _ a b
  · rename_i hc
    rw [if_neg hc] at b
    split at a
    · rename_i hc2; rw [if_pos hc2] at b; exact h.row _ _ _ a b
    · rename_i hc2; rw [if_neg hc2] at b; exact h.row _ _ _ a b
theorem Deck.inse {A : Option Addr} {c i : Nat} {xs : List Int} (h : Deck tb base w vs xss) (hi : i ≤ xss.length) (hr : OwnS .u8 tb base w A xs.length c xs) (hf : ∀ v ∈ vs, Apart v (.slice A xs.length c)) :
    Deck tb base w (inse vs i (.slice A xs.length c)) (inse xss i xs) := by
  have hi' : i ≤ vs.length := by rw [h.len]; exact hi
  refine ⟨by rw [inse_len hi', inse_len hi, h.len], fun j v ys a b => ?_, ?_⟩
  · rw [get_inse hi'] at a
    rw [get_inse hi] at b
    split at a
    · rename_i hc; rw [if_pos hc] at b; exact h.row _ _ _ a b
    · rename_i hc
      rw [if_neg hc] at b
      split at a
      · rename_i hc2
        rw [if_pos hc2] at b
        injection a with a; injection b with b
        subst a b
        exact ⟨A, c, rfl, hr⟩
      · rename_i hc2; rw [if_neg hc2] at b; exact h.row _ _ _ a b
  · refine ((perm_inse vs i _).pairwise_iff fun {a b} h => Apart.symm h).2 (List.pairwise_cons.2 ⟨fun v hv => (hf v hv).symm, h.far⟩)
theorem Deck.set {i : Nat} (h : Deck tb base w vs xss) (hi : i < xss.length) {A : Option Addr} {c : Nat} {xs : List Int} (hr : OwnS .u8 tb base w A xs.length c xs)
    (hb : ∀ u, vs[i]? = some u → u.ownBlock = (Value.slice A xs.length c).ownBlock) : Deck tb base w (vs.set i (.slice A xs.length c)) (xss.set i xs) := by
  have hi' : i < vs.length := by rw [h.len]; exact hi
  rw [← set_inse hi, ← set_inse hi']
  refine (h.dele i).inse (by rw [dele_len hi]; omega) hr fun v hv' => ?_
  have hp := ((perm_dele (List.getElem?_eq_getElem hi')).pairwise_iff fun {a b} h => Apart.symm h).1 h.far
  have := ((List.pairwise_cons.1 hp).1 v hv').symm
  unfold Apart at this ⊢
  rw [← hb _ (List.getElem?_eq_getElem hi')]
  exact this
/-- A store into the row i. -/
theorem Deck.write {i g : Nat} (h : Deck tb base w vs xss) (hi : i < xss.length) {c : Nat} {ys : List Int} (hv : vs[i]? = some (.slice (some ⟨g, 0, none⟩) (xss.getD i []).length c)) (hl : ys.length = (xss.getD i []).length)
    (hr : OwnS .u8 tb base w' (some ⟨g, 0, none⟩) ys.length c ys) (hg : w.grownBy w' (some g)) : Deck tb base w' vs (xss.set i ys) := by
  have hi' : i < vs.length := by rw [h.len]; exact hi
  refine ⟨by rw [List.length_set, h.len], fun j v xs a b => ?_, h.far⟩
  rw [List.getElem?_set] at b
  split at b
  · rename_i hij
    subst hij
    injection b with b
    subst b
    rw [hv] at a
    injection a with a
    subst a
    exact ⟨_, c, by rw [hl], hr⟩
  · rename_i hij
    obtain ⟨A, c', h1, h2⟩ := h.row j v xs a b
    refine ⟨A, c', h1, h2.own.kept hg ?_, h2.len, h2.wf⟩
    have hp := h.far
    have hap : Apart v (.slice (some ⟨g, 0, none⟩) (xss.getD i []).length c) := by
      obtain ⟨hj, rfl⟩ := List.getElem?_eq_some_iff.1 a
      obtain ⟨_, e⟩ := List.getElem?_eq_some_iff.1 hv
      rw [← e]
      rcases Nat.lt_or_ge j i with hlt | hge
      · exact List.pairwise_iff_getElem.1 hp j i hj hi' hlt
      · exact (List.pairwise_iff_getElem.1 hp i j hi' hj (by omega)).symm
    rw [h1] at hap
    rcases hap with e | e
    · exact .inl e
    · exact .inr e
end

section
variable {P : Program}
end
end Go.Proofs.Ytekhmfliaojabaa
namespace Go.Proofs.Ytekhmfliaojabaa

def Lead (k : Nat) (xs : List Int) : Prop := ∀ j, j < k → ∃ x, xs[j]? = some x ∧ 128 ≤ x

theorem Lead.zero (xs : List Int) : Lead 0 xs := fun j hj => absurd hj (by omega)
theorem Lead.succ {k : Nat} {xs : List Int} {x : Int} (h : Lead k xs) (hx : xs[k]? = some x) (h1 : 128 ≤ x) : Lead (k + 1) xs := fun j hj => by
  by_cases e : j = k
  · subst e; exact ⟨x, hx, h1⟩
  · exact h j (by omega)

section
variable {k : Nat} {xs : List Int} {x : Int}
end

/-- The encoding of a number: groups of seven bits, the least one first. -/
def encF : Nat → Int → List Int
  | 0, m => [m]
  | f + 1, m => if 128 ≤ m then (m % 128 + 128) :: encF f (m / 128) else [m]

def enc (m : Int) : List Int := encF 9 m

theorem encF_more {f : Nat} {m : Int} (h : 128 ≤ m) : encF (f + 1) m = (m % 128 + 128) :: encF f (m / 128) := by simp [encF, h]
theorem encF_last {f : Nat} {m : Int} (h : m < 128) : encF f m = [m] := by cases f <;> simp [encF]; omega
theorem encF_byte {f : Nat} {m : Int} (h0 : 0 ≤ m) (h1 : m < 128 ^ (f + 1)) : ∀ x ∈ encF f m, 0 ≤ x ∧ x ≤ 255 := by
  induction f generalizing m with
  | zero => intro x hx; simp [encF] at hx; simp at h1; omega
  | succ f ih =>
    intro x hx
    simp only [encF] at hx
    split at hx
    · rcases List.mem_cons.1 hx with rfl | hx
      · omega
      · exact ih (by omega) (by rw [Int.pow_succ] at h1; omega) x hx
    · simp at hx; omega

theorem or_128 (m : Int) (h0 : 0 ≤ m) (h1 : m < 128) : bits .or .u8 m 128 = m + 128 := by
  obtain ⟨k, rfl⟩ := Int.eq_ofNat_of_zero_le h0
  have := u8_or_nat k 128 (by omega) (by omega)
  have e : ((128 : Nat) : Int) = 128 := rfl
  rw [e] at this
  rw [this, Nat.or_comm, nat_join 7 128 k (by decide) (by omega)]
  omega

/-- Where the encoding of 'm' stands after 'pre' was written and 'm'' is left. -/
def EncAt (m : Int) (pre : List Int) (m' : Int) : Prop := ∃ f, pre ++ encF f m' = enc m ∧ pre.length + f = 9 ∧ 0 ≤ m' ∧ m' < 128 ^ (f + 1) ∧ ∀ x ∈ pre, 0 ≤ x ∧ x ≤ 255
theorem EncAt.start {m : Int} (h0 : 0 ≤ m) (h1 : m ≤ 4611686018427387903) : EncAt m [] m := ⟨9, rfl, rfl, h0, by simp; omega, by simp⟩
theorem EncAt.step {m m' : Int} {pre : List Int} (h : EncAt m pre m') (hg : 128 ≤ m') : EncAt m (pre ++ [m' % 128 + 128]) (m' / 128) := by
  obtain ⟨f, h1, h2, h3, h4, h5⟩ := h
  cases f with
  | zero => simp at h4; omega
  | succ f =>
    refine ⟨f, by rw [← h1, encF_more hg]; simp, by simp; omega, by omega, by rw [Int.pow_succ] at h4; omega, ?_⟩
    intro x hx
    rcases List.mem_append.1 hx with hx | hx
    · exact h5 x hx
    · simp at hx; omega
theorem EncAt.done {m m' : Int} {pre : List Int} (h : EncAt m pre m') (hl : m' < 128) : pre ++ [m'] = enc m := by
  obtain ⟨f, h1, _⟩ := h
  rw [← h1, encF_last hl]
theorem enc_byte {m : Int} (h0 : 0 ≤ m) (h1 : m ≤ 4611686018427387903) : ∀ x ∈ enc m, 0 ≤ x ∧ x ≤ 255 := encF_byte h0 (by simp; omega)
theorem EncAt.len {m m' : Int} {pre : List Int} (h : EncAt m pre m') : pre.length ≤ 9 := by
  obtain ⟨f, _, h2, _⟩ := h; omega
theorem EncAt.pos {m m' : Int} {pre : List Int} (h : EncAt m pre m') : 0 ≤ m' := by
  obtain ⟨f, _, _, h3, _⟩ := h; exact h3
end Go.Proofs.Ytekhmfliaojabaa
namespace Go.Proofs.Ytekhmfliaojabaa
open Go.RowKit

theorem elB : Elem Try.prog 22 5 1 1 (.int .u8 0) := Elem.mk' (by kernel_rfl) (by kernel_rfl) rfl (by decide)

/-- What a call returns that makes bytes: they read as 'xs', in memory of its own. -/
def RetBytes (w : World) (xs : List Int) (er : Int) (e : Ending) (w' : World) : Prop :=
  ∃ A n c, e = .returned (.tuple #[.slice A n c, .int .i64 er]) ∧ OwnS .u8 5 w.heap.size w' A n c xs ∧ Ext w w'
theorem wf_app {xs ys : List Int} (h : ∀ x ∈ xs, (Lit.int .u8 x).wf = true) (k : ∀ y ∈ ys, 0 ≤ y ∧ y ≤ 255) : ∀ x ∈ xs ++ ys, (Lit.int .u8 x).wf = true := fun x hx => by
  rcases List.mem_append.1 hx with hx | hx
  · exact h x hx
  · exact WalkArith.wf_u8 (k x hx)

set_option maxHeartbeats 1000000 in
theorem number_ok (A : Option Addr) (n c : Nat) (xs : List Int) (m : Int) (w : World) (h : Ints .u8 w A n xs) (hn : n ≤ 1000000) (h0 : 0 ≤ m) (h1 : m ≤ 4611686018427387903) :
    Calls Try.prog 23 #[.slice A n c, .int .i64 m] w (RetBytes w (xs ++ enc m) 0) := by
  have H := Lib.hid h
  have hs := EncAt.start h0 h1
  have HS := Lib.hid hs
  have HL : Hid (xs.length = n) := h.1
  clear h hs
  go_enter Try.func23, Try.ntmps23
  go_wp2_with (first | (at_make; refine wpList_mk _ elB rfl rfl _ _ rfl w.heap.size _ _ _ _ n (n + 9) rfl rfl rfl (by omega) (by omega) (by omega) (by unfold maxLen; omega) (Nat.le_refl _) ?_; intro w1 hown1 hext1 hsz1) | (refine wpList_cp (o := ⟨some 21, _, _, _, _, _⟩) _ elB rfl _ _ rfl w.heap.size _ _ _ _ rfl hown1 A n c (xs.map (.int .u8)) rfl (by rw [List.length_map]; exact HL.out) (H.out.ext hext1).2.2 (ints_oneCell _ _) ?_; intro w2 r2 hown2 hgr2 _))
  go_frame
  go_loopg [1, 6] m.toNat (fun g q v wr => ∃ (m' : Int) (pre : List Int), g = m'.toNat ∧ q = .int .i64 m' ∧ Hid (EncAt m pre m') ∧ m' ≤ 4611686018427387903 ∧ wr.ownsRow w.heap.size 5 1 v (n + pre.length) ((xs ++ pre).map (.int .u8)) ∧ Ext w wr)
  case atStart => 
    refine ⟨m, [], rfl, rfl, HS.out, h1, ?_, hext1.grown hgr2 ?_⟩
    · have e : List.take n (xs.map (Value.int .u8)) ++ List.drop n (List.replicate n (Value.int .u8 0)) = (xs ++ []).map (Value.int .u8) := by
        rw [List.take_of_length_le (by rw [List.length_map, HL.out]; omega), List.drop_eq_nil_of_le (by simp)]; simp
      rw [e] at hown2
      exact hown2
    · intro k hk; simp [Value.ownBlock] at hk; omega
  case round => 
    obtain ⟨m', pre, rfl, rfl, hE, hm1, hown, hext⟩ := hrel
    have hm0 := hE.out.pos
    have hpl := hE.out.len
    obtain ⟨A1, c1, rfl⟩ := own_slice hown
    by_cases hge : 128 ≤ m'
    · have hor := or_128 (m' % 128) (by omega) (by omega)
      have HH := Lib.hid hext
      clear hext
      go_wp2_with (at_builtin; refine wpList_app _ elB rfl _ _ rfl w.heap.size _ _ _ rfl (hown.alloc _) _ 1 1 [.int .u8 (m' % 128 + 128)] rfl rfl (At.new _ [_] _) (by simp [Value.oneCell']) (by omega) (by unfold maxLen; omega) (by have := HH.out.size; simp; omega) ?_; intro v1 w1 hown1 hgr1 _)
      go_roundg ((m' / 128).toNat)
      case rel => 
        refine ⟨m' / 128, pre ++ [m' % 128 + 128], rfl, rfl, hE.out.step hge, by omega, ?_, HH.out.push hown hgr1⟩
        simpa [Nat.add_assoc] using hown1
      case measure => omega
    · have HH := Lib.hid hext
      clear hext
      go_wp2_with (at_builtin; refine wpList_app _ elB rfl _ _ rfl w.heap.size _ _ _ rfl (hown.alloc _) _ 1 1 [.int .u8 m'] rfl rfl (At.new _ [_] _) (by simp [Value.oneCell']) (by omega) (by unfold maxLen; omega) (by have := HH.out.size; simp; omega) ?_; intro v1 w1 hown1 hgr1 _)
      go_ret2
      obtain ⟨A2, c2, rfl⟩ := own_slice hown1
      refine ⟨A2, _, c2, rfl, ⟨?_, ?_, wf_app H.out.2.1 (enc_byte h0 h1)⟩, HH.out.push hown hgr1⟩
      · have e := hE.out.done (by omega)
        rw [← e]
        simpa using hown1
      · rw [← hE.out.done (by omega)]
        have := HL.out
        simp; omega

theorem enc300 : enc 300 = [172, 2] := by decide

set_option maxHeartbeats 400000 in
theorem awake (w : World) : Calls Try.prog 18 #[] w fun e w' => e = .returned (.bool true) ∧ Ext w w' := by
  go_enter Try.func18, Try.ntmps18
  go_wp2_with fail
  refine (number_ok none 0 0 [] 300 w Ints.nil (by omega) (by omega) (by omega)).mono ?_
  rintro e w1 ⟨A, n, c, rfl, ⟨hown, hn, _⟩, hext⟩
  rw [enc300] at hown hn
  have hAt := At.of_own hown
  obtain ⟨b, off, rfl, hc⟩ := hAt (by simp)
  have hc0 : w1.cell? ⟨b, off, none⟩ = some (.int .u8 172) := hc 0 _ rfl
  have hc1 : w1.cell? ⟨b, off + 1, none⟩ = some (.int .u8 2) := hc 1 _ rfl
  obtain rfl : n = 2 := hn.symm
  have HX := Lib.hid hext
  clear hext hown hAt hc
  go_wp2
  go_ret
  exact ⟨rfl, HX.out⟩
end Go.Proofs.Ytekhmfliaojabaa
namespace Go.Proofs.Ytekhmfliaojabaa
open Go.RowKit

/-- The act with the values 'us k', 'us (k + 1)', .. in the slots 'ds' (none: no slot). -/
def fillO (a : Act) : List (Option Tmp) → (Nat → Value) → Nat → Act
  | [], _, _ => a
  | d :: ds, us, k => fillO (a.put d (us k)) ds us (k + 1)
def updO (us : Nat → Value) (i : Nat) (v : Value) : Nat → Value := fun j => if j = i then v else us j

/-- No slot twice. -/
def NoTwice (ds : List (Option Tmp)) : Prop := ds.Pairwise fun d e => d = none ∨ d ≠ e
/-- What one operation must give: 'done' are those that were carried out; 'D' those whose values it uses, 'A' those that cannot have been carried out before it. -/
def JOp (P : Program) (ops : Array Oper) (V : Nat → Value → World → Prop) (J : (Nat → Prop) → World → Prop) (D A : List (List Nat)) (ds : List (Option Tmp)) (a : Act) (i : Nat) (o : Oper) : Prop :=
  ∀ (done : Nat → Prop) (us : Nat → Value) (W : World), J done W → (∀ j ∈ D.getD i [], V j (us j) W ∧ done j) → (∀ j ∈ A.getD i [], ¬ done j) → ¬ done i → ∀ K : Act → World → Prop,
    (∀ v W', V i v W' → (∀ j u, done j → V j u W → V j u W') → J (fun k => done k ∨ k = i) W' → K ((fillO a ds us 0).put o.dst v) W') → ∀ Q' : Exit → Act → World → Prop,
    if Region.wanted o (yielded ops (fillO a ds us 0).tmps) then o.wp P (fillO a ds us 0) W K Q' else K ((fillO a ds us 0).put o.dst undef) W
def JAll (P : Program) (ops : Array Oper) (V : Nat → Value → World → Prop) (J : (Nat → Prop) → World → Prop) (D A : List (List Nat)) (ds : List (Option Tmp)) (a : Act) : Nat → List Oper → Prop
  | _, [] => True
  | i, o :: rest => JOp P ops V J D A ds a i o ∧ JAll P ops V J D A ds a (i + 1) rest
theorem JAll.at {P : Program} {ops : Array Oper} {V : Nat → Value → World → Prop} {J : (Nat → Prop) → World → Prop} {D A : List (List Nat)} {ds : List (Option Tmp)} {a : Act} : ∀ (l : List Oper) (k : Nat), JAll P ops V J D A ds a k l → ∀ i o, l[i]? = some o → JOp P ops V J D A ds a (k + i) o := by
  intro l
  induction l with
  | nil => intro k _ i o h; simp at h
  | cons x l ih =>
    intro k h i o ho
    cases i with
    | zero => simp at ho; subst ho; exact h.1
    | succ i =>
      have := ih (k + 1) h.2 i o (by simpa using ho)
      rw [show k + 1 + i = k + (i + 1) by omega] at this
      exact this

theorem putO_size (a : Act) (d : Option Tmp) (v : Value) : (a.put d v).tmps.size = a.tmps.size := by
  cases d <;> simp [Act.put]
theorem putO_else (a : Act) (e : Option Tmp) (v : Value) {d : Tmp} (h : e ≠ some d) : (a.put e v).tmps[d]? = a.tmps[d]? := by
  cases e with
  | none => rfl
  | some e => simp only [Act.put]; rw [Array.getElem?_setIfInBounds, if_neg (fun q => h (by rw [q]))]
theorem fillO_else (us : Nat → Value) : ∀ (ds : List (Option Tmp)) (a : Act) (k : Nat) (d : Tmp), some d ∉ ds → (fillO a ds us k).tmps[d]? = a.tmps[d]? := by
  intro ds
  induction ds with
  | nil => intro a k d _; rfl
  | cons e ds ih =>
    intro a k d h
    simp only [List.mem_cons, not_or] at h
    simp only [fillO]
    rw [ih _ _ d h.2, putO_else _ _ _ (Ne.symm h.1)]
theorem fillO_get (us : Nat → Value) : ∀ (ds : List (Option Tmp)), NoTwice ds → ∀ (a : Act) (k i : Nat) (d : Tmp), ds[i]? = some (some d) → d < a.tmps.size → (fillO a ds us k).tmps[d]? = some (us (k + i)) := by
  intro ds
  induction ds with
  | nil => intro _ a k i d h; simp at h
  | cons e ds ih =>
    intro hn a k i d h hd
    have hn' := List.pairwise_cons.1 hn
    simp only [fillO]
    cases i with
    | zero =>
      simp at h
      subst h
      rw [fillO_else us ds _ _ d (fun hm => by rcases hn'.1 _ hm with h | h <;> simp at h)]
      simp only [Act.put]
      rw [Array.getElem?_setIfInBounds_self_of_lt hd]; rfl
    | succ i =>
      have hi : ds[i]? = some (some d) := by simpa using h
      rw [ih hn'.2 _ (k + 1) i d hi (by rw [putO_size]; exact hd)]
      congr 2; omega

/-- The same over a frame of which only the slots' values are known. -/
theorem JOp.of {P : Program} {ops : Array Oper} {V : Nat → Value → World → Prop} {J : (Nat → Prop) → World → Prop} {D A : List (List Nat)} {ds : List (Option Tmp)} {a : Act} {i : Nat} {o : Oper} (hn : NoTwice ds) (hs : ∀ d, some d ∈ ds → d < a.tmps.size)
    (h : ∀ (done : Nat → Prop) (us : Nat → Value) (W : World), J done W → (∀ j ∈ D.getD i [], V j (us j) W ∧ done j) → (∀ j ∈ A.getD i [], ¬ done j) → ¬ done i → ∀ b : Act, (∀ j d, ds[j]? = some (some d) → b.tmps[d]? = some (us j)) → (∀ d, some d ∉ ds → b.tmps[d]? = a.tmps[d]?) → ∀ K : Act → World → Prop,
      (∀ v W', V i v W' → (∀ j u, done j → V j u W → V j u W') → J (fun k => done k ∨ k = i) W' → K (b.put o.dst v) W') → ∀ Q' : Exit → Act → World → Prop,
      if Region.wanted o (yielded ops b.tmps) then o.wp P b W K Q' else K (b.put o.dst undef) W) : JOp P ops V J D A ds a i o := by
  intro done us W hJ hdep haft hnot K hK Q'
  refine h done us W hJ hdep haft hnot _ (fun j d hj => ?_) (fun d hd => fillO_else us ds a 0 d hd) K hK Q'
  have := fillO_get us ds hn a 0 j d hj (hs d (List.mem_of_getElem? hj))
  rwa [Nat.zero_add] at this

section
variable {P : Program} {l : List Oper} {n : Nat} {ds : List (Option Tmp)} {D A : List (List Nat)} {V : Nat → Value → World → Prop} {J : (Nat → Prop) → World → Prop} {a : Act} {Q : Exit → Act → World → Prop}

end
end Go.Proofs.Ytekhmfliaojabaa
namespace Go.Proofs.Ytekhmfliaojabaa
open Go.RowKit

/-- What one operation must give, over a frame of which only the slots' values are known. -/
def GOq (P : Program) (ops : Array Oper) (J : (Nat → Prop) → (Nat → Value) → World → Prop) (D A : List (List Nat)) (ds : List (Option Tmp)) (a : Act) (i : Nat) (o : Oper) : Prop :=
  ∀ (done : Nat → Prop) (us : Nat → Value) (W : World), J done us W → (∀ j ∈ D.getD i [], done j) → (∀ j ∈ A.getD i [], ¬ done j) → ¬ done i → ∀ b : Act, (∀ j d, ds[j]? = some (some d) → b.tmps[d]? = some (us j)) → (∀ d, some d ∉ ds → b.tmps[d]? = a.tmps[d]?) → ∀ K : Act → World → Prop,
      (∀ v W', J (fun k => done k ∨ k = i) (updO us i v) W' → K (b.put o.dst v) W') → ∀ Q' : Exit → Act → World → Prop,
      if Region.wanted o (yielded ops b.tmps) then o.wp P b W K Q' else K (b.put o.dst undef) W
def GAllq (P : Program) (ops : Array Oper) (J : (Nat → Prop) → (Nat → Value) → World → Prop) (D A : List (List Nat)) (ds : List (Option Tmp)) (a : Act) : Nat → List Oper → Prop
  | _, [] => True
  | i, o :: rest => GOq P ops J D A ds a i o ∧ GAllq P ops J D A ds a (i + 1) rest
theorem GAllq.at {P : Program} {ops : Array Oper} {J : (Nat → Prop) → (Nat → Value) → World → Prop} {D A : List (List Nat)} {ds : List (Option Tmp)} {a : Act} : ∀ (l : List Oper) (k : Nat), GAllq P ops J D A ds a k l → ∀ i o, l[i]? = some o → GOq P ops J D A ds a (k + i) o := by
  intro l
  induction l with
  | nil => intro k _ i o h; simp at h
  | cons x l ih =>
    intro k h i o ho
    cases i with
    | zero => simp at ho; subst ho; exact h.1
    | succ i =>
      have := ih (k + 1) h.2 i o (by simpa using ho)
      rw [show k + 1 + i = k + (i + 1) by omega] at this
      exact this

section
variable {P : Program} {l : List Oper} {n : Nat} {ds : List (Option Tmp)} {D A : List (List Nat)} {J : (Nat → Prop) → (Nat → Value) → World → Prop} {a : Act} {Q : Exit → Act → World → Prop}

end

/-- A local struct of a region: its cells are 'zs' until they are stored, then 'vs'. -/
structure Loc (w W : World) (T : TypeId) (zs vs : Array Value) (da dst : Prop) (v : Value) : Prop where
  ptr : da → ∃ g, v = .pointer (some ⟨g, 0, none⟩) ∧ w.heap.size ≤ g ∧ (dst → Blk W g T vs) ∧ (¬ dst → Blk W g T zs)
section
variable {w W W' : World} {T : TypeId} {zs vs : Array Value} {da dst da' dst' : Prop} {v u : Value}
theorem Loc.lt (h : Loc w W T zs vs da dst v) (hd : da) : ∃ g, v = .pointer (some ⟨g, 0, none⟩) ∧ w.heap.size ≤ g ∧ g < W.heap.size := by
  obtain ⟨g, h1, h2, h3, h4⟩ := h.ptr hd
  refine ⟨g, h1, h2, ?_⟩
  by_cases hs : dst
  · exact (h3 hs).lt
  · exact (h4 hs).lt
theorem Loc.stored (h : Loc w W T zs vs da dst v) (hd : da) (hs : ¬ dst) : ∃ g, v = .pointer (some ⟨g, 0, Option.none⟩) ∧ w.heap.size ≤ g ∧ Blk W g T zs := by
  obtain ⟨g, h1, h2, _, h4⟩ := h.ptr hd
  exact ⟨g, h1, h2, h4 hs⟩
theorem Loc.done (h : Loc w W T zs vs da dst v) (hd : da) (hs : dst) : ∃ g, v = .pointer (some ⟨g, 0, Option.none⟩) ∧ w.heap.size ≤ g ∧ Blk W g T vs := by
  obtain ⟨g, h1, h2, h3, _⟩ := h.ptr hd
  exact ⟨g, h1, h2, h3 hs⟩
theorem Loc.same (h : Loc w W T zs vs da dst v) (ha : da' ↔ da) (hs : dst' ↔ dst) : Loc w W T zs vs da' dst' v := by
  have e1 := propext ha
  have e2 := propext hs
  subst e1 e2
  exact h
theorem Loc.ext (h : Loc w W T zs vs da dst v) (hX : Ext W W') : Loc w W' T zs vs da dst v := ⟨fun hd => by
  obtain ⟨g, h1, h2, h3, h4⟩ := h.ptr hd
  exact ⟨g, h1, h2, fun h => (h3 h).ext hX, fun h => (h4 h).ext hX⟩⟩
theorem Loc.new (w W : World) (hw : Ext w W) (hs : ¬ dst) (hX : Ext (W.alloc (.cells zs T)) W') : Loc w W' T zs vs da dst (.pointer (some ⟨W.heap.size, 0, none⟩)) :=
  ⟨fun _ => ⟨_, rfl, hw.size, fun h => absurd h hs, fun _ => (Blk.new W T zs).ext hX⟩⟩
end
end Go.Proofs.Ytekhmfliaojabaa
namespace Go.Proofs.Ytekhmfliaojabaa
open Go.RowKit
theorem Ext.two {w0 w : World} {g : Nat} (h : Ext w0 w) (hg : w0.heap.size ≤ g) (x y : Value) : Ext w0 ((w.setCell ⟨g, 0, none⟩ x).setCell ⟨g, 1, none⟩ y) := (h.setCell hg x).setCell hg y
end Go.Proofs.Ytekhmfliaojabaa
namespace Go.Proofs.Ytekhmfliaojabaa
open Go.RowKit

/-- The values 'vs' are slices of bytes that read as 'xss'. -/
def LV (w : World) (vs : List Value) (xss : List (List Int)) : Prop := vs.length = xss.length ∧ ∀ (j : Nat) v xs, vs[j]? = some v → xss[j]? = some xs → SlV .u8 w v xs
section
variable {w w' : World} {vs : List Value} {xss : List (List Int)}
theorem LV.ext (h : LV w vs xss) (he : Ext w w') : LV w' vs xss := ⟨h.1, fun j v xs a b => (h.2 j v xs a b).ext he⟩
theorem LV.one (h : LV w vs xss) : ∀ v ∈ vs, v.oneCell' = true := by
  intro v hv
  obtain ⟨j, hj, rfl⟩ := List.getElem_of_mem hv
  obtain ⟨A, n, c, h1, _⟩ := h.2 j _ _ (List.getElem?_eq_getElem hj) (List.getElem?_eq_getElem (by rw [← h.1]; exact hj))
  rw [h1]; rfl
theorem LV.dele (h : LV w vs xss) (i : Nat) : LV w (dele vs i) (dele xss i) := by
  refine ⟨by have := h.1; simp [Proofs.Ytekhmfliaojabaa.dele, this], fun j v xs a b => ?_⟩
  rw [get_dele] at a b
  rw [h.1] at a
  split at a
  · rename_i hc; rw [if_pos hc] at b; exact h.2 _ _ _ a b
  · rename_i hc
    rw [if_neg hc] at b
    split at a
    · rename_i hc2; rw [if_pos hc2] at b; exact h.2 _ _ _ a b
    · rename_i hc2; rw [if_neg hc2] at b; exact h.2 _ _ _ a b
theorem LV.inse {v : Value} {xs : List Int} {i : Nat} (h : LV w vs xss) (hi : i ≤ xss.length) (hv : SlV .u8 w v xs) : LV w (inse vs i v) (inse xss i xs) := by
  have hi' : i ≤ vs.length := by rw [h.1]; exact hi
  refine ⟨by rw [inse_len hi', inse_len hi, h.1], fun j u ys a b => ?_⟩
  rw [get_inse hi'] at a
  rw [get_inse hi] at b
  split at a
  · rename_i hc; rw [if_pos hc] at b; exact h.2 _ _ _ a b
  · rename_i hc
    rw [if_neg hc] at b
    split at a
    · rename_i hc2
      rw [if_pos hc2] at b
      injection a with a; injection b with b
      subst a b
      exact hv
    · rename_i hc2; rw [if_neg hc2] at b; exact h.2 _ _ _ a b
theorem Lists.len {k : IntKind} {A : Option Addr} {n : Nat} (h : Lists k w A n xss) : xss.length = n := h.1
end

end Go.Proofs.Ytekhmfliaojabaa
namespace Go.Proofs.Ytekhmfliaojabaa
open Go.RowKit

/-- A value that is a slice of bytes with a row of its own, which reads as 'xs'. -/
def BodyV (base : Nat) (w : World) (v : Value) (xs : List Int) : Prop := ∃ A n c, v = .slice A n c ∧ OwnS .u8 5 base w A n c xs
section
variable {base : Nat} {w w' : World} {v : Value} {xs : List Int} {vs : List Value} {xss : List (List Int)}
theorem BodyV.ext (h : BodyV base w v xs) (he : Ext w w') : BodyV base w' v xs := by obtain ⟨A, n, c, h1, h2⟩ := h; exact ⟨A, n, c, h1, h2.ext he⟩
theorem BodyV.mono {base' : Nat} (h : BodyV base w v xs) (hb : base' ≤ base) : BodyV base' w v xs := by obtain ⟨A, n, c, h1, h2⟩ := h; exact ⟨A, n, c, h1, h2.mono hb⟩
theorem BodyV.kept {te : TypeId} {base' size n : Nat} {v' : Value} {us : List Value} (h : BodyV base w v xs) (h' : w.ownsRow base' te size v' n us) (hne : 5 ≠ te) (hg : w.grownBy w' v'.ownBlock) : BodyV base w' v xs := by
  obtain ⟨A, n, c, h1, h2⟩ := h; exact ⟨A, n, c, h1, h2.kept h' hne hg⟩
theorem BodyV.keeps {L : List Nat} (h : BodyV base w v xs) (hk : Keeps L w w') (hn : ∀ g ∈ L, NoRow 5 w g) : BodyV base w' v xs := by
  obtain ⟨A, n, c, h1, h2⟩ := h; exact ⟨A, n, c, h1, h2.keeps hk hn⟩
theorem BodyV.nil (base : Nat) (w : World) : BodyV base w (.slice none 0 0) [] := ⟨none, 0, 0, rfl, ⟨World.ownsRow_nil _ _ _ _, rfl, by simp⟩⟩
end

/-- The integers of a fault are integers of 64 bits. -/
def FltIn (f : Flt) : Prop := (-9223372036854775808 ≤ f.kind ∧ f.kind ≤ 9223372036854775807) ∧ (-9223372036854775808 ≤ f.place ∧ f.place ≤ 9223372036854775807) ∧ (-9223372036854775808 ≤ f.num ∧ f.num ≤ 9223372036854775807)
def FltC (cs : List Value) (f : Flt) : Prop := cs = [.int .i64 f.kind, .int .i64 f.place, .int .i64 f.num]
/-- A slice of faults reads as 'fs'. -/
def Flts (w : World) (A : Option Addr) (n : Nat) (fs : List Flt) : Prop := fs.length = n ∧ (∀ f ∈ fs, FltIn f) ∧ ∃ vs, CsR FltC vs fs ∧ At w A vs
section
variable {w w' : World} {A : Option Addr} {n : Nat} {fs : List Flt}
theorem Flts.ext (h : Flts w A n fs) (he : Ext w w') : Flts w' A n fs := by obtain ⟨h1, h2, vs, h3, h4⟩ := h; exact ⟨h1, h2, vs, h3, h4.ext he⟩
theorem Flts.nil (w : World) (A : Option Addr) : Flts w A 0 [] := ⟨rfl, by simp, [], CsR.nil, At.nil⟩
theorem Flts.get (h : Flts w A n fs) {j : Nat} (hj : j < n) : ∃ b off f, A = some ⟨b, off, none⟩ ∧ fs[j]? = some f ∧ FltIn f ∧ w.cell? ⟨b, off + j * 3, none⟩ = some (.int .i64 f.kind) ∧ w.cell? ⟨b, off + j * 3 + 1, none⟩ = some (.int .i64 f.place) ∧ w.cell? ⟨b, off + j * 3 + 2, none⟩ = some (.int .i64 f.num) := by
  obtain ⟨h1, h2, vs, h3, h4⟩ := h
  have hf : fs[j]? = some fs[j] := List.getElem?_eq_getElem (by omega)
  obtain ⟨cs, rfl, h5⟩ := h3.get (k := 3) (fun cs f h => by rw [h]; rfl) hf
  obtain ⟨b, off, hA, hc⟩ := h4 (by intro e; subst e; have := h5 0 _ rfl; simp at this)
  refine ⟨b, off, _, hA, hf, h2 _ (List.getElem_mem (by omega)), hc _ _ (h5 0 _ rfl), ?_, ?_⟩
  · rw [Nat.add_assoc]; exact hc _ _ (h5 1 _ rfl)
  · rw [Nat.add_assoc]; exact hc _ _ (h5 2 _ rfl)
end
end Go.Proofs.Ytekhmfliaojabaa
namespace Go.Proofs.Ytekhmfliaojabaa

def toI (v : BitVec 32) : Int := v.toNat
theorem toI_range (v : BitVec 32) : 0 ≤ toI v ∧ toI v ≤ 4294967295 := by
  unfold toI; have := v.isLt; omega
theorem toI_inj {a b : BitVec 32} (h : toI a = toI b) : a = b := by
  unfold toI at h; exact BitVec.eq_of_toNat_eq (by omega)

def byteV (x : Int) : BitVec 32 := BitVec.ofNat 32 x.toNat
theorem byteV_toI {x : Int} (h0 : 0 ≤ x) (h1 : x ≤ 255) : toI (byteV x) = x := by
  unfold toI byteV; rw [BitVec.toNat_ofNat, Nat.mod_eq_of_lt (by omega)]; omega

theorem toI_xor (a b : BitVec 32) : bits .xor .u32 (toI a) (toI b) = toI (a ^^^ b) := by
  unfold toI; rw [u32_xor_nat _ _ a.isLt b.isLt, BitVec.toNat_xor]
theorem toI_and (a b : BitVec 32) : bits .and .u32 (toI a) (toI b) = toI (a &&& b) := by
  unfold toI; rw [u32_and_nat _ _ a.isLt b.isLt, BitVec.toNat_and]
theorem toI_xor_byte (a : BitVec 32) {x : Int} (h0 : 0 ≤ x) (h1 : x ≤ 255) : bits .xor .u32 (toI a) x = toI (a ^^^ byteV x) := by
  rw [← toI_xor, byteV_toI h0 h1]
theorem toI_half (a : BitVec 32) : toI a / (2 : Int) = toI (a >>> 1) := by
  unfold toI; rw [BitVec.toNat_ushiftRight, Nat.shiftRight_eq_div_pow]; omega
/-- One round of the program. -/
def rnd (v : BitVec 32) : BitVec 32 := if v &&& 1#32 = 1#32 then (v >>> 1) ^^^ 0xedb88320#32 else v >>> 1
def rnds : Nat → BitVec 32 → BitVec 32
  | 0, v => v
  | n + 1, v => rnds n (rnd v)
def crcByte (v : BitVec 32) (x : Int) : BitVec 32 := rnds 8 (v ^^^ byteV x)
def crcL (v : BitVec 32) (xs : List Int) : BitVec 32 := xs.foldl crcByte v
/-- The checksum. -/
def crc (xs : List Int) : Int := toI (~~~ crcL 0xffffffff#32 xs)
theorem crc_range (xs : List Int) : 0 ≤ crc xs ∧ crc xs ≤ 4294967295 := toI_range _

theorem rnds_snoc (n : Nat) (v : BitVec 32) : rnds (n + 1) v = rnd (rnds n v) := by
  induction n generalizing v with
  | zero => rfl
  | succ n ih => rw [rnds, ih]; rfl
theorem crcL_take_succ {xs : List Int} {k : Nat} {x : Int} (v : BitVec 32) (h : xs[k]? = some x) : crcL v (xs.take (k + 1)) = crcByte (crcL v (xs.take k)) x := by
  unfold crcL
  rw [List.take_add_one, h]; simp

/-- Reading the rest backwards, as the reference's last loop does. -/
def back : Nat → BitVec 32 → BitVec 32 → BitVec 32 × BitVec 32
  | 0, o, r => (o, r)
  | n + 1, o, r => back n ((o <<< 1) ||| (r &&& 1#32)) (r >>> 1)
end Go.Proofs.Ytekhmfliaojabaa
namespace Go.Proofs.Ytekhmfliaojabaa
open Go.RowKit

/-- The number that bytes denote, the most significant one first. -/
def bigN (xs : List Int) : Int := xs.foldl (fun n x => n * 256 + x) 0
theorem bigN_fold {xs : List Int} (h : ∀ x ∈ xs, 0 ≤ x ∧ x ≤ 255) (a : Int) (ha : 0 ≤ a) : 0 ≤ xs.foldl (fun n x => n * 256 + x) a ∧ xs.foldl (fun n x => n * 256 + x) a < (a + 1) * 256 ^ xs.length := by
  induction xs generalizing a with
  | nil => simp; omega
  | cons x xs ih =>
    have hx := h x (List.mem_cons_self ..)
    have := ih (fun y hy => h y (List.mem_cons_of_mem _ hy)) (a * 256 + x) (by omega)
    refine ⟨this.1, Int.lt_of_lt_of_le this.2 ?_⟩
    rw [List.length_cons, Int.pow_succ, Int.mul_comm (256 ^ xs.length) 256, ← Int.mul_assoc]
    exact Int.mul_le_mul_of_nonneg_right (by omega) (Int.pow_nonneg (by omega))
theorem bigN_range {xs : List Int} (h : ∀ x ∈ xs, 0 ≤ x ∧ x ≤ 255) : 0 ≤ bigN xs ∧ bigN xs < 256 ^ xs.length := by
  have := bigN_fold h 0 (by omega)
  simpa [bigN] using this
theorem bigN_four (x0 x1 x2 x3 : Int) : bigN [x0, x1, x2, x3] = x0 * 16777216 + x1 * 65536 + x2 * 256 + x3 := by simp [bigN]; omega

theorem or32_add (i a b : Nat) (ha : a % 2 ^ i = 0) (hb : b < 2 ^ i) (hs : a + b < 4294967296) : bits .or .u32 (a : Int) (b : Int) = ((a + b : Nat) : Int) := by
  rw [u32_or_nat a b (by omega) (by omega), nat_join i a b ha hb]
theorem or_four {x0 x1 x2 x3 : Int} (h0 : 0 ≤ x0 ∧ x0 ≤ 255) (h1 : 0 ≤ x1 ∧ x1 ≤ 255) (h2 : 0 ≤ x2 ∧ x2 ≤ 255) (h3 : 0 ≤ x3 ∧ x3 ≤ 255) :
    bits .or .u32 (bits .or .u32 (bits .or .u32 (x0 * 16777216) (x1 * 65536)) (x2 * 256)) x3 = bigN [x0, x1, x2, x3] := by
  obtain ⟨a0, rfl⟩ := Int.eq_ofNat_of_zero_le h0.1
  obtain ⟨a1, rfl⟩ := Int.eq_ofNat_of_zero_le h1.1
  obtain ⟨a2, rfl⟩ := Int.eq_ofNat_of_zero_le h2.1
  obtain ⟨a3, rfl⟩ := Int.eq_ofNat_of_zero_le h3.1
  have e0 : ((a0 : Int) * 16777216) = ((a0 * 16777216 : Nat) : Int) := by simp
  have e1 : ((a1 : Int) * 65536) = ((a1 * 65536 : Nat) : Int) := by simp
  have e2 : ((a2 : Int) * 256) = ((a2 * 256 : Nat) : Int) := by simp
  rw [e0, e1, e2, or32_add 24 _ _ (by omega) (by omega) (by omega), or32_add 16 _ _ (by omega) (by omega) (by omega), or32_add 8 _ _ (by omega) (by omega) (by omega), bigN_four]
  omega

set_option maxHeartbeats 400000 in
theorem number32_at (b off n c : Nat) (x0 x1 x2 x3 : Int) (w : World) (hn : 4 ≤ n) (hb0 : 0 ≤ x0 ∧ x0 ≤ 255) (hb1 : 0 ≤ x1 ∧ x1 ≤ 255) (hb2 : 0 ≤ x2 ∧ x2 ≤ 255) (hb3 : 0 ≤ x3 ∧ x3 ≤ 255)
    (hc0 : w.cell? ⟨b, off, none⟩ = some (.int .u8 x0)) (hc1 : w.cell? ⟨b, off + 1, none⟩ = some (.int .u8 x1)) (hc2 : w.cell? ⟨b, off + 2, none⟩ = some (.int .u8 x2)) (hc3 : w.cell? ⟨b, off + 3, none⟩ = some (.int .u8 x3)) :
    Calls Try.prog 72 #[.slice (some ⟨b, off, none⟩) n c] w fun e w' => e = .returned (.int .u32 (bigN [x0, x1, x2, x3])) ∧ ∃ m, w' = w.drewN m := by
  have hor := Lib.hid (or_four hb0 hb1 hb2 hb3)
  obtain ⟨ha0, hb0⟩ := hb0
  obtain ⟨ha1, hb1⟩ := hb1
  obtain ⟨ha2, hb2⟩ := hb2
  obtain ⟨ha3, hb3⟩ := hb3
  have e0 : (0 : Int) < (n : Int) := by omega
  have e1 : (1 : Int) < (n : Int) := by omega
  have e2 : (2 : Int) < (n : Int) := by omega
  have e3 : (3 : Int) < (n : Int) := by omega
  go_enter Try.func72, Try.ntmps72
  go_wp2
  go_quiet (fail)
  go_wp2
  go_ret
  refine ⟨?_, nq, rfl⟩
  rw [← hor.out]
  rfl

theorem take_four {xs : List Int} (h : 4 ≤ xs.length) : ∃ x0 x1 x2 x3, xs[0]? = some x0 ∧ xs[1]? = some x1 ∧ xs[2]? = some x2 ∧ xs[3]? = some x3 ∧ xs.take 4 = [x0, x1, x2, x3] := by
  match xs, h with
  | x0 :: x1 :: x2 :: x3 :: xs, _ => exact ⟨x0, x1, x2, x3, rfl, rfl, rfl, rfl, rfl⟩

theorem number32_any (A : Option Addr) (n c : Nat) (xs : List Int) (w : World) (h : Ints .u8 w A n xs) (hn : 4 ≤ n) :
    Calls Try.prog 72 #[.slice A n c] w fun e w' => e = .returned (.int .u32 (bigN (xs.take 4))) ∧ ∃ m, w' = w.drewN m := by
  obtain ⟨x0, x1, x2, x3, h0, h1, h2, h3, ht⟩ := take_four (by rw [h.1]; exact hn)
  have hb : ∀ x ∈ xs, 0 ≤ x ∧ x ≤ 255 := fun x hx => u8_bounds (h.2.1 x hx)
  have ho := h.2.2 (by intro e; have := h.1; rw [List.map_eq_nil_iff] at e; subst e; simp at this; omega)
  obtain ⟨b, off, rfl, hc⟩ := ho
  rw [ht]
  have g : ∀ j x, xs[j]? = some x → w.cell? ⟨b, off + j, none⟩ = some (.int .u8 x) := fun j x hx => hc j _ (by rw [List.getElem?_map, hx]; rfl)
  exact number32_at b off n c x0 x1 x2 x3 w hn (hb _ (List.mem_of_getElem? h0)) (hb _ (List.mem_of_getElem? h1)) (hb _ (List.mem_of_getElem? h2)) (hb _ (List.mem_of_getElem? h3)) (g 0 _ h0) (g 1 _ h1) (g 2 _ h2) (g 3 _ h3)

end Go.Proofs.Ytekhmfliaojabaa
namespace Go.Proofs.Ytekhmfliaojabaa
open Go.RowKit

/-- A frame. -/
structure Fr where
  stream : Int
  seq : Int
  body : List Int
def fr0 : Fr := ⟨0, 0, []⟩

def szN (xs : List Int) : Nat := (xs.getD 6 0 * 256 + xs.getD 7 0).toNat
/-- What Unpack returns: the frame, the number of bytes, the error. -/
def unp (xs : List Int) : Fr × Int × Int :=
  if xs.length = 0 then (fr0, 0, 21)
  else if xs.getD 0 0 ≠ 165 then (fr0, 0, 22)
  else if xs.length < 8 then (fr0, 0, 21)
  else if 1024 < szN xs then (fr0, 0, 23)
  else if xs.length < 12 + szN xs then (fr0, 0, 21)
  else if bigN ((xs.drop (8 + szN xs)).take 4) ≠ crc (xs.take (8 + szN xs)) then (fr0, 0, 24)
  else (⟨xs.getD 1 0, bigN ((xs.drop 2).take 4), (xs.take (8 + szN xs)).drop 8⟩, 12 + (szN xs : Int), 0)

section
variable {xs : List Int}
theorem unp_none (h : xs.length = 0) : unp xs = (fr0, 0, 21) := by simp [unp, h]
theorem unp_mark (h : xs.length ≠ 0) (h1 : xs.getD 0 0 ≠ 165) : unp xs = (fr0, 0, 22) := by unfold unp; rw [if_neg h, if_pos h1]
theorem unp_short (h : xs.length ≠ 0) (h1 : xs.getD 0 0 = 165) (h2 : xs.length < 8) : unp xs = (fr0, 0, 21) := by
  unfold unp; rw [if_neg h, if_neg (by omega), if_pos h2]
theorem unp_long (h1 : xs.getD 0 0 = 165) (h2 : 8 ≤ xs.length) (h3 : 1024 < szN xs) : unp xs = (fr0, 0, 23) := by
  unfold unp; rw [if_neg (by omega), if_neg (by omega), if_neg (by omega), if_pos h3]
theorem unp_cut (h1 : xs.getD 0 0 = 165) (h2 : 8 ≤ xs.length) (h3 : szN xs ≤ 1024) (h4 : xs.length < 12 + szN xs) : unp xs = (fr0, 0, 21) := by
  unfold unp; rw [if_neg (by omega), if_neg (by omega), if_neg (by omega), if_neg (by omega), if_pos h4]
theorem unp_sum (h1 : xs.getD 0 0 = 165) (h3 : szN xs ≤ 1024) (h4 : 12 + szN xs ≤ xs.length) (h5 : bigN ((xs.drop (8 + szN xs)).take 4) ≠ crc (xs.take (8 + szN xs))) : unp xs = (fr0, 0, 24) := by
  unfold unp; rw [if_neg (by omega), if_neg (by omega), if_neg (by omega), if_neg (by omega), if_neg (by omega), if_pos h5]
theorem unp_ok (h1 : xs.getD 0 0 = 165) (h3 : szN xs ≤ 1024) (h4 : 12 + szN xs ≤ xs.length) (h5 : bigN ((xs.drop (8 + szN xs)).take 4) = crc (xs.take (8 + szN xs))) :
    unp xs = (⟨xs.getD 1 0, bigN ((xs.drop 2).take 4), (xs.take (8 + szN xs)).drop 8⟩, 12 + (szN xs : Int), 0) := by
  unfold unp; rw [if_neg (by omega), if_neg (by omega), if_neg (by omega), if_neg (by omega), if_neg (by omega), if_neg (by omega)]
end

/-- What Unpack leaves: the frame as a value, its bytes in memory of the call's own. -/
def RetF (w : World) (r : Fr × Int × Int) (e : Ending) (w' : World) : Prop :=
  ∃ A n c, e = .returned (.tuple #[.agg #[.int .i64 r.1.stream, .int .i64 r.1.seq, .slice A n c], .int .i64 r.2.1, .int .i64 r.2.2]) ∧ OwnS .u8 5 w.heap.size w' A n c r.1.body ∧ Ext w w'
theorem RetF.bad {w w' : World} {r : Fr × Int × Int} {er : Int} {e : Ending} (h : r = (fr0, 0, er)) (he : e = .returned (.tuple #[.agg #[.int .i64 0, .int .i64 0, .slice none 0 0], .int .i64 0, .int .i64 er])) (hx : Ext w w') : RetF w r e w' := by
  subst h
  exact ⟨none, 0, 0, he, ⟨World.ownsRow_nil _ _ _ _, rfl, by simp [fr0]⟩, hx⟩

theorem or_size {x y : Int} (hx : 0 ≤ x ∧ x ≤ 255) (hy : 0 ≤ y ∧ y ≤ 255) : bits .or .i64 (x * 256) y = x * 256 + y := by
  obtain ⟨a, rfl⟩ := Int.eq_ofNat_of_zero_le hx.1
  obtain ⟨b, rfl⟩ := Int.eq_ofNat_of_zero_le hy.1
  have e0 : ((a : Int) * 256) = ((a * 256 : Nat) : Int) := by simp
  rw [e0]
  show IntKind.i64.wrap ((BitVec.ofInt 64 ((a * 256 : Nat) : Int) ||| BitVec.ofInt 64 (b : Int)).toNat : Int) = _
  have q : ∀ k : Nat, k < 65536 → (BitVec.ofInt 64 (k : Int)).toNat = k := fun k hk => by
    rw [BitVec.ofInt_natCast, BitVec.toNat_ofNat]; exact Nat.mod_eq_of_lt (by omega)
  rw [BitVec.toNat_or, q _ (by omega), q _ (by omega), nat_join 8 (a * 256) b (by omega) (by omega), IntWalk.i64_in _ (by omega)]
  omega
end Go.Proofs.Ytekhmfliaojabaa
namespace Go.Proofs.Ytekhmfliaojabaa
open Go.RowKit

/-- Four bytes, the most significant one first. -/
def big4 (n : Int) : List Int := [n / 16777216, n / 65536 % 256, n / 256 % 256, n % 256]
theorem big4_bigN {n : Int} (h0 : 0 ≤ n) (_h1 : n ≤ 4294967295) : bigN (big4 n) = n := by
  unfold big4; rw [bigN_four]; omega
theorem big4_byte {n : Int} (h0 : 0 ≤ n) (h1 : n ≤ 4294967295) : ∀ x ∈ big4 n, 0 ≤ x ∧ x ≤ 255 := by
  intro x hx
  simp [big4] at hx
  omega

def FrOk (f : Fr) : Prop := 0 ≤ f.stream ∧ f.stream ≤ 255 ∧ 0 ≤ f.seq ∧ f.seq ≤ 4294967295 ∧ f.body.length ≤ 1024
instance (f : Fr) : Decidable (FrOk f) := inferInstanceAs (Decidable (_ ∧ _))

def heads (f : Fr) : List Int := [165, f.stream] ++ big4 f.seq ++ [(f.body.length : Int) / 256, (f.body.length : Int) % 256] ++ f.body
/-- The encoding of a frame. -/
def pck (f : Fr) : List Int := heads f ++ big4 (crc (heads f))

theorem heads_len (f : Fr) : (heads f).length = 8 + f.body.length := by simp [heads, big4]; omega
theorem pck_len (f : Fr) : (pck f).length = 12 + f.body.length := by simp [pck, heads_len, big4]; omega
theorem heads_byte {f : Fr} (h : FrOk f) (hb : ∀ x ∈ f.body, 0 ≤ x ∧ x ≤ 255) : ∀ x ∈ heads f, 0 ≤ x ∧ x ≤ 255 := by
  obtain ⟨h1, h2, h3, h4, h5⟩ := h
  intro x hx
  simp only [heads, List.mem_append, List.mem_cons, List.not_mem_nil, or_false] at hx
  rcases hx with (((rfl | rfl) | hx) | (rfl | rfl)) | hx
  · omega
  · omega
  · exact big4_byte h3 h4 x hx
  · omega
  · omega
  · exact hb x hx
theorem pck_byte {f : Fr} (h : FrOk f) (hb : ∀ x ∈ f.body, 0 ≤ x ∧ x ≤ 255) : ∀ x ∈ pck f, 0 ≤ x ∧ x ≤ 255 := by
  intro x hx
  rcases List.mem_append.1 hx with hx | hx
  · exact heads_byte h hb x hx
  · exact big4_byte (crc_range _).1 (crc_range _).2 x hx

theorem szN_heads {f : Fr} (ys : List Int) (h : f.body.length ≤ 1024) : szN (heads f ++ ys) = f.body.length := by
  simp [szN, heads, big4]; omega

/-- Reading an encoding, with bytes of any kind behind it, gives the frame back. -/
theorem unp_pck {f : Fr} (h : FrOk f) (ys : List Int) : unp (pck f ++ ys) = (f, 12 + (f.body.length : Int), 0) := by
  obtain ⟨h1, h2, h3, h4, h5⟩ := h
  have hs : szN (pck f ++ ys) = f.body.length := by unfold pck; rw [List.append_assoc]; exact szN_heads _ h5
  have hl : (pck f ++ ys).length = 12 + f.body.length + ys.length := by rw [List.length_append, pck_len]
  have ht : (pck f ++ ys).take (8 + f.body.length) = heads f := by
    unfold pck; rw [List.append_assoc]; exact List.take_left' (heads_len f)
  have hd : (pck f ++ ys).drop (8 + f.body.length) = big4 (crc (heads f)) ++ ys := by
    unfold pck; rw [List.append_assoc]; exact List.drop_left' (heads_len f)
  have h0 : (pck f ++ ys).getD 0 0 = 165 := by simp [pck, heads, big4]
  have hst : (pck f ++ ys).getD 1 0 = f.stream := by simp [pck, heads, big4]
  have hq : bigN (((pck f ++ ys).drop 2).take 4) = f.seq := by
    have e : ((pck f ++ ys).drop 2).take 4 = big4 f.seq := by simp [pck, heads, big4]
    rw [e, big4_bigN h3 h4]
  rw [unp_ok h0 (by rw [hs]; exact h5) (by rw [hs, hl]; omega) ?_, hs, hst, hq, ht]
  · have : (heads f).drop 8 = f.body := by simp [heads, big4]
    rw [this]
  · rw [hs, ht, hd]
    have e : (big4 (crc (heads f)) ++ ys).take 4 = big4 (crc (heads f)) := by simp [big4]
    rw [e, big4_bigN (crc_range _).1 (crc_range _).2]

end Go.Proofs.Ytekhmfliaojabaa
namespace Go.Proofs.Ytekhmfliaojabaa
open Go.RowKit

/-- What a reading without an error says of the bytes. -/
theorem unp_good {xs : List Int} (h : (unp xs).2.2 = 0) : szN xs ≤ 1024 ∧ 12 + szN xs ≤ xs.length ∧ bigN ((xs.drop (8 + szN xs)).take 4) = crc (xs.take (8 + szN xs)) ∧ (unp xs).1.body = (xs.take (8 + szN xs)).drop 8 := by
  by_cases h0 : xs.length = 0
  · rw [unp_none h0] at h; simp at h
  by_cases h1 : xs.getD 0 0 = 165
  · by_cases h2 : xs.length < 8
    · rw [unp_short h0 h1 h2] at h; simp at h
    · by_cases h3 : 1024 < szN xs
      · rw [unp_long h1 (by omega) h3] at h; simp at h
      · by_cases h4 : xs.length < 12 + szN xs
        · rw [unp_cut h1 (by omega) (by omega) h4] at h; simp at h
        · by_cases h5 : bigN ((xs.drop (8 + szN xs)).take 4) = crc (xs.take (8 + szN xs))
          · rw [unp_ok h1 (by omega) (by omega) h5]
            exact ⟨by omega, by omega, h5, rfl⟩
          · rw [unp_sum h1 (by omega) (by omega) h5] at h; simp at h
  · rw [unp_mark h0 h1] at h; simp at h

end Go.Proofs.Ytekhmfliaojabaa
