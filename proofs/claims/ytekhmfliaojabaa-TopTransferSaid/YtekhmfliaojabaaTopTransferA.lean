/- Lemmas of the proof that follows (TopTransfer, part 1): walks of functions by contract, and plain lemmas. Conditions: none. -/
import Derived.WalkKit
import Derived.WalkSpells
import Derived.WalkLawsBesides
import Derived.ProofKit
import Derived.OpenShut
import Derived.ShutString
import Derived.ChangeOld
import Derived.Lib.Hide
import Derived.Maps.AppendAt
import Derived.Laws.CopyOwn
import Derived.Deep.Draws
import Derived.Maps.RangeWalk
import Derived.Deep.LoopGhost
import Derived.Deep.DeepCutAuto
import Derived.Deep.QuietTactic
import Derived.BigQuiet
import Derived.StillTailTactics
import Derived.Test.YtekhmfliaojabaaRows
import Derived.Deep.RegionHeld3
import Derived.Deep.Slices
import Derived.Deep.Strs
import Derived.Laws.BitsAllLaws
import Derived.Test.YtekhmfliaojabaaChecked
import Derived.StillTail
import Derived.Lib.SmallJoins
import Derived.Deep.CutBlock
import Derived.Lib.Bytes
namespace Go.Proofs.Ytekhmfliaojabaa
open Go.RowKit

/-- 'w'' has every block of 'w' as it was, and perhaps more. -/
def Ext (w w' : World) : Prop := Below w.heap.size w w'

theorem Ext.refl (w : World) : Ext w w := Below.refl _ _
theorem Ext.size {a b : World} (h : Ext a b) : a.heap.size ≤ b.heap.size := Below.size h
theorem Ext.trans {a b c : World} (h : Ext a b) (k : Ext b c) : Ext a c := Below.trans h (Below.mono k h.size)
theorem Ext.drew {a b : World} (h : Ext a b) : Ext a b.drew := Below.drew h
theorem Ext.drewN {a b : World} (h : Ext a b) (n : Nat) : Ext a (b.drewN n) := ⟨h.os, h.tape, h.output, h.size, h.block⟩
theorem Ext.alloc {a b : World} (h : Ext a b) (o : Obj) : Ext a (b.alloc o) := Below.alloc h h.size o
theorem Ext.setCell {a b : World} (h : Ext a b) {p : Addr} (hp : a.heap.size ≤ p.block) (u : Value) : Ext a (b.setCell p u) := Below.setCell h hp u
theorem Ext.grown {a b c : World} {row : Option Nat} (h : Ext a b) (hg : b.grownBy c row) (hr : ∀ k, row = some k → a.heap.size ≤ k) : Ext a c := Below.grown h hg h.size hr
theorem Ext.cell {a b : World} (h : Ext a b) {p : Addr} {v : Value} (hc : a.cell? p = some v) : b.cell? p = some v :=
  (Below.cell h (World.block_lt_of_cell? a p hc)).trans hc
theorem Ext.of_grown {a b : World} (h : a.grownBy b none) : Ext a b := ⟨h.os, h.tape, h.output, h.size, fun k hk => h.block k hk (by simp)⟩
theorem Ext.row {a b : World} (h : Ext a b) (row : Option Nat) : a.grownBy b row := ⟨h.os, h.tape, h.output, h.size, fun k hk _ => h.block k hk⟩

/-- The address 'A' leads to the cells 'vs' (no matter where, if there are none). -/
def At (w : World) (A : Option Addr) (vs : List Value) : Prop :=
  vs ≠ [] → ∃ b off, A = some ⟨b, off, none⟩ ∧ ∀ j v, vs[j]? = some v → w.cell? ⟨b, off + j, none⟩ = some v

section
variable {w w' : World} {A : Option Addr} {vs : List Value}
theorem At.nil : At w A [] := fun h => absurd rfl h
theorem At.ext (h : At w A vs) (he : Ext w w') : At w' A vs := fun hn => by
  obtain ⟨b, off, hA, hc⟩ := h hn
  exact ⟨b, off, hA, fun j v hv => he.cell (hc j v hv)⟩
theorem At.get (h : At w A vs) {j : Nat} (hj : j < vs.length) : ∃ b off v, A = some ⟨b, off, none⟩ ∧ vs[j]? = some v ∧ w.cell? ⟨b, off + j, none⟩ = some v := by
  obtain ⟨b, off, hA, hc⟩ := h (by intro e; subst e; simp at hj)
  exact ⟨b, off, vs[j], hA, List.getElem?_eq_getElem hj, hc j _ (List.getElem?_eq_getElem hj)⟩
theorem At.take (h : At w A vs) (k : Nat) : At w A (vs.take k) := fun hn => by
  obtain ⟨b, off, hA, hc⟩ := h (by intro e; subst e; simp at hn)
  refine ⟨b, off, hA, fun j v hv => hc j v ?_⟩
  rw [List.getElem?_take] at hv
  split at hv
  · exact hv
  · cases hv
theorem At.drop (h : At w A vs) (k : Nat) {A' : Option Addr} (hA' : k < vs.length → ∀ b off, A = some ⟨b, off, none⟩ → A' = some ⟨b, off + k, none⟩) : At w A' (vs.drop k) := fun hn => by
  have hk : k < vs.length := by
    rcases Nat.lt_or_ge k vs.length with h1 | h1
    · exact h1
    · exact absurd (List.drop_eq_nil_of_le h1) hn
  obtain ⟨b, off, hA, hc⟩ := h (by intro e; subst e; simp at hk)
  refine ⟨b, off + k, hA' hk b off hA, fun j v hv => ?_⟩
  rw [Nat.add_assoc]
  exact hc _ v (by rw [← hv, List.getElem?_drop])
theorem At.add (h : At w A vs) : ∀ ad, A = some ad → ∀ j u, vs[j]? = some u → w.cell? (ad.add j) = some u := by
  intro ad hA j u hu
  obtain ⟨b, off, hA', hc⟩ := h (by intro e; subst e; simp at hu)
  rw [hA] at hA'
  injection hA' with hA'
  subst hA'
  rw [Addr.add_lit]
  exact hc j u hu
theorem At.of_own {base : Nat} {e : TypeId} {size n c : Nat} (h : w.ownsRow base e size (.slice A n c) n vs) : At w A vs := fun hn => by
  rcases h.2 with ⟨hv, h0⟩ | ⟨g, cap, cur, hv, _, hg, _⟩
  · subst h0
    exact absurd (List.eq_nil_of_length_eq_zero (by simpa using h.1)) hn
  · have hA : A = some ⟨g, 0, none⟩ := by injection hv
    subst hA
    refine ⟨g, 0, rfl, fun j v hj => ?_⟩
    have := h.cells (g := g) rfl j v hj
    rwa [Addr.add_lit] at this
end

theorem At.new (w : World) (vs : List Value) (t : TypeId) : At (w.alloc (.cells vs.toArray t)) (some ⟨w.heap.size, 0, none⟩) vs := fun _ =>
  ⟨w.heap.size, 0, rfl, fun j v hv => by
    rw [cell_of_row _ w.heap.size (0 + j) vs.toArray t (0, 0) (heap_alloc_new w _)]
    simpa using hv⟩

theorem own_slice {w : World} {base : Nat} {e : TypeId} {size n : Nat} {v : Value} {vs : List Value} (h : w.ownsRow base e size v n vs) : ∃ A c, v = .slice A n c := by
  rcases h.2 with ⟨rfl, rfl⟩ | ⟨g, cap, cur, rfl, _⟩
  · exact ⟨_, _, rfl⟩
  · exact ⟨_, _, rfl⟩

/-- Behind an append onto a row of the call's own, whose source was made just ahead of it. -/
theorem Ext.push {w wr w1 : World} {o : Obj} {e : TypeId} {size n : Nat} {v : Value} {vs : List Value} (h : Ext w wr) (hown : wr.ownsRow w.heap.size e size v n vs) (hg : (wr.alloc o).grownBy w1 v.ownBlock) : Ext w w1 :=
  (h.alloc o).grown hg fun k hk => (hown.lt k hk).1
theorem Ext.app {w wr w1 : World} {e : TypeId} {size n : Nat} {v : Value} {vs : List Value} (h : Ext w wr) (hown : wr.ownsRow w.heap.size e size v n vs) (hg : wr.grownBy w1 v.ownBlock) : Ext w w1 :=
  h.grown hg fun k hk => (hown.lt k hk).1

/-- A callee's contract inside a region that reads alone. -/
theorem quiet_left {P : Program} {f : FuncId} {args : Array Value} {w : World} {n : Nat} {v : Value}
    (h : Calls P f args (w.drewN n) fun e w' => e = .returned v ∧ w.drewN n = w') : Calls P f args (w.drewN n) fun e w'' => e = .returned v ∧ ∃ m, w'' = w.drewN m :=
  h.mono fun _ _ ⟨he, hm⟩ => ⟨he, n, hm.symm⟩

/-- A slice of integers of kind 'k' with 'n' elements reads as 'xs'. -/
def Ints (k : IntKind) (w : World) (A : Option Addr) (n : Nat) (xs : List Int) : Prop :=
  xs.length = n ∧ (∀ x ∈ xs, (Lit.int k x).wf = true) ∧ At w A (xs.map (Value.int k))

section
variable {w w' : World} {A : Option Addr} {n : Nat} {xs : List Int} {k : IntKind}
theorem Ints.ext (h : Ints k w A n xs) (he : Ext w w') : Ints k w' A n xs := ⟨h.1, h.2.1, h.2.2.ext he⟩
theorem Ints.nil : Ints k w A 0 [] := ⟨rfl, by simp, At.nil⟩
theorem Ints.get (h : Ints k w A n xs) {j : Nat} (hj : j < n) : ∃ b off x, A = some ⟨b, off, none⟩ ∧ xs[j]? = some x ∧ (Lit.int k x).wf = true ∧ w.cell? ⟨b, off + j, none⟩ = some (.int k x) := by
  have hj' : j < xs.length := by rw [h.1]; exact hj
  obtain ⟨b, off, v, hA, hv, hc⟩ := h.2.2.get (j := j) (by simpa using hj')
  rw [List.getElem?_map, List.getElem?_eq_getElem hj'] at hv
  simp only [Option.map_some, Option.some.injEq] at hv
  subst hv
  exact ⟨b, off, xs[j], hA, List.getElem?_eq_getElem hj', h.2.1 _ (List.getElem_mem hj'), hc⟩
theorem u8_bounds {x : Int} (h : (Lit.int .u8 x).wf = true) : 0 ≤ x ∧ x ≤ 255 := by
  simp [Lit.wf, IntKind.min, IntKind.max, IntKind.bits, IntKind.signed] at h; omega
theorem i64_bounds {x : Int} (h : (Lit.int .i64 x).wf = true) : -9223372036854775808 ≤ x ∧ x ≤ 9223372036854775807 := by
  simp [Lit.wf, IntKind.min, IntKind.max, IntKind.bits, IntKind.signed] at h; omega
theorem Ints.take (h : Ints k w A n xs) {m : Nat} (hm : m ≤ n) : Ints k w A m (xs.take m) :=
  ⟨by rw [List.length_take, h.1]; omega, fun x hx => h.2.1 x (List.mem_of_mem_take hx), by rw [List.map_take]; exact h.2.2.take m⟩
theorem Ints.drop (h : Ints k w A n xs) (m : Nat) {A' : Option Addr} (hA' : m < n → ∀ b off, A = some ⟨b, off, none⟩ → A' = some ⟨b, off + m, none⟩) : Ints k w A' (n - m) (xs.drop m) :=
  ⟨by rw [List.length_drop, h.1], fun x hx => h.2.1 x (List.mem_of_mem_drop hx), by rw [List.map_drop]; exact h.2.2.drop m (by simpa [h.1] using hA')⟩
end

theorem World.ownsRow.ext' {w w' : World} {base : Nat} {e : TypeId} {size n : Nat} {v : Value} {vs : List Value} (h : w.ownsRow base e size v n vs) (he : Ext w w') : w'.ownsRow base e size v n vs :=
  h.kept (he.row none) (by cases hv : v.ownBlock <;> simp)
theorem World.ownsRow.mono' {w : World} {base base' : Nat} {e : TypeId} {size n : Nat} {v : Value} {vs : List Value} (h : w.ownsRow base e size v n vs) (hb : base' ≤ base) : w.ownsRow base' e size v n vs := by
  refine ⟨h.1, ?_⟩
  rcases h.2 with hn | ⟨g, cap, cur, hv, hg, rest⟩
  · exact .inl hn
  · exact .inr ⟨g, cap, cur, hv, by omega, rest⟩

/-- A slice of integers in memory from block 'base' on, with a row of its own, which reads as 'xs'. -/
structure OwnS (k : IntKind) (e : TypeId) (base : Nat) (w : World) (A : Option Addr) (n c : Nat) (xs : List Int) : Prop where
  own : w.ownsRow base e 1 (.slice A n c) n (xs.map (Value.int k))
  len : xs.length = n
  wf : ∀ x ∈ xs, (Lit.int k x).wf = true
section
variable {k : IntKind} {e : TypeId} {base : Nat} {w w' : World} {A : Option Addr} {n c : Nat} {xs : List Int}
theorem OwnS.ints (h : OwnS k e base w A n c xs) : Ints k w A n xs := ⟨h.len, h.wf, At.of_own h.own⟩
theorem OwnS.ext (h : OwnS k e base w A n c xs) (he : Ext w w') : OwnS k e base w' A n c xs := ⟨World.ownsRow.ext' h.own he, h.len, h.wf⟩
theorem OwnS.mono {base' : Nat} (h : OwnS k e base w A n c xs) (hb : base' ≤ base) : OwnS k e base' w A n c xs := ⟨World.ownsRow.mono' h.own hb, h.len, h.wf⟩
theorem own_cap {e : TypeId} {size : Nat} {vs : List Value} (h : w.ownsRow base e size (.slice A n c) n vs) : n ≤ c ∧ c ≤ 9223372036854775807 := by
  rcases h.2 with ⟨hv, h0⟩ | ⟨g, cap, cur, hv, _, _, h1, h2, _⟩
  · injection hv with _ _ h3; omega
  · injection hv with _ _ h3
    subst h3
    unfold maxLen at h2
    exact ⟨h1, by omega⟩
theorem OwnS.cap (h : OwnS k e base w A n c xs) : n ≤ c ∧ c ≤ 9223372036854775807 := own_cap h.own
end

/-- A value that is a slice of integers, which reads as 'xs'. -/
def SlV (k : IntKind) (w : World) (v : Value) (xs : List Int) : Prop := ∃ A n c, v = .slice A n c ∧ Ints k w A n xs ∧ n ≤ c ∧ c ≤ 9223372036854775807
/-- A slice of slices of integers reads as 'xss'. -/
def Lists (k : IntKind) (w : World) (A : Option Addr) (n : Nat) (xss : List (List Int)) : Prop :=
  xss.length = n ∧ ∃ vs : List Value, vs.length = n ∧ At w A vs ∧ ∀ (j : Nat) v xs, vs[j]? = some v → xss[j]? = some xs → SlV k w v xs
section
variable {k : IntKind} {w w' : World} {A : Option Addr} {n : Nat} {xss : List (List Int)}
theorem SlV.ext {v : Value} {xs : List Int} (h : SlV k w v xs) (he : Ext w w') : SlV k w' v xs := by
  obtain ⟨A, n, c, hv, hi, h1, h2⟩ := h
  exact ⟨A, n, c, hv, hi.ext he, h1, h2⟩
theorem Lists.ext (h : Lists k w A n xss) (he : Ext w w') : Lists k w' A n xss := by
  obtain ⟨hl, vs, h1, h2, h3⟩ := h
  exact ⟨hl, vs, h1, h2.ext he, fun j v xs a b => (h3 j v xs a b).ext he⟩
theorem Lists.get (h : Lists k w A n xss) {j : Nat} (hj : j < n) : ∃ b off A' n' c' xs, A = some ⟨b, off, none⟩ ∧ xss[j]? = some xs ∧ w.cell? ⟨b, off + j, none⟩ = some (.slice A' n' c') ∧ Ints k w A' n' xs ∧ n' ≤ c' ∧ c' ≤ 9223372036854775807 := by
  obtain ⟨hl, vs, h1, h2, h3⟩ := h
  obtain ⟨b, off, v, hA, hv, hc⟩ := h2.get (j := j) (by omega)
  have hx : xss[j]? = some xss[j] := List.getElem?_eq_getElem (by omega)
  obtain ⟨A', n', c', rfl, hi, h4, h5⟩ := h3 j v _ hv hx
  exact ⟨b, off, A', n', c', _, hA, hx, hc, hi, h4, h5⟩
theorem Lists.one {xs : List Int} {v : Value} (hat : At w A [v]) (h : SlV k w v xs) : Lists k w A 1 [xs] :=
  ⟨rfl, [v], rfl, hat, fun j u ys hu hy => by
    match j with
    | 0 => simp at hu hy; subst hu hy; exact h
    | j + 1 => simp at hu⟩
end

theorem flatten_take_succ {α : Type} {xss : List (List α)} {k : Nat} {xs : List α} (h : xss[k]? = some xs) : (xss.take (k + 1)).flatten = (xss.take k).flatten ++ xs := by
  rw [List.take_add_one, h]; simp
theorem flatten_take_le {α : Type} (xss : List (List α)) (k : Nat) : (xss.take k).flatten.length ≤ xss.flatten.length := by
  have h : xss.flatten = (xss.take k).flatten ++ (xss.drop k).flatten := by rw [← List.flatten_append, List.take_append_drop]
  rw [h, List.length_append]; omega

/-- The element type 'e' of the slice type 't': one value of 'size' cells and 'bytes' bytes, whose zero is 'z'. -/
structure Elem (P : Program) (t e : TypeId) (size bytes : Nat) (z : Value) : Prop where
  und : P.underlying t = some (.slice e)
  info : ∃ i, P.info? e = some i ∧ i.zero = some z ∧ i.size = size ∧ i.bytes = bytes
  cells : z.cells.size = size
  pos : 0 < size

theorem Elem.mk' {P : Program} {t e : TypeId} {size bytes : Nat} {z : Value} (h1 : P.underlying t = some (.slice e))
    (h2 : (P.info? e).map (fun i => (i.zero, i.size, i.bytes)) = some (some z, size, bytes)) (h3 : z.cells.size = size) (h4 : 0 < size) : Elem P t e size bytes z :=
  ⟨h1, info_parts h2, h3, h4⟩

section
variable {P : Program}

theorem run_app (w : World) {t e : TypeId} {size bytes : Nat} {z : Value} (E : Elem P t e size bytes z) (ty : TypeId) (base : Nat)
    (v : Value) (n : Nat) (xs : List Value) (hown : w.ownsRow base e size v n xs)
    (A : Option Addr) (m c : Nat) (news : List Value) (hl : news.length = m * size) (hat : At w A news) (h1 : ∀ u ∈ news, u.oneCell' = true)
    (hbytes : (n + m) * bytes ≤ 140737488355328) (h63 : n + m ≤ maxLen) (hbase : base ≤ w.heap.size) :
    ∃ v' w', (Builtin.append_ #[t, t] ty #[v, .slice A m c]).run P w = .ok v' w' ∧ w'.ownsRow base e size v' (n + m) (xs ++ news) ∧ w.grownBy w' v.ownBlock ∧
      (v'.ownBlock = v.ownBlock ∨ v'.ownBlock = some w.heap.size) := by
  obtain ⟨i, hi, hz, hs, hb⟩ := E.info
  rcases A with _ | ad
  · have hn : news = [] := by
      rcases news with _ | ⟨u, us⟩
      · rfl
      · obtain ⟨b, off, hA, _⟩ := hat (by simp)
        cases hA
    subst hn
    have hm : m = 0 := by
      have h0 : m * size = 0 := by simpa using hl.symm
      rcases Nat.mul_eq_zero.1 h0 with h | h
      · exact h
      · have := E.pos; omega
    subst hm
    refine ⟨v, w, ?_, by simpa using hown, World.grownBy.refl w _, .inl rfl⟩
    rcases hown.2 with ⟨rfl, rfl⟩ | ⟨g, cap, cur, rfl, _, _, hnc, _⟩
    · simp [Builtin.append_, run_underlying E.und, sizeOf, typeInfo, hi, Builtin.lenOf, Builtin.firstCells]
    · simp [Builtin.append_, run_underlying E.und, sizeOf, typeInfo, hi, Builtin.lenOf, Builtin.firstCells, hnc, storeCells]
  · obtain ⟨v', w', hrun, h2, h3, _, h5⟩ := run_append_own_at (P := P) w base t ty e i z size bytes E.und hi hz hs hb E.cells E.pos v n xs hown ad m c news hl (hat.add ad rfl) h1 h63 hbytes hbase
    exact ⟨v', w', hrun, h2, h3, h5⟩

/-- 'append(s, x...)' onto a row of the call's own, whatever the source. -/
theorem wpList_app (w : World) {t e : TypeId} {size bytes : Nat} {z : Value} (E : Elem P t e size bytes z) {ops : Array Oper} {rest : List Oper} {o : Oper} {a : Act} {Q : Exit → Act → World → Prop}
    (hgd : o.guard = none) (s x : Operand) (ho : o.op = .call { callee := .builtin .append, args := #[s, x], argTypes := #[t, t] })
    (base : Nat) (v : Value) (n : Nat) (xs : List Value) (hs : a.eval s = v) (hown : w.ownsRow base e size v n xs)
    (A : Option Addr) (m c : Nat) (news : List Value) (hx : a.eval x = .slice A m c) (hl : news.length = m * size) (hat : At w A news) (h1 : ∀ u ∈ news, u.oneCell' = true)
    (hbytes : (n + m) * bytes ≤ 140737488355328) (h63 : n + m ≤ maxLen) (hbase : base ≤ w.heap.size)
    (h : ∀ v' w', w'.ownsRow base e size v' (n + m) (xs ++ news) → w.grownBy w' v.ownBlock → (v'.ownBlock = v.ownBlock ∨ v'.ownBlock = some w.heap.size) → wpList P ops Q rest (a.put o.dst v') w') :
    wpList P ops Q (o :: rest) a w :=
  wpList_plain hgd fun K hK => by
    obtain ⟨v', w', hrun, h2, h3, h4⟩ := run_app (P := P) w E o.type base v n xs hown A m c news hl hat h1 hbytes h63 hbase
    unfold Oper.wp execOp
    simp only [ho, resolve, invoke, builtin, Sem.run_bind, Sem.run_pure, Result.andThen_ok, List.map_toArray, List.map_cons, List.map_nil, hs, hx, hrun]
    exact hK _ _ (h v' w' h2 h3 h4)

/-- 'make([]T, n, c)', T of one cell. -/
theorem wpList_mk (w : World) {t e : TypeId} {bytes : Nat} {z : Value} (E : Elem P t e 1 bytes z) (hz1 : z.cells = #[z]) {ops : Array Oper} {rest : List Oper} {o : Oper} {a : Act} {Q : Exit → Act → World → Prop}
    (hgd : o.guard = none) (l c : Operand) (ho : o.op = .makeSlice t l c) (base : Nat) (kl kc : IntKind) (L C : Int) (n m : Nat) (hl : a.eval l = .int kl L) (hc : a.eval c = .int kc C)
    (hL : L = n) (hC : C = m) (hnm : n ≤ m) (hb : bytes * m ≤ 281474976710656) (hm : m ≤ maxLen) (hbase : base ≤ w.heap.size)
    (h : ∀ w', w'.ownsRow base e 1 (.slice (some ⟨w.heap.size, 0, none⟩) n m) n (List.replicate n z) → Ext w w' → w.heap.size < w'.heap.size → wpList P ops Q rest (a.put o.dst (.slice (some ⟨w.heap.size, 0, none⟩) n m)) w') :
    wpList P ops Q (o :: rest) a w :=
  wpList_plain hgd fun K hK => by
    obtain ⟨i, hi, hz, hs, hby⟩ := E.info
    subst hL hC hby
    have hbI : (i.bytes : Int) * (m : Int) ≤ 281474976710656 := by
      have h : ((i.bytes * m : Nat) : Int) ≤ 281474976710656 := by omega
      rwa [Int.natCast_mul] at h
    have hrun := run_make (P := P) w t e i z E.und hi hz kl kc n m (by omega) (by omega) hbI (by unfold maxLen at hm; omega)
    simp only [Int.toNat_natCast] at hrun
    rw [hs, Nat.mul_one, hz1] at hrun
    have hown : (w.alloc (.cells (madeCells #[z] m) e)).ownsRow base e 1 (.slice (some ⟨w.heap.size, 0, none⟩) n m) n (List.replicate n z) := by
      refine ⟨by simp, .inr ⟨w.heap.size, m, _, rfl, hbase, heap_alloc_new w _, hnm, hm, by rw [size_madeCells]; simp, ?_⟩⟩
      rw [toList_madeCells_one, Nat.mul_one, List.take_replicate, Nat.min_eq_left hnm]
    unfold Oper.wp
    simp [execOp, ho, hl, hc, hrun, Result.andThen]
    exact hK _ _ (h _ hown ((Ext.refl w).alloc _) (by simp))

/-- 'x[l:]' -/
theorem wpList_cutL (w : World) {t e : TypeId} {size bytes : Nat} {z : Value} (E : Elem P t e size bytes z) {ops : Array Oper} {rest : List Oper} {o : Oper} {a : Act} {Q : Exit → Act → World → Prop}
    (hgd : o.guard = none) (x lo : Operand) (ho : o.op = .slice t x (some lo) none none) (A : Option Addr) (n c : Nat) (hx : a.eval x = .slice A n c) (kl : IntKind) (L : Int) (l : Nat) (hl : a.eval lo = .int kl L) (hL : L = l) (hn : l ≤ n) (hc : n ≤ c)
    (h : ∀ A', (∀ w' vs, At w' A vs → vs.length = n * size → At w' A' (vs.drop (l * size))) → wpList P ops Q rest (a.put o.dst (.slice A' (n - l) (c - l))) w) :
    wpList P ops Q (o :: rest) a w :=
  wpList_plain hgd fun K hK => by
    subst hL
    obtain ⟨i, hi, hz, hs, hby⟩ := E.info
    have hrun : (Instr.sliceAt t (.slice A n c) (some (.int kl l)) none none).run P w = .ok (.slice (if c = l then A else A.map (·.add (l * size))) (n - l) (c - l)) w := by
      simp [Instr.sliceAt, Instr.slice, run_underlying E.und, Instr.sliceBounds, run_sliceBound, sizeOf, typeInfo, hi, hs, hn]
    unfold Oper.wp
    simp [execOp, ho, hx, hl, hrun, Result.andThen]
    refine hK _ _ (h _ fun w' vs hat hlen => ?_)
    refine hat.drop _ (fun hlt b off hA => ?_)
    rw [hlen] at hlt
    have : l < n := Nat.lt_of_mul_lt_mul_right hlt
    rw [if_neg (by omega), hA]
    simp [Addr.add_lit]

/-- 'string(b)' of a slice of bytes. -/
theorem run_str (w : World) {src e dst : TypeId} (hs : P.underlying src = some (.slice e)) (he : P.underlying e = some (.int .u8)) (hd : P.underlying dst = some .string) {A : Option Addr} {n c : Nat} {xs : List Int} (h : Ints .u8 w A n xs) :
    (convert src dst (.slice A n c)).run P w = .ok (.string (strOfNums xs)) w := by
  rcases xs with _ | ⟨x, xs⟩
  · have hn : n = 0 := by simpa using h.1.symm
    subst hn
    rcases A with _ | ad
    · rw [run_convert_bytes_nil w src e hs he 0 c dst hd]; rfl
    · have hl : (loadCells ad 0).run P w = .ok (([] : List Int).map (Value.int .u8)).toArray w := by simp [loadCells, loadCellsFrom]
      rw [run_convert_bytes_string w src dst e _ 0 c hs he hd, run_bytesToString w _ 0 c [] hl]
      rfl
  · obtain ⟨b, off, rfl, hc⟩ := h.2.2 (by simp)
    refine run_convert_bytes_arg w src e hs he b off n c (x :: xs) h.1 (fun i hi => ?_) dst hd
    have hi' : i < (x :: xs).length := by rw [h.1]; exact hi
    refine hc i _ ?_
    rw [List.getElem?_map, List.getElem?_eq_getElem hi']
    simp [List.getD, List.getElem?_eq_getElem hi']
end
end Go.Proofs.Ytekhmfliaojabaa
namespace Go.Proofs.Ytekhmfliaojabaa
open Go.ChangeShapes Go.WideShapes Go.ChangeAt Go.RowKit

theorem own : ownKnob Try.prog.godebug = none := by kernel_rfl
theorem laidOut : laidOutB Try.prog = true := by kernel_rfl

theorem ints_trod {P : Program} {W : World} {H : Type} {enc : TypeId × Value → H} {t e : TypeId} {k : IntKind} {a : Option Addr} {len cap fuel : Nat} {y : DataW H × List MemPlace} {b : Nat} {sp : Nat → Bool} {hd : Bool}
    (ht : P.underlying t = some (.slice e)) (he : P.underlying e = some (.int k)) (hc : P.cellsOf e = 1) (hf : DataW.trod enc P W b sp hd fuel t [.slice a len cap] = some y) :
    ∃ xs, Ints k W a len xs ∧ len ≤ cap ∧ cap ≤ 9223372036854775807 := by
  rcases open_ints ht he hc hf with ⟨hcs, _⟩ | ⟨x, l, c, zs, hcs, _, hl, hm, hz, _, hcell, hwz⟩
  · simp at hcs
    obtain ⟨rfl, rfl, rfl⟩ := hcs
    exact ⟨[], Ints.nil, by omega, by omega⟩
  · simp at hcs
    obtain ⟨rfl, rfl, rfl⟩ := hcs
    have hzl : len ≤ zs.length := by rw [hz]; split <;> omega
    refine ⟨zs.take len, ⟨by rw [List.length_take]; omega, fun x hx => hwz x (List.mem_of_mem_take hx), ?_⟩, hl, by unfold maxLen at hm; omega⟩
    intro hne
    have hpos : 0 < zs.length := by
      rcases zs with _ | ⟨z, zs⟩
      · simp at hne
      · simp
    have h0 := hcell 0 hpos
    obtain ⟨bb, off, spot⟩ := x
    have hspot : spot = none := by simpa [Addr.add] using World.cell?_spot h0
    subst hspot
    refine ⟨bb, off, rfl, fun j v hv => ?_⟩
    rw [List.getElem?_map, List.getElem?_take] at hv
    split at hv
    · have hj : j < zs.length := by omega
      have := hcell j hj
      rw [Addr.add_lit] at this
      rw [this]
      rw [List.getElem?_eq_getElem hj] at hv
      simp at hv
      simp [List.getD, List.getElem?_eq_getElem hj, hv]
    · simp at hv

end Go.Proofs.Ytekhmfliaojabaa
namespace Go.Proofs.Ytekhmfliaojabaa
open Go.RowKit

/-- Block 'g' is just the cells 'cs'; none is frozen. -/
def Blk (w : World) (g : Nat) (t : TypeId) (cs : Array Value) : Prop := w.heap[g]? = some (.cells cs t (0, 0))

section
variable {w w' : World} {g : Nat} {t : TypeId} {cs : Array Value}
theorem Blk.lt (h : Blk w g t cs) : g < w.heap.size := (Array.getElem?_eq_some_iff.1 h).1
theorem Blk.cell (h : Blk w g t cs) (i : Nat) : w.cell? ⟨g, i, none⟩ = cs[i]? := cell_of_row w g i cs t (0, 0) h
theorem Blk.free (h : Blk w g t cs) (i : Nat) : w.frozen? ⟨g, i, none⟩ = false := by
  unfold World.frozen?; rw [show w.heap[g]? = some (.cells cs t (0, 0)) from h]; simp
theorem Blk.new (w : World) (t : TypeId) (cs : Array Value) : Blk (w.alloc (.cells cs t)) w.heap.size t cs := heap_alloc_new w _
theorem Blk.ext (h : Blk w g t cs) (he : Ext w w') : Blk w' g t cs := (Below.block he g h.lt).trans h
theorem Blk.drewN (h : Blk w g t cs) (n : Nat) : Blk (w.drewN n) g t cs := h
theorem Blk.drew (h : Blk w g t cs) : Blk w.drew g t cs := h
theorem Blk.alloc (h : Blk w g t cs) (o : Obj) : Blk (w.alloc o) g t cs := (Below.heap_alloc w o g h.lt).trans h
theorem Blk.set (h : Blk w g t cs) (i : Nat) (u : Value) : Blk (w.setCell ⟨g, i, none⟩ u) g t (cs.setIfInBounds i u) := by
  unfold Blk at h ⊢
  simp [World.setCell, Array.getElem?_modify, h]
theorem Blk.far (h : Blk w g t cs) {p : Addr} (hp : g ≠ p.block) (u : Value) : Blk (w.setCell p u) g t cs := (Below.heap_setCell w p u g hp).trans h
theorem Blk.grown {row : Option Nat} (h : Blk w g t cs) (hb : w.grownBy w' row) (hg : some g ≠ row) : Blk w' g t cs := (hb.block g h.lt hg).trans h
end

theorem At.drew {w : World} {A : Option Addr} {vs : List Value} (h : At w A vs) : At w.drew A vs := h.ext (Ext.refl w).drew
theorem At.drewN {w : World} {A : Option Addr} {vs : List Value} (h : At w A vs) (n : Nat) : At (w.drewN n) A vs := h.ext ((Ext.refl w).drewN n)

/-- A struct of three fields, in a block of its own: its cells. -/
theorem Blk.three {w : World} {g : Nat} {t : TypeId} {a b c : Value} (h : Blk w g t #[a, b, c]) :
    w.cell? ⟨g, 0, none⟩ = some a ∧ w.cell? ⟨g, 1, none⟩ = some b ∧ w.cell? ⟨g, 2, none⟩ = some c ∧ w.frozen? ⟨g, 0, none⟩ = false ∧ w.frozen? ⟨g, 1, none⟩ = false ∧ w.frozen? ⟨g, 2, none⟩ = false :=
  ⟨h.cell 0, h.cell 1, h.cell 2, h.free 0, h.free 1, h.free 2⟩
end Go.Proofs.Ytekhmfliaojabaa
namespace Go.Proofs.Ytekhmfliaojabaa
open Go.RowKit

/-- The cells 'vs' are those of the elements 'xs', one behind the other. -/
def CsR {α : Type} (R : List Value → α → Prop) : List Value → List α → Prop
  | vs, [] => vs = []
  | vs, x :: xs => ∃ cs rest, vs = cs ++ rest ∧ R cs x ∧ CsR R rest xs
section
variable {α : Type} {R R' : List Value → α → Prop} {vs cs : List Value} {xs : List α} {x : α}
theorem CsR.imp (h : CsR R vs xs) (hi : ∀ cs x, R cs x → R' cs x) : CsR R' vs xs := by
  induction xs generalizing vs with
  | nil => exact h
  | cons y ys ih =>
    obtain ⟨cs, rest, h1, h2, h3⟩ := h
    exact ⟨cs, rest, h1, hi _ _ h2, ih h3⟩
theorem CsR.nil : CsR R [] [] := rfl
theorem CsR.snoc (h : CsR R vs xs) (hx : R cs x) : CsR R (vs ++ cs) (xs ++ [x]) := by
  induction xs generalizing vs with
  | nil =>
    obtain rfl : vs = [] := h
    exact ⟨cs, [], by simp, hx, rfl⟩
  | cons y ys ih =>
    obtain ⟨ds, rest, rfl, h2, h3⟩ := h
    exact ⟨ds, rest ++ cs, by simp, h2, ih h3⟩
theorem CsR.append {us : List Value} {ys : List α} (h : CsR R vs xs) (k : CsR R us ys) : CsR R (vs ++ us) (xs ++ ys) := by
  induction xs generalizing vs with
  | nil =>
    obtain rfl : vs = [] := h
    exact k
  | cons y zs ih =>
    obtain ⟨ds, rest, rfl, h2, h3⟩ := h
    exact ⟨ds, rest ++ us, by simp, h2, ih h3⟩
theorem CsR.len {k : Nat} (h : CsR R vs xs) (hk : ∀ cs x, R cs x → cs.length = k) : vs.length = xs.length * k := by
  induction xs generalizing vs with
  | nil => obtain rfl : vs = [] := h; simp
  | cons y ys ih =>
    obtain ⟨cs, rest, rfl, h2, h3⟩ := h
    rw [List.length_append, hk _ _ h2, ih h3, List.length_cons, Nat.succ_mul]; omega
theorem CsR.one (h : CsR R vs xs) (hk : ∀ cs x, R cs x → ∀ u ∈ cs, u.oneCell' = true) : ∀ u ∈ vs, u.oneCell' = true := by
  induction xs generalizing vs with
  | nil => obtain rfl : vs = [] := h; simp
  | cons y ys ih =>
    obtain ⟨cs, rest, rfl, h2, h3⟩ := h
    intro u hu
    rcases List.mem_append.1 hu with hu | hu
    · exact hk _ _ h2 u hu
    · exact ih h3 u hu
theorem CsR.get {k : Nat} (h : CsR R vs xs) (hk : ∀ cs x, R cs x → cs.length = k) {j : Nat} (hj : xs[j]? = some x) : ∃ cs, R cs x ∧ ∀ i u, cs[i]? = some u → vs[j * k + i]? = some u := by
  induction xs generalizing vs j with
  | nil => simp at hj
  | cons y ys ih =>
    obtain ⟨cs, rest, rfl, h2, h3⟩ := h
    cases j with
    | zero =>
      simp at hj
      subst hj
      refine ⟨cs, h2, fun i u hu => ?_⟩
      have hi := (List.getElem?_eq_some_iff.1 hu).1
      rw [Nat.zero_mul, Nat.zero_add, List.getElem?_append_left hi, hu]
    | succ j =>
      obtain ⟨ds, h4, h5⟩ := ih h3 (by simpa using hj)
      refine ⟨ds, h4, fun i u hu => ?_⟩
      have hl := hk _ _ h2
      rw [Nat.succ_mul, List.getElem?_append_right (by omega), ← h5 i u hu]
      congr 1; omega
end

theorem At.new' (w : World) (vs : List Value) (t : TypeId) {N : Nat} (h : w.heap.size = N) : At (w.alloc (.cells vs.toArray t)) (some ⟨N, 0, none⟩) vs := by
  subst h; exact At.new w vs t

/-- Two rows of different element types never share a block. -/
theorem own_ne {w : World} {base base' : Nat} {e e' : TypeId} {size size' n n' : Nat} {v v' : Value} {vs vs' : List Value} (h : w.ownsRow base e size v n vs) (h' : w.ownsRow base' e' size' v' n' vs') (hne : e ≠ e') : v.ownBlock = none ∨ v.ownBlock ≠ v'.ownBlock := by
  rcases h.2 with ⟨rfl, _⟩ | ⟨g, cap, cur, rfl, _, hg, _⟩
  · exact .inl rfl
  · right
    rcases h'.2 with ⟨rfl, _⟩ | ⟨g', cap', cur', rfl, _, hg', _⟩
    · simp [Value.ownBlock]
    · intro he
      simp [Value.ownBlock] at he
      subst he
      rw [hg] at hg'
      injection hg' with hg'
      injection hg' with _ h3
      exact hne h3
theorem OwnS.kept {k : IntKind} {e e' : TypeId} {base base' size' n n' c : Nat} {w w' : World} {A : Option Addr} {xs : List Int} {v' : Value} {vs' : List Value} (h : OwnS k e base w A n c xs) (h' : w.ownsRow base' e' size' v' n' vs') (hne : e ≠ e') (hg : w.grownBy w' v'.ownBlock) : OwnS k e base w' A n c xs :=
  ⟨h.own.kept hg (own_ne h.own h' hne), h.len, h.wf⟩
end Go.Proofs.Ytekhmfliaojabaa
namespace Go.Proofs.Ytekhmfliaojabaa
open Go.ChangeShapes Go.WideShapes Go.ChangeAt Go.RowKit Go.Deep

theorem slice_trod {α : Type} {R : List Value → α → Prop} {P : Program} {W : World} {H : Type} {enc : TypeId × Value → H} {t e : TypeId} {a : Option Addr} {len cap fuel k : Nat} {y : DataW H × List MemPlace} {b : Nat} {sp : Nat → Bool} {hd : Bool}
    (ht : P.underlying t = some (.slice e)) (hk : P.cellsOf e = k) (hR : ∀ cs x, R cs x → cs.length = k) (hel : ∀ fuel cs z, cs.length = k → DataW.trod enc P W b sp hd fuel e cs = some z → ∃ x, R cs x)
    (hf : DataW.trod enc P W b sp hd fuel t [.slice a len cap] = some y) :
    ∃ (xs : List α) (vs : List Value), xs.length = len ∧ CsR R vs xs ∧ At W a vs ∧ len ≤ cap ∧ cap ≤ 9223372036854775807 := by
  rcases open_slice ht hf with ⟨hcs, _⟩ | ⟨ad, l, c, m, n, D, Pl, hcs, _, hl, hm, hmm, _, hx⟩
  · simp at hcs
    obtain ⟨rfl, rfl, rfl⟩ := hcs
    exact ⟨[], [], rfl, rfl, At.nil, by omega, by omega⟩
  · simp at hcs
    obtain ⟨rfl, rfl, rfl⟩ := hcs
    rw [hk] at hx
    have hlm : len ≤ m := by rw [hmm]; split <;> omega
    have key : ∀ j, j ≤ len → ∃ (xs : List α) (vs : List Value), xs.length = j ∧ CsR R vs xs ∧ ∀ i u, vs[i]? = some u → W.cell? (ad.add i) = some u := by
      intro j
      induction j with
      | zero => intro _; exact ⟨[], [], rfl, rfl, by simp⟩
      | succ j ih =>
        intro hj
        obtain ⟨xs, vs, h1, h2, h3⟩ := ih (by omega)
        obtain ⟨cs, h4, h5⟩ := hx j (by omega)
        obtain ⟨_, h7, h8⟩ := World.cells?_some h4
        obtain ⟨x, h6⟩ := hel _ _ _ h7 h5
        refine ⟨xs ++ [x], vs ++ cs, by simp [h1], h2.snoc h6, fun i u hu => ?_⟩
        have hvl := h2.len hR
        rw [h1] at hvl
        rcases Nat.lt_or_ge i vs.length with hi | hi
        · rw [List.getElem?_append_left hi] at hu; exact h3 i u hu
        · rw [List.getElem?_append_right hi] at hu
          have hil : i - vs.length < k := by
            have := (List.getElem?_eq_some_iff.1 hu).1
            rw [h7] at this; exact this
          have h9 := h8 (i - vs.length) hil
          rw [hu] at h9
          have e : (ad.add (j * k)).add (i - vs.length) = ad.add i := by
            have hij : i = j * k + (i - vs.length) := by omega
            generalize i - vs.length = r at *
            subst hij
            unfold Addr.add
            by_cases h10 : j * k = 0 <;> by_cases h11 : r = 0 <;> simp [h10, h11, Nat.add_assoc]
          rw [e] at h9
          exact h9
    obtain ⟨xs, vs, h1, h2, h3⟩ := key len (Nat.le_refl _)
    refine ⟨xs, vs, h1, h2, fun hne => ?_, hl, by unfold maxLen at hm; omega⟩
    obtain ⟨bb, off, spot⟩ := ad
    have h0 : ∃ u, vs[0]? = some u := by
      cases vs with
      | nil => exact absurd rfl hne
      | cons v vs => exact ⟨v, rfl⟩
    obtain ⟨u, hu⟩ := h0
    have hspot : spot = none := by simpa [Addr.add] using World.cell?_spot (h3 0 u hu)
    subst hspot
    exact ⟨bb, off, rfl, fun j v hv => by rw [← Addr.add_lit]; exact h3 j v hv⟩
end Go.Proofs.Ytekhmfliaojabaa
namespace Go.Proofs.Ytekhmfliaojabaa

def F2 {α β : Type} (R : α → β → Prop) : List α → List β → Prop
  | [], [] => True
  | a :: l, b :: m => R a b ∧ F2 R l m
  | _, _ => False
section
variable {α β : Type} {R S : α → β → Prop} {l l1 : List α} {m m1 : List β} {a : α} {b : β}
theorem F2.nil : F2 R [] [] := trivial
theorem F2.imp (h : F2 R l m) (hi : ∀ a b, a ∈ l → R a b → S a b) : F2 S l m := by
  induction l generalizing m with
  | nil => cases m with
    | nil => trivial
    | cons => exact h.elim
  | cons x l ih => cases m with
    | nil => exact h.elim
    | cons y m => exact ⟨hi _ _ (by simp) h.1, ih h.2 fun a b ha => hi a b (by simp [ha])⟩
theorem F2.len (h : F2 R l m) : l.length = m.length := by
  induction l generalizing m with
  | nil => cases m with
    | nil => rfl
    | cons => exact h.elim
  | cons x l ih => cases m with
    | nil => exact h.elim
    | cons y m => simp [ih h.2]
theorem F2.append (h : F2 R l m) (k : F2 R l1 m1) : F2 R (l ++ l1) (m ++ m1) := by
  induction l generalizing m with
  | nil => cases m with
    | nil => exact k
    | cons => exact h.elim
  | cons x l ih => cases m with
    | nil => exact h.elim
    | cons y m => exact ⟨h.1, ih h.2⟩
theorem F2.snoc (h : F2 R l m) (k : R a b) : F2 R (l ++ [a]) (m ++ [b]) := h.append ⟨k, trivial⟩
theorem F2.get (h : F2 R l m) {j : Nat} (hj : l[j]? = some a) : ∃ b, m[j]? = some b ∧ R a b := by
  induction l generalizing m j with
  | nil => simp at hj
  | cons x l ih => cases m with
    | nil => exact h.elim
    | cons y m =>
      cases j with
      | zero => simp at hj; subst hj; exact ⟨y, rfl, h.1⟩
      | succ j => simpa using ih h.2 (by simpa using hj)
theorem F2.get' (h : F2 R l m) {j : Nat} (hj : m[j]? = some b) : ∃ a, l[j]? = some a ∧ R a b := by
  have h1 := (List.getElem?_eq_some_iff.1 hj).1
  rw [← h.len] at h1
  obtain ⟨b', hb, hr⟩ := h.get (List.getElem?_eq_getElem h1)
  rw [hj] at hb
  exact ⟨_, List.getElem?_eq_getElem h1, (Option.some.inj hb) ▸ hr⟩
theorem F2.find {p : α → Bool} {q : β → Bool} (h : F2 R l m) (hpq : ∀ a b, R a b → p a = q b) : (l.find? p = none ∧ m.find? q = none) ∨ ∃ a b, l.find? p = some a ∧ m.find? q = some b ∧ R a b := by
  induction l generalizing m with
  | nil => cases m with
    | nil => exact .inl ⟨rfl, rfl⟩
    | cons => exact h.elim
  | cons x l ih => cases m with
    | nil => exact h.elim
    | cons y m =>
      have e := hpq _ _ h.1
      cases hx : p x with
      | true =>
        rw [List.find?_cons_of_pos hx, List.find?_cons_of_pos (e ▸ hx)]
        exact .inr ⟨x, y, rfl, rfl, h.1⟩
      | false =>
        rw [List.find?_cons_of_neg (by simp [hx]), List.find?_cons_of_neg (by simp [← e, hx])]
        exact ih h.2
theorem F2.filter {p : α → Bool} {q : β → Bool} (h : F2 R l m) (hpq : ∀ a b, R a b → p a = q b) : F2 R (l.filter p) (m.filter q) := by
  induction l generalizing m with
  | nil => cases m with
    | nil => trivial
    | cons => exact h.elim
  | cons x l ih => cases m with
    | nil => exact h.elim
    | cons y m =>
      have e := hpq _ _ h.1
      cases hx : p x with
      | true =>
        rw [List.filter_cons_of_pos hx, List.filter_cons_of_pos (e ▸ hx)]
        exact ⟨h.1, ih h.2⟩
      | false =>
        rw [List.filter_cons_of_neg (by simp [hx]), List.filter_cons_of_neg (by simp [← e, hx])]
        exact ih h.2
theorem F2.map_eq {γ : Type} {f : α → γ} {g : β → γ} (h : F2 R l m) (hfg : ∀ a b, R a b → f a = g b) : l.map f = m.map g := by
  induction l generalizing m with
  | nil => cases m with
    | nil => rfl
    | cons => exact h.elim
  | cons x l ih => cases m with
    | nil => exact h.elim
    | cons y m => simp [hfg _ _ h.1, ih h.2]
end
end Go.Proofs.Ytekhmfliaojabaa
namespace Go.Proofs.Ytekhmfliaojabaa
open Go.RowKit

structure Keeps (L : List Nat) (w w' : World) : Prop where
  os : w'.os = w.os
  tape : w'.tape = w.tape
  output : w'.output = w.output
  size : w.heap.size ≤ w'.heap.size
  block : ∀ k, k < w.heap.size → k ∉ L → w'.heap[k]? = w.heap[k]?

section
variable {L M : List Nat} {w w1 w2 w' : World} {B : Nat}
theorem Keeps.refl (L : List Nat) (w : World) : Keeps L w w := ⟨rfl, rfl, rfl, Nat.le_refl _, fun _ _ _ => rfl⟩
theorem Keeps.trans (h : Keeps L w w1) (k : Keeps L w1 w2) : Keeps L w w2 :=
  ⟨k.os.trans h.os, k.tape.trans h.tape, k.output.trans h.output, Nat.le_trans h.size k.size, fun i hi hn => (k.block i (Nat.lt_of_lt_of_le hi h.size) hn).trans (h.block i hi hn)⟩
theorem Keeps.mono (h : Keeps L w w') (hL : ∀ k ∈ L, k < w.heap.size → k ∈ M) : Keeps M w w' := ⟨h.os, h.tape, h.output, h.size, fun i hi hn => h.block i hi fun hl => hn (hL i hl hi)⟩
theorem Keeps.of_ext (h : Ext w w') (L : List Nat) : Keeps L w w' := ⟨h.os, h.tape, h.output, h.size, fun i hi _ => h.block i hi⟩
theorem Keeps.of_grown {row : Option Nat} (h : w.grownBy w' row) (hr : ∀ k, row = some k → k ∈ L) : Keeps L w w' :=
  ⟨h.os, h.tape, h.output, h.size, fun i hi hn => h.block i hi fun e => hn (hr i e.symm)⟩
theorem Keeps.below (h : Keeps L w w') (hB : B ≤ w.heap.size) (hL : ∀ k ∈ L, B ≤ k) : Below B w w' :=
  by
  refine ⟨h.os, h.tape, h.output, ?_, fun i hi => h.block i (by omega) fun hl => by have := hL i hl; omega⟩
  first | exact h.size | exact Nat.le_trans hB h.size
/-- Behind such a call memory has still only grown since an earlier world, if what was written into is newer. -/
theorem Keeps.ext {w0 : World} (h : Keeps L w w') (he : Ext w0 w) (hL : ∀ k ∈ L, w0.heap.size ≤ k) : Ext w0 w' :=
  ⟨h.os.trans he.os, h.tape.trans he.tape, h.output.trans he.output, Nat.le_trans he.size h.size, fun i hi =>
    (h.block i (Nat.lt_of_lt_of_le hi he.size) fun hl => by have := hL i hl; omega).trans (he.block i hi)⟩
theorem Keeps.alloc (h : Keeps L w w') (o : Obj) : Keeps L w (w'.alloc o) := h.trans (.of_ext ((Ext.refl _).alloc o) L)
theorem Keeps.setCell (h : Keeps L w w') {p : Addr} (hp : p.block ∈ L ∨ w.heap.size ≤ p.block) (u : Value) : Keeps L w (w'.setCell p u) :=
  ⟨h.os, h.tape, h.output, by simpa using h.size, fun i hi hn => (Below.heap_setCell w' p u i (fun e => by rcases hp with hp | hp; exact hn (e ▸ hp); omega)).trans (h.block i hi hn)⟩
theorem Keeps.grown {row : Option Nat} (h : Keeps L w w1) (hg : w1.grownBy w2 row) (hr : ∀ k, row = some k → k ∈ L ∨ w.heap.size ≤ k) : Keeps L w w2 :=
  ⟨hg.os.trans h.os, hg.tape.trans h.tape, hg.output.trans h.output, Nat.le_trans h.size hg.size, fun i hi hn =>
    (hg.block i (Nat.lt_of_lt_of_le hi h.size) fun e => by rcases hr i e.symm with h1 | h1; exact hn h1; omega).trans (h.block i hi hn)⟩
theorem Keeps.drew (h : Keeps L w w') : Keeps L w w'.drew := h.trans (.of_ext (Ext.refl _).drew L)

/-- Block k holds no bytes. -/
def NoRow (tb : TypeId) (w : World) (k : Nat) : Prop := ∀ cs fz, w.heap[k]? ≠ some (.cells cs tb fz)
theorem NoRow.of_blk {tb t : TypeId} {g : Nat} {cs : Array Value} (h : Blk w g t cs) (hne : t ≠ tb) : NoRow tb w g := by
  intro cs' fz e
  rw [show w.heap[g]? = _ from h] at e
  injection e with e
  injection e with _ e
  exact hne e
theorem NoRow.of_map {tb : TypeId} {g : Nat} {es : Array MapEntry} {n : Nat} (h : w.heap[g]? = some (.map es n)) : NoRow tb w g := by
  intro cs' fz e
  rw [h] at e
  injection e with e
  cases e
theorem NoRow.of_own {tb te : TypeId} {base size n g : Nat} {v : Value} {vs : List Value} (h : w.ownsRow base te size v n vs) (hg : v.ownBlock = some g) (hne : te ≠ tb) : NoRow tb w g := by
  intro cs' fz e
  rcases h.2 with ⟨rfl, _⟩ | ⟨g', cap, cur, rfl, _, hb, _⟩
  · simp [Value.ownBlock] at hg
  · simp [Value.ownBlock] at hg
    subst hg
    rw [hb] at e
    injection e with e
    injection e with _ e
    exact hne e
theorem ownsRow_keeps {e : TypeId} {base size n : Nat} {v : Value} {vs : List Value} (h : w.ownsRow base e size v n vs) (hk : Keeps L w w') (hn : ∀ g, v.ownBlock = some g → g ∉ L) : w'.ownsRow base e size v n vs := by
  refine ⟨h.1, ?_⟩
  rcases h.2 with hv | ⟨g, cap, cur, rfl, hb, hg, rest⟩
  · exact .inl hv
  · exact .inr ⟨g, cap, cur, rfl, hb, (hk.block g (Array.getElem?_eq_some_iff.1 hg).1 (hn g rfl)).trans hg, rest⟩
theorem OwnS.keeps {k : IntKind} {tb : TypeId} {base n c : Nat} {A : Option Addr} {xs : List Int} (h : OwnS k tb base w A n c xs) (hk : Keeps L w w') (hn : ∀ g ∈ L, NoRow tb w g) : OwnS k tb base w' A n c xs := by
  refine ⟨ownsRow_keeps h.own hk fun g hg hl => ?_, h.len, h.wf⟩
  rcases h.own.2 with ⟨hv, _⟩ | ⟨g', cap, cur, hv, _, hb, _⟩
  · rw [hv] at hg; simp [Value.ownBlock] at hg
  · rw [hv] at hg
    simp [Value.ownBlock] at hg
    subst hg
    exact hn g' hl _ _ hb
theorem Blk.keeps {g : Nat} {t : TypeId} {cs : Array Value} (h : Blk w g t cs) (hk : Keeps L w w') (hn : g ∉ L) : Blk w' g t cs := (hk.block g h.lt hn).trans h
end
end Go.Proofs.Ytekhmfliaojabaa
namespace Go.Proofs.Ytekhmfliaojabaa

def toI (v : BitVec 32) : Int := v.toNat
theorem toI_range (v : BitVec 32) : 0 ≤ toI v ∧ toI v ≤ 4294967295 := by
  unfold toI; have := v.isLt; omega
theorem toI_inj {a b : BitVec 32} (h : toI a = toI b) : a = b := by
  unfold toI at h; exact BitVec.eq_of_toNat_eq (by omega)

def byteV (x : Int) : BitVec 32 := BitVec.ofNat 32 x.toNat
theorem byteV_toI {x : Int} (h0 : 0 ≤ x) (h1 : x ≤ 255) : toI (byteV x) = x := by
  unfold toI byteV; rw [BitVec.toNat_ofNat, Nat.mod_eq_of_lt (by omega)]; omega

theorem toI_xor (a b : BitVec 32) : bits .xor .u32 (toI a) (toI b) = toI (a ^^^ b) := by
  unfold toI; rw [u32_xor_nat _ _ a.isLt b.isLt, BitVec.toNat_xor]
theorem toI_or (a b : BitVec 32) : bits .or .u32 (toI a) (toI b) = toI (a ||| b) := by
  unfold toI; rw [u32_or_nat _ _ a.isLt b.isLt, BitVec.toNat_or]
theorem toI_and (a b : BitVec 32) : bits .and .u32 (toI a) (toI b) = toI (a &&& b) := by
  unfold toI; rw [u32_and_nat _ _ a.isLt b.isLt, BitVec.toNat_and]
theorem toI_xor_byte (a : BitVec 32) {x : Int} (h0 : 0 ≤ x) (h1 : x ≤ 255) : bits .xor .u32 (toI a) x = toI (a ^^^ byteV x) := by
  rw [← toI_xor, byteV_toI h0 h1]
theorem toI_half (a : BitVec 32) : toI a / (2 : Int) = toI (a >>> 1) := by
  unfold toI; rw [BitVec.toNat_ushiftRight, Nat.shiftRight_eq_div_pow]; omega
theorem toI_twice (a : BitVec 32) : IntKind.u32.wrap (toI a * (2 : Int)) = toI (a <<< 1) := by
  unfold toI; rw [BitVec.toNat_shiftLeft, Nat.shiftLeft_eq, IntKind.wrap_u32]; omega
/-- One round of the program. -/
def rnd (v : BitVec 32) : BitVec 32 := if v &&& 1#32 = 1#32 then (v >>> 1) ^^^ 0xedb88320#32 else v >>> 1
def rnds : Nat → BitVec 32 → BitVec 32
  | 0, v => v
  | n + 1, v => rnds n (rnd v)
def crcByte (v : BitVec 32) (x : Int) : BitVec 32 := rnds 8 (v ^^^ byteV x)
def crcL (v : BitVec 32) (xs : List Int) : BitVec 32 := xs.foldl crcByte v
/-- The checksum. -/
def crc (xs : List Int) : Int := toI (~~~ crcL 0xffffffff#32 xs)
theorem crc_range (xs : List Int) : 0 ≤ crc xs ∧ crc xs ≤ 4294967295 := toI_range _

theorem rnds_snoc (n : Nat) (v : BitVec 32) : rnds (n + 1) v = rnd (rnds n v) := by
  induction n generalizing v with
  | zero => rfl
  | succ n ih => rw [rnds, ih]; rfl
theorem crcL_take_succ {xs : List Int} {k : Nat} {x : Int} (v : BitVec 32) (h : xs[k]? = some x) : crcL v (xs.take (k + 1)) = crcByte (crcL v (xs.take k)) x := by
  unfold crcL
  rw [List.take_add_one, h]; simp

/-- One step of the reference, for one bit. -/
def stp (v : BitVec 32) (b : Bool) : BitVec 32 := if b != v.msb then (v <<< 1) ^^^ 0x04C11DB7#32 else v <<< 1
def bitOf (x : Int) (k : Nat) : Bool := x.toNat.testBit k
def stps (v : BitVec 32) (x : Int) : Nat → BitVec 32
  | 0 => v
  | k + 1 => stp (stps v x k) (bitOf x k)
def refL (v : BitVec 32) (xs : List Int) : BitVec 32 := xs.foldl (fun v x => stps v x 8) v
theorem refL_take_succ {xs : List Int} {k : Nat} {x : Int} (v : BitVec 32) (h : xs[k]? = some x) : refL v (xs.take (k + 1)) = stps (refL v (xs.take k)) x 8 := by
  unfold refL
  rw [List.take_add_one, h]; simp

theorem and_one_iff (v : BitVec 32) : (v &&& 1#32 = 1#32) ↔ v.getLsbD 0 = true := by
  constructor
  · intro h
    have := congrArg (fun u => BitVec.getLsbD u 0) h
    simpa using this
  · intro h
    apply BitVec.eq_of_getLsbD_eq
    intro i hi
    rw [BitVec.getLsbD_and]
    by_cases h0 : i = 0
    · subst h0; simp [h]
    · simp [BitVec.getLsbD_one, h0]

theorem rnd_bit (v : BitVec 32) (i : Nat) (hi : i < 32) : (rnd v).getLsbD i = (v.getLsbD (i + 1) ^^ (v.getLsbD 0 && (0xedb88320#32).getLsbD i)) := by
  unfold rnd
  by_cases h : v.getLsbD 0 = true
  · rw [if_pos ((and_one_iff v).2 h)]
    simp [h, Nat.add_comm]
  · have h' : v.getLsbD 0 = false := by simpa using h
    rw [if_neg (fun e => h ((and_one_iff v).1 e)), h']
    simp [Nat.add_comm]

theorem stp_bit (v : BitVec 32) (b : Bool) (i : Nat) (hi : i < 32) : (stp v b).getLsbD i = ((!decide (i = 0) && v.getLsbD (i - 1)) ^^ ((b ^^ v.getLsbD 31) && (0x04C11DB7#32).getLsbD i)) := by
  unfold stp
  have hm : v.msb = v.getLsbD 31 := by simp [BitVec.msb_eq_getLsbD_last]
  have e : (v <<< 1).getLsbD i = (!decide (i = 0) && v.getLsbD (i - 1)) := by
    rw [BitVec.getLsbD_shiftLeft]
    by_cases h0 : i = 0
    · subst h0; simp
    · simp [h0, hi]
  rw [hm]
  by_cases h : (b != v.getLsbD 31) = true
  · rw [if_pos h, BitVec.getLsbD_xor, e]
    have : (b ^^ v.getLsbD 31) = true := h
    rw [this, Bool.true_and]
  · rw [if_neg h, e]
    have : (b ^^ v.getLsbD 31) = false := by simpa using h
    rw [this]; simp

/-- The polynomial backwards is the other one. -/
theorem poly_rev : ∀ i, i < 32 → (0xedb88320#32).getLsbD i = (0x04C11DB7#32).getLsbD (31 - i) := by decide

/-- 'Mir a b': b is a, backwards. -/
def Mir (a b : BitVec 32) : Prop := ∀ i, i < 32 → b.getLsbD i = a.getLsbD (31 - i)

theorem byteV_bit {x : Int} (i : Nat) (hi : i < 32) : (byteV x).getLsbD i = bitOf x i := by
  unfold byteV bitOf; rw [BitVec.getLsbD_ofNat]; simp [hi]

/-- After k of 8 steps: the program's state is the mirrored one of the reference, with the bits that are left joined to it. -/
theorem steps_mir {a v : BitVec 32} {x : Int} (hx1 : x ≤ 255) (h : Mir a v) (k : Nat) (hk : k ≤ 8) :
    ∀ i, i < 32 → (rnds k (a ^^^ byteV x)).getLsbD i = ((stps v x k).getLsbD (31 - i) ^^ bitOf x (i + k)) := by
  induction k with
  | zero =>
    intro i hi
    have := h (31 - i) (by omega)
    rw [show 31 - (31 - i) = i by omega] at this
    simp only [rnds, stps, BitVec.getLsbD_xor, byteV_bit i hi, Nat.add_zero, this]
  | succ k ih =>
    have ih := ih (by omega)
    intro i hi
    rw [rnds_snoc, rnd_bit _ i hi]
    simp only [stps]
    rw [stp_bit _ _ _ (by omega : 31 - i < 32), ih 0 (by omega), Nat.zero_add, poly_rev i hi]
    by_cases h31 : i = 31
    · subst h31
      have e1 : (rnds k (a ^^^ byteV x)).getLsbD (31 + 1) = false := BitVec.getLsbD_of_ge _ _ (by omega)
      have e2 : bitOf x (31 + (k + 1)) = false := by
        unfold bitOf
        exact Nat.testBit_lt_two_pow (Nat.lt_of_lt_of_le (by omega : x.toNat < 2 ^ 32) (Nat.pow_le_pow_right (by omega) (by omega)))
      rw [e1, e2]
      simp [Bool.xor_comm]
    · rw [ih (i + 1) (by omega)]
      have e0 : (decide (31 - i = 0)) = false := by simp; omega
      rw [e0, show 31 - (i + 1) = 31 - i - 1 by omega, show i + 1 + k = i + (k + 1) by omega]
      simp only [Bool.not_false, Bool.true_and, show 31 - 0 = 31 by omega]
      cases (stps v x k).getLsbD (31 - i - 1) <;> cases bitOf x (i + (k + 1)) <;> cases (stps v x k).getLsbD 31 <;> cases bitOf x k <;> simp

theorem byte_mir {a v : BitVec 32} {x : Int} (hx1 : x ≤ 255) (h : Mir a v) : Mir (crcByte a x) (stps v x 8) := by
  intro i hi
  have := steps_mir hx1 h 8 (by omega) (31 - i) (by omega)
  unfold crcByte
  rw [this]
  have e : bitOf x (31 - i + 8) = false := by
    unfold bitOf
    exact Nat.testBit_lt_two_pow (Nat.lt_of_lt_of_le (by omega : x.toNat < 2 ^ 8) (Nat.pow_le_pow_right (by omega) (by omega)))
  rw [e, show 31 - (31 - i) = i by omega]
  simp

theorem list_mir {xs : List Int} (hx : ∀ x ∈ xs, x ≤ 255) {a v : BitVec 32} (h : Mir a v) : Mir (crcL a xs) (refL v xs) := by
  induction xs generalizing a v with
  | nil => exact h
  | cons x xs ih => exact ih (fun y hy => hx y (List.mem_cons_of_mem _ hy)) (byte_mir (hx x (List.mem_cons_self ..)) h)

/-- Reading the rest backwards, as the reference's last loop does. -/
def back : Nat → BitVec 32 → BitVec 32 → BitVec 32 × BitVec 32
  | 0, o, r => (o, r)
  | n + 1, o, r => back n ((o <<< 1) ||| (r &&& 1#32)) (r >>> 1)
theorem back_snoc (n : Nat) (o r : BitVec 32) : back (n + 1) o r = ((back n o r).1 <<< 1 ||| ((back n o r).2 &&& 1#32), (back n o r).2 >>> 1) := by
  induction n generalizing o r with
  | zero => rfl
  | succ n ih => rw [back, ih]; rfl
theorem back_bits (n : Nat) (hn : n ≤ 32) (r : BitVec 32) : (∀ i, i < n → (back n 0#32 r).1.getLsbD i = r.getLsbD (n - 1 - i)) ∧ (∀ i, n ≤ i → (back n 0#32 r).1.getLsbD i = false) ∧ ∀ i, (back n 0#32 r).2.getLsbD i = r.getLsbD (i + n) := by
  induction n with
  | zero => simp [back]
  | succ n ih =>
    obtain ⟨h1, h2, h3⟩ := ih (by omega)
    rw [back_snoc]
    simp only
    refine ⟨fun i hi => ?_, fun i hi => ?_, fun i => ?_⟩
    · rw [BitVec.getLsbD_or, BitVec.getLsbD_shiftLeft, BitVec.getLsbD_and]
      by_cases h0 : i = 0
      · subst h0
        rw [h3 0]
        simp
      · rw [h1 (i - 1) (by omega)]
        simp [BitVec.getLsbD_one, h0, show i < 32 by omega, show n - 1 - (i - 1) = n - i by omega]
    · rw [BitVec.getLsbD_or, BitVec.getLsbD_shiftLeft, BitVec.getLsbD_and]
      by_cases h32 : i < 32
      · rw [h2 (i - 1) (by omega)]
        simp [BitVec.getLsbD_one, show i ≠ 0 by omega]
      · simp [h32, BitVec.getLsbD_of_ge _ _ (show 32 ≤ i by omega), BitVec.getLsbD_one, show i ≠ 0 by omega]
    · rw [BitVec.getLsbD_ushiftRight, h3]
      congr 1; omega

theorem crc_ref {xs : List Int} (hx : ∀ x ∈ xs, x ≤ 255) : toI (~~~ (back 32 0#32 (refL 0xffffffff#32 xs)).1) = crc xs := by
  unfold crc
  congr 2
  apply BitVec.eq_of_getLsbD_eq
  intro i hi
  rw [(back_bits 32 (by omega) _).1 i hi]
  have hm := list_mir hx (a := 0xffffffff#32) (v := 0xffffffff#32) (by unfold Mir; decide)
  have := hm (31 - i) (by omega)
  rw [show 31 - (31 - i) = i by omega] at this
  rw [← this]

end Go.Proofs.Ytekhmfliaojabaa
namespace Go.Proofs.Ytekhmfliaojabaa
open Go.RowKit

/-- The number that bytes denote, the most significant one first. -/
def bigN (xs : List Int) : Int := xs.foldl (fun n x => n * 256 + x) 0
theorem bigN_snoc (xs : List Int) (x : Int) : bigN (xs ++ [x]) = bigN xs * 256 + x := by simp [bigN]
theorem bigN_fold {xs : List Int} (h : ∀ x ∈ xs, 0 ≤ x ∧ x ≤ 255) (a : Int) (ha : 0 ≤ a) : 0 ≤ xs.foldl (fun n x => n * 256 + x) a ∧ xs.foldl (fun n x => n * 256 + x) a < (a + 1) * 256 ^ xs.length := by
  induction xs generalizing a with
  | nil => simp; omega
  | cons x xs ih =>
    have hx := h x (List.mem_cons_self ..)
    have := ih (fun y hy => h y (List.mem_cons_of_mem _ hy)) (a * 256 + x) (by omega)
    refine ⟨this.1, Int.lt_of_lt_of_le this.2 ?_⟩
    rw [List.length_cons, Int.pow_succ, Int.mul_comm (256 ^ xs.length) 256, ← Int.mul_assoc]
    exact Int.mul_le_mul_of_nonneg_right (by omega) (Int.pow_nonneg (by omega))
theorem bigN_range {xs : List Int} (h : ∀ x ∈ xs, 0 ≤ x ∧ x ≤ 255) : 0 ≤ bigN xs ∧ bigN xs < 256 ^ xs.length := by
  have := bigN_fold h 0 (by omega)
  simpa [bigN] using this
theorem bigN_take_succ {xs : List Int} {k : Nat} {x : Int} (h : xs[k]? = some x) : bigN (xs.take (k + 1)) = bigN (xs.take k) * 256 + x := by
  rw [List.take_add_one, h]; exact bigN_snoc _ _
theorem bigN_four (x0 x1 x2 x3 : Int) : bigN [x0, x1, x2, x3] = x0 * 16777216 + x1 * 65536 + x2 * 256 + x3 := by simp [bigN]; omega

theorem or32_add (i a b : Nat) (ha : a % 2 ^ i = 0) (hb : b < 2 ^ i) (hs : a + b < 4294967296) : bits .or .u32 (a : Int) (b : Int) = ((a + b : Nat) : Int) := by
  rw [u32_or_nat a b (by omega) (by omega), nat_join i a b ha hb]
theorem or_four {x0 x1 x2 x3 : Int} (h0 : 0 ≤ x0 ∧ x0 ≤ 255) (h1 : 0 ≤ x1 ∧ x1 ≤ 255) (h2 : 0 ≤ x2 ∧ x2 ≤ 255) (h3 : 0 ≤ x3 ∧ x3 ≤ 255) :
    bits .or .u32 (bits .or .u32 (bits .or .u32 (x0 * 16777216) (x1 * 65536)) (x2 * 256)) x3 = bigN [x0, x1, x2, x3] := by
  obtain ⟨a0, rfl⟩ := Int.eq_ofNat_of_zero_le h0.1
  obtain ⟨a1, rfl⟩ := Int.eq_ofNat_of_zero_le h1.1
  obtain ⟨a2, rfl⟩ := Int.eq_ofNat_of_zero_le h2.1
  obtain ⟨a3, rfl⟩ := Int.eq_ofNat_of_zero_le h3.1
  have e0 : ((a0 : Int) * 16777216) = ((a0 * 16777216 : Nat) : Int) := by simp
  have e1 : ((a1 : Int) * 65536) = ((a1 * 65536 : Nat) : Int) := by simp
  have e2 : ((a2 : Int) * 256) = ((a2 * 256 : Nat) : Int) := by simp
  rw [e0, e1, e2, or32_add 24 _ _ (by omega) (by omega) (by omega), or32_add 16 _ _ (by omega) (by omega) (by omega), or32_add 8 _ _ (by omega) (by omega) (by omega), bigN_four]
  omega

set_option maxHeartbeats 400000 in
theorem number32_at (b off n c : Nat) (x0 x1 x2 x3 : Int) (w : World) (hn : 4 ≤ n) (hb0 : 0 ≤ x0 ∧ x0 ≤ 255) (hb1 : 0 ≤ x1 ∧ x1 ≤ 255) (hb2 : 0 ≤ x2 ∧ x2 ≤ 255) (hb3 : 0 ≤ x3 ∧ x3 ≤ 255)
    (hc0 : w.cell? ⟨b, off, none⟩ = some (.int .u8 x0)) (hc1 : w.cell? ⟨b, off + 1, none⟩ = some (.int .u8 x1)) (hc2 : w.cell? ⟨b, off + 2, none⟩ = some (.int .u8 x2)) (hc3 : w.cell? ⟨b, off + 3, none⟩ = some (.int .u8 x3)) :
    Calls Try.prog 72 #[.slice (some ⟨b, off, none⟩) n c] w fun e w' => e = .returned (.int .u32 (bigN [x0, x1, x2, x3])) ∧ ∃ m, w' = w.drewN m := by
  have hor := Lib.hid (or_four hb0 hb1 hb2 hb3)
  obtain ⟨ha0, hb0⟩ := hb0
  obtain ⟨ha1, hb1⟩ := hb1
  obtain ⟨ha2, hb2⟩ := hb2
  obtain ⟨ha3, hb3⟩ := hb3
  have e0 : (0 : Int) < (n : Int) := by omega
  have e1 : (1 : Int) < (n : Int) := by omega
  have e2 : (2 : Int) < (n : Int) := by omega
  have e3 : (3 : Int) < (n : Int) := by omega
  go_enter Try.func72, Try.ntmps72
  go_wp2
  go_quiet (fail)
  go_wp2
  go_ret
  refine ⟨?_, nq, rfl⟩
  rw [← hor.out]
  rfl

theorem take_four {xs : List Int} (h : 4 ≤ xs.length) : ∃ x0 x1 x2 x3, xs[0]? = some x0 ∧ xs[1]? = some x1 ∧ xs[2]? = some x2 ∧ xs[3]? = some x3 ∧ xs.take 4 = [x0, x1, x2, x3] := by
  match xs, h with
  | x0 :: x1 :: x2 :: x3 :: xs, _ => exact ⟨x0, x1, x2, x3, rfl, rfl, rfl, rfl, rfl⟩

theorem number32_any (A : Option Addr) (n c : Nat) (xs : List Int) (w : World) (h : Ints .u8 w A n xs) (hn : 4 ≤ n) :
    Calls Try.prog 72 #[.slice A n c] w fun e w' => e = .returned (.int .u32 (bigN (xs.take 4))) ∧ ∃ m, w' = w.drewN m := by
  obtain ⟨x0, x1, x2, x3, h0, h1, h2, h3, ht⟩ := take_four (by rw [h.1]; exact hn)
  have hb : ∀ x ∈ xs, 0 ≤ x ∧ x ≤ 255 := fun x hx => u8_bounds (h.2.1 x hx)
  have ho := h.2.2 (by intro e; have := h.1; rw [List.map_eq_nil_iff] at e; subst e; simp at this; omega)
  obtain ⟨b, off, rfl, hc⟩ := ho
  rw [ht]
  have g : ∀ j x, xs[j]? = some x → w.cell? ⟨b, off + j, none⟩ = some (.int .u8 x) := fun j x hx => hc j _ (by rw [List.getElem?_map, hx]; rfl)
  exact number32_at b off n c x0 x1 x2 x3 w hn (hb _ (List.mem_of_getElem? h0)) (hb _ (List.mem_of_getElem? h1)) (hb _ (List.mem_of_getElem? h2)) (hb _ (List.mem_of_getElem? h3)) (g 0 _ h0) (g 1 _ h1) (g 2 _ h2) (g 3 _ h3)

set_option maxHeartbeats 400000 in
theorem big_any (A : Option Addr) (n c : Nat) (xs : List Int) (w : World) (h : Ints .u8 w A n xs) (hn : n ≤ 4) :
    Calls Try.prog 73 #[.slice A n c] w fun e w' => e = .returned (.int .u64 (bigN xs)) ∧ w = w' := by
  have H := Lib.hid h
  have hb : Hid (∀ x ∈ xs, 0 ≤ x ∧ x ≤ 255) := fun x hx => u8_bounds (h.2.1 x hx)
  clear h
  go_enter Try.func73, Try.ntmps73
  go_wp2
  go_loopg [3, 7] n (fun g s i wr => ∃ (k : Nat) (v : Int), g = n - k ∧ k ≤ n ∧ i = .int .i64 k ∧ s = .int .u64 v ∧ v = bigN (xs.take k) ∧ w = wr)
  case atStart => exact ⟨0, 0, rfl, by omega, rfl, rfl, by simp [bigN], rfl⟩
  case round =>
    obtain ⟨k, v, rfl, hk, rfl, rfl, hv, rfl⟩ := hrel
    have HV := Lib.hid hv
    clear hv
    by_cases hlt : k < n
    · obtain ⟨bl, off, x, rfl, hx, hwf, hc⟩ := H.out.get hlt
      obtain ⟨hx0, hx1⟩ := u8_bounds hwf
      have HX := Lib.hid hx
      clear hx hwf
      have hr := bigN_range (xs := xs.take k) (fun x hx => hb.out x (List.mem_of_mem_take hx))
      rw [← HV.out] at hr
      obtain ⟨hv0, hv1⟩ := hr
      have hv2 : v ≤ 16777215 := by
        have e : (xs.take k).length ≤ 3 := by rw [List.length_take]; omega
        have : (256 : Int) ^ (xs.take k).length ≤ 256 ^ 3 := by
          have h1 := Nat.pow_le_pow_right (n := 256) (by omega) e
          have e1 : ((256 ^ (xs.take k).length : Nat) : Int) = 256 ^ (xs.take k).length := by simp
          have e2 : ((256 ^ 3 : Nat) : Int) = 256 ^ 3 := by simp
          omega
        have : (256 : Int) ^ 3 = 16777216 := by decide
        omega
      clear hv1
      go_wp2
      go_roundg (n - (k + 1))
      case rel => exact ⟨k + 1, _, rfl, by omega, by go_num, rfl, by rw [bigN_take_succ HX.out, HV.out], rfl⟩
      case measure => omega
    · go_wp2
      go_ret
      refine ⟨?_, rfl⟩
      have ht : xs.take k = xs := List.take_of_length_le (by have := H.out.1; omega)
      have hv := HV.out
      rw [ht] at hv
      rw [← hv]
      rfl
end Go.Proofs.Ytekhmfliaojabaa
namespace Go.Proofs.Ytekhmfliaojabaa
open Go.RowKit

/-- A frame. -/
structure Fr where
  stream : Int
  seq : Int
  body : List Int
def fr0 : Fr := ⟨0, 0, []⟩

def szN (xs : List Int) : Nat := (xs.getD 6 0 * 256 + xs.getD 7 0).toNat
/-- What Unpack returns: the frame, the number of bytes, the error. -/
def unp (xs : List Int) : Fr × Int × Int :=
  if xs.length = 0 then (fr0, 0, 21)
  else if xs.getD 0 0 ≠ 165 then (fr0, 0, 22)
  else if xs.length < 8 then (fr0, 0, 21)
  else if 1024 < szN xs then (fr0, 0, 23)
  else if xs.length < 12 + szN xs then (fr0, 0, 21)
  else if bigN ((xs.drop (8 + szN xs)).take 4) ≠ crc (xs.take (8 + szN xs)) then (fr0, 0, 24)
  else (⟨xs.getD 1 0, bigN ((xs.drop 2).take 4), (xs.take (8 + szN xs)).drop 8⟩, 12 + (szN xs : Int), 0)

section
variable {xs : List Int}
theorem unp_none (h : xs.length = 0) : unp xs = (fr0, 0, 21) := by simp [unp, h]
theorem unp_mark (h : xs.length ≠ 0) (h1 : xs.getD 0 0 ≠ 165) : unp xs = (fr0, 0, 22) := by unfold unp; rw [if_neg h, if_pos h1]
theorem unp_short (h : xs.length ≠ 0) (h1 : xs.getD 0 0 = 165) (h2 : xs.length < 8) : unp xs = (fr0, 0, 21) := by
  unfold unp; rw [if_neg h, if_neg (by omega), if_pos h2]
theorem unp_long (h1 : xs.getD 0 0 = 165) (h2 : 8 ≤ xs.length) (h3 : 1024 < szN xs) : unp xs = (fr0, 0, 23) := by
  unfold unp; rw [if_neg (by omega), if_neg (by omega), if_neg (by omega), if_pos h3]
theorem unp_cut (h1 : xs.getD 0 0 = 165) (h2 : 8 ≤ xs.length) (h3 : szN xs ≤ 1024) (h4 : xs.length < 12 + szN xs) : unp xs = (fr0, 0, 21) := by
  unfold unp; rw [if_neg (by omega), if_neg (by omega), if_neg (by omega), if_neg (by omega), if_pos h4]
theorem unp_sum (h1 : xs.getD 0 0 = 165) (h3 : szN xs ≤ 1024) (h4 : 12 + szN xs ≤ xs.length) (h5 : bigN ((xs.drop (8 + szN xs)).take 4) ≠ crc (xs.take (8 + szN xs))) : unp xs = (fr0, 0, 24) := by
  unfold unp; rw [if_neg (by omega), if_neg (by omega), if_neg (by omega), if_neg (by omega), if_neg (by omega), if_pos h5]
theorem unp_ok (h1 : xs.getD 0 0 = 165) (h3 : szN xs ≤ 1024) (h4 : 12 + szN xs ≤ xs.length) (h5 : bigN ((xs.drop (8 + szN xs)).take 4) = crc (xs.take (8 + szN xs))) :
    unp xs = (⟨xs.getD 1 0, bigN ((xs.drop 2).take 4), (xs.take (8 + szN xs)).drop 8⟩, 12 + (szN xs : Int), 0) := by
  unfold unp; rw [if_neg (by omega), if_neg (by omega), if_neg (by omega), if_neg (by omega), if_neg (by omega), if_neg (by omega)]
end

/-- What Unpack leaves: the frame as a value, its bytes in memory of the call's own. -/
def RetF (w : World) (r : Fr × Int × Int) (e : Ending) (w' : World) : Prop :=
  ∃ A n c, e = .returned (.tuple #[.agg #[.int .i64 r.1.stream, .int .i64 r.1.seq, .slice A n c], .int .i64 r.2.1, .int .i64 r.2.2]) ∧ OwnS .u8 5 w.heap.size w' A n c r.1.body ∧ Ext w w'
theorem RetF.bad {w w' : World} {r : Fr × Int × Int} {er : Int} {e : Ending} (h : r = (fr0, 0, er)) (he : e = .returned (.tuple #[.agg #[.int .i64 0, .int .i64 0, .slice none 0 0], .int .i64 0, .int .i64 er])) (hx : Ext w w') : RetF w r e w' := by
  subst h
  exact ⟨none, 0, 0, he, ⟨World.ownsRow_nil _ _ _ _, rfl, by simp [fr0]⟩, hx⟩

theorem or_size {x y : Int} (hx : 0 ≤ x ∧ x ≤ 255) (hy : 0 ≤ y ∧ y ≤ 255) : bits .or .i64 (x * 256) y = x * 256 + y := by
  obtain ⟨a, rfl⟩ := Int.eq_ofNat_of_zero_le hx.1
  obtain ⟨b, rfl⟩ := Int.eq_ofNat_of_zero_le hy.1
  have e0 : ((a : Int) * 256) = ((a * 256 : Nat) : Int) := by simp
  rw [e0]
  show IntKind.i64.wrap ((BitVec.ofInt 64 ((a * 256 : Nat) : Int) ||| BitVec.ofInt 64 (b : Int)).toNat : Int) = _
  have q : ∀ k : Nat, k < 65536 → (BitVec.ofInt 64 (k : Int)).toNat = k := fun k hk => by
    rw [BitVec.ofInt_natCast, BitVec.toNat_ofNat]; exact Nat.mod_eq_of_lt (by omega)
  rw [BitVec.toNat_or, q _ (by omega), q _ (by omega), nat_join 8 (a * 256) b (by omega) (by omega), IntWalk.i64_in _ (by omega)]
  omega
end Go.Proofs.Ytekhmfliaojabaa
namespace Go.Proofs.Ytekhmfliaojabaa
open Go.RowKit

/-- Four bytes, the most significant one first. -/
def big4 (n : Int) : List Int := [n / 16777216, n / 65536 % 256, n / 256 % 256, n % 256]
theorem big4_bigN {n : Int} (h0 : 0 ≤ n) (_h1 : n ≤ 4294967295) : bigN (big4 n) = n := by
  unfold big4; rw [bigN_four]; omega
theorem big4_byte {n : Int} (h0 : 0 ≤ n) (h1 : n ≤ 4294967295) : ∀ x ∈ big4 n, 0 ≤ x ∧ x ≤ 255 := by
  intro x hx
  simp [big4] at hx
  omega

def FrOk (f : Fr) : Prop := 0 ≤ f.stream ∧ f.stream ≤ 255 ∧ 0 ≤ f.seq ∧ f.seq ≤ 4294967295 ∧ f.body.length ≤ 1024
instance (f : Fr) : Decidable (FrOk f) := inferInstanceAs (Decidable (_ ∧ _))

def heads (f : Fr) : List Int := [165, f.stream] ++ big4 f.seq ++ [(f.body.length : Int) / 256, (f.body.length : Int) % 256] ++ f.body
/-- The encoding of a frame. -/
def pck (f : Fr) : List Int := heads f ++ big4 (crc (heads f))

theorem heads_len (f : Fr) : (heads f).length = 8 + f.body.length := by simp [heads, big4]; omega
theorem pck_len (f : Fr) : (pck f).length = 12 + f.body.length := by simp [pck, heads_len, big4]; omega
theorem heads_byte {f : Fr} (h : FrOk f) (hb : ∀ x ∈ f.body, 0 ≤ x ∧ x ≤ 255) : ∀ x ∈ heads f, 0 ≤ x ∧ x ≤ 255 := by
  obtain ⟨h1, h2, h3, h4, h5⟩ := h
  intro x hx
  simp only [heads, List.mem_append, List.mem_cons, List.not_mem_nil, or_false] at hx
  rcases hx with (((rfl | rfl) | hx) | (rfl | rfl)) | hx
  · omega
  · omega
  · exact big4_byte h3 h4 x hx
  · omega
  · omega
  · exact hb x hx
theorem pck_byte {f : Fr} (h : FrOk f) (hb : ∀ x ∈ f.body, 0 ≤ x ∧ x ≤ 255) : ∀ x ∈ pck f, 0 ≤ x ∧ x ≤ 255 := by
  intro x hx
  rcases List.mem_append.1 hx with hx | hx
  · exact heads_byte h hb x hx
  · exact big4_byte (crc_range _).1 (crc_range _).2 x hx

theorem szN_heads {f : Fr} (ys : List Int) (h : f.body.length ≤ 1024) : szN (heads f ++ ys) = f.body.length := by
  simp [szN, heads, big4]; omega

/-- Reading an encoding, with bytes of any kind behind it, gives the frame back. -/
theorem unp_pck {f : Fr} (h : FrOk f) (ys : List Int) : unp (pck f ++ ys) = (f, 12 + (f.body.length : Int), 0) := by
  obtain ⟨h1, h2, h3, h4, h5⟩ := h
  have hs : szN (pck f ++ ys) = f.body.length := by unfold pck; rw [List.append_assoc]; exact szN_heads _ h5
  have hl : (pck f ++ ys).length = 12 + f.body.length + ys.length := by rw [List.length_append, pck_len]
  have ht : (pck f ++ ys).take (8 + f.body.length) = heads f := by
    unfold pck; rw [List.append_assoc]; exact List.take_left' (heads_len f)
  have hd : (pck f ++ ys).drop (8 + f.body.length) = big4 (crc (heads f)) ++ ys := by
    unfold pck; rw [List.append_assoc]; exact List.drop_left' (heads_len f)
  have h0 : (pck f ++ ys).getD 0 0 = 165 := by simp [pck, heads, big4]
  have hst : (pck f ++ ys).getD 1 0 = f.stream := by simp [pck, heads, big4]
  have hq : bigN (((pck f ++ ys).drop 2).take 4) = f.seq := by
    have e : ((pck f ++ ys).drop 2).take 4 = big4 f.seq := by simp [pck, heads, big4]
    rw [e, big4_bigN h3 h4]
  rw [unp_ok h0 (by rw [hs]; exact h5) (by rw [hs, hl]; omega) ?_, hs, hst, hq, ht]
  · have : (heads f).drop 8 = f.body := by simp [heads, big4]
    rw [this]
  · rw [hs, ht, hd]
    have e : (big4 (crc (heads f)) ++ ys).take 4 = big4 (crc (heads f)) := by simp [big4]
    rw [e, big4_bigN (crc_range _).1 (crc_range _).2]

end Go.Proofs.Ytekhmfliaojabaa
namespace Go.Proofs.Ytekhmfliaojabaa
open Go.RowKit

theorem toI_one : (1 : Int) = toI 1#32 := by decide
theorem toI_full : (4294967295 : Int) = toI 0xffffffff#32 := by decide
theorem rnd_one {v : BitVec 32} (h : v &&& 1#32 = 1#32) : rnd v = (v >>> 1) ^^^ 0xedb88320#32 := by simp [rnd, h]
theorem rnd_zero {v : BitVec 32} (h : ¬ v &&& 1#32 = 1#32) : rnd v = v >>> 1 := by simp [rnd, h]

theorem toI_flip (v : BitVec 32) : bits .xor .u32 IntKind.u32.max (toI v) = toI (~~~ v) := by
  have h1 : IntKind.u32.max = toI 0xffffffff#32 := by decide
  rw [h1, toI_xor]
  apply congrArg
  apply BitVec.eq_of_getLsbD_eq
  intro i hi
  rw [BitVec.getLsbD_xor, BitVec.getLsbD_not]
  have : (0xffffffff#32).getLsbD i = true := by
    have := (by decide : ∀ i, i < 32 → (0xffffffff#32).getLsbD i = true)
    exact this i hi
  rw [this]; simp [hi]

set_option maxHeartbeats 400000 in
theorem checksum_any (A : Option Addr) (n c : Nat) (xs : List Int) (w : World) (h : Ints .u8 w A n xs) (hn : n ≤ 9223372036854775806) :
    Calls Try.prog 51 #[.slice A n c] w fun e w' => e = .returned (.int .u32 (crc xs)) ∧ w = w' := by
  have H := Lib.hid h
  clear h
  go_enter Try.func51, Try.ntmps51
  go_wp2
  go_loopg [3, 8] n (fun g s i wr => ∃ (k : Nat) (v : BitVec 32), g = n - k ∧ k ≤ n ∧ i = .int .i64 k ∧ s = .int .u32 (toI v) ∧ v = crcL 0xffffffff#32 (xs.take k) ∧ w = wr)
  case atStart => exact ⟨0, 0xffffffff#32, rfl, by omega, rfl, by rw [← toI_full], rfl, rfl⟩
  case round =>
    obtain ⟨k, v, rfl, hk, rfl, rfl, hv, rfl⟩ := hrel
    have HV := Lib.hid hv
    clear hv
    obtain ⟨hv0, hv1⟩ := toI_range v
    by_cases hlt : k < n
    · obtain ⟨bl, off, x, rfl, hx, hwf, hc⟩ := H.out.get hlt
      obtain ⟨hx0, hx1⟩ := u8_bounds hwf
      have HX := Lib.hid hx
      clear hx hwf
      have hxor := toI_xor_byte v hx0 hx1
      go_wp2
      go_loopg [3, 16] 8 (fun g s i wr => ∃ (q : Nat) (u : BitVec 32), g = 8 - q ∧ q ≤ 8 ∧ i = .int .i64 q ∧ s = .int .u32 (toI u) ∧ u = rnds q (v ^^^ byteV x) ∧ w = wr)
      case atStart => exact ⟨0, v ^^^ byteV x, rfl, by omega, rfl, rfl, rfl, rfl⟩
      case round =>
        obtain ⟨q, u, rfl, hq, rfl, rfl, hu, rfl⟩ := hrel
        have HU := Lib.hid hu
        clear hu hxor
        obtain ⟨hu0, hu1⟩ := toI_range u
        have hand : bits .and .u32 (toI u) 1 = toI (u &&& 1#32) := toI_and u 1#32
        by_cases hql : q < 8
        · by_cases hb : u &&& 1#32 = 1#32
          · have hbb : (toI (u &&& 1#32) == 1) = true := by rw [hb]; decide
            have HB := Lib.hid hb
            clear hb
            have hr : Hid (bits .xor .u32 (toI u / 2) 3988292384 = toI (rnd u)) := by rw [rnd_one HB.out, ← toI_xor, ← toI_half]; exact rfl
            go_wp2
            go_roundg (8 - (q + 1))
            case rel => exact ⟨q + 1, rnd u, rfl, by omega, by go_num, by rw [hr.out], by rw [rnds_snoc, HU.out], rfl⟩
            case measure => omega
          · have hbb : (toI (u &&& 1#32) == 1) = false := by
              simp only [beq_eq_false_iff_ne, ne_eq]
              intro e
              exact hb (toI_inj (e.trans toI_one))
            have HB := Lib.hid hb
            clear hb
            have hr : Hid (toI u / 2 = toI (rnd u)) := by rw [rnd_zero HB.out, toI_half]; exact rfl
            go_wp2
            go_roundg (8 - (q + 1))
            case rel => exact ⟨q + 1, rnd u, rfl, by omega, by go_num, by rw [hr.out], by rw [rnds_snoc, HU.out], rfl⟩
            case measure => omega
        · obtain rfl : q = 8 := by omega
          go_wp2
          go_roundg (n - (k + 1))
          case rel => exact ⟨k + 1, u, rfl, by omega, by go_num, rfl, by rw [crcL_take_succ _ HX.out, ← HV.out, HU.out]; rfl, rfl⟩
          case measure => omega
    · go_wp2
      go_ret
      refine ⟨?_, rfl⟩
      have ht : xs.take k = xs := List.take_of_length_le (by have := H.out.1; omega)
      have hv := HV.out
      rw [ht] at hv
      show Ending.returned (.int .u32 (bits .xor .u32 IntKind.u32.max (toI v))) = _
      rw [toI_flip, hv]
      rfl

theorem toI_dbl (a : BitVec 32) : toI a * (2 : Int) % (4294967296 : Int) = toI (a <<< 1) := by
  rw [← toI_twice, IntKind.wrap_u32]
theorem ref_in {x : Int} (h0 : 0 ≤ x) (h1 : x ≤ 255) (q : Nat) : bits .and .u32 (x / 2 ^ q % (4294967296 : Int)) 1 = if bitOf x q then 1 else 0 := by
  obtain ⟨n, rfl⟩ := Int.eq_ofNat_of_zero_le h0
  have e : ((n : Int) / 2 ^ q % (4294967296 : Int)) = ((n / 2 ^ q : Nat) : Int) := by
    have : ((n : Int) / 2 ^ q) = ((n / 2 ^ q : Nat) : Int) := by simp
    rw [this]
    have : n / 2 ^ q ≤ n := Nat.div_le_self _ _
    generalize n / 2 ^ q = m at *
    omega
  rw [e]
  have hlt : n / 2 ^ q ≤ n := Nat.div_le_self _ _
  have := u32_and_nat (n / 2 ^ q) 1 (by omega) (by omega)
  rw [show ((1 : Nat) : Int) = 1 from rfl] at this
  rw [this, nat_mask1]
  unfold bitOf
  rw [Nat.testBit_eq_decide_div_mod_eq]
  rw [Int.toNat_natCast]
  by_cases hb : n / 2 ^ q % 2 = 1
  · simp [hb]
  · have : n / 2 ^ q % 2 = 0 := by omega
    simp [this]
theorem ref_top (u : BitVec 32) : toI u / (2147483648 : Int) = if u.msb then 1 else 0 := by
  have hlt := u.isLt
  unfold toI
  rw [BitVec.msb_eq_decide]
  by_cases h : 2 ^ (32 - 1) ≤ u.toNat
  · simp only [h, decide_true, if_true]
    omega
  · simp only [h, decide_false]
    simp
    omega
theorem stp_yes {u : BitVec 32} {x : Int} {q : Nat} (h0 : 0 ≤ x) (h1 : x ≤ 255) (h : (bits .and .u32 (x / 2 ^ q % (4294967296 : Int)) 1 != toI u / (2147483648 : Int)) = true) :
    bits .xor .u32 (toI u * (2 : Int) % (4294967296 : Int)) 79764919 = toI (stp u (bitOf x q)) := by
  rw [ref_in h0 h1, ref_top] at h
  have hb : (bitOf x q != u.msb) = true := by cases h3 : bitOf x q <;> cases h4 : u.msb <;> simp [h3, h4] at h ⊢
  unfold stp
  rw [if_pos hb, toI_dbl, ← toI_xor]; rfl
theorem stp_no {u : BitVec 32} {x : Int} {q : Nat} (h0 : 0 ≤ x) (h1 : x ≤ 255) (h : (bits .and .u32 (x / 2 ^ q % (4294967296 : Int)) 1 != toI u / (2147483648 : Int)) = false) :
    toI u * (2 : Int) % (4294967296 : Int) = toI (stp u (bitOf x q)) := by
  rw [ref_in h0 h1, ref_top] at h
  have hb : ¬ (bitOf x q != u.msb) = true := by cases h3 : bitOf x q <;> cases h4 : u.msb <;> simp [h3, h4] at h ⊢
  unfold stp
  rw [if_neg hb, toI_dbl]
theorem back_or (u r : BitVec 32) : bits .or .u32 (toI u * (2 : Int) % (4294967296 : Int)) (bits .and .u32 (toI r) 1) = toI ((u <<< 1) ||| (r &&& 1#32)) := by
  rw [toI_dbl, ← toI_or, ← toI_and]; rfl
theorem val_u32 {a b : Int} (h : a = b) : Value.int .u32 a = .int .u32 b := by rw [h]

set_option maxHeartbeats 1000000 in
theorem checksumR_any (A : Option Addr) (n c : Nat) (xs : List Int) (w : World) (h : Ints .u8 w A n xs) (hn : n ≤ 9223372036854775806) :
    Calls Try.prog 52 #[.slice A n c] w fun e w' => e = .returned (.int .u32 (crc xs)) ∧ w = w' := by
  have H := Lib.hid h
  clear h
  go_enter Try.func52, Try.ntmps52
  go_wp2
  go_loopg [3, 12] n (fun g s i wr => ∃ (k : Nat) (v : BitVec 32), g = n - k ∧ k ≤ n ∧ i = .int .i64 k ∧ s = .int .u32 (toI v) ∧ v = refL 0xffffffff#32 (xs.take k) ∧ w = wr)
  case atStart => exact ⟨0, 0xffffffff#32, rfl, by omega, rfl, by rw [← toI_full], rfl, rfl⟩
  case round =>
    obtain ⟨k, v, rfl, hk, rfl, rfl, hv, rfl⟩ := hrel
    have HV := Lib.hid hv
    clear hv
    obtain ⟨hv0, hv1⟩ := toI_range v
    by_cases hlt : k < n
    · obtain ⟨bl, off, x, rfl, hx, hwf, hc⟩ := H.out.get hlt
      obtain ⟨hx0, hx1⟩ := u8_bounds hwf
      have HX := Lib.hid hx
      clear hx hwf
      go_wp2
      go_loopg [3, 5] 8 (fun g s i wr => ∃ (q : Nat) (u : BitVec 32), g = 8 - q ∧ q ≤ 8 ∧ i = .int .i64 q ∧ s = .int .u32 (toI u) ∧ u = stps v x q ∧ w = wr)
      case atStart => exact ⟨0, v, rfl, by omega, rfl, rfl, rfl, rfl⟩
      case round =>
        obtain ⟨q, u, rfl, hq, rfl, rfl, hu, rfl⟩ := hrel
        have HU := Lib.hid hu
        clear hu
        obtain ⟨hu0, hu1⟩ := toI_range u
        by_cases hql : q < 8
        · go_wp2
          · go_roundg (8 - (q + 1))
            case rel => exact ⟨q + 1, stp u (bitOf x q), rfl, by omega, by go_num, val_u32 (stp_yes hx0 hx1 (by assumption)), by rw [HU.out]; rfl, rfl⟩
            case measure => omega
          · go_roundg (8 - (q + 1))
            case rel => exact ⟨q + 1, stp u (bitOf x q), rfl, by omega, by go_num, val_u32 (stp_no hx0 hx1 (by assumption)), by rw [HU.out]; rfl, rfl⟩
            case measure => omega
        · obtain rfl : q = 8 := by omega
          go_wp2
          go_roundg (n - (k + 1))
          case rel => exact ⟨k + 1, u, rfl, by omega, by go_num, rfl, by rw [refL_take_succ _ HX.out, ← HV.out, HU.out], rfl⟩
          case measure => omega
    · go_wp2
      go_loopg [3, 8, 9] 32 (fun g s o i wr => ∃ (q : Nat) (u r : BitVec 32), g = 32 - q ∧ q ≤ 32 ∧ i = .int .i64 q ∧ s = .int .u32 (toI r) ∧ o = .int .u32 (toI u) ∧ (u, r) = back q 0#32 v ∧ w = wr)
      case atStart => exact ⟨0, 0#32, v, rfl, by omega, rfl, rfl, val_u32 (by decide), rfl, rfl⟩
      case round =>
        obtain ⟨q, u, r, rfl, hq, rfl, rfl, rfl, hu, rfl⟩ := hrel
        have HU := Lib.hid hu
        clear hu
        obtain ⟨hu0, hu1⟩ := toI_range u
        obtain ⟨hr0, hr1⟩ := toI_range r
        by_cases hql : q < 32
        · go_wp2
          go_roundg (32 - (q + 1))
          case rel => exact ⟨q + 1, _, _, rfl, by omega, by go_num, val_u32 (toI_half r), val_u32 (back_or u r), by rw [back_snoc, ← HU.out], rfl⟩
          case measure => omega
        · obtain rfl : q = 32 := by omega
          go_wp2
          go_ret
          refine ⟨?_, rfl⟩
          have ht : xs.take k = xs := List.take_of_length_le (by have := H.out.1; omega)
          have hv := HV.out
          rw [ht] at hv
          show Ending.returned (.int .u32 (bits .xor .u32 IntKind.u32.max (toI u))) = _
          have hu := congrArg Prod.fst HU.out
          simp only at hu
          rw [toI_flip, hu, hv, crc_ref (fun x hx => (u8_bounds (H.out.2.1 x hx)).2)]
end Go.Proofs.Ytekhmfliaojabaa
namespace Go.Proofs.Ytekhmfliaojabaa

def Lead (k : Nat) (xs : List Int) : Prop := ∀ j, j < k → ∃ x, xs[j]? = some x ∧ 128 ≤ x

theorem Lead.zero (xs : List Int) : Lead 0 xs := fun j hj => absurd hj (by omega)
theorem Lead.succ {k : Nat} {xs : List Int} {x : Int} (h : Lead k xs) (hx : xs[k]? = some x) (h1 : 128 ≤ x) : Lead (k + 1) xs := fun j hj => by
  by_cases e : j = k
  · subst e; exact ⟨x, hx, h1⟩
  · exact h j (by omega)

section
variable {k : Nat} {xs : List Int} {x : Int}
end

/-- The encoding of a number: groups of seven bits, the least one first. -/
def encF : Nat → Int → List Int
  | 0, m => [m]
  | f + 1, m => if 128 ≤ m then (m % 128 + 128) :: encF f (m / 128) else [m]

def enc (m : Int) : List Int := encF 9 m

theorem encF_more {f : Nat} {m : Int} (h : 128 ≤ m) : encF (f + 1) m = (m % 128 + 128) :: encF f (m / 128) := by simp [encF, h]
theorem encF_last {f : Nat} {m : Int} (h : m < 128) : encF f m = [m] := by cases f <;> simp [encF]; omega
/-- Where the encoding of 'm' stands after 'pre' was written and 'm'' is left. -/
def EncAt (m : Int) (pre : List Int) (m' : Int) : Prop := ∃ f, pre ++ encF f m' = enc m ∧ pre.length + f = 9 ∧ 0 ≤ m' ∧ m' < 128 ^ (f + 1) ∧ ∀ x ∈ pre, 0 ≤ x ∧ x ≤ 255
theorem EncAt.start {m : Int} (h0 : 0 ≤ m) (h1 : m ≤ 4611686018427387903) : EncAt m [] m := ⟨9, rfl, rfl, h0, by simp; omega, by simp⟩
theorem EncAt.step {m m' : Int} {pre : List Int} (h : EncAt m pre m') (hg : 128 ≤ m') : EncAt m (pre ++ [m' % 128 + 128]) (m' / 128) := by
  obtain ⟨f, h1, h2, h3, h4, h5⟩ := h
  cases f with
  | zero => simp at h4; omega
  | succ f =>
    refine ⟨f, by rw [← h1, encF_more hg]; simp, by simp; omega, by omega, by rw [Int.pow_succ] at h4; omega, ?_⟩
    intro x hx
    rcases List.mem_append.1 hx with hx | hx
    · exact h5 x hx
    · simp at hx; omega
theorem EncAt.done {m m' : Int} {pre : List Int} (h : EncAt m pre m') (hl : m' < 128) : pre ++ [m'] = enc m := by
  obtain ⟨f, h1, _⟩ := h
  rw [← h1, encF_last hl]
theorem EncAt.len {m m' : Int} {pre : List Int} (h : EncAt m pre m') : pre.length ≤ 9 := by
  obtain ⟨f, _, h2, _⟩ := h; omega
theorem EncAt.pos {m m' : Int} {pre : List Int} (h : EncAt m pre m') : 0 ≤ m' := by
  obtain ⟨f, _, _, h3, _⟩ := h; exact h3
end Go.Proofs.Ytekhmfliaojabaa
namespace Go.Proofs.Ytekhmfliaojabaa
open Go.RowKit

theorem elB : Elem Try.prog 22 5 1 1 (.int .u8 0) := Elem.mk' (by kernel_rfl) (by kernel_rfl) rfl (by decide)

/-- What a call returns that makes bytes: they read as 'xs', in memory of its own. -/
def RetBytes (w : World) (xs : List Int) (er : Int) (e : Ending) (w' : World) : Prop :=
  ∃ A n c, e = .returned (.tuple #[.slice A n c, .int .i64 er]) ∧ OwnS .u8 5 w.heap.size w' A n c xs ∧ Ext w w'
/-- The same where the bytes are the one result. -/
def RetB (w : World) (xs : List Int) (e : Ending) (w' : World) : Prop :=
  ∃ A n c, e = .returned (.slice A n c) ∧ OwnS .u8 5 w.heap.size w' A n c xs ∧ Ext w w'

end Go.Proofs.Ytekhmfliaojabaa
namespace Go.Proofs.Ytekhmfliaojabaa
open Go.RowKit

set_option maxHeartbeats 400000 in
theorem joined_any (A : Option Addr) (n c : Nat) (xss : List (List Int)) (w : World) (h : Lists .u8 w A n xss) (hn : n ≤ 1000000) (hb : xss.flatten.length ≤ 1000000000) :
    Calls Try.prog 69 #[.slice A n c] w (RetB w xss.flatten) := by
  have H := Lib.hid h
  have HB := Lib.hid hb
  clear h hb
  go_enter Try.func69, Try.ntmps69
  go_wp2
  go_loopg [3, 7] n (fun g v i wr => ∃ k m, g = n - k ∧ k ≤ n ∧ i = .int .i64 (k : Nat) ∧ wr.ownsRow w.heap.size 5 1 v m ((xss.take k).flatten.map (.int .u8)) ∧ Ext w wr ∧ (∀ x ∈ (xss.take k).flatten, (Lit.int .u8 x).wf = true))
  case atStart => exact ⟨0, 0, by omega, by omega, rfl, World.ownsRow_nil _ _ _ _, Ext.refl w, by simp⟩
  case round =>
    obtain ⟨k, m, rfl, hk, rfl, hown, hext, hwf⟩ := hrel
    have HX := Lib.hid hext
    have HW := Lib.hid hwf
    clear hext hwf
    by_cases hlt : k < n
    · obtain ⟨b, off, A', n', c', xs, rfl, hx, hc, hI, hc1, hc2⟩ := (H.out.ext HX.out).get hlt
      have HI := Lib.hid hI
      have HXS := Lib.hid hx
      clear hI hx
      have hlen : m + n' ≤ 1000000000 := by
        have h1 := flatten_take_le xss (k + 1)
        rw [flatten_take_succ HXS.out, List.length_append, HI.out.1] at h1
        have h2 := hown.1
        rw [List.length_map] at h2
        have := HB.out
        omega
      go_wp2_with (at_builtin; refine wpList_app _ elB rfl _ _ rfl w.heap.size u3 _ _ rfl hown A' n' c' (xs.map (.int .u8)) rfl (by rw [List.length_map]; exact HI.out.1.trans (by omega)) HI.out.2.2 (ints_oneCell _ _) (by omega) (by unfold maxLen; omega) HX.out.size ?_; intro v1 w1 hown1 hgr1 _)
      go_roundg (n - (k + 1))
      case rel =>
        refine ⟨k + 1, m + n', rfl, by omega, by go_num, ?_, HX.out.app hown hgr1, ?_⟩
        · rw [flatten_take_succ HXS.out, List.map_append]; exact hown1
        · rw [flatten_take_succ HXS.out]
          intro x hx
          rcases List.mem_append.1 hx with hx | hx
          · exact HW.out x hx
          · exact HI.out.2.1 x hx
      case measure => omega
    · go_wp2
      go_ret
      obtain ⟨A2, c2, rfl⟩ := own_slice hown
      have he : xss.take k = xss := List.take_of_length_le (by have := H.out.1; omega)
      rw [he] at hown
      have hw := HW.out
      rw [he] at hw
      refine ⟨A2, _, c2, rfl, ⟨hown, by have := hown.1; rw [List.length_map] at this; omega, hw⟩, HX.out⟩
end Go.Proofs.Ytekhmfliaojabaa
namespace Go.Proofs.Ytekhmfliaojabaa
open Go.RowKit

/-- The act with the values 'us k', 'us (k + 1)', .. in the slots 'ds'. -/
def fillA (a : Act) : List Tmp → (Nat → Value) → Nat → Act
  | [], _, _ => a
  | d :: ds, us, k => fillA (a.put (some d) (us k)) ds us (k + 1)

theorem put_put (a : Act) (d : Tmp) (x y : Value) : (a.put (some d) x).put (some d) y = a.put (some d) y := by
  simp [Act.put, Array.setIfInBounds_setIfInBounds]
theorem put_comm' (a : Act) {d e : Tmp} (h : d ≠ e) (x y : Value) : (a.put (some d) x).put (some e) y = (a.put (some e) y).put (some d) x := by
  simp only [Act.put]
  rw [Array.setIfInBounds_comm _ _ h]
theorem put_same (a : Act) (d : Tmp) (h : d < a.tmps.size) : a.put (some d) (a.tmps.getD d undef) = a := by
  simp only [Act.put]
  have : a.tmps.setIfInBounds d (a.tmps.getD d undef) = a.tmps := by
    apply Array.ext_getElem?
    intro i
    rw [Array.getElem?_setIfInBounds]
    by_cases hi : d = i
    · subst hi
      simp [h, Array.getD]
    · simp [hi]
  rw [this]

theorem fillA_far (ds : List Tmp) (us : Nat → Value) (d : Tmp) (v : Value) (hd : d ∉ ds) : ∀ (a : Act) (k : Nat), (fillA a ds us k).put (some d) v = fillA (a.put (some d) v) ds us k := by
  induction ds with
  | nil => intro a k; rfl
  | cons e ds ih =>
    intro a k
    simp only [List.mem_cons, not_or] at hd
    simp only [fillA]
    rw [ih hd.2, put_comm' a (Ne.symm hd.1)]
theorem fillA_congr (ds : List Tmp) (us us' : Nat → Value) : ∀ (a : Act) (k : Nat), (∀ j, k ≤ j → us j = us' j) → fillA a ds us k = fillA a ds us' k := by
  induction ds with
  | nil => intro a k _; rfl
  | cons e ds ih =>
    intro a k h
    simp only [fillA]
    rw [h k (Nat.le_refl _)]
    exact ih _ _ fun j hj => h j (by omega)
def upd (us : Nat → Value) (i : Nat) (v : Value) : Nat → Value := fun j => if j = i then v else us j
theorem fillA_put (ds : List Tmp) (us : Nat → Value) (v : Value) (hn : ds.Nodup) : ∀ (a : Act) (k i : Nat) (d : Tmp), ds[i]? = some d → (fillA a ds us k).put (some d) v = fillA a ds (upd us (k + i) v) k := by
  induction ds with
  | nil => intro a k i d h; simp at h
  | cons e ds ih =>
    intro a k i d h
    rw [List.nodup_cons] at hn
    cases i with
    | zero =>
      simp at h
      subst h
      simp only [fillA]
      rw [fillA_far ds us e v hn.1, put_put]
      have e1 : upd us (k + 0) v k = v := by simp [upd]
      rw [e1]
      exact fillA_congr ds _ _ _ _ fun j hj => by simp [upd]; omega
    | succ i =>
      simp only [fillA]
      have hi : ds[i]? = some d := by simpa using h
      rw [ih hn.2 _ (k + 1) i d hi]
      have e1 : upd us (k + (i + 1)) v k = us k := by simp [upd]
      have e2 : k + 1 + i = k + (i + 1) := by omega
      rw [e1, e2]
theorem fillA_start (ds : List Tmp) : ∀ (a : Act) (k : Nat) (us : Nat → Value), (∀ d ∈ ds, d < a.tmps.size) → (∀ i d, ds[i]? = some d → us (k + i) = a.tmps.getD d undef) → fillA a ds us k = a := by
  induction ds with
  | nil => intro a k us _ _; rfl
  | cons e ds ih =>
    intro a k us hb hu
    simp only [fillA]
    have h0 := hu 0 e rfl
    rw [Nat.add_zero] at h0
    rw [h0, put_same a e (hb e (List.mem_cons_self ..))]
    exact ih a (k + 1) us (fun d hd => hb d (List.mem_cons_of_mem _ hd)) fun i d hi => by
      have := hu (i + 1) d (by simpa using hi)
      rw [← this]; congr 1; omega

/-- What one operation must give. -/
def MonoOp (P : Program) (ops : Array Oper) (V : Nat → Value → World → Prop) (D : List (List Nat)) (ds : List Tmp) (a : Act) (w0 : World) (i : Nat) (o : Oper) : Prop :=
  ∀ (us : Nat → Value) (W : World), Ext w0 W → (∀ j ∈ D.getD i [], V j (us j) W) → ∀ K : Act → World → Prop, (∀ v W', V i v W' → Ext W W' → K ((fillA a ds us 0).put o.dst v) W') → ∀ Q' : Exit → Act → World → Prop,
    if Region.wanted o (yielded ops (fillA a ds us 0).tmps) then o.wp P (fillA a ds us 0) W K Q' else K ((fillA a ds us 0).put o.dst undef) W
def MonoAll (P : Program) (ops : Array Oper) (V : Nat → Value → World → Prop) (D : List (List Nat)) (ds : List Tmp) (a : Act) (w0 : World) : Nat → List Oper → Prop
  | _, [] => True
  | i, o :: rest => MonoOp P ops V D ds a w0 i o ∧ MonoAll P ops V D ds a w0 (i + 1) rest

theorem MonoAll.at {P : Program} {ops : Array Oper} {V : Nat → Value → World → Prop} {D : List (List Nat)} {ds : List Tmp} {a : Act} {w0 : World} : ∀ (l : List Oper) (k : Nat), MonoAll P ops V D ds a w0 k l → ∀ i o, l[i]? = some o → MonoOp P ops V D ds a w0 (k + i) o := by
  intro l
  induction l with
  | nil => intro k _ i o h; simp at h
  | cons x l ih =>
    intro k h i o ho
    cases i with
    | zero => simp at ho; subst ho; exact h.1
    | succ i =>
      have := ih (k + 1) h.2 i o (by simpa using ho)
      rw [show k + 1 + i = k + (i + 1) by omega] at this
      exact this

/-- What the kernel looks at: the head's slots; that each operation waits for those before it of which it makes use, and for none behind it; the tail's order. -/
def monoB (ops : Array Oper) (n : Nat) (ds : List Tmp) (D : List (List Nat)) : Bool :=
  decide (n < ops.size) && decide (ds.length = n) && decide ds.Nodup && (List.range n).all (fun i => (((ops[i]?).bind (·.dst)) == ds[i]?) && (D.getD i []).all (fun j => decide (j < i) && Region.waitsFor .any ops i j)) &&
  (List.range n).all (fun i => match ops[i]? with | some o => o.after.all (fun e => !Region.binds .any e || decide (e.on < i)) | none => false) &&
  Region.sinkB .any ops n && Region.chainB .any ops n && Region.seqB .any ops (ops.size - n) n ((List.range ops.size).map (fun i => decide (i < n))).toArray

section
variable {P : Program} {l : List Oper} {n : Nat} {ds : List Tmp} {D : List (List Nat)} {V : Nat → Value → World → Prop} {a : Act} {w0 : World} {Q : Exit → Act → World → Prop}

theorem mono_any (hB : monoB l.toArray n ds D = true) (hmono : ∀ i v W W', Ext W W' → V i v W → V i v W') (hop : MonoAll P l.toArray V D ds a w0 0 (l.take n))
    (hend : ∀ us W, (∀ j, j < n → V j (us j) W) → Ext w0 W → wpList P l.toArray Q (l.drop n) (fillA a ds us 0) W) :
    ∀ (f : Nat) (rem : List Nat) (listed : Array Bool) (us : Nat → Value) (W : World), rem.length = f → rem.Nodup → HeadInv .any l.toArray n listed → (∀ j, j < n → (listed.getD j true = false ↔ j ∈ rem)) → (∀ j ∈ rem, j < n) →
      (∀ j, j < n → j ∉ rem → V j (us j) W) → Ext w0 W → wpAny P .any l.toArray Q (f + (l.toArray.size - n)) listed (fillA a ds us 0) W := by
  simp only [monoB, Bool.and_eq_true, decide_eq_true_eq] at hB
  obtain ⟨⟨⟨⟨⟨⟨⟨hn, hl⟩, hnd⟩, hD⟩, hless⟩, hs⟩, hc⟩, hseq⟩ := hB
  intro f
  induction f with
  | zero =>
    intro rem listed us W hlen _ inv hrem _ hV hX
    obtain rfl : rem = [] := List.eq_nil_of_length_eq_zero hlen
    have hlist : listed = ((List.range l.toArray.size).map (fun i => decide (i < n))).toArray := by
      apply Array.ext
      · simp [inv.size]
      · intro i h1 h2
        have hsz := inv.size
        simp only [List.getElem_toArray, List.getElem_map, List.getElem_range]
        by_cases hi : i < n
        · have h3 := hrem i hi
          simp only [List.not_mem_nil, iff_false, Bool.not_eq_false] at h3
          have h4 : listed.getD i true = listed[i] := by simp [Array.getD, h1]
          rw [h4] at h3
          simp [h3, hi]
        · have h3 := inv.tail i (by omega) (by omega)
          have h4 : listed.getD i true = listed[i] := by simp [Array.getD, h1]
          rw [h4] at h3
          simp [h3, hi]
    have hdl : (l.drop n).length = l.toArray.size - n := by simp
    rw [Nat.zero_add, ← hdl]
    refine wpAny_of_seq (l.drop n) n listed _ W (fun j => by simp [List.getElem?_drop]) ?_ (hend us W (fun j hj => hV j hj (by simp)) hX)
    rw [hdl, hlist]
    exact hseq
  | succ f ih =>
    intro rem listed us W hlen hnodup inv hrem hlt hV hX
    rw [show f + 1 + (l.toArray.size - n) = (f + (l.toArray.size - n)) + 1 by omega]
    -- the least operation of the head that is left
    have hne : rem ≠ [] := by intro e; subst e; simp at hlen
    refine ⟨fun h0 => ?_, fun i hi => ?_⟩
    · exfalso
      obtain ⟨k, hk, hmin⟩ : ∃ k ∈ rem, ∀ j ∈ rem, k ≤ j := by
        obtain ⟨m, hm, hm2⟩ := exists_least (p := fun m => m ∈ rem) (by cases rem with | nil => exact absurd rfl hne | cons x xs => exact ⟨x, List.mem_cons_self ..⟩)
        exact ⟨m, hm, fun j hj => hm2 j hj⟩
      have hkn := hlt k hk
      have hr : k ∈ Region.ready .any l.toArray listed := by
        refine mem_ready.2 ⟨(hrem k hkn).2 hk, ?_⟩
        have h1 := List.all_eq_true.1 hless k (List.mem_range.2 hkn)
        cases ho : l.toArray[k]? with
        | none => rw [ho] at h1; simp at h1
        | some o =>
          rw [ho] at h1
          refine ⟨o, rfl, fun e he hb => ?_⟩
          have h2 := Array.all_eq_true_iff_forall_mem.1 h1 e he
          simp only [hb, Bool.not_true, Bool.false_or, decide_eq_true_eq] at h2
          have h3 : e.on ∉ rem := fun h => by have := hmin _ h; omega
          have h4 : listed.getD e.on true = true := by
            cases h5 : listed.getD e.on true with
            | true => rfl
            | false => exact absurd ((hrem e.on (by omega)).1 h5) h3
          have hsz : e.on < listed.size := by rw [inv.size]; omega
          simp [Array.getD, hsz] at h4 ⊢
          exact h4
      rw [h0] at hr
      cases hr
    · have hin : i < n := by
        rcases Nat.lt_or_ge i n with h | h
        · exact h
        · obtain ⟨k, hk⟩ : ∃ k, k ∈ rem := by cases rem with | nil => exact absurd rfl hne | cons x xs => exact ⟨x, List.mem_cons_self ..⟩
          exact absurd hi (tail_waits hs hc hn inv _ k rfl (hlt k hk) ((hrem k (hlt k hk)).2 hk) i h)
      obtain ⟨hun, o, ho, hall⟩ := mem_ready.1 hi
      have hir : i ∈ rem := (hrem i hin).1 hun
      have hDi := List.all_eq_true.1 hD i (List.mem_range.2 hin)
      simp only [Bool.and_eq_true, beq_iff_eq] at hDi
      obtain ⟨hdst, hdeps⟩ := hDi
      rw [ho] at hdst
      simp only [Option.bind_some] at hdst
      have hid : i < ds.length := by omega
      obtain ⟨d, hd⟩ : ∃ d, ds[i]? = some d := ⟨_, List.getElem?_eq_getElem hid⟩
      rw [hd] at hdst
      have hm := MonoAll.at (l.take n) 0 hop i o (by rw [List.getElem?_take, if_pos hin]; simpa using ho)
      rw [Nat.zero_add] at hm
      have hdp : ∀ j ∈ D.getD i [], V j (us j) W := fun j hj => by
        have h1 := List.all_eq_true.1 hdeps j hj
        simp only [Bool.and_eq_true, decide_eq_true_eq] at h1
        obtain ⟨oj, hoj, e, he, hb, hon⟩ := Region.waitsFor_spec h1.2
        have : oj = o := Option.some.inj (hoj.symm.trans ho)
        subst this
        have h2 := hall e he hb
        rw [hon] at h2
        refine hV j (by omega) fun hjr => ?_
        have h3 := (hrem j (by omega)).2 hjr
        rw [getD_both h3] at h2
        cases h2
      have key : ∀ v W', V i v W' → Ext W W' → wpAny P .any l.toArray Q (f + (l.toArray.size - n)) (listed.setIfInBounds i true) ((fillA a ds us 0).put o.dst v) W' := fun v W' hv hx => by
        rw [hdst, fillA_put ds us v hnd a 0 i d hd, Nat.zero_add]
        refine ih (rem.erase i) _ (upd us i v) W' (by rw [List.length_erase_of_mem hir]; omega) (hnodup.erase i) (inv.set hi hin) (fun j hj => ?_) (fun j hj => hlt j (List.mem_of_mem_erase hj)) (fun j hj hjr => ?_) (hX.trans hx)
        · by_cases hji : i = j
          · subst hji
            have hsz : i < listed.size := by rw [inv.size]; omega
            simp [Array.getD, hsz]
            exact fun h => (hnodup.mem_erase_iff.1 h).1 rfl
          · rw [getD_set_ne true hji, hrem j hj, hnodup.mem_erase_iff]
            exact ⟨fun h => ⟨Ne.symm hji, h⟩, fun h => h.2⟩
        · by_cases hji : j = i
          · subst hji; simpa [upd] using hv
          · have : upd us i v j = us j := by simp [upd, hji]
            rw [this]
            exact hmono j _ _ _ hx (hV j hj fun h => hjr (hnodup.mem_erase_iff.2 ⟨hji, h⟩))
      unfold wpOp
      rw [ho]
      simp only
      have hgo := hm us W hX hdp (wpAny P .any l.toArray Q (f + (l.toArray.size - n)) (listed.setIfInBounds i true)) key Q
      split
      · rename_i hw; rw [if_pos hw] at hgo; exact .inl hgo
      · rename_i hw; rw [if_neg hw] at hgo; exact hgo

/-- THE LAW. -/
theorem wp_region_mono {id : Nat} {w : World} (n : Nat) (ds : List Tmp) (D : List (List Nat)) (V : Nat → Value → World → Prop) (hm : P.follows .mixedOrders = true) (hB : monoB l.toArray n ds D = true)
    (hd : ∀ d ∈ ds, d < a.tmps.size) (hmono : ∀ i v W W', Ext W W' → V i v W → V i v W') (hop : MonoAll P l.toArray V D ds a w.drew 0 (l.take n))
    (hend : ∀ us W, (∀ j, j < n → V j (us j) W) → Ext w.drew W → wpList P l.toArray Q (l.drop n) (fillA a ds us 0) W) : (Code.region id l.toArray true).wp P Q a w := by
  refine wp_region_any hm ?_
  have hB' := hB
  simp only [monoB, Bool.and_eq_true, decide_eq_true_eq] at hB'
  obtain ⟨⟨⟨⟨⟨⟨⟨hn, hl⟩, hnd⟩, _⟩, _⟩, _⟩, _⟩, _⟩ := hB'
  have h := mono_any hB hmono hop hend n (List.range n) (Array.replicate l.toArray.size false) (fun j => a.tmps.getD (ds.getD j 0) undef) w.drew (by simp) List.nodup_range
    ⟨by simp, fun j oj _ hl => (by rw [getD_replicate_false] at hl; cases hl), fun t _ ht => getD_in (by simpa using ht) (getD_replicate_false _ _)⟩
    (fun j hj => ⟨fun _ => List.mem_range.2 hj, fun _ => getD_in (by simp at hn ⊢; omega) (getD_replicate_false _ _)⟩) (fun j hj => List.mem_range.1 hj)
    (fun j hj h => absurd (List.mem_range.2 hj) h) (Ext.refl _)
  rw [fillA_start ds a 0 _ hd (fun i d hi => by simp [List.getD, hi])] at h
  have e : n + (l.toArray.size - n) = l.toArray.size := by omega
  rw [e] at h
  exact h
end
end Go.Proofs.Ytekhmfliaojabaa
