/- Own base of the proofs of this seat: how memory grows ('Ext'), how a slice reads as a list ('At', 'Ints'), and the laws for append, make and copy in those words. Conditions: none; plain lemmas over the model. -/
import Derived.WalkKit
import Derived.WalkSpells
import Derived.WalkLawsBesides
import Derived.ProofKit
import Derived.OpenShut
import Derived.ShutString
import Derived.ChangeOld
import Derived.Lib.Hide
import Derived.Maps.AppendAt
import Derived.Laws.CopyOwn
import Derived.Deep.Draws
import Derived.Maps.RangeWalk
import Derived.Deep.LoopGhost
import Derived.Deep.DeepCutAuto
import Derived.Deep.QuietTactic
import Derived.BigQuiet
import Derived.StillTailTactics
namespace Go.Proofs.Yteoijnaljkagfaa
open Go.RowKit

/-- 'w'' has every block of 'w' as it was, and perhaps more. -/
def Ext (w w' : World) : Prop := Below w.heap.size w w'

theorem Ext.refl (w : World) : Ext w w := Below.refl _ _
theorem Ext.size {a b : World} (h : Ext a b) : a.heap.size ≤ b.heap.size := Below.size h
theorem Ext.trans {a b c : World} (h : Ext a b) (k : Ext b c) : Ext a c := Below.trans h (Below.mono k h.size)
theorem Ext.drew {a b : World} (h : Ext a b) : Ext a b.drew := Below.drew h
theorem Ext.drewN {a b : World} (h : Ext a b) (n : Nat) : Ext a (b.drewN n) := ⟨h.os, h.tape, h.output, h.size, h.block⟩
theorem Ext.alloc {a b : World} (h : Ext a b) (o : Obj) : Ext a (b.alloc o) := Below.alloc h h.size o
theorem Ext.setCell {a b : World} (h : Ext a b) {p : Addr} (hp : a.heap.size ≤ p.block) (u : Value) : Ext a (b.setCell p u) := Below.setCell h hp u
theorem Ext.grown {a b c : World} {row : Option Nat} (h : Ext a b) (hg : b.grownBy c row) (hr : ∀ k, row = some k → a.heap.size ≤ k) : Ext a c := Below.grown h hg h.size hr
theorem Ext.cell {a b : World} (h : Ext a b) {p : Addr} {v : Value} (hc : a.cell? p = some v) : b.cell? p = some v :=
  (Below.cell h (World.block_lt_of_cell? a p hc)).trans hc
theorem Ext.of_grown {a b : World} (h : a.grownBy b none) : Ext a b := ⟨h.os, h.tape, h.output, h.size, fun k hk => h.block k hk (by simp)⟩
theorem Ext.row {a b : World} (h : Ext a b) (row : Option Nat) : a.grownBy b row := ⟨h.os, h.tape, h.output, h.size, fun k hk _ => h.block k hk⟩

/-- The address 'A' leads to the cells 'vs' (no matter where, if there are none). -/
def At (w : World) (A : Option Addr) (vs : List Value) : Prop :=
  vs ≠ [] → ∃ b off, A = some ⟨b, off, none⟩ ∧ ∀ j v, vs[j]? = some v → w.cell? ⟨b, off + j, none⟩ = some v

section
variable {w w' : World} {A : Option Addr} {vs : List Value}
theorem At.nil : At w A [] := fun h => absurd rfl h
theorem At.ext (h : At w A vs) (he : Ext w w') : At w' A vs := fun hn => by
  obtain ⟨b, off, hA, hc⟩ := h hn
  exact ⟨b, off, hA, fun j v hv => he.cell (hc j v hv)⟩
theorem At.get (h : At w A vs) {j : Nat} (hj : j < vs.length) : ∃ b off v, A = some ⟨b, off, none⟩ ∧ vs[j]? = some v ∧ w.cell? ⟨b, off + j, none⟩ = some v := by
  obtain ⟨b, off, hA, hc⟩ := h (by intro e; subst e; simp at hj)
  exact ⟨b, off, vs[j], hA, List.getElem?_eq_getElem hj, hc j _ (List.getElem?_eq_getElem hj)⟩
theorem At.take (h : At w A vs) (k : Nat) : At w A (vs.take k) := fun hn => by
  obtain ⟨b, off, hA, hc⟩ := h (by intro e; subst e; simp at hn)
  refine ⟨b, off, hA, fun j v hv => hc j v ?_⟩
  rw [List.getElem?_take] at hv
  split at hv
  · exact hv
  · cases hv
theorem At.drop (h : At w A vs) (k : Nat) {A' : Option Addr} (hA' : k < vs.length → ∀ b off, A = some ⟨b, off, none⟩ → A' = some ⟨b, off + k, none⟩) : At w A' (vs.drop k) := fun hn => by
  have hk : k < vs.length := by
    rcases Nat.lt_or_ge k vs.length with h1 | h1
    · exact h1
    · exact absurd (List.drop_eq_nil_of_le h1) hn
  obtain ⟨b, off, hA, hc⟩ := h (by intro e; subst e; simp at hk)
  refine ⟨b, off + k, hA' hk b off hA, fun j v hv => ?_⟩
  rw [Nat.add_assoc]
  exact hc _ v (by rw [← hv, List.getElem?_drop])
theorem At.add (h : At w A vs) : ∀ ad, A = some ad → ∀ j u, vs[j]? = some u → w.cell? (ad.add j) = some u := by
  intro ad hA j u hu
  obtain ⟨b, off, hA', hc⟩ := h (by intro e; subst e; simp at hu)
  rw [hA] at hA'
  injection hA' with hA'
  subst hA'
  rw [Addr.add_lit]
  exact hc j u hu
theorem At.of_own {base : Nat} {e : TypeId} {size n c : Nat} (h : w.ownsRow base e size (.slice A n c) n vs) : At w A vs := fun hn => by
  rcases h.2 with ⟨hv, h0⟩ | ⟨g, cap, cur, hv, _, hg, _⟩
  · subst h0
    exact absurd (List.eq_nil_of_length_eq_zero (by simpa using h.1)) hn
  · have hA : A = some ⟨g, 0, none⟩ := by injection hv
    subst hA
    refine ⟨g, 0, rfl, fun j v hj => ?_⟩
    have := h.cells (g := g) rfl j v hj
    rwa [Addr.add_lit] at this
end

theorem At.new (w : World) (vs : List Value) (t : TypeId) : At (w.alloc (.cells vs.toArray t)) (some ⟨w.heap.size, 0, none⟩) vs := fun _ =>
  ⟨w.heap.size, 0, rfl, fun j v hv => by
    rw [cell_of_row _ w.heap.size (0 + j) vs.toArray t (0, 0) (heap_alloc_new w _)]
    simpa using hv⟩

theorem own_slice {w : World} {base : Nat} {e : TypeId} {size n : Nat} {v : Value} {vs : List Value} (h : w.ownsRow base e size v n vs) : ∃ A c, v = .slice A n c := by
  rcases h.2 with ⟨rfl, rfl⟩ | ⟨g, cap, cur, rfl, _⟩
  · exact ⟨_, _, rfl⟩
  · exact ⟨_, _, rfl⟩

/-- Behind an append onto a row of the call's own, whose source was made just ahead of it. -/
theorem Ext.push {w wr w1 : World} {o : Obj} {e : TypeId} {size n : Nat} {v : Value} {vs : List Value} (h : Ext w wr) (hown : wr.ownsRow w.heap.size e size v n vs) (hg : (wr.alloc o).grownBy w1 v.ownBlock) : Ext w w1 :=
  (h.alloc o).grown hg fun k hk => (hown.lt k hk).1
theorem Ext.app {w wr w1 : World} {e : TypeId} {size n : Nat} {v : Value} {vs : List Value} (h : Ext w wr) (hown : wr.ownsRow w.heap.size e size v n vs) (hg : wr.grownBy w1 v.ownBlock) : Ext w w1 :=
  h.grown hg fun k hk => (hown.lt k hk).1

/-- A callee's contract inside a region that reads alone. -/
theorem quiet_left {P : Program} {f : FuncId} {args : Array Value} {w : World} {n : Nat} {v : Value}
    (h : Calls P f args (w.drewN n) fun e w' => e = .returned v ∧ w.drewN n = w') : Calls P f args (w.drewN n) fun e w'' => e = .returned v ∧ ∃ m, w'' = w.drewN m :=
  h.mono fun _ _ ⟨he, hm⟩ => ⟨he, n, hm.symm⟩

/-- The cells of a block that was just made. -/
theorem new_cell (w : World) (cs : Array Value) (t : TypeId) (i nq : Nat) : ((w.alloc (.cells cs t)).drewN nq).cell? ⟨w.heap.size, i, none⟩ = cs[i]? :=
  cell_of_row (w.alloc (.cells cs t)) w.heap.size i cs t (0, 0) (heap_alloc_new w _)
theorem new_free (w : World) (cs : Array Value) (t : TypeId) (i nq : Nat) : ((w.alloc (.cells cs t)).drewN nq).frozen? ⟨w.heap.size, i, none⟩ = false := by
  have h : ((w.alloc (.cells cs t)).drewN nq).heap[w.heap.size]? = some (.cells cs t (0, 0)) := heap_alloc_new w _
  unfold World.frozen?
  rw [h]
  simp

/-- A slice of integers of kind 'k' with 'n' elements reads as 'xs'. -/
def Ints (k : IntKind) (w : World) (A : Option Addr) (n : Nat) (xs : List Int) : Prop :=
  xs.length = n ∧ (∀ x ∈ xs, (Lit.int k x).wf = true) ∧ At w A (xs.map (Value.int k))

section
variable {w w' : World} {A : Option Addr} {n : Nat} {xs : List Int} {k : IntKind}
theorem Ints.ext (h : Ints k w A n xs) (he : Ext w w') : Ints k w' A n xs := ⟨h.1, h.2.1, h.2.2.ext he⟩
theorem Ints.nil : Ints k w A 0 [] := ⟨rfl, by simp, At.nil⟩
theorem Ints.get (h : Ints k w A n xs) {j : Nat} (hj : j < n) : ∃ b off x, A = some ⟨b, off, none⟩ ∧ xs[j]? = some x ∧ (Lit.int k x).wf = true ∧ w.cell? ⟨b, off + j, none⟩ = some (.int k x) := by
  have hj' : j < xs.length := by rw [h.1]; exact hj
  obtain ⟨b, off, v, hA, hv, hc⟩ := h.2.2.get (j := j) (by simpa using hj')
  rw [List.getElem?_map, List.getElem?_eq_getElem hj'] at hv
  simp only [Option.map_some, Option.some.injEq] at hv
  subst hv
  exact ⟨b, off, xs[j], hA, List.getElem?_eq_getElem hj', h.2.1 _ (List.getElem_mem hj'), hc⟩
theorem u8_bounds {x : Int} (h : (Lit.int .u8 x).wf = true) : 0 ≤ x ∧ x ≤ 255 := by
  simp [Lit.wf, IntKind.min, IntKind.max, IntKind.bits, IntKind.signed] at h; omega
theorem u32_bounds {x : Int} (h : (Lit.int .u32 x).wf = true) : 0 ≤ x ∧ x ≤ 4294967295 := by
  simp [Lit.wf, IntKind.min, IntKind.max, IntKind.bits, IntKind.signed] at h; omega
theorem i64_bounds {x : Int} (h : (Lit.int .i64 x).wf = true) : -9223372036854775808 ≤ x ∧ x ≤ 9223372036854775807 := by
  simp [Lit.wf, IntKind.min, IntKind.max, IntKind.bits, IntKind.signed] at h; omega
theorem Ints.take (h : Ints k w A n xs) {m : Nat} (hm : m ≤ n) : Ints k w A m (xs.take m) :=
  ⟨by rw [List.length_take, h.1]; omega, fun x hx => h.2.1 x (List.mem_of_mem_take hx), by rw [List.map_take]; exact h.2.2.take m⟩
theorem Ints.drop (h : Ints k w A n xs) (m : Nat) {A' : Option Addr} (hA' : m < n → ∀ b off, A = some ⟨b, off, none⟩ → A' = some ⟨b, off + m, none⟩) : Ints k w A' (n - m) (xs.drop m) :=
  ⟨by rw [List.length_drop, h.1], fun x hx => h.2.1 x (List.mem_of_mem_drop hx), by rw [List.map_drop]; exact h.2.2.drop m (by simpa [h.1] using hA')⟩
end

theorem World.ownsRow.ext' {w w' : World} {base : Nat} {e : TypeId} {size n : Nat} {v : Value} {vs : List Value} (h : w.ownsRow base e size v n vs) (he : Ext w w') : w'.ownsRow base e size v n vs :=
  h.kept (he.row none) (by cases hv : v.ownBlock <;> simp)
theorem World.ownsRow.mono' {w : World} {base base' : Nat} {e : TypeId} {size n : Nat} {v : Value} {vs : List Value} (h : w.ownsRow base e size v n vs) (hb : base' ≤ base) : w.ownsRow base' e size v n vs := by
  refine ⟨h.1, ?_⟩
  rcases h.2 with hn | ⟨g, cap, cur, hv, hg, rest⟩
  · exact .inl hn
  · exact .inr ⟨g, cap, cur, hv, by omega, rest⟩

/-- A slice of integers in memory from block 'base' on, with a row of its own, which reads as 'xs'. -/
structure OwnS (k : IntKind) (e : TypeId) (base : Nat) (w : World) (A : Option Addr) (n c : Nat) (xs : List Int) : Prop where
  own : w.ownsRow base e 1 (.slice A n c) n (xs.map (Value.int k))
  len : xs.length = n
  wf : ∀ x ∈ xs, (Lit.int k x).wf = true
section
variable {k : IntKind} {e : TypeId} {base : Nat} {w w' : World} {A : Option Addr} {n c : Nat} {xs : List Int}
theorem OwnS.ints (h : OwnS k e base w A n c xs) : Ints k w A n xs := ⟨h.len, h.wf, At.of_own h.own⟩
theorem OwnS.ext (h : OwnS k e base w A n c xs) (he : Ext w w') : OwnS k e base w' A n c xs := ⟨World.ownsRow.ext' h.own he, h.len, h.wf⟩
theorem OwnS.mono {base' : Nat} (h : OwnS k e base w A n c xs) (hb : base' ≤ base) : OwnS k e base' w A n c xs := ⟨World.ownsRow.mono' h.own hb, h.len, h.wf⟩
theorem own_cap {e : TypeId} {size : Nat} {vs : List Value} (h : w.ownsRow base e size (.slice A n c) n vs) : n ≤ c ∧ c ≤ 9223372036854775807 := by
  rcases h.2 with ⟨hv, h0⟩ | ⟨g, cap, cur, hv, _, _, h1, h2, _⟩
  · injection hv with _ _ h3; omega
  · injection hv with _ _ h3
    subst h3
    unfold maxLen at h2
    exact ⟨h1, by omega⟩
theorem OwnS.cap (h : OwnS k e base w A n c xs) : n ≤ c ∧ c ≤ 9223372036854775807 := own_cap h.own
end

/-- A value that is a slice of integers, which reads as 'xs'. -/
def SlV (k : IntKind) (w : World) (v : Value) (xs : List Int) : Prop := ∃ A n c, v = .slice A n c ∧ Ints k w A n xs ∧ n ≤ c ∧ c ≤ 9223372036854775807
/-- A slice of slices of integers reads as 'xss'. -/
def Lists (k : IntKind) (w : World) (A : Option Addr) (n : Nat) (xss : List (List Int)) : Prop :=
  xss.length = n ∧ ∃ vs : List Value, vs.length = n ∧ At w A vs ∧ ∀ (j : Nat) v xs, vs[j]? = some v → xss[j]? = some xs → SlV k w v xs
section
variable {k : IntKind} {w w' : World} {A : Option Addr} {n : Nat} {xss : List (List Int)}
theorem SlV.ext {v : Value} {xs : List Int} (h : SlV k w v xs) (he : Ext w w') : SlV k w' v xs := by
  obtain ⟨A, n, c, hv, hi, h1, h2⟩ := h
  exact ⟨A, n, c, hv, hi.ext he, h1, h2⟩
theorem Lists.ext (h : Lists k w A n xss) (he : Ext w w') : Lists k w' A n xss := by
  obtain ⟨hl, vs, h1, h2, h3⟩ := h
  exact ⟨hl, vs, h1, h2.ext he, fun j v xs a b => (h3 j v xs a b).ext he⟩
theorem Lists.get (h : Lists k w A n xss) {j : Nat} (hj : j < n) : ∃ b off A' n' c' xs, A = some ⟨b, off, none⟩ ∧ xss[j]? = some xs ∧ w.cell? ⟨b, off + j, none⟩ = some (.slice A' n' c') ∧ Ints k w A' n' xs ∧ n' ≤ c' ∧ c' ≤ 9223372036854775807 := by
  obtain ⟨hl, vs, h1, h2, h3⟩ := h
  obtain ⟨b, off, v, hA, hv, hc⟩ := h2.get (j := j) (by omega)
  have hx : xss[j]? = some xss[j] := List.getElem?_eq_getElem (by omega)
  obtain ⟨A', n', c', rfl, hi, h4, h5⟩ := h3 j v _ hv hx
  exact ⟨b, off, A', n', c', _, hA, hx, hc, hi, h4, h5⟩
theorem Lists.one {xs : List Int} {v : Value} (hat : At w A [v]) (h : SlV k w v xs) : Lists k w A 1 [xs] :=
  ⟨rfl, [v], rfl, hat, fun j u ys hu hy => by
    match j with
    | 0 => simp at hu hy; subst hu hy; exact h
    | j + 1 => simp at hu⟩
end

theorem flatten_take_succ {α : Type} {xss : List (List α)} {k : Nat} {xs : List α} (h : xss[k]? = some xs) : (xss.take (k + 1)).flatten = (xss.take k).flatten ++ xs := by
  rw [List.take_add_one, h]; simp
theorem flatten_take_le {α : Type} (xss : List (List α)) (k : Nat) : (xss.take k).flatten.length ≤ xss.flatten.length := by
  have h : xss.flatten = (xss.take k).flatten ++ (xss.drop k).flatten := by rw [← List.flatten_append, List.take_append_drop]
  rw [h, List.length_append]; omega

/-- The element type 'e' of the slice type 't': one value of 'size' cells and 'bytes' bytes, whose zero is 'z'. -/
structure Elem (P : Program) (t e : TypeId) (size bytes : Nat) (z : Value) : Prop where
  und : P.underlying t = some (.slice e)
  info : ∃ i, P.info? e = some i ∧ i.zero = some z ∧ i.size = size ∧ i.bytes = bytes
  cells : z.cells.size = size
  pos : 0 < size

theorem Elem.mk' {P : Program} {t e : TypeId} {size bytes : Nat} {z : Value} (h1 : P.underlying t = some (.slice e))
    (h2 : (P.info? e).map (fun i => (i.zero, i.size, i.bytes)) = some (some z, size, bytes)) (h3 : z.cells.size = size) (h4 : 0 < size) : Elem P t e size bytes z :=
  ⟨h1, info_parts h2, h3, h4⟩

section
variable {P : Program}

theorem run_app (w : World) {t e : TypeId} {size bytes : Nat} {z : Value} (E : Elem P t e size bytes z) (ty : TypeId) (base : Nat)
    (v : Value) (n : Nat) (xs : List Value) (hown : w.ownsRow base e size v n xs)
    (A : Option Addr) (m c : Nat) (news : List Value) (hl : news.length = m * size) (hat : At w A news) (h1 : ∀ u ∈ news, u.oneCell' = true)
    (hbytes : (n + m) * bytes ≤ 140737488355328) (h63 : n + m ≤ maxLen) (hbase : base ≤ w.heap.size) :
    ∃ v' w', (Builtin.append_ #[t, t] ty #[v, .slice A m c]).run P w = .ok v' w' ∧ w'.ownsRow base e size v' (n + m) (xs ++ news) ∧ w.grownBy w' v.ownBlock ∧
      (v'.ownBlock = v.ownBlock ∨ v'.ownBlock = some w.heap.size) := by
  obtain ⟨i, hi, hz, hs, hb⟩ := E.info
  rcases A with _ | ad
  · have hn : news = [] := by
      rcases news with _ | ⟨u, us⟩
      · rfl
      · obtain ⟨b, off, hA, _⟩ := hat (by simp)
        cases hA
    subst hn
    have hm : m = 0 := by
      have h0 : m * size = 0 := by simpa using hl.symm
      rcases Nat.mul_eq_zero.1 h0 with h | h
      · exact h
      · have := E.pos; omega
    subst hm
    refine ⟨v, w, ?_, by simpa using hown, World.grownBy.refl w _, .inl rfl⟩
    rcases hown.2 with ⟨rfl, rfl⟩ | ⟨g, cap, cur, rfl, _, _, hnc, _⟩
    · simp [Builtin.append_, run_underlying E.und, sizeOf, typeInfo, hi, Builtin.lenOf, Builtin.firstCells]
    · simp [Builtin.append_, run_underlying E.und, sizeOf, typeInfo, hi, Builtin.lenOf, Builtin.firstCells, hnc, storeCells]
  · obtain ⟨v', w', hrun, h2, h3, _, h5⟩ := run_append_own_at (P := P) w base t ty e i z size bytes E.und hi hz hs hb E.cells E.pos v n xs hown ad m c news hl (hat.add ad rfl) h1 h63 hbytes hbase
    exact ⟨v', w', hrun, h2, h3, h5⟩

/-- 'append(s, x...)' onto a row of the call's own, whatever the source. -/
theorem wpList_app (w : World) {t e : TypeId} {size bytes : Nat} {z : Value} (E : Elem P t e size bytes z) {ops : Array Oper} {rest : List Oper} {o : Oper} {a : Act} {Q : Exit → Act → World → Prop}
    (hgd : o.guard = none) (s x : Operand) (ho : o.op = .call { callee := .builtin .append, args := #[s, x], argTypes := #[t, t] })
    (base : Nat) (v : Value) (n : Nat) (xs : List Value) (hs : a.eval s = v) (hown : w.ownsRow base e size v n xs)
    (A : Option Addr) (m c : Nat) (news : List Value) (hx : a.eval x = .slice A m c) (hl : news.length = m * size) (hat : At w A news) (h1 : ∀ u ∈ news, u.oneCell' = true)
    (hbytes : (n + m) * bytes ≤ 140737488355328) (h63 : n + m ≤ maxLen) (hbase : base ≤ w.heap.size)
    (h : ∀ v' w', w'.ownsRow base e size v' (n + m) (xs ++ news) → w.grownBy w' v.ownBlock → (v'.ownBlock = v.ownBlock ∨ v'.ownBlock = some w.heap.size) → wpList P ops Q rest (a.put o.dst v') w') :
    wpList P ops Q (o :: rest) a w :=
  wpList_plain hgd fun K hK => by
    obtain ⟨v', w', hrun, h2, h3, h4⟩ := run_app (P := P) w E o.type base v n xs hown A m c news hl hat h1 hbytes h63 hbase
    unfold Oper.wp execOp
    simp only [ho, resolve, invoke, builtin, Sem.run_bind, Sem.run_pure, Result.andThen_ok, List.map_toArray, List.map_cons, List.map_nil, hs, hx, hrun]
    exact hK _ _ (h v' w' h2 h3 h4)

/-- 'make([]T, n, c)', T of one cell. -/
theorem wpList_mk (w : World) {t e : TypeId} {bytes : Nat} {z : Value} (E : Elem P t e 1 bytes z) (hz1 : z.cells = #[z]) {ops : Array Oper} {rest : List Oper} {o : Oper} {a : Act} {Q : Exit → Act → World → Prop}
    (hgd : o.guard = none) (l c : Operand) (ho : o.op = .makeSlice t l c) (base : Nat) (kl kc : IntKind) (L C : Int) (n m : Nat) (hl : a.eval l = .int kl L) (hc : a.eval c = .int kc C)
    (hL : L = n) (hC : C = m) (hnm : n ≤ m) (hb : bytes * m ≤ 281474976710656) (hm : m ≤ maxLen) (hbase : base ≤ w.heap.size)
    (h : ∀ w', w'.ownsRow base e 1 (.slice (some ⟨w.heap.size, 0, none⟩) n m) n (List.replicate n z) → Ext w w' → w.heap.size < w'.heap.size → wpList P ops Q rest (a.put o.dst (.slice (some ⟨w.heap.size, 0, none⟩) n m)) w') :
    wpList P ops Q (o :: rest) a w :=
  wpList_plain hgd fun K hK => by
    obtain ⟨i, hi, hz, hs, hby⟩ := E.info
    subst hL hC hby
    have hbI : (i.bytes : Int) * (m : Int) ≤ 281474976710656 := by
      have h : ((i.bytes * m : Nat) : Int) ≤ 281474976710656 := by omega
      rwa [Int.natCast_mul] at h
    have hrun := run_make (P := P) w t e i z E.und hi hz kl kc n m (by omega) (by omega) hbI (by unfold maxLen at hm; omega)
    simp only [Int.toNat_natCast] at hrun
    rw [hs, Nat.mul_one, hz1] at hrun
    have hown : (w.alloc (.cells (madeCells #[z] m) e)).ownsRow base e 1 (.slice (some ⟨w.heap.size, 0, none⟩) n m) n (List.replicate n z) := by
      refine ⟨by simp, .inr ⟨w.heap.size, m, _, rfl, hbase, heap_alloc_new w _, hnm, hm, by rw [size_madeCells]; simp, ?_⟩⟩
      rw [toList_madeCells_one, Nat.mul_one, List.take_replicate, Nat.min_eq_left hnm]
    unfold Oper.wp
    simp [execOp, ho, hl, hc, hrun, Result.andThen]
    exact hK _ _ (h _ hown ((Ext.refl w).alloc _) (by simp))

/-- 'copy(d, s)' into a row of the call's own, from its head, elements of one cell. -/
theorem wpList_cp (w : World) {t u e : TypeId} {bytes : Nat} {z : Value} (E : Elem P t e 1 bytes z) {ops : Array Oper} {rest : List Oper} {o : Oper} {a : Act} {Q : Exit → Act → World → Prop}
    (hgd : o.guard = none) (d s : Operand) (ho : o.op = .call { callee := .builtin .copy, args := #[d, s], argTypes := #[t, u] }) (base : Nat)
    (D : Option Addr) (n dc : Nat) (xs : List Value) (hd : a.eval d = .slice D n dc) (hown : w.ownsRow base e 1 (.slice D n dc) n xs)
    (A : Option Addr) (m c : Nat) (news : List Value) (hx : a.eval s = .slice A m c) (hl : news.length = m) (hat : At w A news) (h1 : ∀ u ∈ news, u.oneCell' = true)
    (h : ∀ w' (r : Int), w'.ownsRow base e 1 (.slice D n dc) n (news.take n ++ xs.drop m) → w.grownBy w' (Value.slice D n dc).ownBlock → Hid (r = (Nat.min m n : Nat)) → wpList P ops Q rest (a.put o.dst (.int .i64 r)) w') :
    wpList P ops Q (o :: rest) a w := by
  obtain ⟨i, hi, hz, hs, hby⟩ := E.info
  have hsz : (P.info? e).map (·.size) = some 1 := by rw [hi]; simp [hs]
  have hxl : xs.length = n := by simpa using hown.1
  by_cases h0 : Nat.min m n = 0
  · refine wpList_copy_nothing hgd d s t u ho e E.und hsz D A n dc m c hd hx h0 ?_
    have e1 : news.take n ++ xs.drop m = xs := by
      rcases Nat.le_total m n with hmn | hmn
      · have hm0 : m = 0 := by simpa [Nat.min_eq_left hmn] using h0
        subst hm0
        obtain rfl : news = [] := List.eq_nil_of_length_eq_zero hl
        simp
      · have hn0 : n = 0 := by simpa [Nat.min_eq_right hmn] using h0
        subst hn0
        obtain rfl : xs = [] := List.eq_nil_of_length_eq_zero hxl
        simp
    exact h w 0 (by rw [e1]; exact hown) (World.grownBy.refl w _) (by rw [h0]; rfl)
  · have hq : (m ≤ n ∧ Nat.min m n = m) ∨ (n ≤ m ∧ Nat.min m n = n) := by
      rcases Nat.le_total m n with hmn | hmn
      · exact .inl ⟨hmn, Nat.min_eq_left hmn⟩
      · exact .inr ⟨hmn, Nat.min_eq_right hmn⟩
    have hmp : 0 < m := by omega
    have hnp : 0 < n := by omega
    rcases hown.2 with ⟨_, h3⟩ | ⟨g, cap, cur, hv, hbg, hg, hnc, hcm, hcs, htake⟩
    · omega
    · simp only [Value.slice.injEq] at hv
      obtain ⟨rfl, _, rfl⟩ := hv
      obtain ⟨b, off, rfl, hcell⟩ := hat (by intro e; subst e; simp at hl; omega)
      have hlen : (news.take n).length = Nat.min m n := by rw [List.length_take, hl]; exact Nat.min_comm n m
      have hcs' : cur.size = dc := by simpa using hcs
      refine wpList_copy_own hgd d s t u ho e E.und hsz g 0 n dc ⟨b, off, none⟩ m c hd hx cur e hg (news.take n) hlen ?_ ?_ ?_ ?_
      · intro j v hv
        rw [Addr.add_lit]
        rw [List.getElem?_take] at hv
        split at hv
        · exact hcell j v hv
        · cases hv
      · rw [hlen, hcs']
        omega
      · exact fun v hv => h1 v (List.mem_of_mem_take hv)
      · rw [hlen]
        refine h _ _ ⟨?_, .inr ⟨g, dc, _, rfl, hbg, setRow_heap w g cur _ e _ hg, hnc, hcm, ?_, ?_⟩⟩ ⟨rfl, rfl, rfl, by simp, fun k _ hk => setRow_other w g k _ (fun e => hk (by simp [Value.ownBlock, e]))⟩ rfl
        · rw [List.length_append, hlen, List.length_drop, hxl]
          omega
        · simp only [List.size_toArray, List.length_append, hlen, List.length_take, List.length_drop, Array.length_toList, hcs']
          omega
        · simp only [Nat.mul_one] at htake ⊢
          rw [← htake]
          simp only [List.take_zero, List.nil_append, Nat.zero_add]
          rw [List.take_append, hlen, List.take_take, Nat.min_self, List.drop_take]
          rcases hq with ⟨hmn, hq⟩ | ⟨hmn, hq⟩
          · rw [hq]
          · rw [hq]
            simp [Nat.sub_eq_zero_of_le hmn]

theorem map_add_zero (A : Option Addr) : A.map (·.add (0 * 1)) = A := by cases A <;> simp [Addr.add]

/-- 'x[l:]' -/
theorem wpList_cutL (w : World) {t e : TypeId} {size bytes : Nat} {z : Value} (E : Elem P t e size bytes z) {ops : Array Oper} {rest : List Oper} {o : Oper} {a : Act} {Q : Exit → Act → World → Prop}
    (hgd : o.guard = none) (x lo : Operand) (ho : o.op = .slice t x (some lo) none none) (A : Option Addr) (n c : Nat) (hx : a.eval x = .slice A n c) (kl : IntKind) (L : Int) (l : Nat) (hl : a.eval lo = .int kl L) (hL : L = l) (hn : l ≤ n) (hc : n ≤ c)
    (h : ∀ A', (∀ w' vs, At w' A vs → vs.length = n * size → At w' A' (vs.drop (l * size))) → wpList P ops Q rest (a.put o.dst (.slice A' (n - l) (c - l))) w) :
    wpList P ops Q (o :: rest) a w :=
  wpList_plain hgd fun K hK => by
    subst hL
    obtain ⟨i, hi, hz, hs, hby⟩ := E.info
    have hrun : (Instr.sliceAt t (.slice A n c) (some (.int kl l)) none none).run P w = .ok (.slice (if c = l then A else A.map (·.add (l * size))) (n - l) (c - l)) w := by
      simp [Instr.sliceAt, Instr.slice, run_underlying E.und, Instr.sliceBounds, run_sliceBound, sizeOf, typeInfo, hi, hs, hn]
    unfold Oper.wp
    simp [execOp, ho, hx, hl, hrun, Result.andThen]
    refine hK _ _ (h _ fun w' vs hat hlen => ?_)
    refine hat.drop _ (fun hlt b off hA => ?_)
    rw [hlen] at hlt
    have : l < n := Nat.lt_of_mul_lt_mul_right hlt
    rw [if_neg (by omega), hA]
    simp [Addr.add_lit]

/-- 'x[:h]' -/
theorem wpList_cutH (w : World) {t e : TypeId} {size bytes : Nat} {z : Value} (E : Elem P t e size bytes z) {ops : Array Oper} {rest : List Oper} {o : Oper} {a : Act} {Q : Exit → Act → World → Prop}
    (hgd : o.guard = none) (x hi' : Operand) (ho : o.op = .slice t x none (some hi') none) (A : Option Addr) (n c : Nat) (hx : a.eval x = .slice A n c) (kh : IntKind) (Hv : Int) (m : Nat) (hh : a.eval hi' = .int kh Hv) (hH : Hv = m) (hm : m ≤ c)
    (h : wpList P ops Q rest (a.put o.dst (.slice A m c)) w) :
    wpList P ops Q (o :: rest) a w :=
  wpList_plain hgd fun K hK => by
    subst hH
    obtain ⟨i, hi, hz, hs, hby⟩ := E.info
    have e0 : A.map (·.add 0) = A := by cases A <;> simp [Addr.add]
    have hrun : (Instr.sliceAt t (.slice A n c) none (some (.int kh m)) none).run P w = .ok (.slice A m c) w := by
      simp [Instr.sliceAt, Instr.slice, run_underlying E.und, Instr.sliceBounds, run_sliceBound, sizeOf, typeInfo, hi, hm, e0]
    unfold Oper.wp
    simp [execOp, ho, hx, hh, hrun, Result.andThen]
    exact hK _ _ h

/-- 'x[l:h]' -/
theorem wpList_cutLH (w : World) {t e : TypeId} {size bytes : Nat} {z : Value} (E : Elem P t e size bytes z) {ops : Array Oper} {rest : List Oper} {o : Oper} {a : Act} {Q : Exit → Act → World → Prop}
    (hgd : o.guard = none) (x lo hi' : Operand) (ho : o.op = .slice t x (some lo) (some hi') none) (A : Option Addr) (n c : Nat) (hx : a.eval x = .slice A n c) (kl kh : IntKind) (L Hv : Int) (l m : Nat) (hl : a.eval lo = .int kl L) (hh : a.eval hi' = .int kh Hv) (hL : L = l) (hH : Hv = m) (hlm : l ≤ m) (hmn : m ≤ n) (hc : n ≤ c)
    (h : ∀ A', (∀ w' vs, At w' A vs → vs.length = n * size → At w' A' ((vs.take (m * size)).drop (l * size))) → wpList P ops Q rest (a.put o.dst (.slice A' (m - l) (c - l))) w) :
    wpList P ops Q (o :: rest) a w :=
  wpList_plain hgd fun K hK => by
    subst hL hH
    obtain ⟨i, hi, hz, hs, hby⟩ := E.info
    have hmc : m ≤ c := by omega
    have hrun : (Instr.sliceAt t (.slice A n c) (some (.int kl l)) (some (.int kh m)) none).run P w = .ok (.slice (if c = l then A else A.map (·.add (l * size))) (m - l) (c - l)) w := by
      simp [Instr.sliceAt, Instr.slice, run_underlying E.und, Instr.sliceBounds, run_sliceBound, sizeOf, typeInfo, hi, hs, hlm, hmc]
    unfold Oper.wp
    simp [execOp, ho, hx, hl, hh, hrun, Result.andThen]
    refine hK _ _ (h _ fun w' vs hat hlen => ?_)
    refine (hat.take _).drop _ (fun hlt b off hA => ?_)
    rw [List.length_take, hlen] at hlt
    have : l * size < m * size := Nat.lt_of_lt_of_le hlt (Nat.min_le_left _ _)
    have : l < m := Nat.lt_of_mul_lt_mul_right this
    rw [if_neg (by omega), hA]
    simp [Addr.add_lit]

/-- 'string(b)' of a slice of bytes. -/
theorem run_str (w : World) {src e dst : TypeId} (hs : P.underlying src = some (.slice e)) (he : P.underlying e = some (.int .u8)) (hd : P.underlying dst = some .string) {A : Option Addr} {n c : Nat} {xs : List Int} (h : Ints .u8 w A n xs) :
    (convert src dst (.slice A n c)).run P w = .ok (.string (strOfNums xs)) w := by
  rcases xs with _ | ⟨x, xs⟩
  · have hn : n = 0 := by simpa using h.1.symm
    subst hn
    rcases A with _ | ad
    · rw [run_convert_bytes_nil w src e hs he 0 c dst hd]; rfl
    · have hl : (loadCells ad 0).run P w = .ok (([] : List Int).map (Value.int .u8)).toArray w := by simp [loadCells, loadCellsFrom]
      rw [run_convert_bytes_string w src dst e _ 0 c hs he hd, run_bytesToString w _ 0 c [] hl]
      rfl
  · obtain ⟨b, off, rfl, hc⟩ := h.2.2 (by simp)
    refine run_convert_bytes_arg w src e hs he b off n c (x :: xs) h.1 (fun i hi => ?_) dst hd
    have hi' : i < (x :: xs).length := by rw [h.1]; exact hi
    refine hc i _ ?_
    rw [List.getElem?_map, List.getElem?_eq_getElem hi']
    simp [List.getD, List.getElem?_eq_getElem hi']
end
end Go.Proofs.Yteoijnaljkagfaa
