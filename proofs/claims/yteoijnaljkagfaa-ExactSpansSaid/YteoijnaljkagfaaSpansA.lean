/- Lemmas of the proof that follows (Spans, part 1): walks of functions by contract, and plain lemmas. Conditions: none. -/
import Derived.WalkKit
import Derived.WalkSpells
import Derived.WalkLawsBesides
import Derived.ProofKit
import Derived.OpenShut
import Derived.ShutString
import Derived.ChangeOld
import Derived.Lib.Hide
import Derived.Maps.AppendAt
import Derived.Laws.CopyOwn
import Derived.Deep.Draws
import Derived.Maps.RangeWalk
import Derived.Deep.LoopGhost
import Derived.Deep.DeepCutAuto
import Derived.Deep.QuietTactic
import Derived.BigQuiet
import Derived.StillTailTactics
import Derived.Test.YteoijnaljkagfaaRows
import Derived.Lib.SmallJoins
import Derived.Deep.RegionHeld3
import Derived.Test.YteoijnaljkagfaaChecked
import Derived.StillTail
import Derived.Deep.CutBlock
import Derived.Lib.Strings
import Derived.Lib.Slices
import Derived.Lib.Small
import Derived.Lib.Walk
import Derived.Lib.BitFns
import Derived.IntWalk
import Derived.Shelf.Bits.Mul64
namespace Go.Proofs.Yteoijnaljkagfaa
open Go.RowKit

/-- 'w'' has every block of 'w' as it was, and perhaps more. -/
def Ext (w w' : World) : Prop := Below w.heap.size w w'

theorem Ext.refl (w : World) : Ext w w := Below.refl _ _
theorem Ext.size {a b : World} (h : Ext a b) : a.heap.size ≤ b.heap.size := Below.size h
theorem Ext.trans {a b c : World} (h : Ext a b) (k : Ext b c) : Ext a c := Below.trans h (Below.mono k h.size)
theorem Ext.drew {a b : World} (h : Ext a b) : Ext a b.drew := Below.drew h
theorem Ext.drewN {a b : World} (h : Ext a b) (n : Nat) : Ext a (b.drewN n) := ⟨h.os, h.tape, h.output, h.size, h.block⟩
theorem Ext.alloc {a b : World} (h : Ext a b) (o : Obj) : Ext a (b.alloc o) := Below.alloc h h.size o
theorem Ext.setCell {a b : World} (h : Ext a b) {p : Addr} (hp : a.heap.size ≤ p.block) (u : Value) : Ext a (b.setCell p u) := Below.setCell h hp u
theorem Ext.grown {a b c : World} {row : Option Nat} (h : Ext a b) (hg : b.grownBy c row) (hr : ∀ k, row = some k → a.heap.size ≤ k) : Ext a c := Below.grown h hg h.size hr
theorem Ext.cell {a b : World} (h : Ext a b) {p : Addr} {v : Value} (hc : a.cell? p = some v) : b.cell? p = some v :=
  (Below.cell h (World.block_lt_of_cell? a p hc)).trans hc
theorem Ext.row {a b : World} (h : Ext a b) (row : Option Nat) : a.grownBy b row := ⟨h.os, h.tape, h.output, h.size, fun k hk _ => h.block k hk⟩

/-- The address 'A' leads to the cells 'vs' (no matter where, if there are none). -/
def At (w : World) (A : Option Addr) (vs : List Value) : Prop :=
  vs ≠ [] → ∃ b off, A = some ⟨b, off, none⟩ ∧ ∀ j v, vs[j]? = some v → w.cell? ⟨b, off + j, none⟩ = some v

section
variable {w w' : World} {A : Option Addr} {vs : List Value}
theorem At.nil : At w A [] := fun h => absurd rfl h
theorem At.ext (h : At w A vs) (he : Ext w w') : At w' A vs := fun hn => by
  obtain ⟨b, off, hA, hc⟩ := h hn
  exact ⟨b, off, hA, fun j v hv => he.cell (hc j v hv)⟩
theorem At.get (h : At w A vs) {j : Nat} (hj : j < vs.length) : ∃ b off v, A = some ⟨b, off, none⟩ ∧ vs[j]? = some v ∧ w.cell? ⟨b, off + j, none⟩ = some v := by
  obtain ⟨b, off, hA, hc⟩ := h (by intro e; subst e; simp at hj)
  exact ⟨b, off, vs[j], hA, List.getElem?_eq_getElem hj, hc j _ (List.getElem?_eq_getElem hj)⟩
theorem At.take (h : At w A vs) (k : Nat) : At w A (vs.take k) := fun hn => by
  obtain ⟨b, off, hA, hc⟩ := h (by intro e; subst e; simp at hn)
  refine ⟨b, off, hA, fun j v hv => hc j v ?_⟩
  rw [List.getElem?_take] at hv
  split at hv
  · exact hv
  · cases hv
theorem At.drop (h : At w A vs) (k : Nat) {A' : Option Addr} (hA' : k < vs.length → ∀ b off, A = some ⟨b, off, none⟩ → A' = some ⟨b, off + k, none⟩) : At w A' (vs.drop k) := fun hn => by
  have hk : k < vs.length := by
    rcases Nat.lt_or_ge k vs.length with h1 | h1
    · exact h1
    · exact absurd (List.drop_eq_nil_of_le h1) hn
  obtain ⟨b, off, hA, hc⟩ := h (by intro e; subst e; simp at hk)
  refine ⟨b, off + k, hA' hk b off hA, fun j v hv => ?_⟩
  rw [Nat.add_assoc]
  exact hc _ v (by rw [← hv, List.getElem?_drop])
theorem At.add (h : At w A vs) : ∀ ad, A = some ad → ∀ j u, vs[j]? = some u → w.cell? (ad.add j) = some u := by
  intro ad hA j u hu
  obtain ⟨b, off, hA', hc⟩ := h (by intro e; subst e; simp at hu)
  rw [hA] at hA'
  injection hA' with hA'
  subst hA'
  rw [Addr.add_lit]
  exact hc j u hu
theorem At.of_own {base : Nat} {e : TypeId} {size n c : Nat} (h : w.ownsRow base e size (.slice A n c) n vs) : At w A vs := fun hn => by
  rcases h.2 with ⟨hv, h0⟩ | ⟨g, cap, cur, hv, _, hg, _⟩
  · subst h0
    exact absurd (List.eq_nil_of_length_eq_zero (by simpa using h.1)) hn
  · have hA : A = some ⟨g, 0, none⟩ := by injection hv
    subst hA
    refine ⟨g, 0, rfl, fun j v hj => ?_⟩
    have := h.cells (g := g) rfl j v hj
    rwa [Addr.add_lit] at this
end

theorem At.new (w : World) (vs : List Value) (t : TypeId) : At (w.alloc (.cells vs.toArray t)) (some ⟨w.heap.size, 0, none⟩) vs := fun _ =>
  ⟨w.heap.size, 0, rfl, fun j v hv => by
    rw [cell_of_row _ w.heap.size (0 + j) vs.toArray t (0, 0) (heap_alloc_new w _)]
    simpa using hv⟩

theorem own_slice {w : World} {base : Nat} {e : TypeId} {size n : Nat} {v : Value} {vs : List Value} (h : w.ownsRow base e size v n vs) : ∃ A c, v = .slice A n c := by
  rcases h.2 with ⟨rfl, rfl⟩ | ⟨g, cap, cur, rfl, _⟩
  · exact ⟨_, _, rfl⟩
  · exact ⟨_, _, rfl⟩

/-- Behind an append onto a row of the call's own, whose source was made just ahead of it. -/
theorem Ext.push {w wr w1 : World} {o : Obj} {e : TypeId} {size n : Nat} {v : Value} {vs : List Value} (h : Ext w wr) (hown : wr.ownsRow w.heap.size e size v n vs) (hg : (wr.alloc o).grownBy w1 v.ownBlock) : Ext w w1 :=
  (h.alloc o).grown hg fun k hk => (hown.lt k hk).1
theorem Ext.app {w wr w1 : World} {e : TypeId} {size n : Nat} {v : Value} {vs : List Value} (h : Ext w wr) (hown : wr.ownsRow w.heap.size e size v n vs) (hg : wr.grownBy w1 v.ownBlock) : Ext w w1 :=
  h.grown hg fun k hk => (hown.lt k hk).1

/-- A slice of integers of kind 'k' with 'n' elements reads as 'xs'. -/
def Ints (k : IntKind) (w : World) (A : Option Addr) (n : Nat) (xs : List Int) : Prop :=
  xs.length = n ∧ (∀ x ∈ xs, (Lit.int k x).wf = true) ∧ At w A (xs.map (Value.int k))

section
variable {w w' : World} {A : Option Addr} {n : Nat} {xs : List Int} {k : IntKind}
theorem Ints.ext (h : Ints k w A n xs) (he : Ext w w') : Ints k w' A n xs := ⟨h.1, h.2.1, h.2.2.ext he⟩
theorem Ints.nil : Ints k w A 0 [] := ⟨rfl, by simp, At.nil⟩
theorem Ints.get (h : Ints k w A n xs) {j : Nat} (hj : j < n) : ∃ b off x, A = some ⟨b, off, none⟩ ∧ xs[j]? = some x ∧ (Lit.int k x).wf = true ∧ w.cell? ⟨b, off + j, none⟩ = some (.int k x) := by
  have hj' : j < xs.length := by rw [h.1]; exact hj
  obtain ⟨b, off, v, hA, hv, hc⟩ := h.2.2.get (j := j) (by simpa using hj')
  rw [List.getElem?_map, List.getElem?_eq_getElem hj'] at hv
  simp only [Option.map_some, Option.some.injEq] at hv
  subst hv
  exact ⟨b, off, xs[j], hA, List.getElem?_eq_getElem hj', h.2.1 _ (List.getElem_mem hj'), hc⟩
theorem u32_bounds {x : Int} (h : (Lit.int .u32 x).wf = true) : 0 ≤ x ∧ x ≤ 4294967295 := by
  simp [Lit.wf, IntKind.min, IntKind.max, IntKind.bits, IntKind.signed] at h; omega
theorem i64_bounds {x : Int} (h : (Lit.int .i64 x).wf = true) : -9223372036854775808 ≤ x ∧ x ≤ 9223372036854775807 := by
  simp [Lit.wf, IntKind.min, IntKind.max, IntKind.bits, IntKind.signed] at h; omega
theorem Ints.take (h : Ints k w A n xs) {m : Nat} (hm : m ≤ n) : Ints k w A m (xs.take m) :=
  ⟨by rw [List.length_take, h.1]; omega, fun x hx => h.2.1 x (List.mem_of_mem_take hx), by rw [List.map_take]; exact h.2.2.take m⟩
theorem Ints.drop (h : Ints k w A n xs) (m : Nat) {A' : Option Addr} (hA' : m < n → ∀ b off, A = some ⟨b, off, none⟩ → A' = some ⟨b, off + m, none⟩) : Ints k w A' (n - m) (xs.drop m) :=
  ⟨by rw [List.length_drop, h.1], fun x hx => h.2.1 x (List.mem_of_mem_drop hx), by rw [List.map_drop]; exact h.2.2.drop m (by simpa [h.1] using hA')⟩
end

theorem World.ownsRow.ext' {w w' : World} {base : Nat} {e : TypeId} {size n : Nat} {v : Value} {vs : List Value} (h : w.ownsRow base e size v n vs) (he : Ext w w') : w'.ownsRow base e size v n vs :=
  h.kept (he.row none) (by cases hv : v.ownBlock <;> simp)
theorem World.ownsRow.mono' {w : World} {base base' : Nat} {e : TypeId} {size n : Nat} {v : Value} {vs : List Value} (h : w.ownsRow base e size v n vs) (hb : base' ≤ base) : w.ownsRow base' e size v n vs := by
  refine ⟨h.1, ?_⟩
  rcases h.2 with hn | ⟨g, cap, cur, hv, hg, rest⟩
  · exact .inl hn
  · exact .inr ⟨g, cap, cur, hv, by omega, rest⟩

/-- A slice of integers in memory from block 'base' on, with a row of its own, which reads as 'xs'. -/
structure OwnS (k : IntKind) (e : TypeId) (base : Nat) (w : World) (A : Option Addr) (n c : Nat) (xs : List Int) : Prop where
  own : w.ownsRow base e 1 (.slice A n c) n (xs.map (Value.int k))
  len : xs.length = n
  wf : ∀ x ∈ xs, (Lit.int k x).wf = true
section
variable {k : IntKind} {e : TypeId} {base : Nat} {w w' : World} {A : Option Addr} {n c : Nat} {xs : List Int}
theorem OwnS.ints (h : OwnS k e base w A n c xs) : Ints k w A n xs := ⟨h.len, h.wf, At.of_own h.own⟩
theorem OwnS.ext (h : OwnS k e base w A n c xs) (he : Ext w w') : OwnS k e base w' A n c xs := ⟨World.ownsRow.ext' h.own he, h.len, h.wf⟩
theorem OwnS.mono {base' : Nat} (h : OwnS k e base w A n c xs) (hb : base' ≤ base) : OwnS k e base' w A n c xs := ⟨World.ownsRow.mono' h.own hb, h.len, h.wf⟩
theorem own_cap {e : TypeId} {size : Nat} {vs : List Value} (h : w.ownsRow base e size (.slice A n c) n vs) : n ≤ c ∧ c ≤ 9223372036854775807 := by
  rcases h.2 with ⟨hv, h0⟩ | ⟨g, cap, cur, hv, _, _, h1, h2, _⟩
  · injection hv with _ _ h3; omega
  · injection hv with _ _ h3
    subst h3
    unfold maxLen at h2
    exact ⟨h1, by omega⟩
theorem OwnS.cap (h : OwnS k e base w A n c xs) : n ≤ c ∧ c ≤ 9223372036854775807 := own_cap h.own
end

/-- A value that is a slice of integers, which reads as 'xs'. -/
def SlV (k : IntKind) (w : World) (v : Value) (xs : List Int) : Prop := ∃ A n c, v = .slice A n c ∧ Ints k w A n xs ∧ n ≤ c ∧ c ≤ 9223372036854775807
/-- A slice of slices of integers reads as 'xss'. -/
def Lists (k : IntKind) (w : World) (A : Option Addr) (n : Nat) (xss : List (List Int)) : Prop :=
  xss.length = n ∧ ∃ vs : List Value, vs.length = n ∧ At w A vs ∧ ∀ (j : Nat) v xs, vs[j]? = some v → xss[j]? = some xs → SlV k w v xs
section
variable {k : IntKind} {w w' : World} {A : Option Addr} {n : Nat} {xss : List (List Int)}
theorem SlV.ext {v : Value} {xs : List Int} (h : SlV k w v xs) (he : Ext w w') : SlV k w' v xs := by
  obtain ⟨A, n, c, hv, hi, h1, h2⟩ := h
  exact ⟨A, n, c, hv, hi.ext he, h1, h2⟩
theorem Lists.ext (h : Lists k w A n xss) (he : Ext w w') : Lists k w' A n xss := by
  obtain ⟨hl, vs, h1, h2, h3⟩ := h
  exact ⟨hl, vs, h1, h2.ext he, fun j v xs a b => (h3 j v xs a b).ext he⟩
theorem Lists.get (h : Lists k w A n xss) {j : Nat} (hj : j < n) : ∃ b off A' n' c' xs, A = some ⟨b, off, none⟩ ∧ xss[j]? = some xs ∧ w.cell? ⟨b, off + j, none⟩ = some (.slice A' n' c') ∧ Ints k w A' n' xs ∧ n' ≤ c' ∧ c' ≤ 9223372036854775807 := by
  obtain ⟨hl, vs, h1, h2, h3⟩ := h
  obtain ⟨b, off, v, hA, hv, hc⟩ := h2.get (j := j) (by omega)
  have hx : xss[j]? = some xss[j] := List.getElem?_eq_getElem (by omega)
  obtain ⟨A', n', c', rfl, hi, h4, h5⟩ := h3 j v _ hv hx
  exact ⟨b, off, A', n', c', _, hA, hx, hc, hi, h4, h5⟩
theorem Lists.one {xs : List Int} {v : Value} (hat : At w A [v]) (h : SlV k w v xs) : Lists k w A 1 [xs] :=
  ⟨rfl, [v], rfl, hat, fun j u ys hu hy => by
    match j with
    | 0 => simp at hu hy; subst hu hy; exact h
    | j + 1 => simp at hu⟩
end

/-- The element type 'e' of the slice type 't': one value of 'size' cells and 'bytes' bytes, whose zero is 'z'. -/
structure Elem (P : Program) (t e : TypeId) (size bytes : Nat) (z : Value) : Prop where
  und : P.underlying t = some (.slice e)
  info : ∃ i, P.info? e = some i ∧ i.zero = some z ∧ i.size = size ∧ i.bytes = bytes
  cells : z.cells.size = size
  pos : 0 < size

theorem Elem.mk' {P : Program} {t e : TypeId} {size bytes : Nat} {z : Value} (h1 : P.underlying t = some (.slice e))
    (h2 : (P.info? e).map (fun i => (i.zero, i.size, i.bytes)) = some (some z, size, bytes)) (h3 : z.cells.size = size) (h4 : 0 < size) : Elem P t e size bytes z :=
  ⟨h1, info_parts h2, h3, h4⟩

section
variable {P : Program}

theorem run_app (w : World) {t e : TypeId} {size bytes : Nat} {z : Value} (E : Elem P t e size bytes z) (ty : TypeId) (base : Nat)
    (v : Value) (n : Nat) (xs : List Value) (hown : w.ownsRow base e size v n xs)
    (A : Option Addr) (m c : Nat) (news : List Value) (hl : news.length = m * size) (hat : At w A news) (h1 : ∀ u ∈ news, u.oneCell' = true)
    (hbytes : (n + m) * bytes ≤ 140737488355328) (h63 : n + m ≤ maxLen) (hbase : base ≤ w.heap.size) :
    ∃ v' w', (Builtin.append_ #[t, t] ty #[v, .slice A m c]).run P w = .ok v' w' ∧ w'.ownsRow base e size v' (n + m) (xs ++ news) ∧ w.grownBy w' v.ownBlock ∧
      (v'.ownBlock = v.ownBlock ∨ v'.ownBlock = some w.heap.size) := by
  obtain ⟨i, hi, hz, hs, hb⟩ := E.info
  rcases A with _ | ad
  · have hn : news = [] := by
      rcases news with _ | ⟨u, us⟩
      · rfl
      · obtain ⟨b, off, hA, _⟩ := hat (by simp)
        cases hA
    subst hn
    have hm : m = 0 := by
      have h0 : m * size = 0 := by simpa using hl.symm
      rcases Nat.mul_eq_zero.1 h0 with h | h
      · exact h
      · have := E.pos; omega
    subst hm
    refine ⟨v, w, ?_, by simpa using hown, World.grownBy.refl w _, .inl rfl⟩
    rcases hown.2 with ⟨rfl, rfl⟩ | ⟨g, cap, cur, rfl, _, _, hnc, _⟩
    · simp [Builtin.append_, run_underlying E.und, sizeOf, typeInfo, hi, Builtin.lenOf, Builtin.firstCells]
    · simp [Builtin.append_, run_underlying E.und, sizeOf, typeInfo, hi, Builtin.lenOf, Builtin.firstCells, hnc, storeCells]
  · obtain ⟨v', w', hrun, h2, h3, _, h5⟩ := run_append_own_at (P := P) w base t ty e i z size bytes E.und hi hz hs hb E.cells E.pos v n xs hown ad m c news hl (hat.add ad rfl) h1 h63 hbytes hbase
    exact ⟨v', w', hrun, h2, h3, h5⟩

/-- 'append(s, x...)' onto a row of the call's own, whatever the source. -/
theorem wpList_app (w : World) {t e : TypeId} {size bytes : Nat} {z : Value} (E : Elem P t e size bytes z) {ops : Array Oper} {rest : List Oper} {o : Oper} {a : Act} {Q : Exit → Act → World → Prop}
    (hgd : o.guard = none) (s x : Operand) (ho : o.op = .call { callee := .builtin .append, args := #[s, x], argTypes := #[t, t] })
    (base : Nat) (v : Value) (n : Nat) (xs : List Value) (hs : a.eval s = v) (hown : w.ownsRow base e size v n xs)
    (A : Option Addr) (m c : Nat) (news : List Value) (hx : a.eval x = .slice A m c) (hl : news.length = m * size) (hat : At w A news) (h1 : ∀ u ∈ news, u.oneCell' = true)
    (hbytes : (n + m) * bytes ≤ 140737488355328) (h63 : n + m ≤ maxLen) (hbase : base ≤ w.heap.size)
    (h : ∀ v' w', w'.ownsRow base e size v' (n + m) (xs ++ news) → w.grownBy w' v.ownBlock → (v'.ownBlock = v.ownBlock ∨ v'.ownBlock = some w.heap.size) → wpList P ops Q rest (a.put o.dst v') w') :
    wpList P ops Q (o :: rest) a w :=
  wpList_plain hgd fun K hK => by
    obtain ⟨v', w', hrun, h2, h3, h4⟩ := run_app (P := P) w E o.type base v n xs hown A m c news hl hat h1 hbytes h63 hbase
    unfold Oper.wp execOp
    simp only [ho, resolve, invoke, builtin, Sem.run_bind, Sem.run_pure, Result.andThen_ok, List.map_toArray, List.map_cons, List.map_nil, hs, hx, hrun]
    exact hK _ _ (h v' w' h2 h3 h4)

/-- 'make([]T, n, c)', T of one cell. -/
theorem wpList_mk (w : World) {t e : TypeId} {bytes : Nat} {z : Value} (E : Elem P t e 1 bytes z) (hz1 : z.cells = #[z]) {ops : Array Oper} {rest : List Oper} {o : Oper} {a : Act} {Q : Exit → Act → World → Prop}
    (hgd : o.guard = none) (l c : Operand) (ho : o.op = .makeSlice t l c) (base : Nat) (kl kc : IntKind) (L C : Int) (n m : Nat) (hl : a.eval l = .int kl L) (hc : a.eval c = .int kc C)
    (hL : L = n) (hC : C = m) (hnm : n ≤ m) (hb : bytes * m ≤ 281474976710656) (hm : m ≤ maxLen) (hbase : base ≤ w.heap.size)
    (h : ∀ w', w'.ownsRow base e 1 (.slice (some ⟨w.heap.size, 0, none⟩) n m) n (List.replicate n z) → Ext w w' → w.heap.size < w'.heap.size → wpList P ops Q rest (a.put o.dst (.slice (some ⟨w.heap.size, 0, none⟩) n m)) w') :
    wpList P ops Q (o :: rest) a w :=
  wpList_plain hgd fun K hK => by
    obtain ⟨i, hi, hz, hs, hby⟩ := E.info
    subst hL hC hby
    have hbI : (i.bytes : Int) * (m : Int) ≤ 281474976710656 := by
      have h : ((i.bytes * m : Nat) : Int) ≤ 281474976710656 := by omega
      rwa [Int.natCast_mul] at h
    have hrun := run_make (P := P) w t e i z E.und hi hz kl kc n m (by omega) (by omega) hbI (by unfold maxLen at hm; omega)
    simp only [Int.toNat_natCast] at hrun
    rw [hs, Nat.mul_one, hz1] at hrun
    have hown : (w.alloc (.cells (madeCells #[z] m) e)).ownsRow base e 1 (.slice (some ⟨w.heap.size, 0, none⟩) n m) n (List.replicate n z) := by
      refine ⟨by simp, .inr ⟨w.heap.size, m, _, rfl, hbase, heap_alloc_new w _, hnm, hm, by rw [size_madeCells]; simp, ?_⟩⟩
      rw [toList_madeCells_one, Nat.mul_one, List.take_replicate, Nat.min_eq_left hnm]
    unfold Oper.wp
    simp [execOp, ho, hl, hc, hrun, Result.andThen]
    exact hK _ _ (h _ hown ((Ext.refl w).alloc _) (by simp))

/-- 'copy(d, s)' into a row of the call's own, from its head, elements of one cell. -/
theorem wpList_cp (w : World) {t u e : TypeId} {bytes : Nat} {z : Value} (E : Elem P t e 1 bytes z) {ops : Array Oper} {rest : List Oper} {o : Oper} {a : Act} {Q : Exit → Act → World → Prop}
    (hgd : o.guard = none) (d s : Operand) (ho : o.op = .call { callee := .builtin .copy, args := #[d, s], argTypes := #[t, u] }) (base : Nat)
    (D : Option Addr) (n dc : Nat) (xs : List Value) (hd : a.eval d = .slice D n dc) (hown : w.ownsRow base e 1 (.slice D n dc) n xs)
    (A : Option Addr) (m c : Nat) (news : List Value) (hx : a.eval s = .slice A m c) (hl : news.length = m) (hat : At w A news) (h1 : ∀ u ∈ news, u.oneCell' = true)
    (h : ∀ w' (r : Int), w'.ownsRow base e 1 (.slice D n dc) n (news.take n ++ xs.drop m) → w.grownBy w' (Value.slice D n dc).ownBlock → Hid (r = (Nat.min m n : Nat)) → wpList P ops Q rest (a.put o.dst (.int .i64 r)) w') :
    wpList P ops Q (o :: rest) a w := by
  obtain ⟨i, hi, hz, hs, hby⟩ := E.info
  have hsz : (P.info? e).map (·.size) = some 1 := by rw [hi]; simp [hs]
  have hxl : xs.length = n := by simpa using hown.1
  by_cases h0 : Nat.min m n = 0
  · refine wpList_copy_nothing hgd d s t u ho e E.und hsz D A n dc m c hd hx h0 ?_
    have e1 : news.take n ++ xs.drop m = xs := by
      rcases Nat.le_total m n with hmn | hmn
      · have hm0 : m = 0 := by simpa [Nat.min_eq_left hmn] using h0
        subst hm0
        obtain rfl : news = [] := List.eq_nil_of_length_eq_zero hl
        simp
      · have hn0 : n = 0 := by simpa [Nat.min_eq_right hmn] using h0
        subst hn0
        obtain rfl : xs = [] := List.eq_nil_of_length_eq_zero hxl
        simp
    exact h w 0 (by rw [e1]; exact hown) (World.grownBy.refl w _) (by rw [h0]; rfl)
  · have hq : (m ≤ n ∧ Nat.min m n = m) ∨ (n ≤ m ∧ Nat.min m n = n) := by
      rcases Nat.le_total m n with hmn | hmn
      · exact .inl ⟨hmn, Nat.min_eq_left hmn⟩
      · exact .inr ⟨hmn, Nat.min_eq_right hmn⟩
    have hmp : 0 < m := by omega
    have hnp : 0 < n := by omega
    rcases hown.2 with ⟨_, h3⟩ | ⟨g, cap, cur, hv, hbg, hg, hnc, hcm, hcs, htake⟩
    · omega
    · simp only [Value.slice.injEq] at hv
      obtain ⟨rfl, _, rfl⟩ := hv
      obtain ⟨b, off, rfl, hcell⟩ := hat (by intro e; subst e; simp at hl; omega)
      have hlen : (news.take n).length = Nat.min m n := by rw [List.length_take, hl]; exact Nat.min_comm n m
      have hcs' : cur.size = dc := by simpa using hcs
      refine wpList_copy_own hgd d s t u ho e E.und hsz g 0 n dc ⟨b, off, none⟩ m c hd hx cur e hg (news.take n) hlen ?_ ?_ ?_ ?_
      · intro j v hv
        rw [Addr.add_lit]
        rw [List.getElem?_take] at hv
        split at hv
        · exact hcell j v hv
        · cases hv
      · rw [hlen, hcs']
        omega
      · exact fun v hv => h1 v (List.mem_of_mem_take hv)
      · rw [hlen]
        refine h _ _ ⟨?_, .inr ⟨g, dc, _, rfl, hbg, setRow_heap w g cur _ e _ hg, hnc, hcm, ?_, ?_⟩⟩ ⟨rfl, rfl, rfl, by simp, fun k _ hk => setRow_other w g k _ (fun e => hk (by simp [Value.ownBlock, e]))⟩ rfl
        · rw [List.length_append, hlen, List.length_drop, hxl]
          omega
        · simp only [List.size_toArray, List.length_append, hlen, List.length_take, List.length_drop, Array.length_toList, hcs']
          omega
        · simp only [Nat.mul_one] at htake ⊢
          rw [← htake]
          simp only [List.take_zero, List.nil_append, Nat.zero_add]
          rw [List.take_append, hlen, List.take_take, Nat.min_self, List.drop_take]
          rcases hq with ⟨hmn, hq⟩ | ⟨hmn, hq⟩
          · rw [hq]
          · rw [hq]
            simp [Nat.sub_eq_zero_of_le hmn]

/-- 'x[l:]' -/
theorem wpList_cutL (w : World) {t e : TypeId} {size bytes : Nat} {z : Value} (E : Elem P t e size bytes z) {ops : Array Oper} {rest : List Oper} {o : Oper} {a : Act} {Q : Exit → Act → World → Prop}
    (hgd : o.guard = none) (x lo : Operand) (ho : o.op = .slice t x (some lo) none none) (A : Option Addr) (n c : Nat) (hx : a.eval x = .slice A n c) (kl : IntKind) (L : Int) (l : Nat) (hl : a.eval lo = .int kl L) (hL : L = l) (hn : l ≤ n) (hc : n ≤ c)
    (h : ∀ A', (∀ w' vs, At w' A vs → vs.length = n * size → At w' A' (vs.drop (l * size))) → wpList P ops Q rest (a.put o.dst (.slice A' (n - l) (c - l))) w) :
    wpList P ops Q (o :: rest) a w :=
  wpList_plain hgd fun K hK => by
    subst hL
    obtain ⟨i, hi, hz, hs, hby⟩ := E.info
    have hrun : (Instr.sliceAt t (.slice A n c) (some (.int kl l)) none none).run P w = .ok (.slice (if c = l then A else A.map (·.add (l * size))) (n - l) (c - l)) w := by
      simp [Instr.sliceAt, Instr.slice, run_underlying E.und, Instr.sliceBounds, run_sliceBound, sizeOf, typeInfo, hi, hs, hn]
    unfold Oper.wp
    simp [execOp, ho, hx, hl, hrun, Result.andThen]
    refine hK _ _ (h _ fun w' vs hat hlen => ?_)
    refine hat.drop _ (fun hlt b off hA => ?_)
    rw [hlen] at hlt
    have : l < n := Nat.lt_of_mul_lt_mul_right hlt
    rw [if_neg (by omega), hA]
    simp [Addr.add_lit]

/-- 'x[:h]' -/
theorem wpList_cutH (w : World) {t e : TypeId} {size bytes : Nat} {z : Value} (E : Elem P t e size bytes z) {ops : Array Oper} {rest : List Oper} {o : Oper} {a : Act} {Q : Exit → Act → World → Prop}
    (hgd : o.guard = none) (x hi' : Operand) (ho : o.op = .slice t x none (some hi') none) (A : Option Addr) (n c : Nat) (hx : a.eval x = .slice A n c) (kh : IntKind) (Hv : Int) (m : Nat) (hh : a.eval hi' = .int kh Hv) (hH : Hv = m) (hm : m ≤ c)
    (h : wpList P ops Q rest (a.put o.dst (.slice A m c)) w) :
    wpList P ops Q (o :: rest) a w :=
  wpList_plain hgd fun K hK => by
    subst hH
    obtain ⟨i, hi, hz, hs, hby⟩ := E.info
    have e0 : A.map (·.add 0) = A := by cases A <;> simp [Addr.add]
    have hrun : (Instr.sliceAt t (.slice A n c) none (some (.int kh m)) none).run P w = .ok (.slice A m c) w := by
      simp [Instr.sliceAt, Instr.slice, run_underlying E.und, Instr.sliceBounds, run_sliceBound, sizeOf, typeInfo, hi, hm, e0]
    unfold Oper.wp
    simp [execOp, ho, hx, hh, hrun, Result.andThen]
    exact hK _ _ h

/-- 'string(b)' of a slice of bytes. -/
theorem run_str (w : World) {src e dst : TypeId} (hs : P.underlying src = some (.slice e)) (he : P.underlying e = some (.int .u8)) (hd : P.underlying dst = some .string) {A : Option Addr} {n c : Nat} {xs : List Int} (h : Ints .u8 w A n xs) :
    (convert src dst (.slice A n c)).run P w = .ok (.string (strOfNums xs)) w := by
  rcases xs with _ | ⟨x, xs⟩
  · have hn : n = 0 := by simpa using h.1.symm
    subst hn
    rcases A with _ | ad
    · rw [run_convert_bytes_nil w src e hs he 0 c dst hd]; rfl
    · have hl : (loadCells ad 0).run P w = .ok (([] : List Int).map (Value.int .u8)).toArray w := by simp [loadCells, loadCellsFrom]
      rw [run_convert_bytes_string w src dst e _ 0 c hs he hd, run_bytesToString w _ 0 c [] hl]
      rfl
  · obtain ⟨b, off, rfl, hc⟩ := h.2.2 (by simp)
    refine run_convert_bytes_arg w src e hs he b off n c (x :: xs) h.1 (fun i hi => ?_) dst hd
    have hi' : i < (x :: xs).length := by rw [h.1]; exact hi
    refine hc i _ ?_
    rw [List.getElem?_map, List.getElem?_eq_getElem hi']
    simp [List.getD, List.getElem?_eq_getElem hi']
end
end Go.Proofs.Yteoijnaljkagfaa
namespace Go.Proofs.Yteoijnaljkagfaa
open Go.ChangeShapes Go.WideShapes Go.ChangeAt Go.RowKit

theorem own : ownKnob Try.prog.godebug = none := by kernel_rfl
theorem laidOut : laidOutB Try.prog = true := by kernel_rfl

end Go.Proofs.Yteoijnaljkagfaa
namespace Go.Proofs.Yteoijnaljkagfaa
open Go.ChangeShapes Go.WideShapes Go.ChangeAt Go.RowKit Go.Joins

/-- Two integers. -/
def Two64 (v : Value) (f : Int × Int) : Prop := v = .agg #[.int .i64 f.1, .int .i64 f.2] ∧ (-9223372036854775808 ≤ f.1 ∧ f.1 ≤ 9223372036854775807) ∧ (-9223372036854775808 ≤ f.2 ∧ f.2 ≤ 9223372036854775807)
set_option maxRecDepth 100000 in
theorem span_open {W : World} {H : Type} {enc : TypeId × Value → H} {v : Value} {d : DataW H} {p : List MemPlace} {b base : Nat} {sp : Nat → Bool} {hd : Bool}
    (hv : Value.okWide Try.prog W .any base 62 v) (h : DataW.Trod enc Try.prog W b sp hd 62 v d p) : ∃ f, Two64 v f := by
  obtain ⟨c0, c1, y0, y1, m, rfl, rfl, rfl, h0, h1⟩ := open_agg2 Try.underlying62 (by kernel_rfl) (by kernel_rfl) hv h
  obtain ⟨s, e0, _, w0⟩ := DataW.trod_int Try.underlying3 h0
  obtain ⟨q, e1, _, w1⟩ := DataW.trod_int Try.underlying3 h1
  simp at e0 e1
  subst e0 e1
  exact ⟨⟨s, q⟩, rfl, i64_bounds w0, i64_bounds w1⟩
end Go.Proofs.Yteoijnaljkagfaa
namespace Go.Proofs.Yteoijnaljkagfaa
open Go.RowKit

/-- Block 'g' is just the cells 'cs'; none is frozen. -/
def Blk (w : World) (g : Nat) (t : TypeId) (cs : Array Value) : Prop := w.heap[g]? = some (.cells cs t (0, 0))

section
variable {w w' : World} {g : Nat} {t : TypeId} {cs : Array Value}
theorem Blk.lt (h : Blk w g t cs) : g < w.heap.size := (Array.getElem?_eq_some_iff.1 h).1
theorem Blk.cell (h : Blk w g t cs) (i : Nat) : w.cell? ⟨g, i, none⟩ = cs[i]? := cell_of_row w g i cs t (0, 0) h
theorem Blk.free (h : Blk w g t cs) (i : Nat) : w.frozen? ⟨g, i, none⟩ = false := by
  unfold World.frozen?; rw [show w.heap[g]? = some (.cells cs t (0, 0)) from h]; simp
theorem Blk.new (w : World) (t : TypeId) (cs : Array Value) : Blk (w.alloc (.cells cs t)) w.heap.size t cs := heap_alloc_new w _
theorem Blk.ext (h : Blk w g t cs) (he : Ext w w') : Blk w' g t cs := (Below.block he g h.lt).trans h
theorem Blk.drewN (h : Blk w g t cs) (n : Nat) : Blk (w.drewN n) g t cs := h
theorem Blk.drew (h : Blk w g t cs) : Blk w.drew g t cs := h
theorem Blk.alloc (h : Blk w g t cs) (o : Obj) : Blk (w.alloc o) g t cs := (Below.heap_alloc w o g h.lt).trans h
theorem Blk.set (h : Blk w g t cs) (i : Nat) (u : Value) : Blk (w.setCell ⟨g, i, none⟩ u) g t (cs.setIfInBounds i u) := by
  unfold Blk at h ⊢
  simp [World.setCell, Array.getElem?_modify, h]
theorem Blk.far (h : Blk w g t cs) {p : Addr} (hp : g ≠ p.block) (u : Value) : Blk (w.setCell p u) g t cs := (Below.heap_setCell w p u g hp).trans h
theorem Blk.grown {row : Option Nat} (h : Blk w g t cs) (hb : w.grownBy w' row) (hg : some g ≠ row) : Blk w' g t cs := (hb.block g h.lt hg).trans h
end

theorem At.drew {w : World} {A : Option Addr} {vs : List Value} (h : At w A vs) : At w.drew A vs := h.ext (Ext.refl w).drew
theorem At.drewN {w : World} {A : Option Addr} {vs : List Value} (h : At w A vs) (n : Nat) : At (w.drewN n) A vs := h.ext ((Ext.refl w).drewN n)

/-- A struct of three fields, in a block of its own: its cells. -/
theorem Blk.three {w : World} {g : Nat} {t : TypeId} {a b c : Value} (h : Blk w g t #[a, b, c]) :
    w.cell? ⟨g, 0, none⟩ = some a ∧ w.cell? ⟨g, 1, none⟩ = some b ∧ w.cell? ⟨g, 2, none⟩ = some c ∧ w.frozen? ⟨g, 0, none⟩ = false ∧ w.frozen? ⟨g, 1, none⟩ = false ∧ w.frozen? ⟨g, 2, none⟩ = false :=
  ⟨h.cell 0, h.cell 1, h.cell 2, h.free 0, h.free 1, h.free 2⟩
end Go.Proofs.Yteoijnaljkagfaa
namespace Go.Proofs.Yteoijnaljkagfaa

/-- The number that digits denote. -/
def val (B : Int) : List Int → Int
  | [] => 0
  | x :: xs => x + B * val B xs
/-- All are digits. -/
def Dg (B : Int) (xs : List Int) : Prop := ∀ x ∈ xs, 0 ≤ x ∧ x < B

section
variable {B : Int} {xs ys : List Int} {x u : Int} {k : Nat}
theorem Dg.nil : Dg B [] := by simp [Dg]
theorem Dg.take (h : Dg B xs) (k : Nat) : Dg B (xs.take k) := fun x hx => h x (List.mem_of_mem_take hx)
theorem Dg.drop (h : Dg B xs) (k : Nat) : Dg B (xs.drop k) := fun x hx => h x (List.mem_of_mem_drop hx)
theorem Dg.append (h : Dg B xs) (k : Dg B ys) : Dg B (xs ++ ys) := fun x hx => by
  rcases List.mem_append.1 hx with hx | hx
  · exact h x hx
  · exact k x hx
theorem Dg.set (h : Dg B xs) (hu : 0 ≤ u ∧ u < B) (k : Nat) : Dg B (xs.set k u) := fun x hx => by
  rcases List.mem_or_eq_of_mem_set hx with hx | hx
  · exact h x hx
  · subst hx; exact hu
theorem Dg.zeros (hB : 0 < B) (k : Nat) : Dg B (List.replicate k 0) := fun x hx => by
  have := (List.mem_replicate.1 hx).2; omega
theorem Dg.get (h : Dg B xs) (hx : xs[k]? = some x) : 0 ≤ x ∧ x < B := h x (List.mem_of_getElem? hx)
theorem Dg.one (hx : 0 ≤ x ∧ x < B) : Dg B [x] := fun y hy => by simp at hy; subst hy; exact hx
theorem Dg.cons (hx : 0 ≤ x ∧ x < B) (h : Dg B xs) : Dg B (x :: xs) := fun y hy => by
  rcases List.mem_cons.1 hy with hy | hy
  · subst hy; exact hx
  · exact h y hy

theorem val_append (xs ys : List Int) : val B (xs ++ ys) = val B xs + B ^ xs.length * val B ys := by
  induction xs with
  | nil => simp [val]
  | cons x xs ih => simp only [List.cons_append, val, ih, List.length_cons, Int.pow_succ]; grind
theorem val_one (x : Int) : val B [x] = x := by simp [val]
theorem val_snoc (xs : List Int) (x : Int) : val B (xs ++ [x]) = val B xs + B ^ xs.length * x := by rw [val_append, val_one]
theorem val_split (xs : List Int) {k : Nat} (h : k ≤ xs.length) : val B xs = val B (xs.take k) + B ^ k * val B (xs.drop k) := by
  have := val_append (B := B) (xs.take k) (xs.drop k)
  rw [List.take_append_drop, List.length_take, Nat.min_eq_left h] at this
  exact this
theorem val_take_succ (h : xs[k]? = some x) : val B (xs.take (k + 1)) = val B (xs.take k) + B ^ k * x := by
  have hk : k < xs.length := (List.getElem?_eq_some_iff.1 h).1
  rw [List.take_add_one, h]
  simp only [Option.toList_some]
  rw [val_snoc, List.length_take, Nat.min_eq_left (by omega)]
theorem val_drop (h : xs[k]? = some x) : val B (xs.drop k) = x + B * val B (xs.drop (k + 1)) := by
  have hk : k < xs.length := (List.getElem?_eq_some_iff.1 h).1
  rw [List.drop_eq_getElem_cons hk, val]
  rw [List.getElem?_eq_getElem hk] at h
  simp only [Option.some.injEq] at h
  rw [h]
theorem val_set (h : xs[k]? = some x) (u : Int) : val B (xs.set k u) = val B xs + B ^ k * (u - x) := by
  induction xs generalizing k with
  | nil => simp at h
  | cons y ys ih =>
    cases k with
    | zero => simp at h; subst h; simp only [List.set_cons_zero, val]; grind
    | succ k => simp only [List.set_cons_succ, val]; rw [ih (by simpa using h), Int.pow_succ]; grind
theorem val_zeros (k : Nat) : val B (List.replicate k 0) = 0 := by
  induction k with
  | zero => rfl
  | succ k ih => rw [List.replicate_succ, val, ih]; simp
theorem val_nonneg (hB : 0 < B) (h : Dg B xs) : 0 ≤ val B xs := by
  induction xs with
  | nil => simp [val]
  | cons x xs ih =>
    have hx := h x (List.mem_cons_self ..)
    have hi := ih fun y hy => h y (List.mem_cons_of_mem _ hy)
    have := Int.mul_nonneg (Int.le_of_lt hB) hi
    rw [val]; omega
theorem pow_pos' (hB : 0 < B) (k : Nat) : 0 < B ^ k := Int.pow_pos hB
theorem val_lt (hB : 0 < B) (h : Dg B xs) : val B xs < B ^ xs.length := by
  induction xs with
  | nil => simp [val]
  | cons x xs ih =>
    have hx := h x (List.mem_cons_self ..)
    have hi := ih fun y hy => h y (List.mem_cons_of_mem _ hy)
    rw [val, List.length_cons, Int.pow_succ]
    have h1 : B * (val B xs + 1) ≤ B * B ^ xs.length := Int.mul_le_mul_of_nonneg_left (by omega) (Int.le_of_lt hB)
    have h2 : B * (val B xs + 1) = B * val B xs + B := by grind
    have h3 : B * B ^ xs.length = B ^ xs.length * B := Int.mul_comm _ _
    omega
end

/-- No most significant digit is 0. -/
def Nm (xs : List Int) : Prop := xs.getLast? ≠ some 0
/-- The normal digits of a number. -/
def Rep (B : Int) (xs : List Int) (n : Nat) : Prop := Dg B xs ∧ Nm xs ∧ val B xs = (n : Int)

section
variable {B : Int} {xs ys : List Int} {n m : Nat}
theorem Nm.nil : Nm [] := by simp [Nm]
theorem Nm.snoc {x : Int} (h : x ≠ 0) : Nm (xs ++ [x]) := by simp [Nm, h]
theorem Nm.one {x : Int} (h : x ≠ 0) : Nm [x] := by simp [Nm, h]
theorem Nm.split (h : Nm xs) (hne : xs ≠ []) : ∃ ys x, xs = ys ++ [x] ∧ x ≠ 0 := by
  refine ⟨xs.dropLast, xs.getLast hne, (List.dropLast_concat_getLast hne).symm, fun e => ?_⟩
  exact h (by rw [List.getLast?_eq_some_getLast hne, e])
theorem Nm.take {k : Nat} {x : Int} (h : xs[k]? = some x) (hx : x ≠ 0) : Nm (xs.take (k + 1)) := by
  rw [List.take_add_one, h]; exact Nm.snoc hx
theorem nm_low (hB : 1 < B) (hd : Dg B xs) (h : Nm xs) (hne : xs ≠ []) : B ^ (xs.length - 1) ≤ val B xs := by
  obtain ⟨ys, x, rfl, hx⟩ := h.split hne
  have hd1 : Dg B ys := fun y hy => hd y (List.mem_append_left _ hy)
  have hx1 := hd x (List.mem_append_right _ (List.mem_singleton.2 rfl))
  have h0 := val_nonneg (by omega) hd1
  rw [val_snoc, List.length_append, List.length_singleton, Nat.add_sub_cancel]
  have hp := pow_pos' (B := B) (by omega) ys.length
  have : B ^ ys.length * 1 ≤ B ^ ys.length * x := Int.mul_le_mul_of_nonneg_left (by omega) (Int.le_of_lt hp)
  omega
theorem pow_le {a b : Nat} (hB : 1 ≤ B) (h : a ≤ b) : B ^ a ≤ B ^ b := by
  obtain ⟨k, rfl⟩ := Nat.exists_eq_add_of_le h
  rw [Int.pow_add]
  have h1 := pow_pos' (B := B) (by omega) a
  have h2 := pow_pos' (B := B) (by omega) k
  have : B ^ a * 1 ≤ B ^ a * B ^ k := Int.mul_le_mul_of_nonneg_left (by omega) (Int.le_of_lt h1)
  omega
theorem Rep.len_le (hB : 1 < B) (h : Rep B xs n) {L : Nat} (hn : (n : Int) < B ^ L) : xs.length ≤ L := by
  rcases Nat.lt_or_ge L xs.length with hl | hl
  · have h1 := nm_low hB h.1 h.2.1 (by intro e; subst e; simp at hl)
    rw [h.2.2] at h1
    have := pow_le (B := B) (a := L) (b := xs.length - 1) (by omega) (by omega)
    omega
  · exact hl
theorem Rep.lt (hB : 1 < B) (h : Rep B xs n) : (n : Int) < B ^ xs.length := by rw [← h.2.2]; exact val_lt (by omega) h.1
theorem Rep.nil : Rep B [] 0 := ⟨Dg.nil, Nm.nil, rfl⟩
theorem Rep.zero (hB : 1 < B) (h : Rep B xs 0) : xs = [] := by
  rcases xs with _ | ⟨x, xs⟩
  · rfl
  · have h1 := nm_low hB h.1 h.2.1 (by simp)
    rw [h.2.2] at h1
    have := pow_pos' (B := B) (by omega) ((x :: xs).length - 1)
    omega
theorem Rep.pos (hB : 1 < B) (h : Rep B xs n) : n = 0 ↔ xs = [] := by
  constructor
  · rintro rfl; exact h.zero hB
  · rintro rfl; have := h.2.2; simp [val] at this; omega
theorem Rep.one (hB : 1 < B) : Rep B [1] 1 := ⟨Dg.one (by omega), Nm.one (by omega), val_one 1⟩
theorem Rep.small {x : Int} (h0 : 0 < x) (h1 : x < B) : Rep B [x] x.toNat := ⟨Dg.one (by omega), Nm.one (by omega), by rw [val_one]; omega⟩
theorem Rep.single (_hB : 1 < B) {x : Int} (h : Rep B [x] n) : x = n ∧ 0 < n := by
  have h1 := h.2.2
  rw [val_one] at h1
  refine ⟨h1, ?_⟩
  have := h.2.1
  rcases Nat.eq_zero_or_pos n with h0 | h0
  · subst h0; exact absurd (by simp [h1]) this
  · exact h0
theorem val_inj (hB : 1 < B) : ∀ {xs ys : List Int}, xs.length = ys.length → Dg B xs → Dg B ys → val B xs = val B ys → xs = ys := by
  intro xs
  induction xs with
  | nil => intro ys hl _ _ _; exact (List.eq_nil_of_length_eq_zero hl.symm).symm
  | cons x xs ih =>
    intro ys hl hx hy hv
    rcases ys with _ | ⟨y, ys⟩
    · simp at hl
    · have hx0 := hx x (List.mem_cons_self ..)
      have hy0 := hy y (List.mem_cons_self ..)
      rw [val, val] at hv
      have e1 : x = y := by
        have h1 : (x + B * val B xs) % B = x := by rw [Int.add_mul_emod_self_left]; exact Int.emod_eq_of_lt hx0.1 hx0.2
        have h2 : (y + B * val B ys) % B = y := by rw [Int.add_mul_emod_self_left]; exact Int.emod_eq_of_lt hy0.1 hy0.2
        rw [← h1, hv, h2]
      subst e1
      have e2 : val B xs = val B ys := Int.eq_of_mul_eq_mul_left (by omega : B ≠ 0) (by omega)
      rw [ih (by simpa using hl) (fun a ha => hx a (List.mem_cons_of_mem _ ha)) (fun a ha => hy a (List.mem_cons_of_mem _ ha)) e2]
theorem Rep.unique (hB : 1 < B) (h : Rep B xs n) (k : Rep B ys n) : xs = ys := by
  have h1 := h.len_le hB (k.lt hB)
  have h2 := k.len_le hB (h.lt hB)
  exact val_inj hB (by omega) h.1 k.1 (by rw [h.2.2, k.2.2])
theorem Rep.lt_of_len (hB : 1 < B) (h : Rep B xs n) (k : Rep B ys m) (hl : xs.length < ys.length) : n < m := by
  have h1 := h.lt hB
  have h2 := nm_low hB k.1 k.2.1 (by intro e; subst e; simp at hl)
  rw [k.2.2] at h2
  have := pow_le (B := B) (a := xs.length) (b := ys.length - 1) (by omega) (by omega)
  omega
theorem Rep.of_take {k : Nat} (hd : Dg B xs) (hv : val B (xs.take k) = val B xs) (hn : Nm (xs.take k)) (he : val B xs = (n : Int)) : Rep B (xs.take k) n := ⟨hd.take k, hn, by rw [hv, he]⟩
end

/-- Comparing from the most significant digit on: all digits from k on are equal. -/
theorem cmp_step {B : Int} (hB : 1 < B) {xs ys : List Int} {k : Nat} {x y : Int} (hl : xs.length = ys.length) (hx : Dg B xs) (hy : Dg B ys) (h : xs.drop (k + 1) = ys.drop (k + 1)) (h1 : xs[k]? = some x) (h2 : ys[k]? = some y) (hlt : x < y) : val B xs < val B ys := by
  have hk : k < xs.length := (List.getElem?_eq_some_iff.1 h1).1
  rw [val_split xs (Nat.le_of_lt hk), val_split (B := B) ys (k := k) (by omega), val_drop h1, val_drop h2, h]
  have a1 := val_lt (B := B) (by omega) (hx.take k)
  have a2 := val_nonneg (B := B) (by omega) (hy.take k)
  rw [List.length_take, Nat.min_eq_left (by omega)] at a1
  have hp := pow_pos' (B := B) (by omega) k
  have : B ^ k * (x + 1) ≤ B ^ k * y := Int.mul_le_mul_of_nonneg_left (by omega) (Int.le_of_lt hp)
  generalize B * val B (ys.drop (k + 1)) = r at *
  have e1 : B ^ k * (x + r) = B ^ k * (x + 1) - B ^ k + B ^ k * r := by grind
  have e2 : B ^ k * (y + r) = B ^ k * y + B ^ k * r := by grind
  omega
end Go.Proofs.Yteoijnaljkagfaa
namespace Go.Proofs.Yteoijnaljkagfaa
open Go.RowKit

/-- n has at most L digits. -/
def Fit (B : Int) (n L : Nat) : Prop := (n : Int) < B ^ L
section
variable {B : Int} {n m a b L : Nat} {xs : List Int}
theorem Fit.mul (hB : 0 < B) (h : Fit B n a) (k : Fit B m b) : Fit B (n * m) (a + b) := by
  unfold Fit at *
  rw [Int.pow_add, Int.natCast_mul]
  have h1 : (n : Int) * m ≤ n * B ^ b := Int.mul_le_mul_of_nonneg_left (by omega) (by omega)
  have h2 : (n : Int) * B ^ b < B ^ a * B ^ b := Int.mul_lt_mul_of_pos_right h (pow_pos' hB b)
  omega
theorem Fit.mono (hB : 1 ≤ B) (h : Fit B n a) (hl : a ≤ b) : Fit B n b := by
  have := pow_le (B := B) hB hl
  unfold Fit at *; omega
theorem Fit.le (h : Fit B n a) (hl : m ≤ n) : Fit B m a := by unfold Fit at *; omega
theorem Fit.add (hB : 2 ≤ B) (h : Fit B n a) (k : Fit B m a) : Fit B (n + m) (a + 1) := by
  unfold Fit at *
  rw [Int.pow_succ]
  have hp := pow_pos' (B := B) (by omega) a
  have : B ^ a * 2 ≤ B ^ a * B := Int.mul_le_mul_of_nonneg_left hB (Int.le_of_lt hp)
  omega
theorem Fit.of_rep (hB : 1 < B) (h : Rep B xs n) : Fit B n xs.length := h.lt hB
theorem Fit.len (hB : 1 < B) (h : Fit B n L) (hr : Rep B xs n) : xs.length ≤ L := hr.len_le hB h
theorem Fit.one (hB : 1 < B) (h : 0 < L) : Fit B 1 L := by
  have := pow_le (B := B) (a := 1) (b := L) (by omega) h
  unfold Fit; rw [Int.pow_succ, Int.pow_zero] at this; omega
theorem Fit.zero (hB : 0 < B) : Fit B 0 L := by have := pow_pos' hB L; unfold Fit; omega
end

/-- A value that is a slice of words, the normal form of n. -/
def NatV (k : IntKind) (B : Int) (w : World) (v : Value) (n : Nat) : Prop :=
  ∃ A m c xs, v = .slice A m c ∧ Ints k w A m xs ∧ Rep B xs n ∧ m ≤ c ∧ c ≤ 9223372036854775807
theorem NatV.ext {k : IntKind} {B : Int} {w w' : World} {v : Value} {n : Nat} (h : NatV k B w v n) (he : Ext w w') : NatV k B w' v n := by
  obtain ⟨A, m, c, xs, h1, h2, h3⟩ := h
  exact ⟨A, m, c, xs, h1, h2.ext he, h3⟩
theorem NatV.zero {k : IntKind} {B : Int} {w : World} : NatV k B w (.slice none 0 0) 0 := ⟨none, 0, 0, [], rfl, Ints.nil, Rep.nil, by omega, by omega⟩

/-- What a call returns that makes a number. -/
def RetN (k : IntKind) (B : Int) (w : World) (n : Nat) (e : Ending) (w' : World) : Prop := ∃ v, e = .returned v ∧ NatV k B w' v n ∧ Ext w w'

/-- Storing at place j of a row of the call's own. -/
theorem OwnS.store {k : IntKind} {e : TypeId} {base : Nat} {w : World} {A : Option Addr} {n c : Nat} {xs : List Int} (h : OwnS k e base w A n c xs) {j : Nat} (hj : j < n) :
    ∃ g x, A = some ⟨g, 0, none⟩ ∧ xs[j]? = some x ∧ (Lit.int k x).wf = true ∧ w.cell? ⟨g, j, none⟩ = some (.int k x) ∧ w.frozen? ⟨g, j, none⟩ = false ∧ base ≤ g ∧
      Hid (∀ u, (Lit.int k u).wf = true → OwnS k e base (w.setCell ⟨g, j, none⟩ (.int k u)) A n c (xs.set j u)) := by
  have hj' : j < xs.length := by rw [h.len]; exact hj
  have hown := h.own
  rcases hown.2 with ⟨_, h0⟩ | ⟨g, cap, cur, hv, hg, _⟩
  · omega
  · injection hv with hA _ _
    subst hA
    have hc := hown.cellAt j (by omega)
    rw [List.getElem?_map, List.getElem?_eq_getElem hj'] at hc
    refine ⟨g, xs[j], rfl, List.getElem?_eq_getElem hj', h.wf _ (List.getElem_mem hj'), hc, hown.frozenAt j, hg, fun u hu => ⟨?_, by rw [List.length_set, h.len], fun x hx => ?_⟩⟩
    · have := (hown.stored j (.int k u)).1
      rwa [← List.map_set] at this
    · rcases List.mem_or_eq_of_mem_set hx with hx | hx
      · exact h.wf x hx
      · subst hx; exact hu
theorem OwnS.get {k : IntKind} {e : TypeId} {base : Nat} {w : World} {A : Option Addr} {n c : Nat} {xs : List Int} (h : OwnS k e base w A n c xs) {j : Nat} (hj : j < n) :
    ∃ g x, A = some ⟨g, 0, none⟩ ∧ xs[j]? = some x ∧ (Lit.int k x).wf = true ∧ w.cell? ⟨g, j, none⟩ = some (.int k x) := by
  obtain ⟨g, x, h1, h2, h3, h4, _⟩ := h.store hj
  exact ⟨g, x, h1, h2, h3, h4⟩
/-- A beginning of a row of the call's own. -/
theorem OwnS.front {k : IntKind} {e : TypeId} {base : Nat} {w : World} {A : Option Addr} {n c : Nat} {xs : List Int} (h : OwnS k e base w A n c xs) {m : Nat} (hm : m ≤ n) : OwnS k e base w A m c (xs.take m) := by
  refine ⟨⟨by simp [h.len]; omega, ?_⟩, by rw [List.length_take, h.len]; omega, fun x hx => h.wf x (List.mem_of_mem_take hx)⟩
  rcases h.own.2 with ⟨hv, h0⟩ | ⟨g, cap, cur, hv, hg, hb, h1, h2, h3, h4⟩
  · injection hv with hA hn hc
    subst hA hc
    obtain rfl : m = 0 := by omega
    exact .inl ⟨rfl, rfl⟩
  · injection hv with hA hn hc
    subst hA hc
    refine .inr ⟨g, c, cur, rfl, hg, hb, by omega, h2, h3, ?_⟩
    simp only [Nat.mul_one] at h4 ⊢
    rw [List.map_take, ← h4, List.take_take, Nat.min_eq_left hm]
theorem OwnS.natv {k : IntKind} {e : TypeId} {base : Nat} {w : World} {A : Option Addr} {n c : Nat} {xs : List Int} {B : Int} {N : Nat} (h : OwnS k e base w A n c xs) (hr : Rep B xs N) : NatV k B w (.slice A n c) N :=
  ⟨A, n, c, xs, rfl, h.ints, hr, h.cap.1, h.cap.2⟩
/-- The row that 'make' makes. -/
theorem OwnS.made {k : IntKind} {e : TypeId} {base : Nat} {w : World} {g n c : Nat} (h : w.ownsRow base e 1 (.slice (some ⟨g, 0, none⟩) n c) n (List.replicate n (.int k 0))) : OwnS k e base w (some ⟨g, 0, none⟩) n c (List.replicate n 0) := by
  refine ⟨by simpa using h, by simp, fun x hx => ?_⟩
  have := (List.mem_replicate.1 hx).2
  subst this
  cases k <;> decide
end Go.Proofs.Yteoijnaljkagfaa
namespace Go.Proofs.Yteoijnaljkagfaa

section
variable {B : Int} {xs ys out : List Int} {k i j : Nat} {x y u c s : Int}
theorem val_take_getD (xs : List Int) (k : Nat) : val B (xs.take (k + 1)) = val B (xs.take k) + B ^ k * xs.getD k 0 := by
  rcases Nat.lt_or_ge k xs.length with h | h
  · rw [val_take_succ (List.getElem?_eq_getElem h)]; simp [List.getD, h]
  · rw [List.take_of_length_le (by omega), List.take_of_length_le (by omega)]; simp [List.getD, h]
theorem val_take_set (h : k < out.length) (u : Int) : val B ((out.set k u).take (k + 1)) = val B (out.take k) + B ^ k * u := by
  rw [val_take_getD, List.take_set_of_le (Nat.le_refl k)]; simp [List.getD, h]
theorem getD_digit (h : Dg B xs) (hB : 0 < B) (k : Nat) : 0 ≤ xs.getD k 0 ∧ xs.getD k 0 < B := by
  rcases Nat.lt_or_ge k xs.length with hk | hk
  · have := h.get (List.getElem?_eq_getElem hk); simpa [List.getD, hk] using this
  · simp [List.getD, hk]; exact hB
theorem val_take_all (h : xs.length ≤ k) : val B (xs.take k) = val B xs := by rw [List.take_of_length_le h]

/-- One step of an addition. -/
theorem add_step (hi : val B (out.take i) + c * B ^ i = val B (xs.take i) + val B (ys.take i)) (hl : i < out.length) (hs : s = xs.getD i 0 + ys.getD i 0 + c) :
    val B ((out.set i (s % B)).take (i + 1)) + s / B * B ^ (i + 1) = val B (xs.take (i + 1)) + val B (ys.take (i + 1)) := by
  have e := Int.emod_add_mul_ediv s B
  rw [val_take_set hl, val_take_getD, val_take_getD, Int.pow_succ]
  grind
/-- One step of the inner loop of a multiplication: x is the digit i of the first number. -/
theorem mul_step {v : Int} {n : Nat} (hi : val B (out.take n) + c * B ^ (i + j) = v + x * val B (ys.take j) * B ^ i) (hl : i + j < n) (_hn : n ≤ out.length) {o : Int} (ho : out[i + j]? = some o) (hs : s = x * ys.getD j 0 + o + c) :
    val B ((out.set (i + j) (s % B)).take n) + s / B * B ^ (i + (j + 1)) = v + x * val B (ys.take (j + 1)) * B ^ i := by
  have e := Int.emod_add_mul_ediv s B
  have h1 : (out.set (i + j) (s % B)).take n = (out.take n).set (i + j) (s % B) := by rw [List.take_set]
  have h2 : (out.take n)[i + j]? = some o := by rw [List.getElem?_take, if_pos hl, ho]
  rw [h1, val_set h2, val_take_getD, ← Nat.add_assoc, Int.pow_succ]
  have h3 : B ^ (i + j) = B ^ i * B ^ j := Int.pow_add ..
  grind
/-- One step of the outer loop. -/
theorem mul_next {V : Int} {n : Nat} (hi : val B (out.take n) + c * B ^ (i + j) = val B (xs.take i) * V + x * V * B ^ i) (hn : n = i + j) (hl : n < out.length) (hx : xs.getD i 0 = x) :
    val B ((out.set n c).take (n + 1)) = val B (xs.take (i + 1)) * V := by
  subst hn
  rw [val_take_set hl, val_take_getD, hx]
  grind
/-- Dividing by a digit. -/
theorem word_step {d r t : Int} (hi : val B (xs.drop (i + 1)) = d * val B (out.drop (i + 1)) + r) (hl : i < out.length) (hx : xs[i]? = some x) (ht : t = r * B + x) :
    val B (xs.drop i) = d * val B ((out.set i (t / d)).drop i) + t % d := by
  have e := Int.emod_add_mul_ediv t d
  have h1 : (out.set i (t / d))[i]? = some (t / d) := by simp [hl]
  have h2 : (out.set i (t / d)).drop (i + 1) = out.drop (i + 1) := by rw [List.drop_set_of_lt (by omega)]
  rw [val_drop hx, hi, val_drop h1, h2]
  grind
/-- Shifting to the left: p is 2 to the power n. -/
theorem shl_step {p t : Int} (hi : val B (out.take (i + 1)) = val B (xs.take i) * p) (hl : i + 1 < out.length) {o : Int} (ho : out[i]? = some o) (ht : t = xs.getD i 0 * p) :
    val B (((out.set i (o + t % B)).set (i + 1) (t / B)).take (i + 2)) = val B (xs.take (i + 1)) * p := by
  have e := Int.emod_add_mul_ediv t B
  have h1 : (out.set i (o + t % B)).take (i + 1) = (out.take (i + 1)).set i (o + t % B) := by rw [List.take_set]
  have h2 : (out.take (i + 1))[i]? = some o := by rw [List.getElem?_take, if_pos (by omega), ho]
  rw [val_take_set (by simpa using hl), h1, val_set h2, hi, val_take_getD, Int.pow_succ]
  grind
/-- Shifting to the right: p is 2 to the power n and divides B. -/
theorem shr_step {p : Int} {r : Int} (hp : 0 < p) (hd : p ∣ B) (hi : p * val B (out.take i) + r = val B (xs.take i) + B ^ i * (xs.getD i 0 % p)) (hl : i < out.length) (hu : u = (xs.getD i 0 + xs.getD (i + 1) 0 * B) / p % B) (hx : Dg B xs) (hB : 0 < B) :
    p * val B ((out.set i u).take (i + 1)) + r = val B (xs.take (i + 1)) + B ^ (i + 1) * (xs.getD (i + 1) 0 % p) := by
  obtain ⟨q, rfl⟩ := hd
  have hq : 0 < q := by
    rcases Int.lt_trichotomy q 0 with h | h | h
    · have := Int.mul_neg_of_pos_of_neg hp h; omega
    · subst h; simp at hB
    · exact h
  have hx0 := getD_digit hx hB i
  have hx1 := getD_digit hx hB (i + 1)
  obtain ⟨a, ha⟩ : ∃ a, xs.getD i 0 = a := ⟨_, rfl⟩
  obtain ⟨b, hb⟩ : ∃ b, xs.getD (i + 1) 0 = b := ⟨_, rfl⟩
  rw [ha] at hi hu hx0
  rw [hb] at hu hx1
  have e1 : (a + b * (p * q)) / p = a / p + b * q := by
    rw [show b * (p * q) = p * (b * q) by grind, Int.add_mul_ediv_left _ _ (by omega)]
  have e2 : (a / p + b * q) % (p * q) = a / p + b % p * q := by
    have h1 : b * q = b % p * q + (b / p) * (p * q) := by
      have := Int.emod_add_mul_ediv b p
      grind
    rw [h1, ← Int.add_assoc, Int.add_mul_emod_self_right]
    have h2 : 0 ≤ a / p := Int.ediv_nonneg hx0.1 (by omega)
    have h3 : a / p < q := Int.ediv_lt_of_lt_mul hp (by rw [Int.mul_comm]; exact hx0.2)
    have h4 := Int.emod_nonneg b (show p ≠ 0 by omega)
    have h5 := Int.emod_lt_of_pos b hp
    have h6 : b % p * q ≤ (p - 1) * q := Int.mul_le_mul_of_nonneg_right (by omega) (by omega)
    have h7 : 0 ≤ b % p * q := Int.mul_nonneg h4 (by omega)
    have h8 : (p - 1) * q = p * q - q := by grind
    exact Int.emod_eq_of_lt (by omega) (by omega)
  rw [e1, e2] at hu
  have e3 := Int.emod_add_mul_ediv a p
  rw [val_take_set hl, val_take_getD, Int.pow_succ, ha, hb]
  grind
end
end Go.Proofs.Yteoijnaljkagfaa
namespace Go.Proofs.Yteoijnaljkagfaa
open Go.RowKit

theorem elW : Elem Try.prog 94 79 1 4 (.int .u32 0) := Elem.mk' (by kernel_rfl) (by kernel_rfl) rfl (by decide)

/-- A number of the program. -/
def W32 (w : World) (v : Value) (n : Nat) : Prop := NatV .u32 4294967296 w v n
theorem W32.ext {w w' : World} {v : Value} {n : Nat} (h : W32 w v n) (he : Ext w w') : W32 w' v n := NatV.ext h he
theorem dg32 {w : World} {A : Option Addr} {n : Nat} {xs : List Int} (h : Ints .u32 w A n xs) : Dg 4294967296 xs := fun x hx => by
  have := u32_bounds (h.2.1 x hx); omega
theorem wf32 {x : Int} (h : 0 ≤ x ∧ x < 4294967296) : (Lit.int .u32 x).wf = true := WalkArith.wf_u32 (by omega)

/-- What norm returns: a beginning without most significant zeros, of the same value. -/
def RetNorm (w : World) (A : Option Addr) (n c : Nat) (xs : List Int) (e : Ending) (w' : World) : Prop :=
  ∃ m, m ≤ n ∧ Nm (xs.take m) ∧ val 4294967296 (xs.take m) = val 4294967296 xs ∧ e = .returned (.slice A m c) ∧ w = w'

set_option maxHeartbeats 400000 in
theorem norm_any (A : Option Addr) (n c : Nat) (xs : List Int) (w : World) (h : Ints .u32 w A n xs) (hnc : n ≤ c) (hcm : c ≤ 9223372036854775807) :
    Calls Try.prog 118 #[.slice A n c] w (RetNorm w A n c xs) := by
  have H := Lib.hid h
  have HL : Hid (xs.length = n) := h.1
  clear h
  go_enter Try.func118, Try.ntmps118
  go_wp2
  go_loopg [0] n (fun g v wr => ∃ m, m = g ∧ m ≤ n ∧ v = .slice A m c ∧ Hid (val 4294967296 (xs.take m) = val 4294967296 xs) ∧ w = wr)
  case atStart => exact ⟨n, rfl, Nat.le_refl _, rfl, by rw [List.take_of_length_le (by rw [HL.out]; exact Nat.le_refl _)]; rfl, rfl⟩
  case round =>
    obtain ⟨m, rfl, hm, rfl, hv, rfl⟩ := hrel
    rcases Nat.eq_zero_or_pos m with h0 | h0
    · subst h0
      go_wp2
      go_ret
      exact ⟨0, by omega, by simp [Nm], hv.out, rfl, rfl⟩
    · obtain ⟨k, rfl⟩ : ∃ k, m = k + 1 := ⟨m - 1, by omega⟩
      obtain ⟨b, off, x, rfl, hx, hwf, hc⟩ := H.out.get (j := k) (by omega)
      obtain ⟨hx0, hx1⟩ := u32_bounds hwf
      have HX := Lib.hid hx
      clear hx hwf
      by_cases hz : x = 0
      · have hzb : (x == 0) = true := by simpa using hz
        have HV : Hid (val 4294967296 (xs.take k) = val 4294967296 xs) := by
          have := hv.out
          rw [val_take_succ HX.out, hz] at this
          show _ = _
          omega
        clear hz hv
        go_wp2
        go_roundg k
        case rel => exact ⟨k, rfl, by omega, rfl, HV, rfl⟩
        case measure => omega
      · have hzb : (x == 0) = false := by simpa using hz
        have HZ := Lib.hid hz
        clear hz
        go_wp2
        go_ret
        exact ⟨k + 1, hm, Nm.take HX.out HZ.out, hv.out, rfl, rfl⟩

theorem RetNorm.natv {w : World} {A : Option Addr} {n c m N : Nat} {xs : List Int} (h : Ints .u32 w A n xs) (hm : m ≤ n) (hN : Nm (xs.take m)) (hv : val 4294967296 (xs.take m) = val 4294967296 xs) (he : val 4294967296 xs = (N : Int)) (hnc : n ≤ c) (hcm : c ≤ 9223372036854775807) : W32 w (.slice A m c) N :=
  ⟨A, m, c, xs.take m, rfl, h.take hm, Rep.of_take (dg32 h) hv hN he, by omega, hcm⟩

set_option maxHeartbeats 400000 in
theorem natOf_any (n : Int) (w : World) (h0 : 0 ≤ n) (h1 : n ≤ 18446744073709551615) :
    Calls Try.prog 110 #[.int .u64 n] w (RetN .u32 4294967296 w n.toNat) := by
  go_enter Try.func110, Try.ntmps110
  go_wp2_with fail
  have hI : Ints .u32 (w.alloc (.cells #[.int .u32 (n % 4294967296), .int .u32 (n / 4294967296)] 79)) (some ⟨w.heap.size, 0, none⟩) 2 [n % 4294967296, n / 4294967296] :=
    ⟨rfl, fun x hx => by simp at hx; rcases hx with rfl | rfl <;> exact wf32 (by omega), At.new w [_, _] _⟩
  refine (norm_any _ _ _ _ _ hI (by omega) (by omega)).mono ?_
  rintro e w1 ⟨m, hm, hN, hv, rfl, rfl⟩
  have HW := Lib.hid (RetNorm.natv (N := n.toNat) (c := 2) hI hm hN hv (by simp [val]; omega) (by omega) (by omega))
  clear hI hm hN hv
  go_wp2
  go_ret
  exact ⟨_, rfl, HW.out, (Ext.refl w).alloc _⟩

/-- How two numbers compare. -/
def cmpI (n m : Nat) : Int := if n < m then -1 else if m < n then 1 else 0
theorem cmpI_lt {n m : Nat} (h : n < m) : cmpI n m = -1 := by simp [cmpI, h]
theorem cmpI_gt {n m : Nat} (h : m < n) : cmpI n m = 1 := by
  unfold cmpI; rw [if_neg (by omega), if_pos h]
theorem cmpI_eq {n m : Nat} (h : n = m) : cmpI n m = 0 := by simp [cmpI, h]

set_option maxHeartbeats 1000000 in
theorem cmp_any (va vb : Value) (n m : Nat) (w : World) (ha : W32 w va n) (hb : W32 w vb m) :
    Calls Try.prog 125 #[va, vb] w fun e w' => e = .returned (.int .i64 (cmpI n m)) ∧ Ext w w' := by
  obtain ⟨A, la, ca, xs, rfl, hA, hrx, hca, hcam⟩ := ha
  obtain ⟨B, lb, cb, ys, rfl, hB, hry, hcb, hcbm⟩ := hb
  have HA := Lib.hid hA
  have HB := Lib.hid hB
  have HRX := Lib.hid hrx
  have HRY := Lib.hid hry
  have HLA : Hid (xs.length = la) := hA.1
  have HLB : Hid (ys.length = lb) := hB.1
  clear hA hB hrx hry
  by_cases hne : la = lb
  · subst hne
    have hnb : ((la : Int) != (la : Int)) = false := by simp
    go_enter Try.func125, Try.ntmps125
    go_wp2
    go_loopg [5] (la + 1) (fun g i wr => ∃ k : Nat, g = k + 1 ∧ k ≤ la ∧ i = .int .i64 ((k : Int) - 1) ∧ Hid (xs.drop k = ys.drop k) ∧ Ext w wr)
    case atStart => exact ⟨la, rfl, Nat.le_refl _, rfl, by rw [List.drop_eq_nil_of_le (by rw [HLA.out]; exact Nat.le_refl _), List.drop_eq_nil_of_le (by rw [HLB.out]; exact Nat.le_refl _)]; rfl, Ext.refl w⟩
    case round =>
      obtain ⟨k, rfl, hk, rfl, hd, hX⟩ := hrel
      have HX := Lib.hid hX
      clear hX
      rcases Nat.eq_zero_or_pos k with h0 | h0
      · subst h0
        rw [show (((0 : Nat) : Int) - 1) = -1 by omega]
        go_wp2
        go_ret
        refine ⟨?_, HX.out⟩
        have e : xs = ys := by simpa using hd.out
        have := HRX.out.2.2
        rw [e, HRY.out.2.2] at this
        rw [cmpI_eq (by omega)]
        rfl
      · obtain ⟨i, rfl⟩ : ∃ i, k = i + 1 := ⟨k - 1, by omega⟩
        obtain ⟨b, off, x, rfl, hx, hwf, hc⟩ := (HA.out.ext HX.out).get (j := i) (by omega)
        obtain ⟨b', off', y, rfl, hy, hwf', hc'⟩ := (HB.out.ext HX.out).get (j := i) (by omega)
        obtain ⟨hx0, hx1⟩ := u32_bounds hwf
        obtain ⟨hy0, hy1⟩ := u32_bounds hwf'
        have HXX := Lib.hid hx
        have HYY := Lib.hid hy
        have hi1 : (((i + 1 : Nat) : Int) - 1) = (i : Int) := by omega
        have hi2 : (i : Int) < (la : Int) := by omega
        have hi0 : (0 : Int) ≤ (i : Int) := by omega
        rw [hi1]
        clear hx hwf hy hwf' hi1
        by_cases hxy : x = y
        · have hb1 : (x != y) = false := by simpa using hxy
          have HXY := Lib.hid hxy
          clear hxy
          go_wp2
          go_quiet (fail)
          go_wp2
          go_roundg (i + 1)
          case rel => exact ⟨i, rfl, by omega, by go_num, by
            have h1 := List.getElem?_eq_some_iff.1 HXX.out
            have h2 := List.getElem?_eq_some_iff.1 HYY.out
            show xs.drop i = ys.drop i
            rw [List.drop_eq_getElem_cons h1.1, List.drop_eq_getElem_cons h2.1, h1.2, h2.2, HXY.out, hd.out], HX.out.drewN _⟩
          case measure => omega
        · have hb1 : (x != y) = true := by simpa using hxy
          by_cases hlt : x < y
          · have HLT := Lib.hid hlt
            clear hxy
            go_wp2
            go_quiet (fail)
            go_wp2
            go_quiet (fail)
            go_wp2
            go_ret
            have := cmp_step (by omega) (by rw [HLA.out, HLB.out]) HRX.out.1 HRY.out.1 hd.out HXX.out HYY.out HLT.out
            rw [HRX.out.2.2, HRY.out.2.2] at this
            exact ⟨by rw [cmpI_lt (by omega)]; rfl, (HX.out.drewN _).drewN _⟩
          · have HLT : Hid (y < x) := by show y < x; omega
            clear hxy
            go_wp2
            go_quiet (fail)
            go_wp2
            go_quiet (fail)
            go_wp2
            go_ret
            have := cmp_step (by omega) (by rw [HLA.out, HLB.out]) HRY.out.1 HRX.out.1 hd.out.symm HYY.out HXX.out HLT.out
            rw [HRX.out.2.2, HRY.out.2.2] at this
            exact ⟨by rw [cmpI_gt (by omega)]; rfl, (HX.out.drewN _).drewN _⟩
  · have hnb : ((la : Int) != (lb : Int)) = true := by simp; omega
    by_cases hlt : la < lb
    · have := HRX.out.lt_of_len (by omega) HRY.out (by rw [HLA.out, HLB.out]; exact hlt)
      rw [cmpI_lt this]
      clear this hne
      go_enter Try.func125, Try.ntmps125
      go_wp2
      go_ret
      exact ⟨rfl, Ext.refl w⟩
    · have := HRY.out.lt_of_len (by omega) HRX.out (by rw [HLA.out, HLB.out]; omega)
      rw [cmpI_gt this]
      clear this hne
      go_enter Try.func125, Try.ntmps125
      go_wp2
      go_ret
      exact ⟨rfl, Ext.refl w⟩
end Go.Proofs.Yteoijnaljkagfaa
namespace Go.Proofs.Yteoijnaljkagfaa
open Go.RowKit

theorem elI : Elem Try.prog 38 3 1 8 (.int .i64 0) := Elem.mk' (by kernel_rfl) (by kernel_rfl) rfl (by decide)
/-- A number of the reference. -/
def Z16 (w : World) (v : Value) (n : Nat) : Prop := NatV .i64 65536 w v n
theorem Z16.ext {w w' : World} {v : Value} {n : Nat} (h : Z16 w v n) (he : Ext w w') : Z16 w' v n := NatV.ext h he
theorem wf16 {x : Int} (h : 0 ≤ x ∧ x < 65536) : (Lit.int .i64 x).wf = true := WalkArith.wf_i64 (by omega)
theorem dg_wf {xs : List Int} (h : Dg 65536 xs) : ∀ x ∈ xs, (Lit.int .i64 x).wf = true := fun x hx => wf16 (h x hx)

/-- What trim returns: a beginning without most significant zeros, of the same value. -/
def RetTrim (w : World) (A : Option Addr) (n c : Nat) (xs : List Int) (e : Ending) (w' : World) : Prop :=
  ∃ m, m ≤ n ∧ Nm (xs.take m) ∧ val 65536 (xs.take m) = val 65536 xs ∧ e = .returned (.slice A m c) ∧ w = w'

set_option maxRecDepth 100000 in
set_option maxHeartbeats 400000 in
theorem trim_any (A : Option Addr) (n c : Nat) (xs : List Int) (w : World) (h : Ints .i64 w A n xs) (hnc : n ≤ c) (hcm : c ≤ 9223372036854775807) :
    Calls Try.prog 134 #[.slice A n c] w (RetTrim w A n c xs) := by
  have H := Lib.hid h
  have HL : Hid (xs.length = n) := h.1
  clear h
  go_enter Try.func134, Try.ntmps134
  go_wp2
  go_loopg [3] n (fun g v wr => ∃ m : Nat, m = g ∧ m ≤ n ∧ v = .int .i64 (m : Int) ∧ Hid (val 65536 (xs.take m) = val 65536 xs) ∧ w = wr)
  case atStart => exact ⟨n, rfl, Nat.le_refl _, rfl, by rw [List.take_of_length_le (by rw [HL.out]; exact Nat.le_refl _)]; rfl, rfl⟩
  case round =>
    obtain ⟨m, rfl, hm, rfl, hv, rfl⟩ := hrel
    rcases Nat.eq_zero_or_pos m with h0 | h0
    · subst h0
      go_wp2_with (first | (refine wpList_cutH (o := ⟨some 20, _, _, _, _, _⟩) _ elI rfl _ _ rfl A n c rfl _ _ 0 rfl rfl (by omega) ?_))
      go_ret
      exact ⟨0, by omega, by simp [Nm], hv.out, rfl, rfl⟩
    · obtain ⟨k, rfl⟩ : ∃ k, m = k + 1 := ⟨m - 1, by omega⟩
      obtain ⟨b, off, x, rfl, hx, hwf, hc⟩ := H.out.get (j := k) (by omega)
      obtain ⟨hx0, hx1⟩ := i64_bounds hwf
      have HX := Lib.hid hx
      have hkc : ((k + 1 : Nat) : Int) = (k : Int) + 1 := by omega
      have hk0 : (0 : Int) ≤ (k : Int) := by omega
      have hkn : (k : Int) < (n : Int) := by omega
      rw [hkc]
      clear hx hwf hkc
      by_cases hz : x = 0
      · have hzb : (x == 0) = true := by simpa using hz
        have HV : Hid (val 65536 (xs.take k) = val 65536 xs) := by
          have := hv.out
          rw [val_take_succ HX.out, hz] at this
          show _ = _
          omega
        clear hz hv
        go_wp2
        go_roundg k
        case rel => exact ⟨k, rfl, by omega, rfl, HV, rfl⟩
        case measure => omega
      · have hzb : (x == 0) = false := by simpa using hz
        have HZ := Lib.hid hz
        clear hz
        go_wp2_with (first | (refine wpList_cutH (o := ⟨some 20, _, _, _, _, _⟩) _ elI rfl _ _ rfl _ n c rfl _ _ (k + 1) rfl (by omega) (by omega) ?_))
        go_ret
        exact ⟨k + 1, hm, Nm.take HX.out HZ.out, hv.out, rfl, rfl⟩
theorem trimN {A : Option Addr} {n c N : Nat} {xs : List Int} {w : World} (h : Ints .i64 w A n xs) (hd : Dg 65536 xs) (he : val 65536 xs = (N : Int)) (hnc : n ≤ c) (hcm : c ≤ 9223372036854775807) :
    Calls Try.prog 134 #[.slice A n c] w fun e w' => ∃ v, e = .returned v ∧ Z16 w v N ∧ w = w' := by
  refine (trim_any A n c xs w h hnc hcm).mono ?_
  rintro e w' ⟨m, hm, hN, hv, rfl, rfl⟩
  exact ⟨_, rfl, ⟨A, m, c, xs.take m, rfl, h.take hm, Rep.of_take hd hv hN he, by omega, hcm⟩, rfl⟩

theorem val_take_next (xs : List Int) (k : Nat) : val 65536 (xs.take (k + 1)) = val 65536 (xs.take k) + 65536 ^ k * xs.getD k 0 := by
  by_cases h : k < xs.length
  · have hx : xs[k]? = some xs[k] := List.getElem?_eq_getElem h
    rw [val_take_succ hx]
    simp [List.getD, hx]
  · rw [List.take_of_length_le (by omega), List.take_of_length_le (by omega)]
    simp [List.getD, List.getElem?_eq_none (by omega : xs.length ≤ k)]
theorem getD_some {xs : List Int} {k : Nat} {x : Int} (h : xs[k]? = some x) : xs.getD k 0 = x := by simp [List.getD, h]
theorem getD_none {xs : List Int} {k : Nat} (h : xs.length ≤ k) : xs.getD k 0 = 0 := by simp [List.getD, List.getElem?_eq_none h]
theorem plus_step {xs ys out : List Int} {k : Nat} {c s : Int} (hI : val 65536 out + c * 65536 ^ k = val 65536 (xs.take k) + val 65536 (ys.take k)) (hl : out.length = k) (hs : s = c + xs.getD k 0 + ys.getD k 0) :
    val 65536 (out ++ [s % 65536]) + s / 65536 * 65536 ^ (k + 1) = val 65536 (xs.take (k + 1)) + val 65536 (ys.take (k + 1)) := by
  rw [val_snoc, hl, val_take_next, val_take_next, Int.pow_succ]
  have h := Int.mul_ediv_add_emod s 65536
  generalize s / 65536 = q at *
  generalize s % 65536 = r at *
  have hs' : r = c + xs.getD k 0 + ys.getD k 0 - 65536 * q := by omega
  subst hs'
  grind
theorem less_step {xs ys out : List Int} {k : Nat} {c c' s : Int} (hI : val 65536 out = val 65536 (xs.take k) - val 65536 (ys.take k) + c * 65536 ^ k) (hl : out.length = k) (hs : s = xs.getD k 0 - c - ys.getD k 0 + 65536 * c') :
    val 65536 (out ++ [s]) = val 65536 (xs.take (k + 1)) - val 65536 (ys.take (k + 1)) + c' * 65536 ^ (k + 1) := by
  rw [val_snoc, hl, val_take_next, val_take_next, Int.pow_succ, hs]
  grind

set_option maxHeartbeats 1000000 in
theorem compare_any (va vb : Value) (n m : Nat) (w : World) (ha : Z16 w va n) (hb : Z16 w vb m) :
    Calls Try.prog 128 #[va, vb] w fun e w' => e = .returned (.int .i64 (cmpI n m)) ∧ Ext w w' := by
  obtain ⟨A, la, ca, xs, rfl, hA, hrx, hca, hcam⟩ := ha
  obtain ⟨B, lb, cb, ys, rfl, hB, hry, hcb, hcbm⟩ := hb
  have HA := Lib.hid hA
  have HB := Lib.hid hB
  have HRX := Lib.hid hrx
  have HRY := Lib.hid hry
  have HLA : Hid (xs.length = la) := hA.1
  have HLB : Hid (ys.length = lb) := hB.1
  clear hA hB hrx hry
  by_cases hne : la = lb
  · subst hne
    have hnb : ((la : Int) != (la : Int)) = false := by simp
    go_enter Try.func128, Try.ntmps128
    go_wp2
    go_loopg [5] (la + 1) (fun g i wr => ∃ k : Nat, g = k + 1 ∧ k ≤ la ∧ i = .int .i64 ((k : Int) - 1) ∧ Hid (xs.drop k = ys.drop k) ∧ Ext w wr)
    case atStart => exact ⟨la, rfl, Nat.le_refl _, rfl, by rw [List.drop_eq_nil_of_le (by rw [HLA.out]; exact Nat.le_refl _), List.drop_eq_nil_of_le (by rw [HLB.out]; exact Nat.le_refl _)]; rfl, Ext.refl w⟩
    case round =>
      obtain ⟨k, rfl, hk, rfl, hd, hX⟩ := hrel
      have HX := Lib.hid hX
      clear hX
      rcases Nat.eq_zero_or_pos k with h0 | h0
      · subst h0
        rw [show (((0 : Nat) : Int) - 1) = -1 by omega]
        go_wp2
        go_ret
        refine ⟨?_, HX.out⟩
        have e : xs = ys := by simpa using hd.out
        have := HRX.out.2.2
        rw [e, HRY.out.2.2] at this
        rw [cmpI_eq (by omega)]
        rfl
      · obtain ⟨i, rfl⟩ : ∃ i, k = i + 1 := ⟨k - 1, by omega⟩
        obtain ⟨b, off, x, rfl, hx, hwf, hc⟩ := (HA.out.ext HX.out).get (j := i) (by omega)
        obtain ⟨b', off', y, rfl, hy, hwf', hc'⟩ := (HB.out.ext HX.out).get (j := i) (by omega)
        obtain ⟨hx0, hx1⟩ := i64_bounds hwf
        obtain ⟨hy0, hy1⟩ := i64_bounds hwf'
        have HXX := Lib.hid hx
        have HYY := Lib.hid hy
        have hi1 : (((i + 1 : Nat) : Int) - 1) = (i : Int) := by omega
        have hi2 : (i : Int) < (la : Int) := by omega
        have hi0 : (0 : Int) ≤ (i : Int) := by omega
        rw [hi1]
        clear hx hwf hy hwf' hi1
        by_cases hxy : x = y
        · have hb1 : (x != y) = false := by simpa using hxy
          have HXY := Lib.hid hxy
          clear hxy
          go_wp2
          go_quiet (fail)
          go_wp2
          go_roundg (i + 1)
          case rel => exact ⟨i, rfl, by omega, by go_num, by
            have h1 := List.getElem?_eq_some_iff.1 HXX.out
            have h2 := List.getElem?_eq_some_iff.1 HYY.out
            show xs.drop i = ys.drop i
            rw [List.drop_eq_getElem_cons h1.1, List.drop_eq_getElem_cons h2.1, h1.2, h2.2, HXY.out, hd.out], HX.out.drewN _⟩
          case measure => omega
        · have hb1 : (x != y) = true := by simpa using hxy
          by_cases hlt : x < y
          · have HLT := Lib.hid hlt
            clear hxy
            go_wp2
            go_quiet (fail)
            go_wp2
            go_quiet (fail)
            go_wp2
            go_ret
            have := cmp_step (by omega) (by rw [HLA.out, HLB.out]) HRX.out.1 HRY.out.1 hd.out HXX.out HYY.out HLT.out
            rw [HRX.out.2.2, HRY.out.2.2] at this
            exact ⟨by rw [cmpI_lt (by omega)]; rfl, (HX.out.drewN _).drewN _⟩
          · have HLT : Hid (y < x) := by show y < x; omega
            clear hxy
            go_wp2
            go_quiet (fail)
            go_wp2
            go_quiet (fail)
            go_wp2
            go_ret
            have := cmp_step (by omega) (by rw [HLA.out, HLB.out]) HRY.out.1 HRX.out.1 hd.out.symm HYY.out HXX.out HLT.out
            rw [HRX.out.2.2, HRY.out.2.2] at this
            exact ⟨by rw [cmpI_gt (by omega)]; rfl, (HX.out.drewN _).drewN _⟩
  · have hnb : ((la : Int) != (lb : Int)) = true := by simp; omega
    by_cases hlt : la < lb
    · have := HRX.out.lt_of_len (by omega) HRY.out (by rw [HLA.out, HLB.out]; exact hlt)
      rw [cmpI_lt this]
      clear this hne
      go_enter Try.func128, Try.ntmps128
      go_wp2
      go_ret
      exact ⟨rfl, Ext.refl w⟩
    · have := HRY.out.lt_of_len (by omega) HRX.out (by rw [HLA.out, HLB.out]; omega)
      rw [cmpI_gt this]
      clear this hne
      go_enter Try.func128, Try.ntmps128
      go_wp2
      go_ret
      exact ⟨rfl, Ext.refl w⟩

set_option maxHeartbeats 2000000 in
theorem plus_any (va vb : Value) (n m L : Nat) (w : World) (ha : Z16 w va n) (hb : Z16 w vb m) (fn : Fit 65536 n L) (fm : Fit 65536 m L) (hL : L ≤ 1000000) :
    Calls Try.prog 127 #[va, vb] w (RetN .i64 65536 w (n + m)) := by
  obtain ⟨A, la, ca, xs, rfl, hA, hrx, hca, hcam⟩ := ha
  obtain ⟨B, lb, cb, ys, rfl, hB, hry, hcb, hcbm⟩ := hb
  have hla := fn.len (by omega) hrx
  have hlb := fm.len (by omega) hry
  rw [hA.1] at hla
  rw [hB.1] at hlb
  have HA := Lib.hid hA
  have HB := Lib.hid hB
  have HRX := Lib.hid hrx
  have HRY := Lib.hid hry
  have HLA : Hid (xs.length = la) := hA.1
  have HLB : Hid (ys.length = lb) := hB.1
  clear hA hB hrx hry fn fm
  go_enter Try.func127, Try.ntmps127
  go_wp2
  go_loopg [5, 6, 7] (la + lb + 1) (fun g v cy i wr => ∃ (k : Nat) (c : Int) (out : List Int), g = la + lb + 1 - k ∧ k ≤ la + lb + 1 ∧ (k ≤ la ∨ k ≤ lb ∨ c = 0) ∧ i = .int .i64 (k : Int) ∧ cy = .int .i64 c ∧ 0 ≤ c ∧ c ≤ 1 ∧ Hid (wr.ownsRow w.heap.size 3 1 v k (out.map (.int .i64))) ∧ Hid (Dg 65536 out) ∧ Hid (out.length = k) ∧ Hid (val 65536 out + c * 65536 ^ k = val 65536 (xs.take k) + val 65536 (ys.take k)) ∧ Hid (Ext w wr))
  case atStart => exact ⟨0, 0, [], rfl, by omega, by omega, rfl, rfl, by omega, by omega, World.ownsRow_nil _ _ _ _, Dg.nil, rfl, by simp [Hid, val], Ext.refl w⟩
  case round =>
    obtain ⟨k, c, out, rfl, hk, hor, rfl, rfl, hc0, hc1, HO, HD, HLO, HI, HX⟩ := hrel
    have hk0 : (0 : Int) ≤ (k : Int) := by omega
    have hown := HO.out
    by_cases h1 : k < la
    · have h1I : (k : Int) < (la : Int) := by omega
      obtain ⟨b1, o1, x, rfl, hx, hwf, hcx⟩ := (HA.out.ext HX.out).get h1
      obtain ⟨hx0, hx1⟩ := HRX.out.1.get hx
      have HXX := Lib.hid (getD_some hx)
      clear hx hwf
      by_cases h2 : k < lb
      · have h2I : (k : Int) < (lb : Int) := by omega
        obtain ⟨b2, o2, y, rfl, hy, hwf, hcy⟩ := (HB.out.ext HX.out).get h2
        obtain ⟨hy0, hy1⟩ := HRY.out.1.get hy
        have HYY := Lib.hid (getD_some hy)
        clear hy hwf
        have HS : Hid (c + x + y = c + xs.getD k 0 + ys.getD k 0) := by show _ = _; rw [HXX.out, HYY.out]
        have hs0 : 0 ≤ c + x + y := by omega
        have hs1 : c + x + y ≤ 131071 := by omega
        have hm0 := Int.emod_nonneg (c + x + y) (show (65536 : Int) ≠ 0 by omega)
        have hm1 := Int.emod_lt_of_pos (c + x + y) (show (0 : Int) < 65536 by omega)
        have HST := Lib.hid (plus_step HI.out HLO.out HS.out)
        have HDD := Lib.hid (HD.out.append (Dg.one ⟨hm0, hm1⟩))
        clear hm0 hm1
        go_wp2_with (at_builtin; refine wpList_app _ elI rfl _ _ rfl w.heap.size _ k _ rfl (hown.alloc _) _ 1 1 [.int .i64 ((c + x + y) % 65536)] rfl rfl (At.new _ [_] _) (by simp [Value.oneCell']) (by omega) (by unfold maxLen; omega) (by have := HX.out.size; simp; omega) ?_; intro v1 w1 hown1 hgr1 _; have HO1 := Lib.hid hown1; have HX1 := Lib.hid (Ext.push HX.out HO.out hgr1); clear hown1 hgr1)
        go_roundg (la + lb + 1 - (k + 1))
        case rel => exact ⟨k + 1, (c + x + y) / 65536, out ++ [(c + x + y) % 65536], rfl, by omega, by omega, by go_num, rfl, by omega, by omega, by rw [List.map_append]; exact HO1.out, HDD.out, by rw [List.length_append, HLO.out]; rfl, HST.out, HX1.out⟩
        case measure => omega
      · have HYY : Hid (ys.getD k 0 = 0) := getD_none (by rw [HLB.out]; omega)
        have HS : Hid (c + x = c + xs.getD k 0 + ys.getD k 0) := by show _ = _; rw [HXX.out, HYY.out]; omega
        have hs0 : 0 ≤ c + x := by omega
        have hs1 : c + x ≤ 131071 := by omega
        have hm0 := Int.emod_nonneg (c + x) (show (65536 : Int) ≠ 0 by omega)
        have hm1 := Int.emod_lt_of_pos (c + x) (show (0 : Int) < 65536 by omega)
        have HST := Lib.hid (plus_step HI.out HLO.out HS.out)
        have HDD := Lib.hid (HD.out.append (Dg.one ⟨hm0, hm1⟩))
        clear hm0 hm1
        go_wp2_with (at_builtin; refine wpList_app _ elI rfl _ _ rfl w.heap.size _ k _ rfl (hown.alloc _) _ 1 1 [.int .i64 ((c + x) % 65536)] rfl rfl (At.new _ [_] _) (by simp [Value.oneCell']) (by omega) (by unfold maxLen; omega) (by have := HX.out.size; simp; omega) ?_; intro v1 w1 hown1 hgr1 _; have HO1 := Lib.hid hown1; have HX1 := Lib.hid (Ext.push HX.out HO.out hgr1); clear hown1 hgr1)
        go_roundg (la + lb + 1 - (k + 1))
        case rel => exact ⟨k + 1, (c + x) / 65536, out ++ [(c + x) % 65536], rfl, by omega, by omega, by go_num, rfl, by omega, by omega, by rw [List.map_append]; exact HO1.out, HDD.out, by rw [List.length_append, HLO.out]; rfl, HST.out, HX1.out⟩
        case measure => omega
    · have HXX : Hid (xs.getD k 0 = 0) := getD_none (by rw [HLA.out]; omega)
      by_cases h2 : k < lb
      · have h2I : (k : Int) < (lb : Int) := by omega
        obtain ⟨b2, o2, y, rfl, hy, hwf, hcy⟩ := (HB.out.ext HX.out).get h2
        obtain ⟨hy0, hy1⟩ := HRY.out.1.get hy
        have HYY := Lib.hid (getD_some hy)
        clear hy hwf
        have HS : Hid (c + y = c + xs.getD k 0 + ys.getD k 0) := by show _ = _; rw [HXX.out, HYY.out]; omega
        have hs0 : 0 ≤ c + y := by omega
        have hs1 : c + y ≤ 131071 := by omega
        have hm0 := Int.emod_nonneg (c + y) (show (65536 : Int) ≠ 0 by omega)
        have hm1 := Int.emod_lt_of_pos (c + y) (show (0 : Int) < 65536 by omega)
        have HST := Lib.hid (plus_step HI.out HLO.out HS.out)
        have HDD := Lib.hid (HD.out.append (Dg.one ⟨hm0, hm1⟩))
        clear hm0 hm1
        go_wp2_with (at_builtin; refine wpList_app _ elI rfl _ _ rfl w.heap.size _ k _ rfl (hown.alloc _) _ 1 1 [.int .i64 ((c + y) % 65536)] rfl rfl (At.new _ [_] _) (by simp [Value.oneCell']) (by omega) (by unfold maxLen; omega) (by have := HX.out.size; simp; omega) ?_; intro v1 w1 hown1 hgr1 _; have HO1 := Lib.hid hown1; have HX1 := Lib.hid (Ext.push HX.out HO.out hgr1); clear hown1 hgr1)
        go_roundg (la + lb + 1 - (k + 1))
        case rel => exact ⟨k + 1, (c + y) / 65536, out ++ [(c + y) % 65536], rfl, by omega, by omega, by go_num, rfl, by omega, by omega, by rw [List.map_append]; exact HO1.out, HDD.out, by rw [List.length_append, HLO.out]; rfl, HST.out, HX1.out⟩
        case measure => omega
      · have HYY : Hid (ys.getD k 0 = 0) := getD_none (by rw [HLB.out]; omega)
        by_cases h3 : 0 < c
        · have HS : Hid (c = c + xs.getD k 0 + ys.getD k 0) := by show _ = _; rw [HXX.out, HYY.out]; omega
          have hs0 : 0 ≤ c := by omega
          have hs1 : c ≤ 131071 := by omega
          have hm0 := Int.emod_nonneg (c) (show (65536 : Int) ≠ 0 by omega)
          have hm1 := Int.emod_lt_of_pos (c) (show (0 : Int) < 65536 by omega)
          have HST := Lib.hid (plus_step HI.out HLO.out HS.out)
          have HDD := Lib.hid (HD.out.append (Dg.one ⟨hm0, hm1⟩))
          clear hm0 hm1
          go_wp2_with (at_builtin; refine wpList_app _ elI rfl _ _ rfl w.heap.size _ k _ rfl (hown.alloc _) _ 1 1 [.int .i64 ((c) % 65536)] rfl rfl (At.new _ [_] _) (by simp [Value.oneCell']) (by omega) (by unfold maxLen; omega) (by have := HX.out.size; simp; omega) ?_; intro v1 w1 hown1 hgr1 _; have HO1 := Lib.hid hown1; have HX1 := Lib.hid (Ext.push HX.out HO.out hgr1); clear hown1 hgr1)
          go_roundg (la + lb + 1 - (k + 1))
          case rel => exact ⟨k + 1, (c) / 65536, out ++ [(c) % 65536], rfl, by omega, by omega, by go_num, rfl, by omega, by omega, by rw [List.map_append]; exact HO1.out, HDD.out, by rw [List.length_append, HLO.out]; rfl, HST.out, HX1.out⟩
          case measure => omega
        · obtain rfl : c = 0 := by omega
          have hI := HI.out
          rw [List.take_of_length_le (by rw [HLA.out]; omega), List.take_of_length_le (by rw [HLB.out]; omega), HRX.out.2.2, HRY.out.2.2] at hI
          have HV : Hid (val 65536 out = ((n + m : Nat) : Int)) := by show _ = _; omega
          clear hI hown
          obtain ⟨A2, c2, rfl⟩ := own_slice HO.out
          have HOS : Hid (OwnS .i64 3 w.heap.size wr A2 k c2 out) := ⟨HO.out, HLO.out, dg_wf HD.out⟩
          obtain ⟨hc1', hc2'⟩ := HOS.out.cap
          go_wp2_with fail
          refine (trimN HOS.out.ints HD.out HV.out hc1' hc2').mono ?_
          rintro e _ ⟨v, rfl, hv, rfl⟩
          have HZ := Lib.hid hv
          clear hv
          go_wp2
          go_ret
          exact ⟨_, rfl, HZ.out, HX.out⟩

end Go.Proofs.Yteoijnaljkagfaa
namespace Go.Proofs.Yteoijnaljkagfaa
open Go.RowKit

/-- What a call returns that makes a number in memory of its own. -/
def RetOwn (w : World) (n : Nat) (e : Ending) (w' : World) : Prop := ∃ A l c xs, e = .returned (.slice A l c) ∧ OwnS .i64 3 w.heap.size w' A l c xs ∧ Rep 65536 xs n ∧ Ext w w'
theorem RetOwn.n {w : World} {n : Nat} {e : Ending} {w' : World} (h : RetOwn w n e w') : RetN .i64 65536 w n e w' := by
  obtain ⟨A, l, c, xs, h1, h2, h3, h4⟩ := h
  exact ⟨_, h1, h2.natv h3, h4⟩
theorem trimO {A : Option Addr} {n c N base : Nat} {xs : List Int} {w : World} (h : OwnS .i64 3 base w A n c xs) (hd : Dg 65536 xs) (he : val 65536 xs = (N : Int)) :
    Calls Try.prog 134 #[.slice A n c] w fun e w' => ∃ l ys, e = .returned (.slice A l c) ∧ OwnS .i64 3 base w A l c ys ∧ Rep 65536 ys N ∧ w = w' := by
  refine (trim_any A n c xs w h.ints h.cap.1 h.cap.2).mono ?_
  rintro e w' ⟨m, hm, hN, hv, rfl, rfl⟩
  exact ⟨m, _, rfl, h.front hm, Rep.of_take hd hv hN he, rfl⟩
theorem less_end {n m : Int} {c p o : Int} (h : o = n - m + c * p) (hc0 : 0 ≤ c) (_hc1 : c ≤ 1) (hp : 0 < p) (ho : o < p) (hnm : m ≤ n) : o = n - m := by
  by_cases h1 : c = 0
  · rw [h, h1]; omega
  · obtain rfl : c = 1 := by omega
    omega

set_option maxHeartbeats 2000000 in
theorem less_own (va vb : Value) (n m L : Nat) (w : World) (ha : Z16 w va n) (hb : Z16 w vb m) (fn : Fit 65536 n L) (hL : L ≤ 1000000) (hmn : m ≤ n) :
    Calls Try.prog 129 #[va, vb] w (RetOwn w (n - m)) := by
  obtain ⟨A, la, ca, xs, rfl, hA, hrx, hca, hcam⟩ := ha
  obtain ⟨B, lb, cb, ys, rfl, hB, hry, hcb, hcbm⟩ := hb
  have hla := fn.len (by omega) hrx
  rw [hA.1] at hla
  have hlen : lb ≤ la := by
    apply Nat.le_of_not_lt
    intro h
    have := hrx.lt_of_len (by omega) hry (by rw [hA.1, hB.1]; exact h)
    omega
  have HA := Lib.hid hA
  have HB := Lib.hid hB
  have HRX := Lib.hid hrx
  have HRY := Lib.hid hry
  have HLA : Hid (xs.length = la) := hA.1
  have HLB : Hid (ys.length = lb) := hB.1
  have HMN := Lib.hid hmn
  clear hA hB hrx hry fn hmn
  go_enter Try.func129, Try.ntmps129
  go_wp2
  go_loopg [5, 6, 7] la (fun g v cy i wr => ∃ (k : Nat) (c : Int) (out : List Int), g = la - k ∧ k ≤ la ∧ i = .int .i64 (k : Int) ∧ cy = .int .i64 c ∧ 0 ≤ c ∧ c ≤ 1 ∧ Hid (wr.ownsRow w.heap.size 3 1 v k (out.map (.int .i64))) ∧ Hid (Dg 65536 out) ∧ Hid (out.length = k) ∧ Hid (val 65536 out = val 65536 (xs.take k) - val 65536 (ys.take k) + c * 65536 ^ k) ∧ Hid (Ext w wr))
  case atStart => exact ⟨0, 0, [], rfl, by omega, rfl, rfl, by omega, by omega, World.ownsRow_nil _ _ _ _, Dg.nil, rfl, by simp [Hid, val], Ext.refl w⟩
  case round =>
    obtain ⟨k, c, out, rfl, hk, rfl, rfl, hc0, hc1, HO, HD, HLO, HI, HX⟩ := hrel
    have hk0 : (0 : Int) ≤ (k : Int) := by omega
    have hown := HO.out
    by_cases h1 : k < la
    · have h1I : (k : Int) < (la : Int) := by omega
      obtain ⟨b1, o1, x, rfl, hx, hwf, hcx⟩ := (HA.out.ext HX.out).get h1
      obtain ⟨hx0, hx1⟩ := HRX.out.1.get hx
      have HXX := Lib.hid (getD_some hx)
      clear hx hwf
      by_cases h2 : k < lb
      · have h2I : (k : Int) < (lb : Int) := by omega
        obtain ⟨b2, o2, y, rfl, hy, hwf, hcy⟩ := (HB.out.ext HX.out).get h2
        obtain ⟨hy0, hy1⟩ := HRY.out.1.get hy
        have HYY := Lib.hid (getD_some hy)
        clear hy hwf
        by_cases hs : x - c - y < 0
        · have HS : Hid (x - c - y + 65536 = xs.getD k 0 - c - ys.getD k 0 + 65536 * 1) := by show _ = _; rw [HXX.out, HYY.out]; omega
          have HST := Lib.hid (less_step HI.out HLO.out HS.out)
          have HDD := Lib.hid (HD.out.append (Dg.one (B := 65536) (x := x - c - y + 65536) ⟨by omega, by omega⟩))
          go_wp2_with (at_builtin; refine wpList_app _ elI rfl _ _ rfl w.heap.size _ k _ rfl (hown.alloc _) _ 1 1 [.int .i64 (x - c - y + 65536)] rfl rfl (At.new _ [_] _) (by simp [Value.oneCell']) (by omega) (by unfold maxLen; omega) (by have := HX.out.size; simp; omega) ?_; intro v1 w1 hown1 hgr1 _; have HO1 := Lib.hid hown1; have HX1 := Lib.hid (Ext.push HX.out HO.out hgr1); clear hown1 hgr1)
          go_roundg (la - (k + 1))
          case rel => exact ⟨k + 1, 1, out ++ [x - c - y + 65536], rfl, by omega, by go_num, rfl, by omega, by omega, by rw [List.map_append]; exact HO1.out, HDD.out, by rw [List.length_append, HLO.out]; rfl, HST.out, HX1.out⟩
          case measure => omega
        · have HS : Hid (x - c - y = xs.getD k 0 - c - ys.getD k 0 + 65536 * 0) := by show _ = _; rw [HXX.out, HYY.out]; omega
          have HST := Lib.hid (less_step HI.out HLO.out HS.out)
          have HDD := Lib.hid (HD.out.append (Dg.one (B := 65536) (x := x - c - y) ⟨by omega, by omega⟩))
          go_wp2_with (at_builtin; refine wpList_app _ elI rfl _ _ rfl w.heap.size _ k _ rfl (hown.alloc _) _ 1 1 [.int .i64 (x - c - y)] rfl rfl (At.new _ [_] _) (by simp [Value.oneCell']) (by omega) (by unfold maxLen; omega) (by have := HX.out.size; simp; omega) ?_; intro v1 w1 hown1 hgr1 _; have HO1 := Lib.hid hown1; have HX1 := Lib.hid (Ext.push HX.out HO.out hgr1); clear hown1 hgr1)
          go_roundg (la - (k + 1))
          case rel => exact ⟨k + 1, 0, out ++ [x - c - y], rfl, by omega, by go_num, rfl, by omega, by omega, by rw [List.map_append]; exact HO1.out, HDD.out, by rw [List.length_append, HLO.out]; rfl, HST.out, HX1.out⟩
          case measure => omega
      · have HYY : Hid (ys.getD k 0 = 0) := getD_none (by rw [HLB.out]; omega)
        by_cases hs : x - c < 0
        · have HS : Hid (x - c + 65536 = xs.getD k 0 - c - ys.getD k 0 + 65536 * 1) := by show _ = _; rw [HXX.out, HYY.out]; omega
          have HST := Lib.hid (less_step HI.out HLO.out HS.out)
          have HDD := Lib.hid (HD.out.append (Dg.one (B := 65536) (x := x - c + 65536) ⟨by omega, by omega⟩))
          go_wp2_with (at_builtin; refine wpList_app _ elI rfl _ _ rfl w.heap.size _ k _ rfl (hown.alloc _) _ 1 1 [.int .i64 (x - c + 65536)] rfl rfl (At.new _ [_] _) (by simp [Value.oneCell']) (by omega) (by unfold maxLen; omega) (by have := HX.out.size; simp; omega) ?_; intro v1 w1 hown1 hgr1 _; have HO1 := Lib.hid hown1; have HX1 := Lib.hid (Ext.push HX.out HO.out hgr1); clear hown1 hgr1)
          go_roundg (la - (k + 1))
          case rel => exact ⟨k + 1, 1, out ++ [x - c + 65536], rfl, by omega, by go_num, rfl, by omega, by omega, by rw [List.map_append]; exact HO1.out, HDD.out, by rw [List.length_append, HLO.out]; rfl, HST.out, HX1.out⟩
          case measure => omega
        · have HS : Hid (x - c = xs.getD k 0 - c - ys.getD k 0 + 65536 * 0) := by show _ = _; rw [HXX.out, HYY.out]; omega
          have HST := Lib.hid (less_step HI.out HLO.out HS.out)
          have HDD := Lib.hid (HD.out.append (Dg.one (B := 65536) (x := x - c) ⟨by omega, by omega⟩))
          go_wp2_with (at_builtin; refine wpList_app _ elI rfl _ _ rfl w.heap.size _ k _ rfl (hown.alloc _) _ 1 1 [.int .i64 (x - c)] rfl rfl (At.new _ [_] _) (by simp [Value.oneCell']) (by omega) (by unfold maxLen; omega) (by have := HX.out.size; simp; omega) ?_; intro v1 w1 hown1 hgr1 _; have HO1 := Lib.hid hown1; have HX1 := Lib.hid (Ext.push HX.out HO.out hgr1); clear hown1 hgr1)
          go_roundg (la - (k + 1))
          case rel => exact ⟨k + 1, 0, out ++ [x - c], rfl, by omega, by go_num, rfl, by omega, by omega, by rw [List.map_append]; exact HO1.out, HDD.out, by rw [List.length_append, HLO.out]; rfl, HST.out, HX1.out⟩
          case measure => omega
    · obtain rfl : la = k := by omega
      have hI := HI.out
      rw [List.take_of_length_le (by rw [HLA.out]; omega), List.take_of_length_le (by rw [HLB.out]; omega), HRX.out.2.2, HRY.out.2.2] at hI
      have hvl := val_lt (B := 65536) (by omega) HD.out
      rw [HLO.out] at hvl
      have HV : Hid (val 65536 out = ((n - m : Nat) : Int)) := by
        have := less_end hI hc0 hc1 (pow_pos' (by omega) la) hvl (by have := HMN.out; omega)
        show _ = _
        have := HMN.out
        omega
      clear hI hown hvl
      obtain ⟨A2, c2, rfl⟩ := own_slice HO.out
      have HOS : Hid (OwnS .i64 3 w.heap.size wr A2 la c2 out) := ⟨HO.out, HLO.out, dg_wf HD.out⟩
      obtain ⟨hc1', hc2'⟩ := HOS.out.cap
      go_wp2_with fail
      refine (trimO HOS.out HD.out HV.out).mono ?_
      rintro e _ ⟨l2, ys2, rfl, hv, hr, rfl⟩
      have HZ := Lib.hid hv
      have HR := Lib.hid hr
      clear hv hr
      go_wp2
      go_ret
      exact ⟨_, _, _, _, rfl, HZ.out, HR.out, HX.out⟩
theorem less_any (va vb : Value) (n m L : Nat) (w : World) (ha : Z16 w va n) (hb : Z16 w vb m) (fn : Fit 65536 n L) (hL : L ≤ 1000000) (hmn : m ≤ n) :
    Calls Try.prog 129 #[va, vb] w (RetN .i64 65536 w (n - m)) := (less_own va vb n m L w ha hb fn hL hmn).mono fun _ _ h => h.n

/-- n, by the limbs from k on: quotient so far, rest so far. -/
theorem short_next {xs out : List Int} {k : Nat} {d rest x : Int} (hx : xs[k]? = some x) (ho : out[k]? = some 0) (hd : 0 < d) (hI : val 65536 (xs.drop (k + 1)) = val 65536 (out.drop (k + 1)) * d + rest) :
    val 65536 (xs.drop k) = val 65536 ((out.set k ((rest * 65536 + x) / d)).drop k) * d + (rest * 65536 + x) % d := by
  have hk : k < out.length := (List.getElem?_eq_some_iff.1 ho).1
  have hs : (out.set k ((rest * 65536 + x) / d))[k]? = some ((rest * 65536 + x) / d) := by simp [hk]
  rw [val_drop hx, val_drop hs, List.drop_set_of_lt (by omega), hI]
  have h := Int.mul_ediv_add_emod (rest * 65536 + x) d
  generalize (rest * 65536 + x) / d = q at *
  generalize (rest * 65536 + x) % d = r at *
  grind

set_option maxRecDepth 100000 in
set_option maxHeartbeats 2000000 in
theorem rshort_any (va : Value) (n L : Nat) (d : Int) (w : World) (ha : Z16 w va n) (fn : Fit 65536 n L) (hL : L ≤ 1000000) (hd0 : 0 < d) (hd1 : d ≤ 65536) :
    Calls Try.prog 123 #[va, .int .i64 d] w fun e w' => ∃ v, e = .returned (.tuple #[v, .int .i64 ((n : Int) % d)]) ∧ Z16 w' v (n / d.toNat) ∧ Ext w w' := by
  obtain ⟨A, la, ca, xs, rfl, hA, hrx, hca, hcam⟩ := ha
  have hla := fn.len (by omega) hrx
  rw [hA.1] at hla
  have HA := Lib.hid hA
  have HRX := Lib.hid hrx
  have HLA : Hid (xs.length = la) := hA.1
  clear hA hrx fn
  have hdz : (d == 0) = false := by simp; omega
  have hdz' : ¬ d = 0 := by omega
  go_enter Try.func123, Try.ntmps123
  go_wp2_with (at_make; refine wpList_mk _ elI rfl rfl _ _ rfl w.heap.size _ _ _ _ la la rfl rfl (by omega) (by omega) (Nat.le_refl _) (by omega) (by unfold maxLen; omega) (Nat.le_refl _) ?_; intro w1 hown1 hext1 hsz1)
  have HO1 := Lib.hid (OwnS.made hown1)
  have HX1 := Lib.hid hext1
  clear hown1 hext1 hsz1
  go_loopg [7, 8] la (fun g r i wr => ∃ (k : Nat) (rest : Int) (out : List Int), k = g ∧ k ≤ la ∧ i = .int .i64 ((k : Int) - 1) ∧ r = .int .i64 rest ∧ 0 ≤ rest ∧ rest < d ∧ Hid (OwnS .i64 3 w.heap.size wr (some ⟨w.heap.size, 0, none⟩) la la out) ∧ Hid (Dg 65536 out) ∧ Hid (out.take k = List.replicate k 0) ∧ Hid (val 65536 (xs.drop k) = val 65536 (out.drop k) * d + rest) ∧ Hid (Ext w wr))
  case atStart => exact ⟨la, 0, _, rfl, by omega, rfl, rfl, by omega, by omega, HO1.out, Dg.zeros (by omega) _, by simp [Hid], by rw [List.drop_eq_nil_of_le (by rw [HLA.out]; omega), List.drop_eq_nil_of_le (by simp)]; simp [Hid, val], HX1.out⟩
  case round =>
    clear HO1 HX1
    obtain ⟨k, rest, out, rfl, hk, rfl, rfl, hr0, hr1, HO, HD, HZ, HI, HX⟩ := hrel
    rcases Nat.eq_zero_or_pos k with h0 | h0
    · subst h0
      have hI := HI.out
      simp only [List.drop_zero] at hI
      rw [HRX.out.2.2] at hI
      have hq : (n : Int) % d = rest := by
        rw [hI, Int.add_comm, Int.add_mul_emod_self_right, Int.emod_eq_of_lt hr0 hr1]
      have HQ := Lib.hid hq
      have hvn := val_nonneg (B := 65536) (by omega) HD.out
      have HV : Hid (val 65536 out = ((n / d.toNat : Nat) : Int)) := by
        show _ = _
        have e : ((d.toNat : Nat) : Int) = d := by omega
        rw [Int.natCast_ediv, e, hI, Int.add_comm, Int.add_mul_ediv_right _ _ hdz', Int.ediv_eq_zero_of_lt hr0 hr1]
        omega
      clear hI hq hvn
      rw [show (((0 : Nat) : Int) - 1) = -1 by omega]
      obtain ⟨hc1', hc2'⟩ := HO.out.cap
      go_wp2_with fail
      refine (trimN HO.out.ints HD.out HV.out hc1' hc2').mono ?_
      rintro e _ ⟨v, rfl, hv, rfl⟩
      have HZ := Lib.hid hv
      clear hv
      go_wp2
      go_ret2
      exact ⟨_, by rw [HQ.out]; rfl, HZ.out, HX.out⟩
    · obtain ⟨j, rfl⟩ : ∃ j, k = j + 1 := ⟨k - 1, by omega⟩
      have hkc : ((j + 1 : Nat) : Int) - 1 = (j : Int) := by omega
      rw [hkc]
      have hj0 : (0 : Int) ≤ (j : Int) := by omega
      have hjl : (j : Int) < (la : Int) := by omega
      obtain ⟨b1, o1, x, rfl, hx, hwf, hcx⟩ := (HA.out.ext HX.out).get (show j < la by omega)
      obtain ⟨hx0, hx1⟩ := HRX.out.1.get hx
      obtain ⟨g, z, hg, hz, _, hcz, hfz, _, hst⟩ := HO.out.store (j := j) (by omega)
      obtain rfl : w.heap.size = g := by injection hg with hg; injection hg
      have hz0 : z = 0 := by
        have h1 : (out.take (j + 1))[j]? = some z := by rw [List.getElem?_take, if_pos (by omega)]; exact hz
        rw [HZ.out] at h1
        rw [List.getElem?_replicate] at h1
        simp at h1
        exact h1.symm
      subst hz0
      have hs0 : 0 ≤ rest * 65536 + x := by omega
      have hs1 : rest * 65536 + x < d * 65536 := by omega
      have hq0 : 0 ≤ (rest * 65536 + x) / d := Int.ediv_nonneg hs0 (by omega)
      have hq1 : (rest * 65536 + x) / d < 65536 := Int.ediv_lt_of_lt_mul hd0 (by omega)
      have hm0 := Int.emod_nonneg (rest * 65536 + x) hdz'
      have hm1 := Int.emod_lt_of_pos (rest * 65536 + x) hd0
      have HN := Lib.hid (short_next hx hz hd0 HI.out)
      have HOO := Lib.hid (hst.out _ (wf16 ⟨hq0, hq1⟩))
      have HDD := Lib.hid (HD.out.set ⟨hq0, hq1⟩ j)
      have HZZ : Hid ((out.set j ((rest * 65536 + x) / d)).take j = List.replicate j 0) := by
        show _ = _
        rw [List.take_set_of_le (by omega)]
        have h1 : (out.take (j + 1)).take j = out.take j := by rw [List.take_take]; congr 1; omega
        rw [← h1, HZ.out, List.take_replicate]
        congr 1; omega
      have HXX := Lib.hid (HX.out.setCell (p := ⟨w.heap.size, j, none⟩) (Nat.le_refl _) (.int .i64 ((rest * 65536 + x) / d)))
      have hb1 : rest * 65536 + x ≤ 9223372036854775807 := by omega
      have hb2 : -9223372036854775808 ≤ (rest * 65536 + x) / d := by omega
      have hb3 : (rest * 65536 + x) / d ≤ 9223372036854775807 := by omega
      clear hx hz hg hwf hst
      go_wp2
      go_roundg j
      case rel => exact ⟨j, _, _, rfl, by omega, by go_num, rfl, hm0, hm1, HOO.out, HDD.out, HZZ.out, HN.out, HXX.out⟩
      case measure => omega

end Go.Proofs.Yteoijnaljkagfaa
namespace Go.Proofs.Yteoijnaljkagfaa
open Go.RowKit

theorem prod16 {x y : Int} (hx : 0 ≤ x ∧ x < 65536) (hy : 0 ≤ y ∧ y < 65536) : 0 ≤ x * y ∧ x * y ≤ 4294836225 := by
  have h1 := Int.mul_nonneg hx.1 hy.1
  have h2 : x * y ≤ 65535 * y := Int.mul_le_mul_of_nonneg_right (by omega) hy.1
  omega

set_option maxRecDepth 100000 in
set_option maxHeartbeats 2000000 in
theorem times16_any (va vb : Value) (n m La Lb : Nat) (w : World) (ha : Z16 w va n) (hb : Z16 w vb m) (hn : Fit 65536 n La) (hm : Fit 65536 m Lb) (hL : La ≤ 1000000) (hM : Lb ≤ 1000000) :
    Calls Try.prog 113 #[va, vb] w (RetN .i64 65536 w (n * m)) := by
  obtain ⟨A, la, ca, xs, rfl, hA, hrx, hca, hcam⟩ := ha
  obtain ⟨B, lb, cb, ys, rfl, hB, hry, hcb, hcbm⟩ := hb
  have hla := hn.len (by omega) hrx
  have hlb := hm.len (by omega) hry
  rw [hA.1] at hla
  rw [hB.1] at hlb
  have HA := Lib.hid hA
  have HB := Lib.hid hB
  have HN := Lib.hid hrx
  have HM := Lib.hid hry
  have HLA : Hid (xs.length = la) := hA.1
  have HLB : Hid (ys.length = lb) := hB.1
  clear hA hB hrx hry hn hm
  go_enter Try.func113, Try.ntmps113
  go_wp2_with (at_make; refine wpList_mk _ elI rfl rfl _ _ rfl w.heap.size _ _ _ _ (la + lb) (la + lb) rfl rfl (by omega) (by omega) (Nat.le_refl _) (by omega) (by unfold maxLen; omega) (Nat.le_refl _) ?_; intro w1 hown1 hext1 hsz1)
  have HO1 := Lib.hid (OwnS.made hown1)
  have HX1 := Lib.hid hext1
  clear hown1 hext1 hsz1
  go_loopg [6] la (fun g i wr => ∃ (k : Nat) (out : List Int), g = la - k ∧ k ≤ la ∧ i = .int .i64 k ∧ Hid (OwnS .i64 3 w.heap.size wr (some ⟨w.heap.size, 0, none⟩) (la + lb) (la + lb) out) ∧ Hid (Dg 65536 out) ∧ Hid (val 65536 (out.take (k + lb)) = val 65536 (xs.take k) * m) ∧ Hid (Ext w wr))
  case atStart => exact ⟨0, _, rfl, by omega, rfl, HO1.out, Dg.zeros (by omega) _, by simp [Hid, val, List.take_replicate, val_zeros], HX1.out⟩
  case round =>
    clear HO1 HX1
    obtain ⟨k, out, rfl, hk, rfl, HO, HD, hI, HX⟩ := hrel
    by_cases hlt : k < la
    · obtain ⟨b1, o1, x, hAe, hx, hwf, hcx⟩ := (HA.out.ext HX.out).get hlt
      subst hAe
      obtain ⟨hx0, hx1⟩ := HN.out.1.get hx
      have HXX := Lib.hid hx
      have hk0 : (0 : Int) ≤ (k : Int) := by omega
      have hk1 : (k : Int) < (la : Int) := by omega
      have HCX := Lib.hid (HA.out.ext HX.out)
      clear hx hwf hcx
      obtain ⟨wo, rfl⟩ : ∃ wo : World, wo = wr := ⟨_, rfl⟩
      go_wp2
      go_loopg [7, 8] lb (fun g cy i wr => ∃ (j : Nat) (c : Int) (out : List Int), g = lb - j ∧ j ≤ lb ∧ i = .int .i64 j ∧ cy = .int .i64 c ∧ 0 ≤ c ∧ c ≤ 65535 ∧ Hid (OwnS .i64 3 w.heap.size wr (some ⟨w.heap.size, 0, none⟩) (la + lb) (la + lb) out) ∧ Hid (Dg 65536 out) ∧ Hid (val 65536 (out.take (k + lb)) + c * 65536 ^ (k + j) = val 65536 (xs.take k) * m + x * val 65536 (ys.take j) * 65536 ^ k) ∧ Hid (Ext w wr))
      case atStart => exact ⟨0, 0, out, rfl, by omega, rfl, rfl, by omega, by omega, HO.out, HD.out, by simp [Hid, val]; exact hI.out, HX.out⟩
      case round =>
        clear HO HD hI HX HCX
        obtain ⟨j, c, out1, rfl, hj, rfl, rfl, hc0, hc1, HOr, HDr, hI1, HXr⟩ := hrel
        obtain ⟨b1', o1', x', hAe, hx, hwf, hcx⟩ := (HA.out.ext HXr.out).get hlt
        obtain ⟨rfl, rfl⟩ : b1' = b1 ∧ o1' = o1 := by injection hAe with h; injection h with h1 h2; exact ⟨h1.symm, h2.symm⟩
        obtain rfl : x' = x := by have := HXX.out; rw [hx] at this; injection this
        clear hAe hx hwf
        have hj0 : (0 : Int) ≤ (j : Int) := by omega
        have hkj0 : (0 : Int) ≤ (k : Int) + (j : Int) := by omega
        have hkj2 : IntKind.i64.wrap ((k : Int) + (j : Int)) = (k : Int) + (j : Int) := IntWalk.i64_in _ (by omega)
        have hkj3 : ((k : Int) + (j : Int)).toNat = k + j := by omega
        by_cases hlt2 : j < lb
        · obtain ⟨b2, o2, y, hBe, hy, hwf, hcy⟩ := (HB.out.ext HXr.out).get hlt2
          subst hBe
          obtain ⟨hy0, hy1⟩ := HM.out.1.get hy
          have HYY := Lib.hid hy
          obtain ⟨g, z, hg, hz, hwz, hcz⟩ := HOr.out.get (j := k + j) (by omega)
          obtain rfl : w.heap.size = g := by injection hg with hg; injection hg
          obtain ⟨hz0, hz1⟩ := HDr.out.get hz
          have HZ := Lib.hid hz
          have hj1 : (j : Int) < (lb : Int) := by omega
          have hkj1 : (k : Int) + (j : Int) < ((la + lb : Nat) : Int) := by omega
          obtain ⟨hp0, hp1⟩ := prod16 ⟨hx0, hx1⟩ ⟨hy0, hy1⟩
          have hw1 : IntKind.i64.wrap (x' * y) = x' * y := IntWalk.i64_in _ (by omega)
          have hw2 : IntKind.i64.wrap (x' * y + z) = x' * y + z := IntWalk.i64_in _ (by omega)
          have hw3 : IntKind.i64.wrap (x' * y + z + c) = x' * y + z + c := IntWalk.i64_in _ (by omega)
          have hs0 : 0 ≤ (x' * y + z + c) % 65536 ∧ (x' * y + z + c) % 65536 < 65536 := by omega
          have hs1 : 0 ≤ x' * y + z + c := by omega
          have hs2 : x' * y + z + c ≤ 4294967295 := by omega
          have HI := Lib.hid (mul_step (ys := ys) (s := x' * y + z + c) hI1.out (by omega) (by rw [HOr.out.len]; omega) hz (by simp [List.getD, HYY.out]))
          have HDD := Lib.hid (HDr.out.set hs0 (k + j))
          clear hy hwf hz hg hwz
          go_wp2_with fail
          go_quiet (fail)
          clear hw1 hw2 hw3 hcx hcy hcz
          have HO2 := Lib.hid (HOr.out.ext ((Ext.refl wr).drewN nq))
          have HX2 := Lib.hid (HXr.out.drewN nq)
          generalize wr.drewN nq = w2 at HO2 HX2 ⊢
          obtain ⟨g, z', hg, hz, hwz, hcz, hfz, _, hst⟩ := HO2.out.store (j := k + j) (by omega)
          obtain rfl : w.heap.size = g := by injection hg with hg; injection hg
          have HS := Lib.hid (hst.out _ (wf16 hs0))
          clear hz hg hwz hst hs0
          generalize x' * y + z + c = s at *
          go_wp2
          go_roundg (lb - (j + 1))
          case rel => exact ⟨j + 1, s / 65536, _, rfl, by omega, by go_num, rfl, by omega, by omega, HS.out, HDD.out, HI.out, HX2.out.setCell (Nat.le_refl _) _⟩
          case measure => omega
        · obtain rfl : j = lb := by omega
          obtain ⟨g, z, hg, hz, hwz, hcz, hfz, _, hst⟩ := HOr.out.store (j := k + j) (by omega)
          obtain rfl : w.heap.size = g := by injection hg with hg; injection hg
          have hkj1 : (k : Int) + (j : Int) < ((la + j : Nat) : Int) := by omega
          have HS := Lib.hid (hst.out c (wf16 (by omega)))
          have HDD := Lib.hid (HDr.out.set (u := c) (by omega) (k + j))
          have HI := Lib.hid (mul_next (xs := xs) (V := m) (by have := hI1.out; rw [val_take_all (xs := ys) (by rw [HLB.out]; omega), HM.out.2.2] at this; exact this) rfl (by rw [HOr.out.len]; omega) (by simp [List.getD, HXX.out]))
          clear hz hg hwz hst hcx
          go_wp2
          go_roundg (la - (k + 1))
          case rel => exact ⟨k + 1, _, rfl, by omega, by go_num, HS.out, HDD.out, by have := HI.out; rw [show k + j + 1 = k + 1 + j by omega] at this; exact this, HXr.out.setCell (Nat.le_refl _) _⟩
          case measure => omega
    · obtain rfl : k = la := by omega
      have HV : Hid (val 65536 out = ((n * m : Nat) : Int)) := by
        have h2 := hI.out
        rw [val_take_all (by rw [HO.out.len]; omega), val_take_all (by rw [HLA.out]; omega), HN.out.2.2, ← Int.natCast_mul] at h2
        exact h2
      go_wp2_with fail
      refine (trimN HO.out.ints HD.out HV.out (by omega) (by omega)).mono ?_
      rintro e w' ⟨v, rfl, hv, rfl⟩
      have HW := Lib.hid hv
      clear hv
      go_wp2
      go_ret
      exact ⟨_, rfl, HW.out, HX.out⟩
end Go.Proofs.Yteoijnaljkagfaa
