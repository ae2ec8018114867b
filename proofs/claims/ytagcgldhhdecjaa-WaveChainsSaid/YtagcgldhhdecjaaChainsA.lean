/- Lemmas of the proof that follows (Chains, part 1): walks of functions by contract, and plain lemmas. Conditions: none. -/
import Derived.WalkKit
import Derived.WalkSpells
import Derived.WalkLawsBesides
import Derived.ProofKit
import Derived.OpenShut
import Derived.ShutString
import Derived.ChangeOld
import Derived.Lib.Hide
import Derived.Maps.AppendAt
import Derived.Laws.CopyOwn
import Derived.Deep.Draws
import Derived.Maps.RangeWalk
import Derived.Deep.LoopGhost
import Derived.Deep.DeepCutAuto
import Derived.Deep.QuietTactic
import Derived.BigQuiet
import Derived.StillTailTactics
import Derived.Test.YtagcgldhhdecjaaRows
import Derived.Deep.RegionHeld3
import Derived.Deep.Slices
import Derived.Deep.Strs
import Derived.Lib.SmallJoins
import Derived.Shelf.Small.Bits
import Derived.Shelf.Small.Wraps
import Derived.Shelf.Strconv.Itoa0
import Derived.Shelf.Sort.Plain
import Derived.Ground.Names2Prog
import Derived.Shelf.Slices.Clone
import Derived.Shelf.Slices.SearchI
import Derived.Shelf.Slices.In.SortNone
import Derived.Test.YtagcgldhhdecjaaProg
import Derived.Sort.OwnSortedInts
import Derived.Lib.OwnBridge
import Derived.StillTail
import Derived.Deep.CutBlock
namespace Go.Proofs.Ytagcgldhhdecjaa
open Go.RowKit

/-- 'w'' has every block of 'w' as it was, and perhaps more. -/
def Ext (w w' : World) : Prop := Below w.heap.size w w'

theorem Ext.refl (w : World) : Ext w w := Below.refl _ _
theorem Ext.size {a b : World} (h : Ext a b) : a.heap.size ≤ b.heap.size := Below.size h
theorem Ext.trans {a b c : World} (h : Ext a b) (k : Ext b c) : Ext a c := Below.trans h (Below.mono k h.size)
theorem Ext.drew {a b : World} (h : Ext a b) : Ext a b.drew := Below.drew h
theorem Ext.alloc {a b : World} (h : Ext a b) (o : Obj) : Ext a (b.alloc o) := Below.alloc h h.size o
theorem Ext.setCell {a b : World} (h : Ext a b) {p : Addr} (hp : a.heap.size ≤ p.block) (u : Value) : Ext a (b.setCell p u) := Below.setCell h hp u
theorem Ext.grown {a b c : World} {row : Option Nat} (h : Ext a b) (hg : b.grownBy c row) (hr : ∀ k, row = some k → a.heap.size ≤ k) : Ext a c := Below.grown h hg h.size hr
theorem Ext.cell {a b : World} (h : Ext a b) {p : Addr} {v : Value} (hc : a.cell? p = some v) : b.cell? p = some v :=
  (Below.cell h (World.block_lt_of_cell? a p hc)).trans hc
theorem Ext.of_grown {a b : World} (h : a.grownBy b none) : Ext a b := ⟨h.os, h.tape, h.output, h.size, fun k hk => h.block k hk (by simp)⟩
theorem Ext.row {a b : World} (h : Ext a b) (row : Option Nat) : a.grownBy b row := ⟨h.os, h.tape, h.output, h.size, fun k hk _ => h.block k hk⟩

/-- The address 'A' leads to the cells 'vs' (no matter where, if there are none). -/
def At (w : World) (A : Option Addr) (vs : List Value) : Prop :=
  vs ≠ [] → ∃ b off, A = some ⟨b, off, none⟩ ∧ ∀ j v, vs[j]? = some v → w.cell? ⟨b, off + j, none⟩ = some v

section
variable {w w' : World} {A : Option Addr} {vs : List Value}
theorem At.nil : At w A [] := fun h => absurd rfl h
theorem At.ext (h : At w A vs) (he : Ext w w') : At w' A vs := fun hn => by
  obtain ⟨b, off, hA, hc⟩ := h hn
  exact ⟨b, off, hA, fun j v hv => he.cell (hc j v hv)⟩
theorem At.get (h : At w A vs) {j : Nat} (hj : j < vs.length) : ∃ b off v, A = some ⟨b, off, none⟩ ∧ vs[j]? = some v ∧ w.cell? ⟨b, off + j, none⟩ = some v := by
  obtain ⟨b, off, hA, hc⟩ := h (by intro e; subst e; simp at hj)
  exact ⟨b, off, vs[j], hA, List.getElem?_eq_getElem hj, hc j _ (List.getElem?_eq_getElem hj)⟩
theorem At.take (h : At w A vs) (k : Nat) : At w A (vs.take k) := fun hn => by
  obtain ⟨b, off, hA, hc⟩ := h (by intro e; subst e; simp at hn)
  refine ⟨b, off, hA, fun j v hv => hc j v ?_⟩
  rw [List.getElem?_take] at hv
  split at hv
  · exact hv
  · cases hv
theorem At.drop (h : At w A vs) (k : Nat) {A' : Option Addr} (hA' : k < vs.length → ∀ b off, A = some ⟨b, off, none⟩ → A' = some ⟨b, off + k, none⟩) : At w A' (vs.drop k) := fun hn => by
  have hk : k < vs.length := by
    rcases Nat.lt_or_ge k vs.length with h1 | h1
    · exact h1
    · exact absurd (List.drop_eq_nil_of_le h1) hn
  obtain ⟨b, off, hA, hc⟩ := h (by intro e; subst e; simp at hk)
  refine ⟨b, off + k, hA' hk b off hA, fun j v hv => ?_⟩
  rw [Nat.add_assoc]
  exact hc _ v (by rw [← hv, List.getElem?_drop])
theorem At.add (h : At w A vs) : ∀ ad, A = some ad → ∀ j u, vs[j]? = some u → w.cell? (ad.add j) = some u := by
  intro ad hA j u hu
  obtain ⟨b, off, hA', hc⟩ := h (by intro e; subst e; simp at hu)
  rw [hA] at hA'
  injection hA' with hA'
  subst hA'
  rw [Addr.add_lit]
  exact hc j u hu
theorem At.of_own {base : Nat} {e : TypeId} {size n c : Nat} (h : w.ownsRow base e size (.slice A n c) n vs) : At w A vs := fun hn => by
  rcases h.2 with ⟨hv, h0⟩ | ⟨g, cap, cur, hv, _, hg, _⟩
  · subst h0
    exact absurd (List.eq_nil_of_length_eq_zero (by simpa using h.1)) hn
  · have hA : A = some ⟨g, 0, none⟩ := by injection hv
    subst hA
    refine ⟨g, 0, rfl, fun j v hj => ?_⟩
    have := h.cells (g := g) rfl j v hj
    rwa [Addr.add_lit] at this
end

theorem At.new (w : World) (vs : List Value) (t : TypeId) : At (w.alloc (.cells vs.toArray t)) (some ⟨w.heap.size, 0, none⟩) vs := fun _ =>
  ⟨w.heap.size, 0, rfl, fun j v hv => by
    rw [cell_of_row _ w.heap.size (0 + j) vs.toArray t (0, 0) (heap_alloc_new w _)]
    simpa using hv⟩

theorem own_slice {w : World} {base : Nat} {e : TypeId} {size n : Nat} {v : Value} {vs : List Value} (h : w.ownsRow base e size v n vs) : ∃ A c, v = .slice A n c := by
  rcases h.2 with ⟨rfl, rfl⟩ | ⟨g, cap, cur, rfl, _⟩
  · exact ⟨_, _, rfl⟩
  · exact ⟨_, _, rfl⟩

/-- Behind an append onto a row of the call's own, whose source was made just ahead of it. -/
theorem Ext.push {w wr w1 : World} {o : Obj} {e : TypeId} {size n : Nat} {v : Value} {vs : List Value} (h : Ext w wr) (hown : wr.ownsRow w.heap.size e size v n vs) (hg : (wr.alloc o).grownBy w1 v.ownBlock) : Ext w w1 :=
  (h.alloc o).grown hg fun k hk => (hown.lt k hk).1
/-- A slice of integers of kind 'k' with 'n' elements reads as 'xs'. -/
def Ints (k : IntKind) (w : World) (A : Option Addr) (n : Nat) (xs : List Int) : Prop :=
  xs.length = n ∧ (∀ x ∈ xs, (Lit.int k x).wf = true) ∧ At w A (xs.map (Value.int k))

section
variable {w w' : World} {A : Option Addr} {n : Nat} {xs : List Int} {k : IntKind}
theorem Ints.ext (h : Ints k w A n xs) (he : Ext w w') : Ints k w' A n xs := ⟨h.1, h.2.1, h.2.2.ext he⟩
theorem Ints.nil : Ints k w A 0 [] := ⟨rfl, by simp, At.nil⟩
theorem Ints.get (h : Ints k w A n xs) {j : Nat} (hj : j < n) : ∃ b off x, A = some ⟨b, off, none⟩ ∧ xs[j]? = some x ∧ (Lit.int k x).wf = true ∧ w.cell? ⟨b, off + j, none⟩ = some (.int k x) := by
  have hj' : j < xs.length := by rw [h.1]; exact hj
  obtain ⟨b, off, v, hA, hv, hc⟩ := h.2.2.get (j := j) (by simpa using hj')
  rw [List.getElem?_map, List.getElem?_eq_getElem hj'] at hv
  simp only [Option.map_some, Option.some.injEq] at hv
  subst hv
  exact ⟨b, off, xs[j], hA, List.getElem?_eq_getElem hj', h.2.1 _ (List.getElem_mem hj'), hc⟩
theorem i64_bounds {x : Int} (h : (Lit.int .i64 x).wf = true) : -9223372036854775808 ≤ x ∧ x ≤ 9223372036854775807 := by
  simp [Lit.wf, IntKind.min, IntKind.max, IntKind.bits, IntKind.signed] at h; omega
theorem Ints.take (h : Ints k w A n xs) {m : Nat} (hm : m ≤ n) : Ints k w A m (xs.take m) :=
  ⟨by rw [List.length_take, h.1]; omega, fun x hx => h.2.1 x (List.mem_of_mem_take hx), by rw [List.map_take]; exact h.2.2.take m⟩
theorem Ints.drop (h : Ints k w A n xs) (m : Nat) {A' : Option Addr} (hA' : m < n → ∀ b off, A = some ⟨b, off, none⟩ → A' = some ⟨b, off + m, none⟩) : Ints k w A' (n - m) (xs.drop m) :=
  ⟨by rw [List.length_drop, h.1], fun x hx => h.2.1 x (List.mem_of_mem_drop hx), by rw [List.map_drop]; exact h.2.2.drop m (by simpa [h.1] using hA')⟩
end

theorem World.ownsRow.ext' {w w' : World} {base : Nat} {e : TypeId} {size n : Nat} {v : Value} {vs : List Value} (h : w.ownsRow base e size v n vs) (he : Ext w w') : w'.ownsRow base e size v n vs :=
  h.kept (he.row none) (by cases hv : v.ownBlock <;> simp)
theorem World.ownsRow.mono' {w : World} {base base' : Nat} {e : TypeId} {size n : Nat} {v : Value} {vs : List Value} (h : w.ownsRow base e size v n vs) (hb : base' ≤ base) : w.ownsRow base' e size v n vs := by
  refine ⟨h.1, ?_⟩
  rcases h.2 with hn | ⟨g, cap, cur, hv, hg, rest⟩
  · exact .inl hn
  · exact .inr ⟨g, cap, cur, hv, by omega, rest⟩

/-- A slice of integers in memory from block 'base' on, with a row of its own, which reads as 'xs'. -/
structure OwnS (k : IntKind) (e : TypeId) (base : Nat) (w : World) (A : Option Addr) (n c : Nat) (xs : List Int) : Prop where
  own : w.ownsRow base e 1 (.slice A n c) n (xs.map (Value.int k))
  len : xs.length = n
  wf : ∀ x ∈ xs, (Lit.int k x).wf = true
section
variable {k : IntKind} {e : TypeId} {base : Nat} {w w' : World} {A : Option Addr} {n c : Nat} {xs : List Int}
theorem OwnS.ext (h : OwnS k e base w A n c xs) (he : Ext w w') : OwnS k e base w' A n c xs := ⟨World.ownsRow.ext' h.own he, h.len, h.wf⟩
theorem OwnS.mono {base' : Nat} (h : OwnS k e base w A n c xs) (hb : base' ≤ base) : OwnS k e base' w A n c xs := ⟨World.ownsRow.mono' h.own hb, h.len, h.wf⟩
theorem own_cap {e : TypeId} {size : Nat} {vs : List Value} (h : w.ownsRow base e size (.slice A n c) n vs) : n ≤ c ∧ c ≤ 9223372036854775807 := by
  rcases h.2 with ⟨hv, h0⟩ | ⟨g, cap, cur, hv, _, _, h1, h2, _⟩
  · injection hv with _ _ h3; omega
  · injection hv with _ _ h3
    subst h3
    unfold maxLen at h2
    exact ⟨h1, by omega⟩
theorem OwnS.cap (h : OwnS k e base w A n c xs) : n ≤ c ∧ c ≤ 9223372036854775807 := own_cap h.own
end

/-- A value that is a slice of integers, which reads as 'xs'. -/
def SlV (k : IntKind) (w : World) (v : Value) (xs : List Int) : Prop := ∃ A n c, v = .slice A n c ∧ Ints k w A n xs ∧ n ≤ c ∧ c ≤ 9223372036854775807
/-- A slice of slices of integers reads as 'xss'. -/
def Lists (k : IntKind) (w : World) (A : Option Addr) (n : Nat) (xss : List (List Int)) : Prop :=
  xss.length = n ∧ ∃ vs : List Value, vs.length = n ∧ At w A vs ∧ ∀ (j : Nat) v xs, vs[j]? = some v → xss[j]? = some xs → SlV k w v xs
section
variable {k : IntKind} {w w' : World} {A : Option Addr} {n : Nat} {xss : List (List Int)}
theorem SlV.ext {v : Value} {xs : List Int} (h : SlV k w v xs) (he : Ext w w') : SlV k w' v xs := by
  obtain ⟨A, n, c, hv, hi, h1, h2⟩ := h
  exact ⟨A, n, c, hv, hi.ext he, h1, h2⟩
theorem Lists.ext (h : Lists k w A n xss) (he : Ext w w') : Lists k w' A n xss := by
  obtain ⟨hl, vs, h1, h2, h3⟩ := h
  exact ⟨hl, vs, h1, h2.ext he, fun j v xs a b => (h3 j v xs a b).ext he⟩
theorem Lists.get (h : Lists k w A n xss) {j : Nat} (hj : j < n) : ∃ b off A' n' c' xs, A = some ⟨b, off, none⟩ ∧ xss[j]? = some xs ∧ w.cell? ⟨b, off + j, none⟩ = some (.slice A' n' c') ∧ Ints k w A' n' xs ∧ n' ≤ c' ∧ c' ≤ 9223372036854775807 := by
  obtain ⟨hl, vs, h1, h2, h3⟩ := h
  obtain ⟨b, off, v, hA, hv, hc⟩ := h2.get (j := j) (by omega)
  have hx : xss[j]? = some xss[j] := List.getElem?_eq_getElem (by omega)
  obtain ⟨A', n', c', rfl, hi, h4, h5⟩ := h3 j v _ hv hx
  exact ⟨b, off, A', n', c', _, hA, hx, hc, hi, h4, h5⟩
theorem Lists.one {xs : List Int} {v : Value} (hat : At w A [v]) (h : SlV k w v xs) : Lists k w A 1 [xs] :=
  ⟨rfl, [v], rfl, hat, fun j u ys hu hy => by
    match j with
    | 0 => simp at hu hy; subst hu hy; exact h
    | j + 1 => simp at hu⟩
end

/-- The element type 'e' of the slice type 't': one value of 'size' cells and 'bytes' bytes, whose zero is 'z'. -/
structure Elem (P : Program) (t e : TypeId) (size bytes : Nat) (z : Value) : Prop where
  und : P.underlying t = some (.slice e)
  info : ∃ i, P.info? e = some i ∧ i.zero = some z ∧ i.size = size ∧ i.bytes = bytes
  cells : z.cells.size = size
  pos : 0 < size

theorem Elem.mk' {P : Program} {t e : TypeId} {size bytes : Nat} {z : Value} (h1 : P.underlying t = some (.slice e))
    (h2 : (P.info? e).map (fun i => (i.zero, i.size, i.bytes)) = some (some z, size, bytes)) (h3 : z.cells.size = size) (h4 : 0 < size) : Elem P t e size bytes z :=
  ⟨h1, info_parts h2, h3, h4⟩

section
variable {P : Program}

theorem run_app (w : World) {t e : TypeId} {size bytes : Nat} {z : Value} (E : Elem P t e size bytes z) (ty : TypeId) (base : Nat)
    (v : Value) (n : Nat) (xs : List Value) (hown : w.ownsRow base e size v n xs)
    (A : Option Addr) (m c : Nat) (news : List Value) (hl : news.length = m * size) (hat : At w A news) (h1 : ∀ u ∈ news, u.oneCell' = true)
    (hbytes : (n + m) * bytes ≤ 140737488355328) (h63 : n + m ≤ maxLen) (hbase : base ≤ w.heap.size) :
    ∃ v' w', (Builtin.append_ #[t, t] ty #[v, .slice A m c]).run P w = .ok v' w' ∧ w'.ownsRow base e size v' (n + m) (xs ++ news) ∧ w.grownBy w' v.ownBlock ∧
      (v'.ownBlock = v.ownBlock ∨ v'.ownBlock = some w.heap.size) := by
  obtain ⟨i, hi, hz, hs, hb⟩ := E.info
  rcases A with _ | ad
  · have hn : news = [] := by
      rcases news with _ | ⟨u, us⟩
      · rfl
      · obtain ⟨b, off, hA, _⟩ := hat (by simp)
        cases hA
    subst hn
    have hm : m = 0 := by
      have h0 : m * size = 0 := by simpa using hl.symm
      rcases Nat.mul_eq_zero.1 h0 with h | h
      · exact h
      · have := E.pos; omega
    subst hm
    refine ⟨v, w, ?_, by simpa using hown, World.grownBy.refl w _, .inl rfl⟩
    rcases hown.2 with ⟨rfl, rfl⟩ | ⟨g, cap, cur, rfl, _, _, hnc, _⟩
    · simp [Builtin.append_, run_underlying E.und, sizeOf, typeInfo, hi, Builtin.lenOf, Builtin.firstCells]
    · simp [Builtin.append_, run_underlying E.und, sizeOf, typeInfo, hi, Builtin.lenOf, Builtin.firstCells, hnc, storeCells]
  · obtain ⟨v', w', hrun, h2, h3, _, h5⟩ := run_append_own_at (P := P) w base t ty e i z size bytes E.und hi hz hs hb E.cells E.pos v n xs hown ad m c news hl (hat.add ad rfl) h1 h63 hbytes hbase
    exact ⟨v', w', hrun, h2, h3, h5⟩

/-- 'append(s, x...)' onto a row of the call's own, whatever the source. -/
theorem wpList_app (w : World) {t e : TypeId} {size bytes : Nat} {z : Value} (E : Elem P t e size bytes z) {ops : Array Oper} {rest : List Oper} {o : Oper} {a : Act} {Q : Exit → Act → World → Prop}
    (hgd : o.guard = none) (s x : Operand) (ho : o.op = .call { callee := .builtin .append, args := #[s, x], argTypes := #[t, t] })
    (base : Nat) (v : Value) (n : Nat) (xs : List Value) (hs : a.eval s = v) (hown : w.ownsRow base e size v n xs)
    (A : Option Addr) (m c : Nat) (news : List Value) (hx : a.eval x = .slice A m c) (hl : news.length = m * size) (hat : At w A news) (h1 : ∀ u ∈ news, u.oneCell' = true)
    (hbytes : (n + m) * bytes ≤ 140737488355328) (h63 : n + m ≤ maxLen) (hbase : base ≤ w.heap.size)
    (h : ∀ v' w', w'.ownsRow base e size v' (n + m) (xs ++ news) → w.grownBy w' v.ownBlock → (v'.ownBlock = v.ownBlock ∨ v'.ownBlock = some w.heap.size) → wpList P ops Q rest (a.put o.dst v') w') :
    wpList P ops Q (o :: rest) a w :=
  wpList_plain hgd fun K hK => by
    obtain ⟨v', w', hrun, h2, h3, h4⟩ := run_app (P := P) w E o.type base v n xs hown A m c news hl hat h1 hbytes h63 hbase
    unfold Oper.wp execOp
    simp only [ho, resolve, invoke, builtin, Sem.run_bind, Sem.run_pure, Result.andThen_ok, List.map_toArray, List.map_cons, List.map_nil, hs, hx, hrun]
    exact hK _ _ (h v' w' h2 h3 h4)

end
end Go.Proofs.Ytagcgldhhdecjaa
namespace Go.Proofs.Ytagcgldhhdecjaa
open Go.ChangeShapes Go.WideShapes Go.ChangeAt Go.RowKit

theorem own : ownKnob Try.prog.godebug = none := by kernel_rfl
theorem laidOut : laidOutB Try.prog = true := by kernel_rfl

theorem ints_trod {P : Program} {W : World} {H : Type} {enc : TypeId × Value → H} {t e : TypeId} {k : IntKind} {a : Option Addr} {len cap fuel : Nat} {y : DataW H × List MemPlace} {b : Nat} {sp : Nat → Bool} {hd : Bool}
    (ht : P.underlying t = some (.slice e)) (he : P.underlying e = some (.int k)) (hc : P.cellsOf e = 1) (hf : DataW.trod enc P W b sp hd fuel t [.slice a len cap] = some y) :
    ∃ xs, Ints k W a len xs ∧ len ≤ cap ∧ cap ≤ 9223372036854775807 := by
  rcases open_ints ht he hc hf with ⟨hcs, _⟩ | ⟨x, l, c, zs, hcs, _, hl, hm, hz, _, hcell, hwz⟩
  · simp at hcs
    obtain ⟨rfl, rfl, rfl⟩ := hcs
    exact ⟨[], Ints.nil, by omega, by omega⟩
  · simp at hcs
    obtain ⟨rfl, rfl, rfl⟩ := hcs
    have hzl : len ≤ zs.length := by rw [hz]; split <;> omega
    refine ⟨zs.take len, ⟨by rw [List.length_take]; omega, fun x hx => hwz x (List.mem_of_mem_take hx), ?_⟩, hl, by unfold maxLen at hm; omega⟩
    intro hne
    have hpos : 0 < zs.length := by
      rcases zs with _ | ⟨z, zs⟩
      · simp at hne
      · simp
    have h0 := hcell 0 hpos
    obtain ⟨bb, off, spot⟩ := x
    have hspot : spot = none := by simpa [Addr.add] using World.cell?_spot h0
    subst hspot
    refine ⟨bb, off, rfl, fun j v hv => ?_⟩
    rw [List.getElem?_map, List.getElem?_take] at hv
    split at hv
    · have hj : j < zs.length := by omega
      have := hcell j hj
      rw [Addr.add_lit] at this
      rw [this]
      rw [List.getElem?_eq_getElem hj] at hv
      simp at hv
      simp [List.getD, List.getElem?_eq_getElem hj, hv]
    · simp at hv

theorem ints_open {P : Program} {W : World} {H : Type} {enc : TypeId × Value → H} {t e : TypeId} {k : IntKind} {a : Option Addr} {len cap : Nat} {d : DataW H} {p : List MemPlace} {b : Nat} {sp : Nat → Bool} {hd : Bool}
    (ht : P.underlying t = some (.slice e)) (he : P.underlying e = some (.int k)) (hc : P.cellsOf e = 1) (h : DataW.Trod enc P W b sp hd t (.slice a len cap) d p) :
    ∃ xs, Ints k W a len xs ∧ len ≤ cap ∧ cap ≤ 9223372036854775807 := by
  obtain ⟨fuel, hf⟩ := h
  exact ints_trod ht he hc hf
end Go.Proofs.Ytagcgldhhdecjaa
namespace Go.Proofs.Ytagcgldhhdecjaa
open Go.RowKit

/-- Block 'g' is just the cells 'cs'; none is frozen. -/
def Blk (w : World) (g : Nat) (t : TypeId) (cs : Array Value) : Prop := w.heap[g]? = some (.cells cs t (0, 0))

section
variable {w w' : World} {g : Nat} {t : TypeId} {cs : Array Value}
theorem Blk.lt (h : Blk w g t cs) : g < w.heap.size := (Array.getElem?_eq_some_iff.1 h).1
theorem Blk.cell (h : Blk w g t cs) (i : Nat) : w.cell? ⟨g, i, none⟩ = cs[i]? := cell_of_row w g i cs t (0, 0) h
theorem Blk.free (h : Blk w g t cs) (i : Nat) : w.frozen? ⟨g, i, none⟩ = false := by
  unfold World.frozen?; rw [show w.heap[g]? = some (.cells cs t (0, 0)) from h]; simp
theorem Blk.new (w : World) (t : TypeId) (cs : Array Value) : Blk (w.alloc (.cells cs t)) w.heap.size t cs := heap_alloc_new w _
theorem Blk.ext (h : Blk w g t cs) (he : Ext w w') : Blk w' g t cs := (Below.block he g h.lt).trans h
theorem Blk.drew (h : Blk w g t cs) : Blk w.drew g t cs := h
theorem Blk.alloc (h : Blk w g t cs) (o : Obj) : Blk (w.alloc o) g t cs := (Below.heap_alloc w o g h.lt).trans h
theorem Blk.set (h : Blk w g t cs) (i : Nat) (u : Value) : Blk (w.setCell ⟨g, i, none⟩ u) g t (cs.setIfInBounds i u) := by
  unfold Blk at h ⊢
  simp [World.setCell, Array.getElem?_modify, h]
theorem Blk.grown {row : Option Nat} (h : Blk w g t cs) (hb : w.grownBy w' row) (hg : some g ≠ row) : Blk w' g t cs := (hb.block g h.lt hg).trans h
end

theorem At.drew {w : World} {A : Option Addr} {vs : List Value} (h : At w A vs) : At w.drew A vs := h.ext (Ext.refl w).drew
end Go.Proofs.Ytagcgldhhdecjaa
namespace Go.Proofs.Ytagcgldhhdecjaa
open Go.RowKit

/-- The cells 'vs' are those of the elements 'xs', one behind the other. -/
def CsR {α : Type} (R : List Value → α → Prop) : List Value → List α → Prop
  | vs, [] => vs = []
  | vs, x :: xs => ∃ cs rest, vs = cs ++ rest ∧ R cs x ∧ CsR R rest xs
section
variable {α : Type} {R R' : List Value → α → Prop} {vs cs : List Value} {xs : List α} {x : α}
theorem CsR.imp (h : CsR R vs xs) (hi : ∀ cs x, R cs x → R' cs x) : CsR R' vs xs := by
  induction xs generalizing vs with
  | nil => exact h
  | cons y ys ih =>
    obtain ⟨cs, rest, h1, h2, h3⟩ := h
    exact ⟨cs, rest, h1, hi _ _ h2, ih h3⟩
theorem CsR.nil : CsR R [] [] := rfl
theorem CsR.snoc (h : CsR R vs xs) (hx : R cs x) : CsR R (vs ++ cs) (xs ++ [x]) := by
  induction xs generalizing vs with
  | nil =>
    obtain rfl : vs = [] := h
    exact ⟨cs, [], by simp, hx, rfl⟩
  | cons y ys ih =>
    obtain ⟨ds, rest, rfl, h2, h3⟩ := h
    exact ⟨ds, rest ++ cs, by simp, h2, ih h3⟩
theorem CsR.append {us : List Value} {ys : List α} (h : CsR R vs xs) (k : CsR R us ys) : CsR R (vs ++ us) (xs ++ ys) := by
  induction xs generalizing vs with
  | nil =>
    obtain rfl : vs = [] := h
    exact k
  | cons y zs ih =>
    obtain ⟨ds, rest, rfl, h2, h3⟩ := h
    exact ⟨ds, rest ++ us, by simp, h2, ih h3⟩
theorem CsR.len {k : Nat} (h : CsR R vs xs) (hk : ∀ cs x, R cs x → cs.length = k) : vs.length = xs.length * k := by
  induction xs generalizing vs with
  | nil => obtain rfl : vs = [] := h; simp
  | cons y ys ih =>
    obtain ⟨cs, rest, rfl, h2, h3⟩ := h
    rw [List.length_append, hk _ _ h2, ih h3, List.length_cons, Nat.succ_mul]; omega
theorem CsR.one (h : CsR R vs xs) (hk : ∀ cs x, R cs x → ∀ u ∈ cs, u.oneCell' = true) : ∀ u ∈ vs, u.oneCell' = true := by
  induction xs generalizing vs with
  | nil => obtain rfl : vs = [] := h; simp
  | cons y ys ih =>
    obtain ⟨cs, rest, rfl, h2, h3⟩ := h
    intro u hu
    rcases List.mem_append.1 hu with hu | hu
    · exact hk _ _ h2 u hu
    · exact ih h3 u hu
theorem CsR.get {k : Nat} (h : CsR R vs xs) (hk : ∀ cs x, R cs x → cs.length = k) {j : Nat} (hj : xs[j]? = some x) : ∃ cs, R cs x ∧ ∀ i u, cs[i]? = some u → vs[j * k + i]? = some u := by
  induction xs generalizing vs j with
  | nil => simp at hj
  | cons y ys ih =>
    obtain ⟨cs, rest, rfl, h2, h3⟩ := h
    cases j with
    | zero =>
      simp at hj
      subst hj
      refine ⟨cs, h2, fun i u hu => ?_⟩
      have hi := (List.getElem?_eq_some_iff.1 hu).1
      rw [Nat.zero_mul, Nat.zero_add, List.getElem?_append_left hi, hu]
    | succ j =>
      obtain ⟨ds, h4, h5⟩ := ih h3 (by simpa using hj)
      refine ⟨ds, h4, fun i u hu => ?_⟩
      have hl := hk _ _ h2
      rw [Nat.succ_mul, List.getElem?_append_right (by omega), ← h5 i u hu]
      congr 1; omega
end

theorem At.new' (w : World) (vs : List Value) (t : TypeId) {N : Nat} (h : w.heap.size = N) : At (w.alloc (.cells vs.toArray t)) (some ⟨N, 0, none⟩) vs := by
  subst h; exact At.new w vs t

/-- Two rows of different element types never share a block. -/
theorem own_ne {w : World} {base base' : Nat} {e e' : TypeId} {size size' n n' : Nat} {v v' : Value} {vs vs' : List Value} (h : w.ownsRow base e size v n vs) (h' : w.ownsRow base' e' size' v' n' vs') (hne : e ≠ e') : v.ownBlock = none ∨ v.ownBlock ≠ v'.ownBlock := by
  rcases h.2 with ⟨rfl, _⟩ | ⟨g, cap, cur, rfl, _, hg, _⟩
  · exact .inl rfl
  · right
    rcases h'.2 with ⟨rfl, _⟩ | ⟨g', cap', cur', rfl, _, hg', _⟩
    · simp [Value.ownBlock]
    · intro he
      simp [Value.ownBlock] at he
      subst he
      rw [hg] at hg'
      injection hg' with hg'
      injection hg' with _ h3
      exact hne h3
theorem OwnS.kept {k : IntKind} {e e' : TypeId} {base base' size' n n' c : Nat} {w w' : World} {A : Option Addr} {xs : List Int} {v' : Value} {vs' : List Value} (h : OwnS k e base w A n c xs) (h' : w.ownsRow base' e' size' v' n' vs') (hne : e ≠ e') (hg : w.grownBy w' v'.ownBlock) : OwnS k e base w' A n c xs :=
  ⟨h.own.kept hg (own_ne h.own h' hne), h.len, h.wf⟩
end Go.Proofs.Ytagcgldhhdecjaa
namespace Go.Proofs.Ytagcgldhhdecjaa
open Go.ChangeShapes Go.WideShapes Go.ChangeAt Go.RowKit Go.Joins

/-- A slice of elements of whatever kind. -/
def ElsW {α : Type} (E : World → List Value → α → Prop) (w : World) (A : Option Addr) (n : Nat) (xs : List α) : Prop := xs.length = n ∧ ∃ vs, CsR (E w) vs xs ∧ At w A vs
theorem ElsW.get {α : Type} {E : World → List Value → α → Prop} {k : Nat} (hk : ∀ w cs x, E w cs x → cs.length = k) {w : World} {A : Option Addr} {n : Nat} {xs : List α} (h : ElsW E w A n xs) (hp : 0 < k) {j : Nat} (hj : j < n) :
    ∃ b off f cs, A = some ⟨b, off, none⟩ ∧ xs[j]? = some f ∧ E w cs f ∧ ∀ i u, cs[i]? = some u → w.cell? ⟨b, off + j * k + i, none⟩ = some u := by
  obtain ⟨h1, vs, h2, h3⟩ := h
  have hf : xs[j]? = some xs[j] := List.getElem?_eq_getElem (by omega)
  obtain ⟨cs, h4, h5⟩ := h2.get (hk w) hf
  obtain ⟨u, hu⟩ : ∃ u, cs[0]? = some u := ⟨_, List.getElem?_eq_getElem (by rw [hk w cs _ h4]; exact hp)⟩
  obtain ⟨b, off, hA, hc⟩ := h3 (by intro e; subst e; have := h5 0 _ hu; simp at this)
  exact ⟨b, off, _, cs, hA, hf, h4, fun i u hu => by rw [Nat.add_assoc]; exact hc _ _ (h5 i u hu)⟩
/-- The cells of a struct that came in. -/
theorem agg_cells {P : Program} {W : World} {H : Type} {enc : TypeId × Value → H} {t : TypeId} {fs : Array Field} {v : Value} {d : DataW H} {p : List MemPlace} {b base : Nat} {sp : Nat → Bool} {hd : Bool} (hs : P.underlying t = some (.struct fs))
    (hv : Value.okWide P W .any base t v) (h : DataW.Trod enc P W b sp hd t v d p) : ∃ cs fuel z, v = .agg cs ∧ cs.toList.length = P.cellsOf t ∧ DataW.trod enc P W b sp hd fuel t cs.toList = some z := by
  obtain ⟨cs, rfl, hsz⟩ := okWide_struct hs hv
  obtain ⟨fuel, hf⟩ := h
  exact ⟨cs, fuel, _, rfl, by simpa using hsz, by simpa [Value.cells] using hf⟩

theorem listN4 {α : Type} {cs : List α} (h : cs.length = 4) : ∃ c0 c1 c2 c3, cs = [c0, c1, c2, c3] := by
  match cs, h with
  | [c0, c1, c2, c3], _ => exact ⟨c0, c1, c2, c3, rfl⟩
/-- The cells of a value of type Detector. -/
def DetW (W : World) (cs : List Value) (f : Int × Int × Int × Int) : Prop := cs = [.int .i64 f.1, .int .i64 f.2.1, .int .i64 f.2.2.1, .int .i64 f.2.2.2] ∧ (-9223372036854775808 ≤ f.1 ∧ f.1 ≤ 9223372036854775807) ∧ (-9223372036854775808 ≤ f.2.1 ∧ f.2.1 ≤ 9223372036854775807) ∧ (-9223372036854775808 ≤ f.2.2.1 ∧ f.2.2.1 ≤ 9223372036854775807) ∧ (-9223372036854775808 ≤ f.2.2.2 ∧ f.2.2.2 ≤ 9223372036854775807)
set_option maxRecDepth 100000 in
set_option maxHeartbeats 1000000 in
theorem detW_el {W : World} {H : Type} {enc : TypeId × Value → H} {fuel : Nat} {cs : List Value} {z : DataW H × List MemPlace} {b : Nat} {sp : Nat → Bool} {hd : Bool}
    (hl : cs.length = 4) (hf' : DataW.trod enc Try.prog W b sp hd fuel 33 cs = some z) : ∃ f, DetW W cs f := by
  obtain ⟨c0, c1, c2, c3, rfl⟩ := listN4 hl
  obtain ⟨xs1, n1, _, _, _, hl1, hg1⟩ := DataW.trod_struct Try.underlying33 hf'
  have g1_0 : DataW.trod enc Try.prog W b sp hd n1 3 [c0] = xs1[0]? := by
    have h := hg1 0 _ rfl
    rw [show Try.prog.cellsOf _ = 1 by kernel_rfl] at h
    exact h
  rw [List.getElem?_eq_getElem (by rw [hl1]; decide)] at g1_0
  obtain ⟨vc0, ec0, _, wc0⟩ := DataW.trod_int Try.underlying3 g1_0
  simp only [List.cons.injEq, and_true] at ec0
  subst ec0
  have g1_1 : DataW.trod enc Try.prog W b sp hd n1 3 [c1] = xs1[1]? := by
    have h := hg1 1 _ rfl
    rw [show Try.prog.cellsOf _ = 1 by kernel_rfl] at h
    exact h
  rw [List.getElem?_eq_getElem (by rw [hl1]; decide)] at g1_1
  obtain ⟨vc1, ec1, _, wc1⟩ := DataW.trod_int Try.underlying3 g1_1
  simp only [List.cons.injEq, and_true] at ec1
  subst ec1
  have g1_2 : DataW.trod enc Try.prog W b sp hd n1 3 [c2] = xs1[2]? := by
    have h := hg1 2 _ rfl
    rw [show Try.prog.cellsOf _ = 1 by kernel_rfl] at h
    exact h
  rw [List.getElem?_eq_getElem (by rw [hl1]; decide)] at g1_2
  obtain ⟨vc2, ec2, _, wc2⟩ := DataW.trod_int Try.underlying3 g1_2
  simp only [List.cons.injEq, and_true] at ec2
  subst ec2
  have g1_3 : DataW.trod enc Try.prog W b sp hd n1 3 [c3] = xs1[3]? := by
    have h := hg1 3 _ rfl
    rw [show Try.prog.cellsOf _ = 1 by kernel_rfl] at h
    exact h
  rw [List.getElem?_eq_getElem (by rw [hl1]; decide)] at g1_3
  obtain ⟨vc3, ec3, _, wc3⟩ := DataW.trod_int Try.underlying3 g1_3
  simp only [List.cons.injEq, and_true] at ec3
  subst ec3
  exact ⟨(vc0, vc1, vc2, vc3), rfl, i64_bounds wc0, i64_bounds wc1, i64_bounds wc2, i64_bounds wc3⟩

section
variable {W : World} {H : Type} {enc : TypeId × Value → H} {v : Value} {d : DataW H} {p : List MemPlace} {b base : Nat} {sp : Nat → Bool} {hd : Bool}
set_option maxRecDepth 100000 in
theorem detW_open (hv : Value.okWide Try.prog W .any base 33 v) (h : DataW.Trod enc Try.prog W b sp hd 33 v d p) : ∃ f : Int × Int × Int × Int, v = .agg #[.int .i64 f.1, .int .i64 f.2.1, .int .i64 f.2.2.1, .int .i64 f.2.2.2] := by
  obtain ⟨cs, fuel, z, rfl, hl, hf⟩ := agg_cells Try.underlying33 hv h
  obtain ⟨f, he, _⟩ := detW_el (hl.trans (by kernel_rfl)) hf
  exact ⟨f, congrArg Value.agg (Array.toList_inj.1 he)⟩
end
section
variable {W : World} {H : Type} {enc : TypeId × Value → H} {a : Option Addr} {len cap fuel : Nat} {y : DataW H × List MemPlace} {b : Nat} {sp : Nat → Bool} {hd : Bool}
end
end Go.Proofs.Ytagcgldhhdecjaa
namespace Go.Proofs.Ytagcgldhhdecjaa

/-- Samples as the chapter wants them. -/
def Smp (l : List Int) : Prop := l.length ≤ 256 ∧ ∀ x ∈ l, 0 ≤ x ∧ x ≤ 1023
instance (l : List Int) : Decidable (Smp l) := inferInstanceAs (Decidable (_ ∧ _))
/-- How many samples are at most v. -/
def cntLe (v : Int) (l : List Int) : Nat := (l.filter fun x => decide (x ≤ v)).length
/-- From v on, the first value that more than k samples do not exceed; 'f' values are tried. -/
def leastV (l : List Int) (k : Nat) : Nat → Nat → Nat
  | 0, v => v
  | f + 1, v => if k < cntLe v l then v else leastV l k f (v + 1)
/-- The median. -/
def medV (l : List Int) : Nat := leastV l ((l.length - 1) / 2) 1023 0
def baseF (l : List Int) : Int × Int := if l = [] ∨ ¬ Smp l then (0, 2) else ((medV l : Int), 0)

/-- The runs at or above a level: from index i on; 'st' is where the run under way began. -/
def runsP (lv : Int) : Nat → List Int → Option Nat → List (Nat × Nat)
  | _, [], none => []
  | i, [], some a => [(a, i)]
  | i, s :: l, none => if lv ≤ s then runsP lv (i + 1) l (some i) else runsP lv (i + 1) l none
  | i, s :: l, some a => if lv ≤ s then runsP lv (i + 1) l (some a) else (a, i) :: runsP lv (i + 1) l none
def runsF (l : List Int) (lv : Int) : List (Nat × Nat) × Int := if Smp l then (runsP lv 0 l none, 0) else ([], 2)

structure Ech where
  frm : Int
  til : Int
  peak : Int
  level : Int
  top : Int
/-- Where the search of one run stands. -/
structure Hun where
  frm : Nat
  peak : Nat
  level : Int
  fall : Bool
  valley : Nat
  out : List Ech
def Hun.close (l : List Int) (h : Hun) (til : Nat) : Ech := ⟨h.frm, til, h.peak, h.level, l.getD h.peak 0⟩
def hunS (l : List Int) (drop : Int) (h : Hun) (i : Nat) : Hun :=
  if h.fall then
    if l.getD i 0 < l.getD h.valley 0 then { h with valley := i }
    else if drop ≤ l.getD i 0 - l.getD h.valley 0 then ⟨h.valley, i, l.getD h.valley 0 + drop, false, h.valley, h.out ++ [h.close l h.valley]⟩
    else h
  else if l.getD h.peak 0 < l.getD i 0 then { h with peak := i }
  else if drop ≤ l.getD h.peak 0 - l.getD i 0 then { h with fall := true, valley := i }
  else h
/-- The search from index i on, k steps. -/
def hunN (l : List Int) (drop : Int) : Nat → Nat → Hun → Hun
  | 0, _, h => h
  | k + 1, i, h => hunN l drop k (i + 1) (hunS l drop h i)
def hun0 (a : Nat) (lv : Int) (out : List Ech) : Hun := ⟨a, a, lv, false, 0, out⟩
/-- The echoes of a run. -/
def hunR (l : List Int) (drop lv : Int) (r : Nat × Nat) : List Ech :=
  (hunN l drop (r.2 - (r.1 + 1)) (r.1 + 1) (hun0 r.1 lv [])).out ++ [(hunN l drop (r.2 - (r.1 + 1)) (r.1 + 1) (hun0 r.1 lv [])).close l r.2]
structure Det where
  level : Int
  drop : Int
  step : Int
  delay : Int
def DetOk (d : Det) : Prop := 1 ≤ d.level ∧ d.level ≤ 1023 ∧ 1 ≤ d.drop ∧ d.drop ≤ 1023 ∧ 1 ≤ d.step ∧ d.step ≤ 10000 ∧ -1048576 ≤ d.delay ∧ d.delay ≤ 1048576
instance (d : Det) : Decidable (DetOk d) := inferInstanceAs (Decidable (_ ∧ _))
def allE (l : List Int) (d : Det) : List Ech := (runsP (medV l + d.level) 0 l none).flatMap (hunR l d.drop (medV l + d.level))
def echoesF (l : List Int) (d : Det) : List Ech × Int :=
  if ¬ DetOk d then ([], 31) else if l = [] then ([], 0) else if ¬ Smp l then ([], 2) else ((allE l d).take 15, 0)

/-- Whether an echo's range is one of the samples. -/
def PartE (l : List Int) (e : Ech) : Prop := Smp l ∧ 0 ≤ e.frm ∧ e.frm < l.length ∧ e.frm < e.til ∧ e.til ≤ l.length
instance (l : List Int) (e : Ech) : Decidable (PartE l e) := inferInstanceAs (Decidable (_ ∧ _))
/-- From index i on, k steps at most, the first sample that is not below the level. -/
def upTo (l : List Int) (lv : Int) : Nat → Nat → Nat
  | 0, i => i
  | k + 1, i => if l.getD i 0 < lv then upTo l lv k (i + 1) else i
def crossE (l : List Int) (e : Ech) : Nat := upTo l e.level (e.til - e.frm).toNat e.frm.toNat
def timeF (l : List Int) (e : Ech) : (Int × Int) × Int :=
  if ¬ PartE l e then ((0, 0), 2)
  else if (crossE l e : Int) = e.til then ((0, 0), 2)
  else if crossE l e = 0 ∨ e.level ≤ l.getD (crossE l e - 1) 0 then ((0, 0), 32)
  else ((256 * ((crossE l e : Int) - 1) + 256 * (e.level - l.getD (crossE l e - 1) 0 - 1) / (l.getD (crossE l e) 0 - l.getD (crossE l e - 1) 0),
    256 * ((crossE l e : Int) - 1) + (256 * (e.level - l.getD (crossE l e - 1) 0) + l.getD (crossE l e) 0 - l.getD (crossE l e - 1) 0 - 1) / (l.getD (crossE l e) 0 - l.getD (crossE l e - 1) 0)), 0)
end Go.Proofs.Ytagcgldhhdecjaa
namespace Go.Proofs.Ytagcgldhhdecjaa

theorem cntLe_cons (v x : Int) (l : List Int) : cntLe v (x :: l) = (if x ≤ v then 1 else 0) + cntLe v l := by
  unfold cntLe
  by_cases h : x ≤ v
  · rw [List.filter_cons_of_pos (by simpa using h), if_pos h, List.length_cons]; omega
  · rw [List.filter_cons_of_neg (by simpa using h), if_neg h]; omega
theorem cntLe_perm {v : Int} {l m : List Int} (h : l.Perm m) : cntLe v l = cntLe v m := (h.filter _).length_eq
theorem cntLe_zero {v : Int} {l : List Int} (h : ∀ x ∈ l, v < x) : cntLe v l = 0 := by
  unfold cntLe
  rw [List.filter_eq_nil_iff.2]
  · rfl
  · intro x hx; have := h x hx; simp; omega
/-- Of a sorted list: more than k are at most v just when the one at place k is. -/
theorem cntLe_sorted {v : Int} {S : List Int} (h : S.Pairwise (· ≤ ·)) {k : Nat} {s : Int} (hk : S[k]? = some s) : k < cntLe v S ↔ s ≤ v := by
  induction S generalizing k with
  | nil => simp at hk
  | cons x S ih =>
    rw [List.pairwise_cons] at h
    rw [cntLe_cons]
    cases k with
    | zero =>
      simp at hk; subst hk
      by_cases hx : x ≤ v
      · rw [if_pos hx]; exact ⟨fun _ => hx, fun _ => by omega⟩
      · rw [if_neg hx, cntLe_zero fun y hy => by have := h.1 y hy; omega]; exact ⟨fun hh => by omega, fun hh => absurd hh hx⟩
    | succ k =>
      simp only [List.getElem?_cons_succ] at hk
      have := ih h.2 hk
      have hm := h.1 s (List.mem_of_getElem? hk)
      by_cases hx : x ≤ v
      · rw [if_pos hx, ← this]; omega
      · rw [if_neg hx, cntLe_zero fun y hy => by have := h.1 y hy; omega]
        exact ⟨fun hh => by omega, fun hh => by omega⟩
theorem leastV_eq {l : List Int} {k : Nat} {s : Nat} (h : ∀ v : Nat, k < cntLe v l ↔ s ≤ v) (f v : Nat) (hv : v ≤ s) (hs : s ≤ v + f) : leastV l k f v = s := by
  induction f generalizing v with
  | zero => simp only [leastV]; omega
  | succ f ih =>
    unfold leastV
    by_cases hh : k < cntLe v l
    · rw [if_pos hh]; have := (h v).1 hh; omega
    · rw [if_neg hh]
      have : v ≠ s := fun e => hh ((h v).2 (by omega))
      exact ih (v + 1) (by omega) (by omega)
theorem med_sorted {l S : List Int} (hp : S.Perm l) (ho : S.Pairwise (· ≤ ·)) (hs : Smp l) (hl : l ≠ []) : S[(l.length - 1) / 2]? = some (medV l : Int) := by
  have hlen : S.length = l.length := hp.length_eq
  have h0 : 0 < l.length := List.length_pos_iff.2 hl
  have hk : (l.length - 1) / 2 < S.length := by omega
  have hg : S[(l.length - 1) / 2]? = some S[(l.length - 1) / 2] := List.getElem?_eq_getElem hk
  obtain ⟨s, hse⟩ : ∃ s, S[(l.length - 1) / 2] = s := ⟨_, rfl⟩
  rw [hse] at hg
  have hm := hs.2 s (hp.mem_iff.1 (List.mem_of_getElem? hg))
  obtain ⟨n, rfl⟩ : ∃ n : Nat, s = (n : Int) := ⟨s.toNat, by omega⟩
  rw [hg]
  have := leastV_eq (l := l) (k := (l.length - 1) / 2) (s := n) (fun v => by rw [← cntLe_perm hp, cntLe_sorted ho hg]; omega) 1023 0 (by omega) (by omega)
  unfold medV
  rw [this]
theorem medV_le (l : List Int) : medV l ≤ 1023 := by
  have : ∀ k f v, leastV l k f v ≤ v + f := by
    intro k f
    induction f with
    | zero => intro v; simp [leastV]
    | succ f ih => intro v; unfold leastV; split; omega; have := ih (v + 1); omega
  have := this ((l.length - 1) / 2) 1023 0
  unfold medV; omega

section
variable {lv s : Int} {i a : Nat} {l : List Int}
theorem runsP_nl (h : s < lv) : runsP lv i (s :: l) none = runsP lv (i + 1) l none := by rw [runsP, if_neg (by omega)]
theorem runsP_nh (h : lv ≤ s) : runsP lv i (s :: l) none = runsP lv (i + 1) l (some i) := by rw [runsP, if_pos h]
theorem runsP_sl (h : s < lv) : runsP lv i (s :: l) (some a) = (a, i) :: runsP lv (i + 1) l none := by rw [runsP, if_neg (by omega)]
theorem runsP_sh (h : lv ≤ s) : runsP lv i (s :: l) (some a) = runsP lv (i + 1) l (some a) := by rw [runsP, if_pos h]
end
theorem drop_get {l : List Int} {i : Nat} {s : Int} (h : l[i]? = some s) : l.drop i = s :: l.drop (i + 1) := by
  obtain ⟨hi, rfl⟩ := List.getElem?_eq_some_iff.1 h
  rw [List.drop_eq_getElem_cons hi]
theorem getD_at {l : List Int} {i : Nat} {s : Int} (h : l[i]? = some s) : l.getD i 0 = s := by simp [List.getD, h]
end Go.Proofs.Ytagcgldhhdecjaa
namespace Go.Proofs.Ytagcgldhhdecjaa

/-- Two states of the search that go on alike; one has echoes P besides. -/
structure HSim (P : List Ech) (h h' : Hun) : Prop where
  frm : h.frm = h'.frm
  peak : h.peak = h'.peak
  level : h.level = h'.level
  fall : h.fall = h'.fall
  valley : h.fall = true → h.valley = h'.valley
  out : h.out = P ++ h'.out
theorem HSim.close {P : List Ech} {h h' : Hun} (s : HSim P h h') (l : List Int) (til : Nat) : h.close l til = h'.close l til := by
  unfold Hun.close; rw [s.frm, s.peak, s.level]
theorem HSim.step {P : List Ech} {h h' : Hun} (s : HSim P h h') (l : List Int) (d : Int) (i : Nat) : HSim P (hunS l d h i) (hunS l d h' i) := by
  have hc := s.close l h.valley
  obtain ⟨f, p, lv, fa, v, o⟩ := h
  obtain ⟨f', p', lv', fa', v', o'⟩ := h'
  obtain ⟨h1, h2, h3, h4, hv, h6⟩ := s
  simp only at h1 h2 h3 h4 hv h6 hc
  subst h1 h2 h3 h4
  subst h6
  unfold hunS
  simp only
  cases fa
  · simp only [Bool.false_eq_true, if_false]
    by_cases h1 : l.getD p 0 < l.getD i 0
    · simp only [if_pos h1]; exact ⟨rfl, rfl, rfl, rfl, by simp, rfl⟩
    · simp only [if_neg h1]
      by_cases h2 : d ≤ l.getD p 0 - l.getD i 0
      · simp only [if_pos h2]; exact ⟨rfl, rfl, rfl, rfl, by simp, rfl⟩
      · simp only [if_neg h2]; exact ⟨rfl, rfl, rfl, rfl, by simp, rfl⟩
  · obtain rfl := hv rfl
    simp only [if_true]
    by_cases h1 : l.getD i 0 < l.getD v 0
    · simp only [if_pos h1]; exact ⟨rfl, rfl, rfl, rfl, by simp, rfl⟩
    · simp only [if_neg h1]
      by_cases h2 : d ≤ l.getD i 0 - l.getD v 0
      · simp only [if_pos h2]; exact ⟨rfl, rfl, rfl, rfl, by simp, by simp [Hun.close]⟩
      · simp only [if_neg h2]; exact ⟨rfl, rfl, rfl, rfl, by simp, rfl⟩
theorem HSim.steps {P : List Ech} {h h' : Hun} (s : HSim P h h') (l : List Int) (d : Int) (k i : Nat) : HSim P (hunN l d k i h) (hunN l d k i h') := by
  induction k generalizing i h h' with
  | zero => exact s
  | succ k ih => exact ih (s.step l d i) (i + 1)
theorem hunN_snoc (l : List Int) (d : Int) (k i : Nat) (h : Hun) : hunN l d (k + 1) i h = hunS l d (hunN l d k i h) (i + k) := by
  induction k generalizing i h with
  | zero => rfl
  | succ k ih => rw [hunN, ih, hunN]; congr 1; omega
/-- Behind a run: what was out, and the run's echoes. -/
theorem hunR_out (l : List Int) (d lv : Int) (r : Nat × Nat) (v : Nat) (P : List Ech) :
    (hunN l d (r.2 - (r.1 + 1)) (r.1 + 1) ⟨r.1, r.1, lv, false, v, P⟩).out ++ [(hunN l d (r.2 - (r.1 + 1)) (r.1 + 1) ⟨r.1, r.1, lv, false, v, P⟩).close l r.2] = P ++ hunR l d lv r := by
  have s : HSim P ⟨r.1, r.1, lv, false, v, P⟩ (hun0 r.1 lv []) := ⟨rfl, rfl, rfl, rfl, by simp, by simp [hun0]⟩
  have t := s.steps l d (r.2 - (r.1 + 1)) (r.1 + 1)
  rw [t.out, t.close, List.append_assoc]
  rfl
/-- Where the search of a run stands: all places are samples of the run. -/
structure HunOk (l : List Int) (a i : Nat) (h : Hun) : Prop where
  frm : a ≤ h.frm ∧ h.frm < i
  peak : h.frm ≤ h.peak ∧ h.peak < i
  valley : h.fall = true → h.peak < h.valley ∧ h.valley < i
theorem HunOk.start (l : List Int) (a : Nat) (lv : Int) (v : Nat) (P : List Ech) : HunOk l a (a + 1) ⟨a, a, lv, false, v, P⟩ := ⟨⟨Nat.le_refl _, Nat.lt_succ_self _⟩, ⟨Nat.le_refl _, Nat.lt_succ_self _⟩, by simp⟩
theorem HunOk.step {l : List Int} {a i : Nat} {h : Hun} (k : HunOk l a i h) (d : Int) : HunOk l a (i + 1) (hunS l d h i) := by
  obtain ⟨f, p, lv, fa, v, o⟩ := h
  obtain ⟨h1, h2, h3⟩ := k
  simp only at h1 h2 h3
  unfold hunS
  simp only
  cases fa
  · rw [if_neg (by simp)]
    split
    · exact ⟨by simp only; omega, by simp only; omega, by simp⟩
    · split
      · exact ⟨by simp only; omega, by simp only; omega, fun _ => by simp only; omega⟩
      · exact ⟨by simp only; omega, by simp only; omega, by simp⟩
  · have h3 := h3 rfl
    rw [if_pos rfl]
    split
    · exact ⟨by simp only; omega, by simp only; omega, fun _ => by simp only; omega⟩
    · split
      · exact ⟨by simp only; omega, by simp only; omega, by simp⟩
      · exact ⟨by simp only; omega, by simp only; omega, fun _ => by simp only; omega⟩
/-- The runs lie one behind another. -/
theorem runsP_in {lv : Int} {l : List Int} {i : Nat} {st : Option Nat} (hst : ∀ a, st = some a → a < i) : ∀ r ∈ runsP lv i l st, r.1 < r.2 ∧ r.2 ≤ i + l.length := by
  induction l generalizing i st with
  | nil =>
    cases st with
    | none => simp [runsP]
    | some a => have := hst a rfl; intro r hr; simp [runsP] at hr; subst hr; simp; omega
  | cons s l ih =>
    have he : i + 1 + l.length = i + (s :: l).length := by simp; omega
    cases st with
    | none =>
      by_cases h : lv ≤ s
      · rw [runsP_nh h, ← he]; exact ih fun a ha => by injection ha; omega
      · rw [runsP_nl (by omega), ← he]; exact ih fun a ha => by cases ha
    | some a =>
      have := hst a rfl
      by_cases h : lv ≤ s
      · rw [runsP_sh h, ← he]; exact ih fun b hb => by injection hb; omega
      · rw [runsP_sl (by omega)]
        intro r hr
        rcases List.mem_cons.1 hr with rfl | hr
        · simp; omega
        · have := ih (st := none) (i := i + 1) (fun a ha => by cases ha) r hr
          omega
end Go.Proofs.Ytagcgldhhdecjaa
namespace Go.Proofs.Ytagcgldhhdecjaa
open Go.Shelf
def sh_lays189_ren : Go.Shelf.Ren := ⟨fun | 189 => 60 | 125 => 83 | 257 => 82 | 128 => 111 | 129 => 112 | 294 => 102 | 295 => 103 | 296 => 104 | 297 => 105 | 298 => 106 | 299 => 107 | 216 => 108 | 300 => 109 | 301 => 110 | 328 => 123 | 329 => 124 | 330 => 125 | 331 => 126 | 332 => 127 | 215 => 128 | 343 => 134 | n => n, fun | 28 => 22 | 3 => 3 | 46 => 118 | 0 => 0 | 51 => 143 | 53 => 132 | 4 => 4 | 183 => 135 | 182 => 134 | 131 => 140 | 5 => 5 | 9 => 9 | 218 => 152 | 222 => 156 | 228 => 162 | 229 => 163 | n => n, fun | n => n⟩
theorem sh_lays189 : Go.Proofs.Lays.n189 Try.prog sh_lays189_ren := {
  mixed := by kernel_rfl
  f125 := Try.func83.trans (congrArg some (by kernel_rfl))
  f128 := Try.func111.trans (congrArg some (by kernel_rfl))
  f129 := Try.func112.trans (congrArg some (by kernel_rfl))
  f189 := Try.func60.trans (congrArg some (by kernel_rfl))
  f215 := Try.func128.trans (congrArg some (by kernel_rfl))
  f216 := Try.func108.trans (congrArg some (by kernel_rfl))
  f257 := Try.func82.trans (congrArg some (by kernel_rfl))
  f294 := Try.func102.trans (congrArg some (by kernel_rfl))
  f295 := Try.func103.trans (congrArg some (by kernel_rfl))
  f296 := Try.func104.trans (congrArg some (by kernel_rfl))
  f297 := Try.func105.trans (congrArg some (by kernel_rfl))
  f298 := Try.func106.trans (congrArg some (by kernel_rfl))
  f299 := Try.func107.trans (congrArg some (by kernel_rfl))
  f300 := Try.func109.trans (congrArg some (by kernel_rfl))
  f301 := Try.func110.trans (congrArg some (by kernel_rfl))
  f328 := Try.func123.trans (congrArg some (by kernel_rfl))
  f329 := Try.func124.trans (congrArg some (by kernel_rfl))
  f330 := Try.func125.trans (congrArg some (by kernel_rfl))
  f331 := Try.func126.trans (congrArg some (by kernel_rfl))
  f332 := Try.func127.trans (congrArg some (by kernel_rfl))
  f343 := Try.func134.trans (congrArg some (by kernel_rfl))
  t0 := Try.underlying0
  a0 := Try.isAgg0
  z0 := Try.sizeOf0
  v0 := Try.zeroValue0
  t3 := Try.underlying3
  a3 := Try.isAgg3
  z3 := Try.sizeOf3
  v3 := Try.zeroValue3
  t4 := Try.underlying4
  a4 := Try.isAgg4
  z4 := Try.sizeOf4
  v4 := Try.zeroValue4
  t5 := Try.underlying5
  a5 := Try.isAgg5
  z5 := Try.sizeOf5
  v5 := Try.zeroValue5
  t9 := Try.underlying9
  a9 := Try.isAgg9
  z9 := Try.sizeOf9
  v9 := Try.zeroValue9
  t28 := Try.underlying22
  a28 := Try.isAgg22
  z28 := Try.sizeOf22
  v28 := Try.zeroValue22
  t46 := Try.underlying118
  a46 := Try.isAgg118
  z46 := Try.sizeOf118
  v46 := Try.zeroValue118
  t51 := Try.underlying143
  a51 := Try.isAgg143
  z51 := Try.sizeOf143
  v51 := Try.zeroValue143
  t53 := Try.underlying132
  a53 := Try.isAgg132
  z53 := Try.sizeOf132
  v53 := Try.zeroValue132
  t131 := Try.underlying140
  a131 := Try.isAgg140
  z131 := Try.sizeOf140
  v131 := Try.zeroValue140
  t182 := Try.underlying134
  a182 := Try.isAgg134
  z182 := Try.sizeOf134
  v182 := Try.zeroValue134
  t183 := Try.underlying135
  a183 := Try.isAgg135
  z183 := Try.sizeOf135
  v183 := Try.zeroValue135
  t218 := Try.underlying152
  a218 := Try.isAgg152
  z218 := Try.sizeOf152
  v218 := Try.zeroValue152
  t222 := Try.underlying156
  a222 := Try.isAgg156
  z222 := Try.sizeOf156
  v222 := Try.zeroValue156
  t228 := Try.underlying162
  a228 := Try.isAgg162
  z228 := Try.sizeOf162
  v228 := Try.zeroValue162
  t229 := Try.underlying163
  a229 := Try.isAgg163
  z229 := Try.sizeOf163
  v229 := Try.zeroValue163 }
open Go.Sort Go.RowKit in
theorem sh_slices_Sort_int (blk off cap : Nat) (zs : List Int) (w : World) (hH : Holds (Value.int .i64) w blk off zs.toArray) (hblk : blk < w.heap.size) (hsz : zs.length < 4611686018427387904) :
    Calls Try.prog 60 #[.slice (some ⟨blk, off, none⟩) zs.length cap] w fun e w' =>
      e = .returned (.tuple #[]) ∧ ∃ n os, w' = grow (putRow (Value.int .i64) (Sort.ahead w n) blk off (zs.mergeSort fun x y => decide (x ≤ y)).toArray) os := Any.slices_Sort_int sh_lays189 blk off cap zs w hH hblk hsz
def sh_laysNm215_ren : Go.Shelf.Ren := ⟨fun | 15 => 59 | n => n, fun | 22 => 22 | 3 => 3 | 4 => 4 | n => n, fun | n => n⟩
theorem sh_laysNm215 : Go.Proofs.Lays2.n15 Try.prog sh_laysNm215_ren := {
  mixed := by kernel_rfl
  f15 := Try.func59.trans (congrArg some (by kernel_rfl))
  t3 := Try.underlying3
  a3 := Try.isAgg3
  z3 := Try.sizeOf3
  v3 := Try.zeroValue3
  t4 := Try.underlying4
  a4 := Try.isAgg4
  z4 := Try.sizeOf4
  v4 := Try.zeroValue4
  t22 := Try.underlying22
  a22 := Try.isAgg22
  z22 := Try.sizeOf22
  v22 := Try.zeroValue22
  i3 := by kernel_rfl }
open Go.RowKit Go.Lib in
theorem sh_slices_Clone_int (b off n c : Nat) (zs : List Int) (w : World) (hz : n ≤ zs.length) (hbig : n * 8 ≤ 140737488355328) (hc : ∀ j, j < zs.length → w.cell? ⟨b, off + j, none⟩ = some (.int .i64 (zs.getD j 0))) :
    Calls Try.prog 59 #[.slice (some ⟨b, off, none⟩) n c] w fun e w' => ∃ v', e = .returned v' ∧ w'.ownsRow w.heap.size 3 1 v' n ((zs.take n).map (Value.int .i64)) ∧ v' ≠ .slice none 0 0 ∧ Below w.heap.size w w' := Any.slices_Clone_int sh_laysNm215 b off n c zs w hz hbig hc
end Go.Proofs.Ytagcgldhhdecjaa
namespace Go.Proofs.Ytagcgldhhdecjaa
open Go.RowKit

set_option maxRecDepth 100000 in
set_option maxHeartbeats 1000000 in
theorem sampled_any (A : Option Addr) (n c : Nat) (l : List Int) (w : World) (h : Ints .i64 w A n l) :
    Calls Try.prog 58 #[.slice A n c] w (fun e w' => e = .returned (.bool (decide (Smp l))) ∧ w = w') := by
  have H := Lib.hid h
  have HL := Lib.hid h.1
  clear h
  by_cases hn : 256 < n
  · have HS : Hid (decide (Smp l) = false) := Lib.hid (decide_eq_false fun s => by have := s.1; have := HL.out; omega)
    go_enter Try.func58, Try.ntmps58
    go_wp2
    go_ret
    exact ⟨by rw [HS.out]; rfl, rfl⟩
  go_enter Try.func58, Try.ntmps58
  go_wp2_with fail
  go_loopg [10] n (fun f iv wr => ∃ k : Nat, f = n - k ∧ k ≤ n ∧ iv = .int .i64 (k : Int) ∧ Hid (∀ x ∈ l.take k, 0 ≤ x ∧ x ≤ 1023) ∧ w = wr)
  case atStart => exact ⟨0, rfl, by omega, rfl, Lib.hid (by simp), rfl⟩
  case round =>
    obtain ⟨k, rfl, hk, rfl, HA, rfl⟩ := hrel
    by_cases hlt : k < n
    · obtain ⟨b, off, x, rfl, hx, _, hc⟩ := H.out.get hlt
      have HX := Lib.hid hx
      clear hx
      by_cases h0 : x < 0
      · have HS : Hid (decide (Smp l) = false) := Lib.hid (decide_eq_false fun s => by have := (s.2 x (List.mem_of_getElem? HX.out)).1; omega)
        go_wp2
        go_ret
        exact ⟨by rw [HS.out]; rfl, rfl⟩
      · by_cases h1 : 1023 < x
        · have HS : Hid (decide (Smp l) = false) := Lib.hid (decide_eq_false fun s => by have := (s.2 x (List.mem_of_getElem? HX.out)).2; omega)
          go_wp2
          go_ret
          exact ⟨by rw [HS.out]; rfl, rfl⟩
        · go_wp2
          go_roundg (n - (k + 1))
          case rel =>
            refine ⟨k + 1, rfl, by omega, by go_num, Lib.hid fun y hy => ?_, rfl⟩
            rw [List.take_add_one, HX.out] at hy
            rcases List.mem_append.1 hy with hy | hy
            · exact HA.out y hy
            · simp at hy; subst hy; omega
          case measure => omega
    · have HS : Hid (decide (Smp l) = true) := Lib.hid (decide_eq_true (by
        refine ⟨by have := HL.out; omega, fun x hx => HA.out x ?_⟩
        rwa [List.take_of_length_le (by have := HL.out; omega)]))
      go_wp2
      go_ret
      exact ⟨by rw [HS.out]; rfl, rfl⟩

set_option maxRecDepth 100000 in
set_option maxHeartbeats 2000000 in
theorem det_any (d : Det) (w : World) :
    Calls Try.prog 27 #[.agg #[.int .i64 d.level, .int .i64 d.drop, .int .i64 d.step, .int .i64 d.delay]] w (fun e w' => e = .returned (.bool (decide (DetOk d))) ∧ Ext w w') := by
  obtain ⟨lv, dr, st, de⟩ := d
  simp only
  go_enter Try.func27, Try.ntmps27
  go_wp2
  all_goals
    go_ret
    refine ⟨?_, (Ext.refl w).alloc _⟩
    first
    | (have q : decide (DetOk ⟨lv, dr, st, de⟩) = false := decide_eq_false (by unfold DetOk; simp only; omega)
       rw [q]; rfl)
    | (have q : decide (DetOk ⟨lv, dr, st, de⟩) = decide (de ≤ 1048576) := by rw [decide_eq_decide]; unfold DetOk; simp only; omega
       rw [q]; rfl)

set_option maxRecDepth 100000 in
set_option maxHeartbeats 2000000 in
theorem base_any (A : Option Addr) (n c : Nat) (l : List Int) (w : World) (h : Ints .i64 w A n l) :
    Calls Try.prog 21 #[.slice A n c] w (fun e w' => e = .returned (.tuple #[.int .i64 (baseF l).1, .int .i64 (baseF l).2]) ∧ Ext w w') := by
  have H := Lib.hid h
  have HL := Lib.hid h.1
  clear h
  by_cases hn : n = 0
  · subst hn
    have HB : Hid (baseF l = (0, 2)) := Lib.hid (by unfold baseF; rw [if_pos (.inl (List.eq_nil_of_length_eq_zero HL.out))])
    go_enter Try.func21, Try.ntmps21
    go_wp2
    go_ret2
    exact ⟨by rw [HB.out]; rfl, Ext.refl _⟩
  have g0 : ((n : Int) == 0) = false := by simpa using hn
  by_cases hs : Smp l
  · have HS : Hid (decide (Smp l) = true) := Lib.hid (decide_eq_true hs)
    have hne : l ≠ [] := by intro e; subst e; have := HL.out; simp at this; omega
    have HB : Hid (baseF l = ((medV l : Int), 0)) := Lib.hid (by unfold baseF; rw [if_neg]; rintro (h | h); exact hne h; exact h hs)
    have hn256 : n ≤ 256 := by have := hs.1; have := HL.out; omega
    have HSM := Lib.hid hs
    have HNE := Lib.hid hne
    obtain ⟨b, off, _, hA, _⟩ := H.out.get (j := 0) (by omega)
    subst hA
    have hc : ∀ j, j < l.length → w.cell? ⟨b, off + j, none⟩ = some (.int .i64 (l.getD j 0)) := fun j hj => by
      obtain ⟨b', off', x, e, hx, _, hc⟩ := H.out.get (j := j) (by have := HL.out; omega)
      injection e with e
      injection e with e1 e2
      subst e1 e2
      rw [hc]
      simp [List.getD, hx]
    have hclone := sh_slices_Clone_int b off n c l w (by have := HL.out; omega) (by omega) hc
    clear hs hne hc
    go_enter Try.func21, Try.ntmps21
    go_wp2_with fail
    refine (sampled_any _ n c l _ H.out).mono ?_
    rw [HS.out]
    rintro e _ ⟨rfl, rfl⟩
    go_wp2_with fail
    refine hclone.mono ?_
    rintro e w1 ⟨v1, rfl, hown, hnn, hbel⟩
    obtain ⟨g, cap, rfl, hbg, hgl, hncap, hcm, hlen, hH⟩ := Lib.holds_of_ownsRow hown hnn
    have hsort := sh_slices_Sort_int g 0 cap (l.take n) w1 hH hgl (by omega)
    rw [hlen] at hsort
    have X : Hid (Ext w w1 ∧ w.heap.size ≤ g ∧ g < w1.heap.size ∧ Go.Sort.Holds (Value.int .i64) w1 g 0 (l.take n).toArray) := Lib.hid ⟨hbel, hbg, hgl, hH⟩
    have HLN := Lib.hid hlen
    clear hown hbel hH hnn hlen hclone
    go_wp2_with fail
    refine hsort.mono ?_
    rintro e w2 ⟨rfl, nn, os, hw2⟩
    have hH2 : Go.Sort.Holds (Value.int .i64) w2 g 0 ((l.take n).mergeSort fun x y => decide (x ≤ y)).toArray := by
      subst hw2
      exact Go.Sort.holds_grow _ _ os g 0 _ (by simpa [Go.Sort.putRow, Go.Sort.mapBlock, Go.Sort.ahead] using X.out.2.2.1) (Go.Sort.holds_putRow _ _ g 0 _ _ (Go.Sort.holds_ahead _ w1 nn g 0 _ X.out.2.2.2) (by simp))
    have hX2 : Ext w w2 := by
      subst hw2
      exact X.out.1.grown (grownBy_sortedI _) fun k hk => by cases hk; exact X.out.2.1
    have HX := Lib.hid hX2
    have hm : ((l.take n).mergeSort fun x y => decide (x ≤ y))[(n - 1) / 2]? = some (medV l : Int) := by
      have e : l.take n = l := List.take_of_length_le (by have := HL.out; omega)
      rw [e]
      have := med_sorted (l := l) (S := l.mergeSort fun x y => decide (x ≤ y)) (List.mergeSort_perm _ _) ((List.pairwise_mergeSort (le := fun a b : Int => decide (a ≤ b)) (fun a b c h1 h2 => by simp at h1 h2 ⊢; omega) (fun a b => by simp; omega) l).imp fun h => by simpa using h) HSM.out HNE.out
      rwa [HL.out] at this
    have hcell : w2.cell? ⟨g, (n - 1) / 2, none⟩ = some (.int .i64 (medV l : Int)) := by
      obtain ⟨hi, he⟩ := List.getElem?_eq_some_iff.1 hm
      have h1 := (hH2 ((n - 1) / 2) (by simpa using hi)).1
      rw [Nat.zero_add] at h1
      rw [h1, getElem!_pos _ _ (by simpa using hi)]
      simp only [List.getElem_toArray, he]
    clear hw2 hsort hH2 hX2 hm X
    obtain ⟨z, hz⟩ : ∃ z, (n - 1) / 2 = z := ⟨_, rfl⟩
    rw [hz] at hcell
    have hzn : z < n := by omega
    have HZ := Lib.hid hz
    have hq : ((n : Int) - 1).tdiv 2 = (z : Int) := by rw [Int.tdiv_eq_ediv_of_nonneg (by omega)]; omega
    clear hz
    go_wp2
    go_ret2
    exact ⟨by rw [HB.out]; rfl, HX.out⟩
  · have HS : Hid (decide (Smp l) = false) := Lib.hid (decide_eq_false hs)
    have HB : Hid (baseF l = (0, 2)) := Lib.hid (by unfold baseF; rw [if_pos (.inr hs)])
    clear hs
    go_enter Try.func21, Try.ntmps21
    go_wp2_with fail
    refine (sampled_any A n c l _ H.out).mono ?_
    rw [HS.out]
    rintro e _ ⟨rfl, rfl⟩
    go_wp2
    go_ret2
    exact ⟨by rw [HB.out]; rfl, Ext.refl _⟩
end Go.Proofs.Ytagcgldhhdecjaa
namespace Go.Proofs.Ytagcgldhhdecjaa
open Go.RowKit

structure Keeps (L : List Nat) (w w' : World) : Prop where
  os : w'.os = w.os
  tape : w'.tape = w.tape
  output : w'.output = w.output
  size : w.heap.size ≤ w'.heap.size
  block : ∀ k, k < w.heap.size → k ∉ L → w'.heap[k]? = w.heap[k]?

section
variable {L M : List Nat} {w w1 w2 w' : World} {B : Nat}
theorem Keeps.refl (L : List Nat) (w : World) : Keeps L w w := ⟨rfl, rfl, rfl, Nat.le_refl _, fun _ _ _ => rfl⟩
theorem Keeps.trans (h : Keeps L w w1) (k : Keeps L w1 w2) : Keeps L w w2 :=
  ⟨k.os.trans h.os, k.tape.trans h.tape, k.output.trans h.output, Nat.le_trans h.size k.size, fun i hi hn => (k.block i (Nat.lt_of_lt_of_le hi h.size) hn).trans (h.block i hi hn)⟩
theorem Keeps.mono (h : Keeps L w w') (hL : ∀ k ∈ L, k < w.heap.size → k ∈ M) : Keeps M w w' := ⟨h.os, h.tape, h.output, h.size, fun i hi hn => h.block i hi fun hl => hn (hL i hl hi)⟩
theorem Keeps.of_ext (h : Ext w w') (L : List Nat) : Keeps L w w' := ⟨h.os, h.tape, h.output, h.size, fun i hi _ => h.block i hi⟩
theorem Keeps.of_grown {row : Option Nat} (h : w.grownBy w' row) (hr : ∀ k, row = some k → k ∈ L) : Keeps L w w' :=
  ⟨h.os, h.tape, h.output, h.size, fun i hi hn => h.block i hi fun e => hn (hr i e.symm)⟩
theorem Keeps.below (h : Keeps L w w') (hB : B ≤ w.heap.size) (hL : ∀ k ∈ L, B ≤ k) : Below B w w' :=
  by
  refine ⟨h.os, h.tape, h.output, ?_, fun i hi => h.block i (by omega) fun hl => by have := hL i hl; omega⟩
  first | exact h.size | exact Nat.le_trans hB h.size
/-- Behind such a call memory has still only grown since an earlier world, if what was written into is newer. -/
theorem Keeps.ext {w0 : World} (h : Keeps L w w') (he : Ext w0 w) (hL : ∀ k ∈ L, w0.heap.size ≤ k) : Ext w0 w' :=
  ⟨h.os.trans he.os, h.tape.trans he.tape, h.output.trans he.output, Nat.le_trans he.size h.size, fun i hi =>
    (h.block i (Nat.lt_of_lt_of_le hi he.size) fun hl => by have := hL i hl; omega).trans (he.block i hi)⟩
theorem Keeps.alloc (h : Keeps L w w') (o : Obj) : Keeps L w (w'.alloc o) := h.trans (.of_ext ((Ext.refl _).alloc o) L)
theorem Keeps.setCell (h : Keeps L w w') {p : Addr} (hp : p.block ∈ L ∨ w.heap.size ≤ p.block) (u : Value) : Keeps L w (w'.setCell p u) :=
  ⟨h.os, h.tape, h.output, by simpa using h.size, fun i hi hn => (Below.heap_setCell w' p u i (fun e => by rcases hp with hp | hp; exact hn (e ▸ hp); omega)).trans (h.block i hi hn)⟩
theorem Keeps.grown {row : Option Nat} (h : Keeps L w w1) (hg : w1.grownBy w2 row) (hr : ∀ k, row = some k → k ∈ L ∨ w.heap.size ≤ k) : Keeps L w w2 :=
  ⟨hg.os.trans h.os, hg.tape.trans h.tape, hg.output.trans h.output, Nat.le_trans h.size hg.size, fun i hi hn =>
    (hg.block i (Nat.lt_of_lt_of_le hi h.size) fun e => by rcases hr i e.symm with h1 | h1; exact hn h1; omega).trans (h.block i hi hn)⟩
theorem Keeps.drew (h : Keeps L w w') : Keeps L w w'.drew := h.trans (.of_ext (Ext.refl _).drew L)

/-- Block k holds no bytes. -/
def NoRow (tb : TypeId) (w : World) (k : Nat) : Prop := ∀ cs fz, w.heap[k]? ≠ some (.cells cs tb fz)
theorem NoRow.of_blk {tb t : TypeId} {g : Nat} {cs : Array Value} (h : Blk w g t cs) (hne : t ≠ tb) : NoRow tb w g := by
  intro cs' fz e
  rw [show w.heap[g]? = _ from h] at e
  injection e with e
  injection e with _ e
  exact hne e
theorem NoRow.of_own {tb te : TypeId} {base size n g : Nat} {v : Value} {vs : List Value} (h : w.ownsRow base te size v n vs) (hg : v.ownBlock = some g) (hne : te ≠ tb) : NoRow tb w g := by
  intro cs' fz e
  rcases h.2 with ⟨rfl, _⟩ | ⟨g', cap, cur, rfl, _, hb, _⟩
  · simp [Value.ownBlock] at hg
  · simp [Value.ownBlock] at hg
    subst hg
    rw [hb] at e
    injection e with e
    injection e with _ e
    exact hne e
theorem ownsRow_keeps {e : TypeId} {base size n : Nat} {v : Value} {vs : List Value} (h : w.ownsRow base e size v n vs) (hk : Keeps L w w') (hn : ∀ g, v.ownBlock = some g → g ∉ L) : w'.ownsRow base e size v n vs := by
  refine ⟨h.1, ?_⟩
  rcases h.2 with hv | ⟨g, cap, cur, rfl, hb, hg, rest⟩
  · exact .inl hv
  · exact .inr ⟨g, cap, cur, rfl, hb, (hk.block g (Array.getElem?_eq_some_iff.1 hg).1 (hn g rfl)).trans hg, rest⟩
theorem OwnS.keeps {k : IntKind} {tb : TypeId} {base n c : Nat} {A : Option Addr} {xs : List Int} (h : OwnS k tb base w A n c xs) (hk : Keeps L w w') (hn : ∀ g ∈ L, NoRow tb w g) : OwnS k tb base w' A n c xs := by
  refine ⟨ownsRow_keeps h.own hk fun g hg hl => ?_, h.len, h.wf⟩
  rcases h.own.2 with ⟨hv, _⟩ | ⟨g', cap, cur, hv, _, hb, _⟩
  · rw [hv] at hg; simp [Value.ownBlock] at hg
  · rw [hv] at hg
    simp [Value.ownBlock] at hg
    subst hg
    exact hn g' hl _ _ hb
theorem Blk.keeps {g : Nat} {t : TypeId} {cs : Array Value} (h : Blk w g t cs) (hk : Keeps L w w') (hn : g ∉ L) : Blk w' g t cs := (hk.block g h.lt hn).trans h
end
end Go.Proofs.Ytagcgldhhdecjaa
namespace Go.Proofs.Ytagcgldhhdecjaa
open Go.RowKit

theorem own_cells {w : World} {base g size n c : Nat} {e : TypeId} {xs : List Value} (h : w.ownsRow base e size (.slice (some ⟨g, 0, none⟩) n c) n xs) : ∃ cur, Blk w g e cur ∧ base ≤ g ∧ n ≤ c ∧ c ≤ maxLen ∧ cur.size = c * size ∧ cur.toList.take (n * size) = xs := by
  rcases h.2 with ⟨h0, _⟩ | ⟨g', cap, cur, hv, hb, hg, h1, h2, h3, h4⟩
  · cases h0
  · cases hv; exact ⟨cur, hg, hb, h1, h2, h3, h4⟩
theorem own_at0 {w : World} {base : Nat} {e : TypeId} {size n c : Nat} {A : Option Addr} {vs : List Value} (h : w.ownsRow base e size (.slice A n c) n vs) (hn : 0 < n) : ∃ g, A = some ⟨g, 0, none⟩ ∧ base ≤ g ∧ g < w.heap.size := by
  rcases h.2 with ⟨h0, _⟩ | ⟨g', cap, cur, hv, hb, hg, _⟩
  · injection h0 with h1 h2 h3; omega
  · injection hv with h1 h2 h3
    exact ⟨g', h1, hb, Blk.lt hg⟩
theorem ownsRow_set {w : World} {base g size n c i : Nat} {e : TypeId} {xs : List Value} {u : Value} (h : w.ownsRow base e size (.slice (some ⟨g, 0, none⟩) n c) n xs) : (w.setCell ⟨g, i, none⟩ u).ownsRow base e size (.slice (some ⟨g, 0, none⟩) n c) n (xs.set i u) := by
  obtain ⟨cur, hB, hb, h1, h2, h3, h4⟩ := own_cells h
  refine ⟨by rw [List.length_set]; exact h.1, .inr ⟨g, c, cur.setIfInBounds i u, rfl, hb, hB.set i u, h1, h2, by simp [h3], ?_⟩⟩
  rw [Array.toList_setIfInBounds, List.take_set, h4]
theorem elP : Elem Try.prog 27 30 2 16 (.agg #[.int .i64 0, .int .i64 0]) := Elem.mk' (by kernel_rfl) (by kernel_rfl) rfl (by decide)
/-- Pairs of numbers as cells. -/
def rowV (rs : List (Nat × Nat)) : List Value := rs.flatMap fun r => [.int .i64 (r.1 : Int), .int .i64 (r.2 : Int)]
theorem rowV_len (rs : List (Nat × Nat)) : (rowV rs).length = rs.length * 2 := by
  induction rs with
  | nil => rfl
  | cons r rs ih => unfold rowV at ih ⊢; rw [List.flatMap_cons, List.length_append, ih]; simp; omega
theorem rowV_snoc (rs : List (Nat × Nat)) (r : Nat × Nat) : rowV (rs ++ [r]) = rowV rs ++ [.int .i64 (r.1 : Int), .int .i64 (r.2 : Int)] := by simp [rowV]
theorem rowV_set (rs : List (Nat × Nat)) (a b c : Nat) : (rowV (rs ++ [(a, b)])).set (rs.length * 2 + 1) (.int .i64 (c : Int)) = rowV (rs ++ [(a, c)]) := by
  rw [rowV_snoc, rowV_snoc, List.set_append_right _ _ (by rw [rowV_len]; omega), rowV_len, show rs.length * 2 + 1 - rs.length * 2 = 1 by omega]
  rfl
theorem rowV_get {rs : List (Nat × Nat)} {j : Nat} {r : Nat × Nat} (h : rs[j]? = some r) : (rowV rs)[j * 2]? = some (.int .i64 (r.1 : Int)) ∧ (rowV rs)[j * 2 + 1]? = some (.int .i64 (r.2 : Int)) := by
  induction rs generalizing j with
  | nil => simp at h
  | cons x rs ih =>
    have e : rowV (x :: rs) = .int .i64 (x.1 : Int) :: .int .i64 (x.2 : Int) :: rowV rs := rfl
    rw [e]
    cases j with
    | zero => simp at h; subst h; exact ⟨rfl, rfl⟩
    | succ j =>
      have := ih (j := j) (by simpa using h)
      rw [show (j + 1) * 2 = j * 2 + 1 + 1 by omega]
      simpa using this
/-- Runs in memory. -/
def PrL (base : Nat) (w : World) (v : Value) (rs : List (Nat × Nat)) : Prop := w.ownsRow base 30 2 v rs.length (rowV rs)
theorem PrL.ext {base : Nat} {w w' : World} {v : Value} {rs : List (Nat × Nat)} (h : PrL base w v rs) (he : Ext w w') : PrL base w' v rs := World.ownsRow.ext' h he
theorem PrL.get {base : Nat} {w : World} {v : Value} {rs : List (Nat × Nat)} (h : PrL base w v rs) {j : Nat} (hj : j < rs.length) : ∃ g c r, v = .slice (some ⟨g, 0, none⟩) rs.length c ∧ rs[j]? = some r ∧ w.cell? ⟨g, j * 2, none⟩ = some (.int .i64 (r.1 : Int)) ∧ w.cell? ⟨g, j * 2 + 1, none⟩ = some (.int .i64 (r.2 : Int)) := by
  obtain ⟨A, c, rfl⟩ := own_slice h
  obtain ⟨g, rfl, _, _⟩ := own_at0 h (by omega)
  have hr : rs[j]? = some rs[j] := List.getElem?_eq_getElem hj
  obtain ⟨h1, h2⟩ := rowV_get hr
  exact ⟨g, c, _, rfl, hr, (h.cellAt (j * 2) (by omega)).trans h1, (h.cellAt (j * 2 + 1) (by omega)).trans h2⟩
/-- What Runs leaves. -/
def RetRn (w : World) (r : List (Nat × Nat) × Int) (e : Ending) (w' : World) : Prop := ∃ v, e = .returned (.tuple #[v, .int .i64 r.2]) ∧ PrL w.heap.size w' v r.1 ∧ Ext w w'
theorem PrL.nil (base : Nat) (w : World) : PrL base w (.slice none 0 0) [] := World.ownsRow_nil _ _ _ _
set_option maxRecDepth 100000 in
set_option maxHeartbeats 4000000 in
theorem runs_any (A : Option Addr) (n c : Nat) (l : List Int) (lv : Int) (w : World) (h : Ints .i64 w A n l) :
    Calls Try.prog 23 #[.slice A n c, .int .i64 lv] w (RetRn w (runsF l lv)) := by
  have H := Lib.hid h
  have HL := Lib.hid h.1
  clear h
  by_cases hs : Smp l
  · have HS : Hid (decide (Smp l) = true) := Lib.hid (decide_eq_true hs)
    have HB : Hid (runsF l lv = (runsP lv 0 l none, 0)) := Lib.hid (by unfold runsF; rw [if_pos hs])
    have hn256 : n ≤ 256 := by have := hs.1; have := HL.out; omega
    clear hs
    go_enter Try.func23, Try.ntmps23
    go_wp2_with fail
    refine (sampled_any A n c l _ H.out).mono ?_
    rw [HS.out]
    rintro e _ ⟨rfl, rfl⟩
    go_wp2_with fail
    go_loopg [6, 7, 15] n (fun f ov bv iv wr => ∃ (k : Nat) (done : List (Nat × Nat)) (st : Option Nat), f = n - k ∧ k ≤ n ∧ done.length ≤ k ∧ bv = .bool st.isSome ∧ iv = .int .i64 (k : Int) ∧ Hid (PrL w.heap.size wr ov (done ++ (st.map fun a => (a, k)).toList)) ∧ Hid (runsP lv 0 l none = done ++ runsP lv k (l.drop k) st) ∧ Hid (st.isSome = true → done.length < k) ∧ Hid (Ext w wr))
    case atStart => exact ⟨0, [], none, rfl, by omega, by simp, rfl, rfl, Lib.hid (PrL.nil _ _), Lib.hid rfl, Lib.hid (by simp), Lib.hid (Ext.refl _)⟩
    case round =>
      obtain ⟨k, done, st, rfl, hk, hdk, rfl, rfl, HP, HR, HD, HX⟩ := hrel
      by_cases hlt : k < n
      · obtain ⟨b, off, x, rfl, hx, _, hc⟩ := (H.out.ext HX.out).get hlt
        have HD0 := Lib.hid (drop_get hx)
        clear hx
        by_cases hsn : st = none
        · subst hsn
          by_cases hlv : lv ≤ x
          · have HR2 : Hid (runsP lv 0 l none = done ++ runsP lv (k + 1) (l.drop (k + 1)) (some k)) := Lib.hid (by rw [HR.out, HD0.out, runsP_nh hlv])
            have hown := HP.out
            obtain ⟨A1, c1, hso⟩ := own_slice hown
            subst hso
            simp only [Option.map_none, Option.toList_none, List.append_nil] at hown ⊢
            have hsz := HX.out.size
            have hown' : wr.ownsRow w.heap.size 30 2 (.slice A1 done.length c1) done.length (rowV done) := hown
            clear hown
            go_wp2_with (at_builtin; refine wpList_app _ elP rfl _ _ rfl w.heap.size (.slice A1 done.length c1) done.length (rowV done) rfl (hown'.alloc _) _ 1 1 [.int .i64 (k : Int), .int .i64 ((k : Int) + 1)] rfl rfl (At.new' _ [_, _] _ rfl) (by simp [Value.oneCell']) (by omega) (by unfold maxLen; omega) (by simp; omega) ?_; intro v5 w5 hown5 hgr5 _)
            go_roundg (n - (k + 1))
            case rel =>
              refine ⟨k + 1, done, some k, rfl, by omega, by omega, rfl, by go_num, Lib.hid ?_, HR2, Lib.hid (fun _ => by omega), Lib.hid (HX.out.push hown' hgr5)⟩
              have e : done ++ ((some k).map fun a => (a, k + 1)).toList = done ++ [(k, k + 1)] := rfl
              rw [e]
              unfold PrL
              rw [rowV_snoc, List.length_append]
              exact hown5
            case measure => omega
          · have HR2 : Hid (runsP lv 0 l none = done ++ runsP lv (k + 1) (l.drop (k + 1)) none) := Lib.hid (by rw [HR.out, HD0.out, runsP_nl (by omega)])
            go_wp2
            go_roundg (n - (k + 1))
            case rel => exact ⟨k + 1, done, none, rfl, by omega, by omega, rfl, by go_num, HP, HR2, Lib.hid (by simp), HX⟩
            case measure => omega
        · obtain ⟨a, ha⟩ : ∃ a, st = some a := Option.ne_none_iff_exists'.1 hsn
          subst ha
          clear hsn
          have hdk2 := HD.out rfl
          by_cases hlv : lv ≤ x
          · have HR2 : Hid (runsP lv 0 l none = done ++ runsP lv (k + 1) (l.drop (k + 1)) (some a)) := Lib.hid (by rw [HR.out, HD0.out, runsP_sh hlv])
            have hown := HP.out
            unfold PrL at hown
            simp only [Option.map_some, Option.toList_some, List.length_append, List.length_cons, List.length_nil, Nat.zero_add] at hown
            obtain ⟨A1, c1, hso⟩ := own_slice hown
            subst hso
            obtain ⟨g, hge, hg1, hg2⟩ := own_at0 hown (by omega)
            subst hge
            obtain ⟨cur, hB, _⟩ := own_cells hown
            have hfr := hB.free (done.length * 2 + 1)
            have HOW := Lib.hid hown
            clear hown hB
            have hcel := HOW.out.cellAt (done.length * 2 + 1) (by omega)
            rw [(rowV_get (rs := done ++ [(a, k)]) (j := done.length) (r := (a, k)) (by simp)).2] at hcel
            go_wp2
            go_roundg (n - (k + 1))
            case rel =>
              refine ⟨k + 1, done, some a, rfl, by omega, by omega, rfl, by go_num, Lib.hid ?_, HR2, Lib.hid (fun _ => by omega), Lib.hid (HX.out.setCell hg1 _)⟩
              have h1 := ownsRow_set (i := done.length * 2 + 1) (u := .int .i64 ((k + 1 : Nat) : Int)) HOW.out
              rw [rowV_set] at h1
              have e : done ++ ((some a).map fun a => (a, k + 1)).toList = done ++ [(a, k + 1)] := rfl
              rw [e]
              unfold PrL
              rw [List.length_append]
              exact h1
            case measure => omega
          · have HR2 : Hid (runsP lv 0 l none = (done ++ [(a, k)]) ++ runsP lv (k + 1) (l.drop (k + 1)) none) := Lib.hid (by rw [HR.out, HD0.out, runsP_sl (by omega), List.append_assoc]; rfl)
            go_wp2
            go_roundg (n - (k + 1))
            case rel => exact ⟨k + 1, done ++ [(a, k)], none, rfl, by omega, by simp; omega, rfl, by go_num, Lib.hid (by simpa using HP.out), HR2, Lib.hid (by simp), HX⟩
            case measure => omega
      · obtain rfl : k = n := by omega
        have HE : Hid (runsP lv 0 l none = done ++ (st.map fun a => (a, k)).toList) := Lib.hid (by
          have h1 := HR.out
          rw [List.drop_of_length_le (by have := HL.out; omega)] at h1
          rw [h1]
          cases st <;> rfl)
        go_wp2
        go_ret2
        exact ⟨_, by rw [HB.out]; rfl, by rw [HB.out]; simp only; rw [HE.out]; exact HP.out, HX.out⟩
  · have HS : Hid (decide (Smp l) = false) := Lib.hid (decide_eq_false hs)
    have HB : Hid (runsF l lv = ([], 2)) := Lib.hid (by unfold runsF; rw [if_neg hs])
    clear hs
    go_enter Try.func23, Try.ntmps23
    go_wp2_with fail
    refine (sampled_any A n c l _ H.out).mono ?_
    rw [HS.out]
    rintro e _ ⟨rfl, rfl⟩
    go_wp2
    go_ret2
    exact ⟨_, by rw [HB.out]; rfl, by rw [HB.out]; exact PrL.nil _ _, Ext.refl _⟩
end Go.Proofs.Ytagcgldhhdecjaa
namespace Go.Proofs.Ytagcgldhhdecjaa
open Go.RowKit

theorem elE : Elem Try.prog 34 42 5 40 (.agg #[.int .i64 0, .int .i64 0, .int .i64 0, .int .i64 0, .int .i64 0]) := Elem.mk' (by kernel_rfl) (by kernel_rfl) rfl (by decide)
def Ech.cells (e : Ech) : List Value := [.int .i64 e.frm, .int .i64 e.til, .int .i64 e.peak, .int .i64 e.level, .int .i64 e.top]
/-- Echoes as cells. -/
def echV (es : List Ech) : List Value := es.flatMap Ech.cells
theorem echV_snoc (es : List Ech) (e : Ech) : echV (es ++ [e]) = echV es ++ e.cells := by simp [echV]
theorem echV_get {es : List Ech} {j : Nat} {e : Ech} (h : es[j]? = some e) : ∀ i u, e.cells[i]? = some u → (echV es)[j * 5 + i]? = some u := by
  induction es generalizing j with
  | nil => simp at h
  | cons x es ih =>
    intro i u hi
    have e1 : echV (x :: es) = x.cells ++ echV es := rfl
    have hl : x.cells.length = 5 := rfl
    rw [e1]
    cases j with
    | zero =>
      simp at h; subst h
      have : i < 5 := by have := (List.getElem?_eq_some_iff.1 hi).1; omega
      rw [List.getElem?_append_left (by omega)]
      simpa using hi
    | succ j =>
      rw [List.getElem?_append_right (by omega), hl, show (j + 1) * 5 + i - 5 = j * 5 + i by omega]
      exact ih (by simpa using h) i u hi
/-- Echoes in memory. -/
def EcL (base : Nat) (w : World) (v : Value) (es : List Ech) : Prop := w.ownsRow base 42 5 v es.length (echV es)
/-- The search in memory: a hunter in block g; 'te', 'tp' are what lies in its echo's To and Top. -/
structure HunP (base : Nat) (w : World) (g : Nat) (A : Option Addr) (n c : Nat) (d : Int) (h : Hun) (te tp : Int) (v : Value) : Prop where
  blk : Blk w g 90 #[.slice A n c, .int .i64 d, .int .i64 h.frm, .int .i64 te, .int .i64 h.peak, .int .i64 h.level, .int .i64 tp, .int .i64 h.valley, .bool h.fall, v]
  row : EcL base w v h.out
  lo : base ≤ g
section
variable {base g n c : Nat} {w w' : World} {A : Option Addr} {d te tp : Int} {h : Hun} {v : Value}
/-- No row of another type is written into. -/
theorem HunP.away (hH : HunP base w g A n c d h te tp v) {tb : TypeId} (h1 : 90 ≠ tb) (h2 : 42 ≠ tb) : ∀ k ∈ g :: v.ownBlock.toList, NoRow tb w k := by
  intro k hk
  rcases List.mem_cons.1 hk with rfl | hk
  · exact NoRow.of_blk hH.blk h1
  · rw [Option.mem_toList] at hk
    exact NoRow.of_own hH.row hk h2
theorem row_away {tb : TypeId} {b size m : Nat} {u : Value} {vs : List Value} {L : List Nat} (hr : w.ownsRow b tb size u m vs) (hk : Keeps L w w') (hn : ∀ k ∈ L, NoRow tb w k) : w'.ownsRow b tb size u m vs := by
  refine ownsRow_keeps hr hk fun q hq hl => ?_
  rcases hr.2 with ⟨hv, _⟩ | ⟨q', cap, cur, hv, _, hb, _⟩
  · rw [hv] at hq; simp [Value.ownBlock] at hq
  · rw [hv] at hq
    simp [Value.ownBlock] at hq
    subst hq
    exact hn q' hl _ _ hb
theorem blk_away {tb : TypeId} {q : Nat} {cs : Array Value} {L : List Nat} (hB : Blk w q tb cs) (hk : Keeps L w w') (hn : ∀ k ∈ L, NoRow tb w k) : Blk w' q tb cs :=
  hB.keeps hk fun hl => hn q hl _ _ hB
/-- A cell of the hunter other than its row is written. -/
theorem HunP.put (hH : HunP base w g A n c d h te tp v) {h' : Hun} {te' tp' : Int} (hk : Keeps [g] w w') (hB : Blk w' g 90 #[.slice A n c, .int .i64 d, .int .i64 h'.frm, .int .i64 te', .int .i64 h'.peak, .int .i64 h'.level, .int .i64 tp', .int .i64 h'.valley, .bool h'.fall, v]) (ho : h'.out = h.out) : HunP base w' g A n c d h' te' tp' v :=
  ⟨hB, by rw [ho]; exact row_away hH.row hk (by intro k hk; simp at hk; subst hk; exact NoRow.of_blk hH.blk (by decide)), hH.lo⟩
end
set_option maxRecDepth 100000 in
set_option maxHeartbeats 4000000 in
theorem rising_any (base g n c : Nat) (A : Option Addr) (l : List Int) (d : Int) (h : Hun) (te tp : Int) (v : Value) (i : Nat) (w : World) (hH : HunP base w g A n c d h te tp v) (hI : Ints .i64 w A n l) (hs : Smp l) (_hd : 0 ≤ d ∧ d ≤ 1023) (hf : h.fall = false) (hp : h.peak < n) (hi : i < n) :
    Calls Try.prog 62 #[.pointer (some ⟨g, 0, none⟩), .int .i64 (i : Int)] w (fun e w' => e = .returned (.tuple #[]) ∧ HunP base w' g A n c d (hunS l d h i) te tp v ∧ Keeps [g] w w') := by
  obtain ⟨b, off, x, rfl, hx, _, cx⟩ := hI.get hi
  obtain ⟨b', off', y, e, hy, _, cy⟩ := hI.get hp
  injection e with e
  injection e with e1 e2
  subst e1 e2
  have bx := hs.2 x (List.mem_of_getElem? hx)
  have by' := hs.2 y (List.mem_of_getElem? hy)
  obtain ⟨fm, pk, lv, fa, vl, ou⟩ := h
  simp only at hf hp hy cy
  subst hf
  have HH := Lib.hid hH
  have f0 := hH.blk.cell 0
  have f1 := hH.blk.cell 1
  have f4 := hH.blk.cell 4
  have f7 := hH.blk.cell 7
  have f8 := hH.blk.cell 8
  have z4 := hH.blk.free 4
  have z7 := hH.blk.free 7
  have z8 := hH.blk.free 8
  simp only [List.getElem?_toArray, List.getElem?_cons_zero, List.getElem?_cons_succ] at f0 f1 f4 f7 f8
  have HX := Lib.hid (getD_at hx)
  have HY := Lib.hid (getD_at hy)
  have q2 : IntKind.i64.wrap (y - x) = y - x := IntWalk.i64_in _ (by omega)
  clear hI hs hH hx hy
  by_cases hxy : y < x
  · have q1 : decide (y < x) = true := decide_eq_true hxy
    have HS : Hid (hunS l d ⟨fm, pk, lv, false, vl, ou⟩ i = ⟨fm, i, lv, false, vl, ou⟩) := Lib.hid (by unfold hunS; simp only [Bool.false_eq_true, if_false, HX.out, HY.out]; rw [if_pos hxy])
    clear hxy
    go_enter Try.func62, Try.ntmps62
    go_wp2_with fail
    go_region
    go_wp2
    go_end0
    rw [HS.out]
    have hk : Keeps [g] w (w.setCell ⟨g, 4, none⟩ (.int .i64 (i : Int))).drew := ((Keeps.refl [g] w).setCell (.inl (by simp)) _).drew
    exact ⟨rfl, HH.out.put hk (by simpa using (HH.out.blk.set 4 (.int .i64 (i : Int))).drew) rfl, hk⟩
  · have q1 : decide (y < x) = false := decide_eq_false hxy
    by_cases hdr : d ≤ y - x
    · have q3 : decide (d ≤ y - x) = true := decide_eq_true hdr
      have HS : Hid (hunS l d ⟨fm, pk, lv, false, vl, ou⟩ i = ⟨fm, pk, lv, true, i, ou⟩) := Lib.hid (by unfold hunS; simp only [Bool.false_eq_true, if_false, HX.out, HY.out]; rw [if_neg hxy, if_pos hdr])
      clear hxy hdr
      go_enter Try.func62, Try.ntmps62
      go_wp2_with fail
      go_region
      go_wp2_with fail
      go_region
      go_wp2
      go_end0
      rw [HS.out]
      have hk : Keeps [g] w (((w.setCell ⟨g, 8, none⟩ (.bool true)).setCell ⟨g, 7, none⟩ (.int .i64 (i : Int))).drew.drew) := (((Keeps.refl [g] w).setCell (.inl (by simp)) _).setCell (.inl (by simp)) _).drew.drew
      exact ⟨rfl, HH.out.put hk (by simpa using (((HH.out.blk.set 8 (.bool true)).set 7 (.int .i64 (i : Int))).drew).drew) rfl, hk⟩
    · have q3 : decide (d ≤ y - x) = false := decide_eq_false hdr
      have HS : Hid (hunS l d ⟨fm, pk, lv, false, vl, ou⟩ i = ⟨fm, pk, lv, false, vl, ou⟩) := Lib.hid (by unfold hunS; simp only [Bool.false_eq_true, if_false, HX.out, HY.out]; rw [if_neg hxy, if_neg hdr])
      clear hxy hdr
      go_enter Try.func62, Try.ntmps62
      go_wp2_with fail
      go_region
      go_wp2_with fail
      go_region
      go_wp2
      go_end0
      rw [HS.out]
      have hk : Keeps [g] w w.drew.drew := (Keeps.refl [g] w).drew.drew
      exact ⟨rfl, HH.out.put hk HH.out.blk.drew.drew rfl, hk⟩
end Go.Proofs.Ytagcgldhhdecjaa
namespace Go.Proofs.Ytagcgldhhdecjaa
open Go.RowKit

/-- The operations of a region. -/
def regOf (n : Nat) : Code → Option (List Oper)
  | .region i ops _ => if i == n then some ops.toList else none
  | .seq a b => match regOf n a with
    | some c => some c
    | none => regOf n b
  | .block _ c => regOf n c
  | .loop c => regOf n c
  | .scope c => regOf n c
  | .cond _ a b => match regOf n a with
    | some c => some c
    | none => regOf n b
  | _ => none
def rops (f : Func) (n : Nat) : List Oper := (f.body.bind (regOf n)).getD []

/-- The act with the values 'us k', 'us (k + 1)', .. in the slots 'ds' (none: no slot). -/
def fillO (a : Act) : List (Option Tmp) → (Nat → Value) → Nat → Act
  | [], _, _ => a
  | d :: ds, us, k => fillO (a.put d (us k)) ds us (k + 1)
def updO (us : Nat → Value) (i : Nat) (v : Value) : Nat → Value := fun j => if j = i then v else us j

theorem putO_putO (a : Act) (d : Option Tmp) (x y : Value) : (a.put d x).put d y = a.put d y := by
  cases d <;> simp [Act.put, Array.setIfInBounds_setIfInBounds]
theorem putO_comm (a : Act) {d e : Option Tmp} (h : d = none ∨ d ≠ e) (x y : Value) : (a.put d x).put e y = (a.put e y).put d x := by
  cases d with
  | none => rfl
  | some d =>
    cases e with
    | none => rfl
    | some e =>
      have hne : d ≠ e := fun q => by rcases h with h | h <;> simp_all
      simp only [Act.put]
      rw [Array.setIfInBounds_comm _ _ hne]
/-- No slot twice. -/
def NoTwice (ds : List (Option Tmp)) : Prop := ds.Pairwise fun d e => d = none ∨ d ≠ e
theorem fillO_far (us : Nat → Value) (d : Option Tmp) (v : Value) : ∀ (ds : List (Option Tmp)), (∀ e ∈ ds, d = none ∨ d ≠ e) → ∀ (a : Act) (k : Nat), (fillO a ds us k).put d v = fillO (a.put d v) ds us k := by
  intro ds
  induction ds with
  | nil => intro _ a k; rfl
  | cons e ds ih =>
    intro hd a k
    simp only [fillO]
    rw [ih (fun e he => hd e (List.mem_cons_of_mem _ he)), putO_comm a (hd e (List.mem_cons_self ..))]
theorem fillO_congr (ds : List (Option Tmp)) (us us' : Nat → Value) : ∀ (a : Act) (k : Nat), (∀ j, k ≤ j → us j = us' j) → fillO a ds us k = fillO a ds us' k := by
  induction ds with
  | nil => intro a k _; rfl
  | cons e ds ih =>
    intro a k h
    simp only [fillO]
    rw [h k (Nat.le_refl _)]
    exact ih _ _ fun j hj => h j (by omega)
theorem fillO_put (us : Nat → Value) (v : Value) : ∀ (ds : List (Option Tmp)), NoTwice ds → ∀ (a : Act) (k i : Nat) (d : Option Tmp), ds[i]? = some d → (fillO a ds us k).put d v = fillO a ds (updO us (k + i) v) k := by
  intro ds
  induction ds with
  | nil => intro _ a k i d h; simp at h
  | cons e ds ih =>
    intro hn a k i d h
    have hn' := List.pairwise_cons.1 hn
    cases i with
    | zero =>
      simp at h
      subst h
      simp only [fillO]
      rw [fillO_far us e v ds hn'.1, putO_putO]
      have e1 : updO us (k + 0) v k = v := by simp [updO]
      rw [e1]
      exact fillO_congr ds _ _ _ _ fun j hj => by simp [updO]; omega
    | succ i =>
      simp only [fillO]
      have hi : ds[i]? = some d := by simpa using h
      rw [ih hn'.2 _ (k + 1) i d hi]
      have e1 : updO us (k + (i + 1)) v k = us k := by simp [updO]
      have e2 : k + 1 + i = k + (i + 1) := by omega
      rw [e1, e2]
theorem fillO_start : ∀ (ds : List (Option Tmp)) (a : Act) (k : Nat) (us : Nat → Value), (∀ d, some d ∈ ds → d < a.tmps.size) → (∀ i d, ds[i]? = some (some d) → us (k + i) = a.tmps.getD d undef) → fillO a ds us k = a := by
  intro ds
  induction ds with
  | nil => intro a k us _ _; rfl
  | cons e ds ih =>
    intro a k us hb hu
    simp only [fillO]
    have hput : a.put e (us k) = a := by
      cases e with
      | none => rfl
      | some d =>
        have h0 := hu 0 d rfl
        rw [Nat.add_zero] at h0
        rw [h0]
        have hd := hb d (List.mem_cons_self ..)
        simp only [Act.put]
        have : a.tmps.setIfInBounds d (a.tmps.getD d undef) = a.tmps := by
          apply Array.ext_getElem?
          intro i
          rw [Array.getElem?_setIfInBounds]
          by_cases hi : d = i
          · subst hi; simp [hd, Array.getD]
          · simp [hi]
        rw [this]
    rw [hput]
    exact ih a (k + 1) us (fun d hd => hb d (List.mem_cons_of_mem _ hd)) fun i d hi => by
      have := hu (i + 1) d (by simpa using hi)
      rw [← this]; congr 1; omega

/-- What one operation must give: 'done' are those that were carried out; 'D' those whose values it uses, 'A' those that cannot have been carried out before it. -/
def JOp (P : Program) (ops : Array Oper) (V : Nat → Value → World → Prop) (J : (Nat → Prop) → World → Prop) (D A : List (List Nat)) (ds : List (Option Tmp)) (a : Act) (i : Nat) (o : Oper) : Prop :=
  ∀ (done : Nat → Prop) (us : Nat → Value) (W : World), J done W → (∀ j ∈ D.getD i [], V j (us j) W ∧ done j) → (∀ j ∈ A.getD i [], ¬ done j) → ¬ done i → ∀ K : Act → World → Prop,
    (∀ v W', V i v W' → (∀ j u, done j → V j u W → V j u W') → J (fun k => done k ∨ k = i) W' → K ((fillO a ds us 0).put o.dst v) W') → ∀ Q' : Exit → Act → World → Prop,
    if Region.wanted o (yielded ops (fillO a ds us 0).tmps) then o.wp P (fillO a ds us 0) W K Q' else K ((fillO a ds us 0).put o.dst undef) W
def JAll (P : Program) (ops : Array Oper) (V : Nat → Value → World → Prop) (J : (Nat → Prop) → World → Prop) (D A : List (List Nat)) (ds : List (Option Tmp)) (a : Act) : Nat → List Oper → Prop
  | _, [] => True
  | i, o :: rest => JOp P ops V J D A ds a i o ∧ JAll P ops V J D A ds a (i + 1) rest
theorem JAll.at {P : Program} {ops : Array Oper} {V : Nat → Value → World → Prop} {J : (Nat → Prop) → World → Prop} {D A : List (List Nat)} {ds : List (Option Tmp)} {a : Act} : ∀ (l : List Oper) (k : Nat), JAll P ops V J D A ds a k l → ∀ i o, l[i]? = some o → JOp P ops V J D A ds a (k + i) o := by
  intro l
  induction l with
  | nil => intro k _ i o h; simp at h
  | cons x l ih =>
    intro k h i o ho
    cases i with
    | zero => simp at ho; subst ho; exact h.1
    | succ i =>
      have := ih (k + 1) h.2 i o (by simpa using ho)
      rw [show k + 1 + i = k + (i + 1) by omega] at this
      exact this

theorem putO_size (a : Act) (d : Option Tmp) (v : Value) : (a.put d v).tmps.size = a.tmps.size := by
  cases d <;> simp [Act.put]
theorem putO_else (a : Act) (e : Option Tmp) (v : Value) {d : Tmp} (h : e ≠ some d) : (a.put e v).tmps[d]? = a.tmps[d]? := by
  cases e with
  | none => rfl
  | some e => simp only [Act.put]; rw [Array.getElem?_setIfInBounds, if_neg (fun q => h (by rw [q]))]
theorem fillO_else (us : Nat → Value) : ∀ (ds : List (Option Tmp)) (a : Act) (k : Nat) (d : Tmp), some d ∉ ds → (fillO a ds us k).tmps[d]? = a.tmps[d]? := by
  intro ds
  induction ds with
  | nil => intro a k d _; rfl
  | cons e ds ih =>
    intro a k d h
    simp only [List.mem_cons, not_or] at h
    simp only [fillO]
    rw [ih _ _ d h.2, putO_else _ _ _ (Ne.symm h.1)]
theorem fillO_get (us : Nat → Value) : ∀ (ds : List (Option Tmp)), NoTwice ds → ∀ (a : Act) (k i : Nat) (d : Tmp), ds[i]? = some (some d) → d < a.tmps.size → (fillO a ds us k).tmps[d]? = some (us (k + i)) := by
  intro ds
  induction ds with
  | nil => intro _ a k i d h; simp at h
  | cons e ds ih =>
    intro hn a k i d h hd
    have hn' := List.pairwise_cons.1 hn
    simp only [fillO]
    cases i with
    | zero =>
      simp at h
      subst h
      rw [fillO_else us ds _ _ d (fun hm => by rcases hn'.1 _ hm with h | h <;> simp at h)]
      simp only [Act.put]
      rw [Array.getElem?_setIfInBounds_self_of_lt hd]; rfl
    | succ i =>
      have hi : ds[i]? = some (some d) := by simpa using h
      rw [ih hn'.2 _ (k + 1) i d hi (by rw [putO_size]; exact hd)]
      congr 2; omega

/-- The same over a frame of which only the slots' values are known. -/
theorem JOp.of {P : Program} {ops : Array Oper} {V : Nat → Value → World → Prop} {J : (Nat → Prop) → World → Prop} {D A : List (List Nat)} {ds : List (Option Tmp)} {a : Act} {i : Nat} {o : Oper} (hn : NoTwice ds) (hs : ∀ d, some d ∈ ds → d < a.tmps.size)
    (h : ∀ (done : Nat → Prop) (us : Nat → Value) (W : World), J done W → (∀ j ∈ D.getD i [], V j (us j) W ∧ done j) → (∀ j ∈ A.getD i [], ¬ done j) → ¬ done i → ∀ b : Act, (∀ j d, ds[j]? = some (some d) → b.tmps[d]? = some (us j)) → (∀ d, some d ∉ ds → b.tmps[d]? = a.tmps[d]?) → ∀ K : Act → World → Prop,
      (∀ v W', V i v W' → (∀ j u, done j → V j u W → V j u W') → J (fun k => done k ∨ k = i) W' → K (b.put o.dst v) W') → ∀ Q' : Exit → Act → World → Prop,
      if Region.wanted o (yielded ops b.tmps) then o.wp P b W K Q' else K (b.put o.dst undef) W) : JOp P ops V J D A ds a i o := by
  intro done us W hJ hdep haft hnot K hK Q'
  refine h done us W hJ hdep haft hnot _ (fun j d hj => ?_) (fun d hd => fillO_else us ds a 0 d hd) K hK Q'
  have := fillO_get us ds hn a 0 j d hj (hs d (List.mem_of_getElem? hj))
  rwa [Nat.zero_add] at this

/-- What one operation must give, over a frame of which only the slots' values are known. -/
def JOq (P : Program) (ops : Array Oper) (V : Nat → Value → World → Prop) (J : (Nat → Prop) → World → Prop) (D A : List (List Nat)) (ds : List (Option Tmp)) (a : Act) (i : Nat) (o : Oper) : Prop :=
  ∀ (done : Nat → Prop) (us : Nat → Value) (W : World), J done W → (∀ j ∈ D.getD i [], V j (us j) W ∧ done j) → (∀ j ∈ A.getD i [], ¬ done j) → ¬ done i → ∀ b : Act, (∀ j d, ds[j]? = some (some d) → b.tmps[d]? = some (us j)) → (∀ d, some d ∉ ds → b.tmps[d]? = a.tmps[d]?) → ∀ K : Act → World → Prop,
      (∀ v W', V i v W' → (∀ j u, done j → V j u W → V j u W') → J (fun k => done k ∨ k = i) W' → K (b.put o.dst v) W') → ∀ Q' : Exit → Act → World → Prop,
      if Region.wanted o (yielded ops b.tmps) then o.wp P b W K Q' else K (b.put o.dst undef) W
def JAllq (P : Program) (ops : Array Oper) (V : Nat → Value → World → Prop) (J : (Nat → Prop) → World → Prop) (D A : List (List Nat)) (ds : List (Option Tmp)) (a : Act) : Nat → List Oper → Prop
  | _, [] => True
  | i, o :: rest => JOq P ops V J D A ds a i o ∧ JAllq P ops V J D A ds a (i + 1) rest
theorem JAllq.all {P : Program} {ops : Array Oper} {V : Nat → Value → World → Prop} {J : (Nat → Prop) → World → Prop} {D A : List (List Nat)} {ds : List (Option Tmp)} {a : Act} (hn : NoTwice ds) (hs : ∀ d, some d ∈ ds → d < a.tmps.size) : ∀ (l : List Oper) (k : Nat), JAllq P ops V J D A ds a k l → JAll P ops V J D A ds a k l := by
  intro l
  induction l with
  | nil => intro k _; trivial
  | cons o l ih => intro k h; exact ⟨JOp.of hn hs h.1, ih (k + 1) h.2⟩

def noTwiceB : List (Option Tmp) → Bool
  | [] => true
  | d :: ds => ds.all (fun e => d == none || d != e) && noTwiceB ds
theorem noTwice_of : ∀ (ds : List (Option Tmp)), noTwiceB ds = true → NoTwice ds := by
  intro ds
  induction ds with
  | nil => intro _; exact List.Pairwise.nil
  | cons d ds ih =>
    intro h
    simp only [noTwiceB, Bool.and_eq_true] at h
    refine List.Pairwise.cons (fun e he => ?_) (ih h.2)
    have := List.all_eq_true.1 h.1 e he
    simp at this
    rcases this with h | h
    · exact .inl h
    · exact .inr h

theorem slots_lt {ds : List (Option Tmp)} {N : Nat} (h : ds.all (fun x => match x with | some d => decide (d < N) | none => true) = true) {a : Act} (hs : N ≤ a.tmps.size) : ∀ d, some d ∈ ds → d < a.tmps.size := fun d hd => by
  have := List.all_eq_true.1 h _ hd
  simp at this
  exact Nat.lt_of_lt_of_le this hs

/-- What the kernel looks at. -/
def jB (ops : Array Oper) (n : Nat) (ds : List (Option Tmp)) (D A : List (List Nat)) : Bool :=
  decide (n ≤ ops.size) && decide (ds.length = n) && noTwiceB ds && (List.range n).all (fun i => (((ops[i]?).map (·.dst)) == ds[i]?) && (D.getD i []).all (fun j => decide (j < i) && Region.waitsFor .any ops i j) && (A.getD i []).all (fun j => decide (j < n) && Region.waitsFor .any ops j i)) &&
  (List.range n).all (fun i => match ops[i]? with | some o => o.after.all (fun e => !Region.binds .any e || decide (e.on < i)) | none => false) &&
  (decide (n = ops.size) || (Region.sinkB .any ops n && Region.chainB .any ops n)) && Region.seqB .any ops (ops.size - n) n ((List.range ops.size).map (fun i => decide (i < n))).toArray

section
variable {P : Program} {l : List Oper} {n : Nat} {ds : List (Option Tmp)} {D A : List (List Nat)} {V : Nat → Value → World → Prop} {J : (Nat → Prop) → World → Prop} {a : Act} {Q : Exit → Act → World → Prop}

theorem j_any (hB : jB l.toArray n ds D A = true) (hJ : ∀ p q W, (∀ k, p k ↔ q k) → J p W → J q W) (hop : JAll P l.toArray V J D A ds a 0 (l.take n))
    (hend : ∀ us W, (∀ j, j < n → V j (us j) W) → J (fun k => k < n) W → wpList P l.toArray Q (l.drop n) (fillO a ds us 0) W) :
    ∀ (f : Nat) (rem : List Nat) (listed : Array Bool) (us : Nat → Value) (W : World), rem.length = f → rem.Nodup → HeadInv .any l.toArray n listed → (∀ j, j < n → (listed.getD j true = false ↔ j ∈ rem)) → (∀ j ∈ rem, j < n) →
      (∀ j, j < n → j ∉ rem → V j (us j) W) → J (fun k => k < n ∧ k ∉ rem) W → wpAny P .any l.toArray Q (f + (l.toArray.size - n)) listed (fillO a ds us 0) W := by
  simp only [jB, Bool.and_eq_true, decide_eq_true_eq] at hB
  obtain ⟨⟨⟨⟨⟨⟨hn, hl⟩, hnt⟩, hD⟩, hless⟩, hsc⟩, hseq⟩ := hB
  have hnd := noTwice_of ds hnt
  intro f
  induction f with
  | zero =>
    intro rem listed us W hlen _ inv hrem _ hV hX
    obtain rfl : rem = [] := List.eq_nil_of_length_eq_zero hlen
    have hlist : listed = ((List.range l.toArray.size).map (fun i => decide (i < n))).toArray := by
      apply Array.ext
      · simp [inv.size]
      · intro i h1 h2
        have hsz := inv.size
        simp only [List.getElem_toArray, List.getElem_map, List.getElem_range]
        by_cases hi : i < n
        · have h3 := hrem i hi
          simp only [List.not_mem_nil, iff_false, Bool.not_eq_false] at h3
          have h4 : listed.getD i true = listed[i] := by simp [Array.getD, h1]
          rw [h4] at h3
          simp [h3, hi]
        · have h3 := inv.tail i (by omega) (by omega)
          have h4 : listed.getD i true = listed[i] := by simp [Array.getD, h1]
          rw [h4] at h3
          simp [h3, hi]
    have hdl : (l.drop n).length = l.toArray.size - n := by simp
    rw [Nat.zero_add, ← hdl]
    refine wpAny_of_seq (l.drop n) n listed _ W (fun j => by simp [List.getElem?_drop]) ?_ (hend us W (fun j hj => hV j hj (by simp)) (hJ _ _ W (by simp) hX))
    rw [hdl, hlist]
    exact hseq
  | succ f ih =>
    intro rem listed us W hlen hnodup inv hrem hlt hV hX
    rw [show f + 1 + (l.toArray.size - n) = (f + (l.toArray.size - n)) + 1 by omega]
    have hne : rem ≠ [] := by intro e; subst e; simp at hlen
    refine ⟨fun h0 => ?_, fun i hi => ?_⟩
    · exfalso
      obtain ⟨k, hk, hmin⟩ : ∃ k ∈ rem, ∀ j ∈ rem, k ≤ j := by
        obtain ⟨m, hm, hm2⟩ := exists_least (p := fun m => m ∈ rem) (by cases rem with | nil => exact absurd rfl hne | cons x xs => exact ⟨x, List.mem_cons_self ..⟩)
        exact ⟨m, hm, fun j hj => hm2 j hj⟩
      have hkn := hlt k hk
      have hr : k ∈ Region.ready .any l.toArray listed := by
        refine mem_ready.2 ⟨(hrem k hkn).2 hk, ?_⟩
        have h1 := List.all_eq_true.1 hless k (List.mem_range.2 hkn)
        cases ho : l.toArray[k]? with
        | none => rw [ho] at h1; simp at h1
        | some o =>
          rw [ho] at h1
          refine ⟨o, rfl, fun e he hb => ?_⟩
          have h2 := Array.all_eq_true_iff_forall_mem.1 h1 e he
          simp only [hb, Bool.not_true, Bool.false_or, decide_eq_true_eq] at h2
          have h3 : e.on ∉ rem := fun h => by have := hmin _ h; omega
          have h4 : listed.getD e.on true = true := by
            cases h5 : listed.getD e.on true with
            | true => rfl
            | false => exact absurd ((hrem e.on (by omega)).1 h5) h3
          have hsz : e.on < listed.size := by rw [inv.size]; omega
          simp [Array.getD, hsz] at h4 ⊢
          exact h4
      rw [h0] at hr
      cases hr
    · obtain ⟨hun, o, ho, hall⟩ := mem_ready.1 hi
      have hisz : i < l.toArray.size := (Array.getElem?_eq_some_iff.1 ho).1
      have hin : i < n := by
        rcases Nat.lt_or_ge i n with h | h
        · exact h
        · simp only [Bool.or_eq_true, Bool.and_eq_true, decide_eq_true_eq] at hsc
          rcases hsc with hsc | ⟨hs, hc⟩
          · omega
          · obtain ⟨k, hk⟩ : ∃ k, k ∈ rem := by cases rem with | nil => exact absurd rfl hne | cons x xs => exact ⟨x, List.mem_cons_self ..⟩
            exact absurd hi (tail_waits hs hc (by omega) inv _ k rfl (hlt k hk) ((hrem k (hlt k hk)).2 hk) i h)
      have hir : i ∈ rem := (hrem i hin).1 hun
      have hDi := List.all_eq_true.1 hD i (List.mem_range.2 hin)
      simp only [Bool.and_eq_true, beq_iff_eq] at hDi
      obtain ⟨⟨hdst, hdeps⟩, hafts⟩ := hDi
      rw [ho] at hdst
      simp only [Option.map_some] at hdst
      have hm := JAll.at (l.take n) 0 hop i o (by rw [List.getElem?_take, if_pos hin]; simpa using ho)
      rw [Nat.zero_add] at hm
      have hdp : ∀ j ∈ D.getD i [], V j (us j) W ∧ (j < n ∧ j ∉ rem) := fun j hj => by
        have h1 := List.all_eq_true.1 hdeps j hj
        simp only [Bool.and_eq_true, decide_eq_true_eq] at h1
        obtain ⟨oj, hoj, e, he, hb, hon⟩ := Region.waitsFor_spec h1.2
        have : oj = o := Option.some.inj (hoj.symm.trans ho)
        subst this
        have h2 := hall e he hb
        rw [hon] at h2
        have hjr : j ∉ rem := fun hjr => by
          have h3 := (hrem j (by omega)).2 hjr
          rw [getD_both h3] at h2
          cases h2
        exact ⟨hV j (by omega) hjr, by omega, hjr⟩
      have haf : ∀ j ∈ A.getD i [], ¬ (j < n ∧ j ∉ rem) := fun j hj hd => by
        have h1 := List.all_eq_true.1 hafts j hj
        simp only [Bool.and_eq_true, decide_eq_true_eq] at h1
        obtain ⟨oj, hoj, e, he, hb, hon⟩ := Region.waitsFor_spec h1.2
        have h4 : listed.getD j false = true := by
          have h5 : listed.getD j true = true := by
            cases h5 : listed.getD j true with
            | true => rfl
            | false => exact absurd ((hrem j hd.1).1 h5) hd.2
          have hsz : j < listed.size := by rw [inv.size]; omega
          simp [Array.getD, hsz] at h5 ⊢
          exact h5
        have h6 := inv.closed j oj hoj h4 e he hb
        rw [hon, getD_both hun] at h6
        cases h6
      have key : ∀ v W', V i v W' → (∀ j u, (j < n ∧ j ∉ rem) → V j u W → V j u W') → J (fun k => (k < n ∧ k ∉ rem) ∨ k = i) W' → wpAny P .any l.toArray Q (f + (l.toArray.size - n)) (listed.setIfInBounds i true) ((fillO a ds us 0).put o.dst v) W' := fun v W' hv hst hj => by
        rw [fillO_put us v ds hnd a 0 i o.dst hdst.symm, Nat.zero_add]
        refine ih (rem.erase i) _ (updO us i v) W' (by rw [List.length_erase_of_mem hir]; omega) (hnodup.erase i) (inv.set hi hin) (fun j hj => ?_) (fun j hj => hlt j (List.mem_of_mem_erase hj)) (fun j hj hjr => ?_) (hJ _ _ W' (fun k => ?_) hj)
        · by_cases hji : i = j
          · subst hji
            have hsz : i < listed.size := by rw [inv.size]; omega
            simp [Array.getD, hsz]
            exact fun h => (hnodup.mem_erase_iff.1 h).1 rfl
          · rw [getD_set_ne true hji, hrem j hj, hnodup.mem_erase_iff]
            exact ⟨fun h => ⟨Ne.symm hji, h⟩, fun h => h.2⟩
        · by_cases hji : j = i
          · subst hji; simpa [updO] using hv
          · have : updO us i v j = us j := by simp [updO, hji]
            rw [this]
            have hjr' : j ∉ rem := fun h => hjr (hnodup.mem_erase_iff.2 ⟨hji, h⟩)
            exact hst j _ ⟨hj, hjr'⟩ (hV j hj hjr')
        · rw [hnodup.mem_erase_iff]
          constructor
          · rintro (⟨h1, h2⟩ | rfl)
            · exact ⟨h1, fun h => h2 h.2⟩
            · exact ⟨hin, fun h => h.1 rfl⟩
          · rintro ⟨h1, h2⟩
            by_cases hki : k = i
            · exact .inr hki
            · exact .inl ⟨h1, fun h => h2 ⟨hki, h⟩⟩
      unfold wpOp
      rw [ho]
      simp only
      have hgo := hm (fun k => k < n ∧ k ∉ rem) us W hX hdp haf (fun h => h.2 hir) (wpAny P .any l.toArray Q (f + (l.toArray.size - n)) (listed.setIfInBounds i true)) key Q
      split
      · rename_i hw; rw [if_pos hw] at hgo; exact .inl hgo
      · rename_i hw; rw [if_neg hw] at hgo; exact hgo

/-- THE LAW. -/
theorem wp_region_j {id : Nat} {w : World} (n : Nat) (ds : List (Option Tmp)) (D A : List (List Nat)) (V : Nat → Value → World → Prop) (J : (Nat → Prop) → World → Prop) (hm : P.follows .mixedOrders = true) (hB : jB l.toArray n ds D A = true)
    (hd : ∀ d, some d ∈ ds → d < a.tmps.size) (hJ : ∀ p q W, (∀ k, p k ↔ q k) → J p W → J q W) (h0 : J (fun _ => False) w.drew) (hop : JAllq P l.toArray V J D A ds a 0 (l.take n))
    (hend : ∀ us W, (∀ j, j < n → V j (us j) W) → J (fun k => k < n) W → wpList P l.toArray Q (l.drop n) (fillO a ds us 0) W) : (Code.region id l.toArray true).wp P Q a w := by
  refine wp_region_any hm ?_
  have hB' := hB
  simp only [jB, Bool.and_eq_true, decide_eq_true_eq] at hB'
  obtain ⟨⟨⟨⟨⟨⟨hn, hl⟩, hnt⟩, _⟩, _⟩, _⟩, _⟩ := hB'
  have h := j_any hB hJ (JAllq.all (noTwice_of ds hnt) hd _ 0 hop) hend n (List.range n) (Array.replicate l.toArray.size false) (fun j => a.tmps.getD ((ds.getD j none).getD 0) undef) w.drew (by simp) List.nodup_range
    ⟨by simp, fun j oj _ hl => (by rw [getD_replicate_false] at hl; cases hl), fun t _ ht => getD_in (by simpa using ht) (getD_replicate_false _ _)⟩
    (fun j hj => ⟨fun _ => List.mem_range.2 hj, fun _ => getD_in (by simp at hn ⊢; omega) (getD_replicate_false _ _)⟩) (fun j hj => List.mem_range.1 hj)
    (fun j hj h => absurd (List.mem_range.2 hj) h) (hJ _ _ _ (fun k => by simp) h0)
  rw [fillO_start ds a 0 _ hd (fun i d hi => by simp [List.getD, hi])] at h
  have e : n + (l.toArray.size - n) = l.toArray.size := by omega
  rw [e] at h
  exact h
end
end Go.Proofs.Ytagcgldhhdecjaa
namespace Go.Proofs.Ytagcgldhhdecjaa
open Go.RowKit

/-- What one operation must give, over a frame of which only the slots' values are known. -/
def GOq (P : Program) (ops : Array Oper) (J : (Nat → Prop) → (Nat → Value) → World → Prop) (D A : List (List Nat)) (ds : List (Option Tmp)) (a : Act) (i : Nat) (o : Oper) : Prop :=
  ∀ (done : Nat → Prop) (us : Nat → Value) (W : World), J done us W → (∀ j ∈ D.getD i [], done j) → (∀ j ∈ A.getD i [], ¬ done j) → ¬ done i → ∀ b : Act, (∀ j d, ds[j]? = some (some d) → b.tmps[d]? = some (us j)) → (∀ d, some d ∉ ds → b.tmps[d]? = a.tmps[d]?) → ∀ K : Act → World → Prop,
      (∀ v W', J (fun k => done k ∨ k = i) (updO us i v) W' → K (b.put o.dst v) W') → ∀ Q' : Exit → Act → World → Prop,
      if Region.wanted o (yielded ops b.tmps) then o.wp P b W K Q' else K (b.put o.dst undef) W
def GAllq (P : Program) (ops : Array Oper) (J : (Nat → Prop) → (Nat → Value) → World → Prop) (D A : List (List Nat)) (ds : List (Option Tmp)) (a : Act) : Nat → List Oper → Prop
  | _, [] => True
  | i, o :: rest => GOq P ops J D A ds a i o ∧ GAllq P ops J D A ds a (i + 1) rest
theorem GAllq.at {P : Program} {ops : Array Oper} {J : (Nat → Prop) → (Nat → Value) → World → Prop} {D A : List (List Nat)} {ds : List (Option Tmp)} {a : Act} : ∀ (l : List Oper) (k : Nat), GAllq P ops J D A ds a k l → ∀ i o, l[i]? = some o → GOq P ops J D A ds a (k + i) o := by
  intro l
  induction l with
  | nil => intro k _ i o h; simp at h
  | cons x l ih =>
    intro k h i o ho
    cases i with
    | zero => simp at ho; subst ho; exact h.1
    | succ i =>
      have := ih (k + 1) h.2 i o (by simpa using ho)
      rw [show k + 1 + i = k + (i + 1) by omega] at this
      exact this

section
variable {P : Program} {l : List Oper} {n : Nat} {ds : List (Option Tmp)} {D A : List (List Nat)} {J : (Nat → Prop) → (Nat → Value) → World → Prop} {a : Act} {Q : Exit → Act → World → Prop}

end

/-- A local struct of a region: its cells are 'zs' until they are stored, then 'vs'. -/
structure Loc (w W : World) (T : TypeId) (zs vs : Array Value) (da dst : Prop) (v : Value) : Prop where
  ptr : da → ∃ g, v = .pointer (some ⟨g, 0, none⟩) ∧ w.heap.size ≤ g ∧ (dst → Blk W g T vs) ∧ (¬ dst → Blk W g T zs)
section
variable {w W W' : World} {T : TypeId} {zs vs : Array Value} {da dst da' dst' : Prop} {v u : Value}
theorem Loc.lt (h : Loc w W T zs vs da dst v) (hd : da) : ∃ g, v = .pointer (some ⟨g, 0, none⟩) ∧ w.heap.size ≤ g ∧ g < W.heap.size := by
  obtain ⟨g, h1, h2, h3, h4⟩ := h.ptr hd
  refine ⟨g, h1, h2, ?_⟩
  by_cases hs : dst
  · exact (h3 hs).lt
  · exact (h4 hs).lt
theorem Loc.stored (h : Loc w W T zs vs da dst v) (hd : da) (hs : ¬ dst) : ∃ g, v = .pointer (some ⟨g, 0, Option.none⟩) ∧ w.heap.size ≤ g ∧ Blk W g T zs := by
  obtain ⟨g, h1, h2, _, h4⟩ := h.ptr hd
  exact ⟨g, h1, h2, h4 hs⟩
theorem Loc.done (h : Loc w W T zs vs da dst v) (hd : da) (hs : dst) : ∃ g, v = .pointer (some ⟨g, 0, Option.none⟩) ∧ w.heap.size ≤ g ∧ Blk W g T vs := by
  obtain ⟨g, h1, h2, h3, _⟩ := h.ptr hd
  exact ⟨g, h1, h2, h3 hs⟩
theorem Loc.same (h : Loc w W T zs vs da dst v) (ha : da' ↔ da) (hs : dst' ↔ dst) : Loc w W T zs vs da' dst' v := by
  have e1 := propext ha
  have e2 := propext hs
  subst e1 e2
  exact h
theorem Loc.ext (h : Loc w W T zs vs da dst v) (hX : Ext W W') : Loc w W' T zs vs da dst v := ⟨fun hd => by
  obtain ⟨g, h1, h2, h3, h4⟩ := h.ptr hd
  exact ⟨g, h1, h2, fun h => (h3 h).ext hX, fun h => (h4 h).ext hX⟩⟩
theorem Loc.new (w W : World) (hw : Ext w W) (hs : ¬ dst) (hX : Ext (W.alloc (.cells zs T)) W') : Loc w W' T zs vs da dst (.pointer (some ⟨W.heap.size, 0, none⟩)) :=
  ⟨fun _ => ⟨_, rfl, hw.size, fun h => absurd h hs, fun _ => (Blk.new W T zs).ext hX⟩⟩
end
end Go.Proofs.Ytagcgldhhdecjaa
namespace Go.Proofs.Ytagcgldhhdecjaa
open Go.RowKit

section
variable {P : Program}
/-- An operation that is always done, whose value is known. -/
theorem jop_run {ops : Array Oper} {o : Oper} {b : Act} {W W' : World} {K : Act → World → Prop} {Q' : Exit → Act → World → Prop} {v' : Value} (hg : o.guard = none) (hrun : (execOp b.eval o).run P W = .ok (.value v') W') (hK : K (b.put o.dst v') W') :
    if Region.wanted o (yielded ops b.tmps) then o.wp P b W K Q' else K (b.put o.dst undef) W := by
  simp only [Region.wanted, hg, if_true, Oper.wp, hrun]
  exact hK
/-- 'append(s, x...)' in a region that draws its order. -/
theorem jop_app {ops : Array Oper} {o : Oper} {b : Act} {W W' : World} {K : Act → World → Prop} {Q' : Exit → Act → World → Prop} {t : TypeId} {i j : Tmp} {v u v' : Value} (hg : o.guard = none)
    (ho : o.op = .call { callee := .builtin .append, args := #[.tmp i, .tmp j], argTypes := #[t, t] }) (hi : b.tmps[i]? = some v) (hj : b.tmps[j]? = some u)
    (hrun : (Builtin.append_ #[t, t] o.type #[v, u]).run P W = .ok v' W') (hK : K (b.put o.dst v') W') :
    if Region.wanted o (yielded ops b.tmps) then o.wp P b W K Q' else K (b.put o.dst undef) W := by
  refine jop_run hg ?_ hK
  have e1 : b.eval (.tmp i) = v := by simp [Act.eval, hi]
  have e2 : b.eval (.tmp j) = u := by simp [Act.eval, hj]
  unfold execOp
  simp only [ho, resolve, invoke, builtin, Sem.run_bind, Sem.run_pure, Result.andThen_ok, List.map_toArray, List.map_cons, List.map_nil, e1, e2, hrun]
end
end Go.Proofs.Ytagcgldhhdecjaa
