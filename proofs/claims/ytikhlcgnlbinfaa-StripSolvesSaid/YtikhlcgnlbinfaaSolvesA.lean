/- Lemmas of the proof that follows (Solves, part 1): walks of functions by contract, and plain lemmas. Conditions: none. -/
import Derived.WalkKit
import Derived.WalkSpells
import Derived.WalkLawsBesides
import Derived.ProofKit
import Derived.OpenShut
import Derived.ShutString
import Derived.ChangeOld
import Derived.Lib.Hide
import Derived.Maps.AppendAt
import Derived.Laws.CopyOwn
import Derived.Deep.Draws
import Derived.Maps.RangeWalk
import Derived.Deep.LoopGhost
import Derived.Deep.DeepCutAuto
import Derived.Deep.QuietTactic
import Derived.BigQuiet
import Derived.StillTailTactics
import Derived.Test.YtikhlcgnlbinfaaRows
import Derived.Deep.RegionHeld3
import Derived.Deep.Slices
import Derived.Deep.Strs
import Derived.Test.YtikhlcgnlbinfaaChecked
import Derived.StillTail
import Derived.Deep.CutBlock
import Derived.Lib.Strings
import Derived.Lib.Slices
import Derived.Lib.Small
import Derived.Lib.Walk
import Derived.Lib.BitFns
import Derived.IntWalk
import Derived.Lib.SmallJoins
import Derived.Shelf.Bits.Mul64
set_option maxRecDepth 100000
set_option maxHeartbeats 2000000
namespace Go.Proofs.Ytikhlcgnlbinfaa
open Lib (hid)
open Go.RowKit
/-- 'w'' has every block of 'w' as it was, and perhaps more. -/
def Ext (w w' : World) : Prop := Below w.heap.size w w'
theorem Ext.refl (w : World) : Ext w w := Below.refl _ _
theorem Ext.size {a b : World} (h : Ext a b) : a.heap.size <= b.heap.size := Below.size h
theorem Ext.trans {a b c : World} (h : Ext a b) (k : Ext b c) : Ext a c := Below.trans h (Below.mono k h.size)
theorem Ext.drew {a b : World} (h : Ext a b) : Ext a b.drew := Below.drew h
theorem Ext.drewN {a b : World} (h : Ext a b) (n : Nat) : Ext a (b.drewN n) := ⟨h.os, h.tape, h.output, h.size, h.block⟩
theorem Ext.alloc {a b : World} (h : Ext a b) (o : Obj) : Ext a (b.alloc o) := Below.alloc h h.size o
theorem Ext.setCell {a b : World} (h : Ext a b) {p : Addr} (hp : a.heap.size <= p.block) (u : Value) : Ext a (b.setCell p u) := Below.setCell h hp u
theorem Ext.grown {a b c : World} {row : Option Nat} (h : Ext a b) (hg : b.grownBy c row) (hr : ∀ k, row = some k -> a.heap.size <= k) : Ext a c := Below.grown h hg h.size hr
theorem Ext.cell {a b : World} (h : Ext a b) {p : Addr} {v : Value} (hc : a.cell? p = some v) : b.cell? p = some v :=
 (Below.cell h (World.block_lt_of_cell? a p hc)).trans hc
theorem Ext.row {a b : World} (h : Ext a b) (row : Option Nat) : a.grownBy b row := ⟨h.os, h.tape, h.output, h.size, fun k hk _ => h.block k hk⟩
/-- The address 'A' leads to the cells 'vs' (no matter where, if there are none). -/
def At (w : World) (A : Option Addr) (vs : List Value) : Prop :=
 vs ≠ [] -> ∃ b off, A = some ⟨b, off, none⟩ /\ ∀ j v, vs[j]? = some v -> w.cell? ⟨b, off + j, none⟩ = some v
section
variable {w w' : World} {A : Option Addr} {vs : List Value}
theorem At.nil : At w A [] := fun h => absurd rfl h
theorem At.ext (h : At w A vs) (he : Ext w w') : At w' A vs := fun hn => by
 obtain ⟨b, off, hA, hc⟩ := h hn;exact ⟨b, off, hA, fun j v hv => he.cell (hc j v hv)⟩
theorem At.get (h : At w A vs) {j : Nat} (hj : j < vs.length) : ∃ b off v, A = some ⟨b, off, none⟩ /\ vs[j]? = some v /\ w.cell? ⟨b, off + j, none⟩ = some v := by
 obtain ⟨b, off, hA, hc⟩ := h (by intro e; subst e; simp at hj);exact ⟨b, off, vs[j], hA, List.getElem?_eq_getElem hj, hc j _ (List.getElem?_eq_getElem hj)⟩
theorem At.take (h : At w A vs) (k : Nat) : At w A (vs.take k) := fun hn => by
 obtain ⟨b, off, hA, hc⟩ := h (by intro e; subst e; simp at hn);refine ⟨b, off, hA, fun j v hv => hc j v ?_⟩;rw [List.getElem?_take] at hv;split at hv
 .
  exact hv
 .
  cases hv
theorem At.drop (h : At w A vs) (k : Nat) {A' : Option Addr} (hA' : k < vs.length -> ∀ b off, A = some ⟨b, off, none⟩ -> A' = some ⟨b, off + k, none⟩) : At w A' (vs.drop k) := fun hn => by
 have hk : k < vs.length := by
  rcases Nat.lt_or_ge k vs.length with h1 | h1
  .
   exact h1
  .
   exact absurd (List.drop_eq_nil_of_le h1) hn
 obtain ⟨b, off, hA, hc⟩ := h (by intro e; subst e; simp at hk);refine ⟨b, off + k, hA' hk b off hA, fun j v hv => ?_⟩;rw [Nat.add_assoc];exact hc _ v (by rw [<- hv, List.getElem?_drop])
theorem At.add (h : At w A vs) : ∀ ad, A = some ad -> ∀ j u, vs[j]? = some u -> w.cell? (ad.add j) = some u := by
 intro ad hA j u hu;obtain ⟨b, off, hA', hc⟩ := h (by intro e; subst e; simp at hu);rw [hA] at hA';injection hA' with hA';subst hA';rw [Addr.add_lit];exact hc j u hu
theorem At.of_own {base : Nat} {e : TypeId} {size n c : Nat} (h : w.ownsRow base e size (.slice A n c) n vs) : At w A vs := fun hn => by
 rcases h.2 with ⟨hv, h0⟩ | ⟨g, cap, cur, hv, _, hg, _⟩
 .
  subst h0;exact absurd (List.eq_nil_of_length_eq_zero (by simpa using h.1)) hn
 .
  have hA : A = some ⟨g, 0, none⟩ := by injection hv
  subst hA;refine ⟨g, 0, rfl, fun j v hj => ?_⟩;have := h.cells (g := g) rfl j v hj
  rwa [Addr.add_lit] at this
end
theorem At.new (w : World) (vs : List Value) (t : TypeId) : At (w.alloc (.cells vs.toArray t)) (some ⟨w.heap.size, 0, none⟩) vs := fun _ =>
 ⟨w.heap.size, 0, rfl, fun j v hv => by
  rw [cell_of_row _ w.heap.size (0 + j) vs.toArray t (0, 0) (heap_alloc_new w _)]
  simpa using hv⟩
theorem ar {w : World} {base : Nat} {e : TypeId} {size n : Nat} {v : Value} {vs : List Value} (h : w.ownsRow base e size v n vs) : ∃ A c, v = .slice A n c := by
 rcases h.2 with ⟨rfl, rfl⟩ | ⟨g, cap, cur, rfl, _⟩
 .
  exact ⟨_, _, rfl⟩
 .
  exact ⟨_, _, rfl⟩
/-- Behind an append onto a row of the call's own, whose source was made just ahead of it. -/
theorem Ext.push {w wr w1 : World} {o : Obj} {e : TypeId} {size n : Nat} {v : Value} {vs : List Value} (h : Ext w wr) (hown : wr.ownsRow w.heap.size e size v n vs) (hg : (wr.alloc o).grownBy w1 v.ownBlock) : Ext w w1 :=
 (h.alloc o).grown hg fun k hk => (hown.lt k hk).1
theorem Ext.app {w wr w1 : World} {e : TypeId} {size n : Nat} {v : Value} {vs : List Value} (h : Ext w wr) (hown : wr.ownsRow w.heap.size e size v n vs) (hg : wr.grownBy w1 v.ownBlock) : Ext w w1 :=
 h.grown hg fun k hk => (hown.lt k hk).1
/-- A slice of integers of kind 'k' with 'n' elements reads as 'xs'. -/
def Ints (k : IntKind) (w : World) (A : Option Addr) (n : Nat) (xs : List Int) : Prop :=
 xs.length = n /\ (∀ x ∈ xs, (Lit.int k x).wf = true) /\ At w A (xs.map (Value.int k))
section
variable {w w' : World} {A : Option Addr} {n : Nat} {xs : List Int} {k : IntKind}
theorem Ints.ext (h : Ints k w A n xs) (he : Ext w w') : Ints k w' A n xs := ⟨h.1, h.2.1, h.2.2.ext he⟩
theorem Ints.nil : Ints k w A 0 [] := ⟨rfl, by simp, At.nil⟩
theorem Ints.get (h : Ints k w A n xs) {j : Nat} (hj : j < n) : ∃ b off x, A = some ⟨b, off, none⟩ /\ xs[j]? = some x /\ (Lit.int k x).wf = true /\ w.cell? ⟨b, off + j, none⟩ = some (.int k x) := by
 have hj' : j < xs.length := by rw [h.1]; exact hj
 obtain ⟨b, off, v, hA, hv, hc⟩ := h.2.2.get (j := j) (by simpa using hj');rw [List.getElem?_map, List.getElem?_eq_getElem hj'] at hv;simp only [Option.map_some, Option.some.injEq] at hv;subst hv;exact ⟨b, off, xs[j], hA, List.getElem?_eq_getElem hj', h.2.1 _ (List.getElem_mem hj'), hc⟩
theorem ah {x : Int} (h : (Lit.int .u32 x).wf = true) : 0 <= x /\ x <= 4294967295 := by
 simp [Lit.wf, IntKind.min, IntKind.max, IntKind.bits, IntKind.signed] at h; omega
theorem dE {x : Int} (h : (Lit.int .i64 x).wf = true) : -9223372036854775808 <= x /\ x <= 9223372036854775807 := by
 simp [Lit.wf, IntKind.min, IntKind.max, IntKind.bits, IntKind.signed] at h; omega
theorem Ints.take (h : Ints k w A n xs) {m : Nat} (_hm : m <= n) : Ints k w A m (xs.take m) :=
 ⟨by rw [List.length_take, h.1]; omega, fun x hx => h.2.1 x (List.mem_of_mem_take hx), by rw [List.map_take]; exact h.2.2.take m⟩
end
theorem World.ownsRow.ext' {w w' : World} {base : Nat} {e : TypeId} {size n : Nat} {v : Value} {vs : List Value} (h : w.ownsRow base e size v n vs) (he : Ext w w') : w'.ownsRow base e size v n vs :=
 h.kept (he.row none) (by cases hv : v.ownBlock <;> simp)
theorem World.ownsRow.mono' {w : World} {base base' : Nat} {e : TypeId} {size n : Nat} {v : Value} {vs : List Value} (h : w.ownsRow base e size v n vs) (_hb : base' <= base) : w.ownsRow base' e size v n vs := by
 refine ⟨h.1, ?_⟩
 rcases h.2 with hn | ⟨g, cap, cur, hv, hg, rest⟩
 .
  exact .inl hn
 .
  exact .inr ⟨g, cap, cur, hv, by omega, rest⟩
/-- A slice of integers in memory from block 'base' on, with a row of its own, which reads as 'xs'. -/
structure OwnS (k : IntKind) (e : TypeId) (base : Nat) (w : World) (A : Option Addr) (n c : Nat) (xs : List Int) : Prop where
 own : w.ownsRow base e 1 (.slice A n c) n (xs.map (Value.int k))
 len : xs.length = n
 wf : ∀ x ∈ xs, (Lit.int k x).wf = true
section
variable {k : IntKind} {e : TypeId} {base : Nat} {w w' : World} {A : Option Addr} {n c : Nat} {xs : List Int}
theorem OwnS.ints (h : OwnS k e base w A n c xs) : Ints k w A n xs := ⟨h.len, h.wf, At.of_own h.own⟩
theorem OwnS.ext (h : OwnS k e base w A n c xs) (he : Ext w w') : OwnS k e base w' A n c xs := ⟨World.ownsRow.ext' h.own he, h.len, h.wf⟩
theorem OwnS.mono {base' : Nat} (h : OwnS k e base w A n c xs) (hb : base' <= base) : OwnS k e base' w A n c xs := ⟨World.ownsRow.mono' h.own hb, h.len, h.wf⟩
theorem f9 {e : TypeId} {size : Nat} {vs : List Value} (h : w.ownsRow base e size (.slice A n c) n vs) : n <= c /\ c <= 9223372036854775807 := by
 rcases h.2 with ⟨hv, h0⟩ | ⟨g, cap, cur, hv, _, _, h1, h2, _⟩
 .
  injection hv with _ _ h3; omega
 .
  injection hv with _ _ h3;subst h3;unfold maxLen at h2;exact ⟨h1, by omega⟩
theorem OwnS.cap (h : OwnS k e base w A n c xs) : n <= c /\ c <= 9223372036854775807 := f9 h.own
end
section
variable {k : IntKind} {w w' : World} {A : Option Addr} {n : Nat} {xss : List (List Int)}
end
/-- The element type 'e' of the slice type 't': one value of 'size' cells and 'bytes' bytes, whose zero is 'z'. -/
structure Elem (P : Program) (t e : TypeId) (size bytes : Nat) (z : Value) : Prop where
 und : P.underlying t = some (.slice e)
 info : ∃ i, P.info? e = some i /\ i.zero = some z /\ i.size = size /\ i.bytes = bytes
 cells : z.cells.size = size
 pos : 0 < size
theorem Elem.mk' {P : Program} {t e : TypeId} {size bytes : Nat} {z : Value} (h1 : P.underlying t = some (.slice e))
  (h2 : (P.info? e).map (fun i => (i.zero, i.size, i.bytes)) = some (some z, size, bytes)) (h3 : z.cells.size = size) (h4 : 0 < size) : Elem P t e size bytes z :=
 ⟨h1, info_parts h2, h3, h4⟩
section
variable {P : Program}
theorem o5 (w : World) {t e : TypeId} {size bytes : Nat} {z : Value} (E : Elem P t e size bytes z) (ty : TypeId) (base : Nat)
  (v : Value) (n : Nat) (xs : List Value) (hown : w.ownsRow base e size v n xs)
  (A : Option Addr) (m c : Nat) (news : List Value) (hl : news.length = m * size) (hat : At w A news) (h1 : ∀ u ∈ news, u.oneCell' = true)
  (hbytes : (n + m) * bytes <= 140737488355328) (h63 : n + m <= maxLen) (hbase : base <= w.heap.size) :
  ∃ v' w', (Builtin.append_ #[t, t] ty #[v, .slice A m c]).run P w = .ok v' w' /\ w'.ownsRow base e size v' (n + m) (xs ++ news) /\ w.grownBy w' v.ownBlock /\
   (v'.ownBlock = v.ownBlock \/ v'.ownBlock = some w.heap.size) := by
 obtain ⟨i, hi, hz, hs, hb⟩ := E.info
 rcases A with _ | ad
 .
  have hn : news = [] := by
   rcases news with _ | ⟨u, us⟩
   .
    rfl
   .
    obtain ⟨b, off, hA, _⟩ := hat (by simp)
    cases hA
  subst hn
  have hm : m = 0 := by
   have h0 : m * size = 0 := by simpa using hl.symm
   rcases Nat.mul_eq_zero.1 h0 with h | h
   .
    exact h
   .
    have := E.pos; omega
  subst hm;refine ⟨v, w, ?_, by simpa using hown, World.grownBy.refl w _, .inl rfl⟩
  rcases hown.2 with ⟨rfl, rfl⟩ | ⟨g, cap, cur, rfl, _, _, hnc, _⟩
  .
   simp [Builtin.append_, run_underlying E.und, sizeOf, typeInfo, hi, Builtin.lenOf, Builtin.firstCells]
  .
   simp [Builtin.append_, run_underlying E.und, sizeOf, typeInfo, hi, Builtin.lenOf, Builtin.firstCells, hnc, storeCells]
 .
  obtain ⟨v', w', hrun, h2, h3, _, h5⟩ := run_append_own_at (P := P) w base t ty e i z size bytes E.und hi hz hs hb E.cells E.pos v n xs hown ad m c news hl (hat.add ad rfl) h1 h63 hbytes hbase;exact ⟨v', w', hrun, h2, h3, h5⟩
/-- 'append(s, x...)' onto a row of the call's own, whatever the source. -/
theorem au (w : World) {t e : TypeId} {size bytes : Nat} {z : Value} (E : Elem P t e size bytes z) {ops : Array Oper} {rest : List Oper} {o : Oper} {a : Act} {Q : Exit -> Act -> World -> Prop}
  (hgd : o.guard = none) (s x : Operand) (ho : o.op = .call { callee := .builtin .append, args := #[s, x], argTypes := #[t, t] })
  (base : Nat) (v : Value) (n : Nat) (xs : List Value) (hs : a.eval s = v) (hown : w.ownsRow base e size v n xs)
  (A : Option Addr) (m c : Nat) (news : List Value) (hx : a.eval x = .slice A m c) (hl : news.length = m * size) (hat : At w A news) (h1 : ∀ u ∈ news, u.oneCell' = true)
  (hbytes : (n + m) * bytes <= 140737488355328) (h63 : n + m <= maxLen) (hbase : base <= w.heap.size)
  (h : ∀ v' w', w'.ownsRow base e size v' (n + m) (xs ++ news) -> w.grownBy w' v.ownBlock -> (v'.ownBlock = v.ownBlock \/ v'.ownBlock = some w.heap.size) -> wpList P ops Q rest (a.put o.dst v') w') :
  wpList P ops Q (o :: rest) a w :=
 wpList_plain hgd fun K hK => by
  obtain ⟨v', w', hrun, h2, h3, h4⟩ := o5 (P := P) w E o.type base v n xs hown A m c news hl hat h1 hbytes h63 hbase;unfold Oper.wp execOp;simp only [ho, resolve, invoke, builtin, Sem.run_bind, Sem.run_pure, Result.andThen_ok, List.map_toArray, List.map_cons, List.map_nil, hs, hx, hrun];exact hK _ _ (h v' w' h2 h3 h4)
/-- 'make([]T, n, c)', T of one cell. -/
theorem ap (w : World) {t e : TypeId} {bytes : Nat} {z : Value} (E : Elem P t e 1 bytes z) (hz1 : z.cells = #[z]) {ops : Array Oper} {rest : List Oper} {o : Oper} {a : Act} {Q : Exit -> Act -> World -> Prop}
  (hgd : o.guard = none) (l c : Operand) (ho : o.op = .makeSlice t l c) (base : Nat) (kl kc : IntKind) (L C : Int) (n m : Nat) (hl : a.eval l = .int kl L) (hc : a.eval c = .int kc C)
  (hL : L = n) (hC : C = m) (hnm : n <= m) (_hb : bytes * m <= 281474976710656) (hm : m <= maxLen) (hbase : base <= w.heap.size)
  (h : ∀ w', w'.ownsRow base e 1 (.slice (some ⟨w.heap.size, 0, none⟩) n m) n (List.replicate n z) -> Ext w w' -> w.heap.size < w'.heap.size -> wpList P ops Q rest (a.put o.dst (.slice (some ⟨w.heap.size, 0, none⟩) n m)) w') :
  wpList P ops Q (o :: rest) a w :=
 wpList_plain hgd fun K hK => by
  obtain ⟨i, hi, hz, hs, hby⟩ := E.info;subst hL hC hby
  have hbI : (i.bytes : Int) * (m : Int) <= 281474976710656 := by
   have h : ((i.bytes * m : Nat) : Int) <= 281474976710656 := by omega
   rwa [Int.natCast_mul] at h
  have hrun := run_make (P := P) w t e i z E.und hi hz kl kc n m (by omega) (by omega) hbI (by unfold maxLen at hm; omega);simp only [Int.toNat_natCast] at hrun;rw [hs, Nat.mul_one, hz1] at hrun
  have hown : (w.alloc (.cells (madeCells #[z] m) e)).ownsRow base e 1 (.slice (some ⟨w.heap.size, 0, none⟩) n m) n (List.replicate n z) := by
   refine ⟨by simp, .inr ⟨w.heap.size, m, _, rfl, hbase, heap_alloc_new w _, hnm, hm, by rw [size_madeCells]; simp, ?_⟩⟩;rw [toList_madeCells_one, Nat.mul_one, List.take_replicate, Nat.min_eq_left hnm]
  unfold Oper.wp;simp [execOp, ho, hl, hc, hrun, Result.andThen];exact hK _ _ (h _ hown ((Ext.refl w).alloc _) (by simp))
/-- 'copy(d, s)' into a row of the call's own, from its head, elements of one cell. -/
theorem eo (w : World) {t u e : TypeId} {bytes : Nat} {z : Value} (E : Elem P t e 1 bytes z) {ops : Array Oper} {rest : List Oper} {o : Oper} {a : Act} {Q : Exit -> Act -> World -> Prop}
  (hgd : o.guard = none) (d s : Operand) (ho : o.op = .call { callee := .builtin .copy, args := #[d, s], argTypes := #[t, u] }) (base : Nat)
  (D : Option Addr) (n dc : Nat) (xs : List Value) (hd : a.eval d = .slice D n dc) (hown : w.ownsRow base e 1 (.slice D n dc) n xs)
  (A : Option Addr) (m c : Nat) (news : List Value) (hx : a.eval s = .slice A m c) (hl : news.length = m) (hat : At w A news) (h1 : ∀ u ∈ news, u.oneCell' = true)
  (h : ∀ w' (r : Int), w'.ownsRow base e 1 (.slice D n dc) n (news.take n ++ xs.drop m) -> w.grownBy w' (Value.slice D n dc).ownBlock -> Hid (r = (Nat.min m n : Nat)) -> wpList P ops Q rest (a.put o.dst (.int .i64 r)) w') :
  wpList P ops Q (o :: rest) a w := by
 obtain ⟨i, hi, hz, hs, hby⟩ := E.info;have hsz : (P.info? e).map (·.size) = some 1 := by rw [hi]; simp [hs]
 have hxl : xs.length = n := by simpa using hown.1
 by_cases h0 : Nat.min m n = 0
 .
  refine wpList_copy_nothing hgd d s t u ho e E.und hsz D A n dc m c hd hx h0 ?_
  have e1 : news.take n ++ xs.drop m = xs := by
   rcases Nat.le_total m n with hmn | hmn
   .
    have hm0 : m = 0 := by simpa [Nat.min_eq_left hmn] using h0
    subst hm0;obtain rfl : news = [] := List.eq_nil_of_length_eq_zero hl;simp
   .
    have hn0 : n = 0 := by simpa [Nat.min_eq_right hmn] using h0
    subst hn0;obtain rfl : xs = [] := List.eq_nil_of_length_eq_zero hxl;simp
  exact h w 0 (by rw [e1]; exact hown) (World.grownBy.refl w _) (by rw [h0]; rfl)
 .
  have hq : (m <= n /\ Nat.min m n = m) \/ (n <= m /\ Nat.min m n = n) := by
   rcases Nat.le_total m n with hmn | hmn
   .
    exact .inl ⟨hmn, Nat.min_eq_left hmn⟩
   .
    exact .inr ⟨hmn, Nat.min_eq_right hmn⟩
  have hmp : 0 < m := by omega
  have hnp : 0 < n := by omega
  rcases hown.2 with ⟨_, h3⟩ | ⟨g, cap, cur, hv, hbg, hg, hnc, hcm, hcs, htake⟩
  .
   omega
  .
   simp only [Value.slice.injEq] at hv;obtain ⟨rfl, _, rfl⟩ := hv;obtain ⟨b, off, rfl, hcell⟩ := hat (by intro e; subst e; simp at hl; omega);have hlen : (news.take n).length = Nat.min m n := by rw [List.length_take, hl]; exact Nat.min_comm n m
   have hcs' : cur.size = dc := by simpa using hcs
   refine wpList_copy_own hgd d s t u ho e E.und hsz g 0 n dc ⟨b, off, none⟩ m c hd hx cur e hg (news.take n) hlen ?_ ?_ ?_ ?_
   .
    intro j v hv;rw [Addr.add_lit];rw [List.getElem?_take] at hv;split at hv
    .
     exact hcell j v hv
    .
     cases hv
   .
    rw [hlen, hcs'];omega
   .
    exact fun v hv => h1 v (List.mem_of_mem_take hv)
   .
    rw [hlen];refine h _ _ ⟨?_, .inr ⟨g, dc, _, rfl, hbg, setRow_heap w g cur _ e _ hg, hnc, hcm, ?_, ?_⟩⟩ ⟨rfl, rfl, rfl, by simp, fun k _ hk => setRow_other w g k _ (fun e => hk (by simp [Value.ownBlock, e]))⟩ rfl
    .
     rw [List.length_append, hlen, List.length_drop, hxl];omega
    .
     simp only [List.size_toArray, List.length_append, hlen, List.length_take, List.length_drop, Array.length_toList, hcs'];omega
    .
     simp only [Nat.mul_one] at htake |-;rw [<- htake];simp only [List.take_zero, List.nil_append, Nat.zero_add];rw [List.take_append, hlen, List.take_take, Nat.min_self, List.drop_take]
     rcases hq with ⟨hmn, hq⟩ | ⟨hmn, hq⟩
     .
      rw [hq]
     .
      rw [hq];simp [Nat.sub_eq_zero_of_le hmn]
/-- 'x[l:]' -/
theorem gP (w : World) {t e : TypeId} {size bytes : Nat} {z : Value} (E : Elem P t e size bytes z) {ops : Array Oper} {rest : List Oper} {o : Oper} {a : Act} {Q : Exit -> Act -> World -> Prop}
  (hgd : o.guard = none) (x lo : Operand) (ho : o.op = .slice t x (some lo) none none) (A : Option Addr) (n c : Nat) (hx : a.eval x = .slice A n c) (kl : IntKind) (L : Int) (l : Nat) (hl : a.eval lo = .int kl L) (hL : L = l) (hn : l <= n) (_hc : n <= c)
  (h : ∀ A', (∀ w' vs, At w' A vs -> vs.length = n * size -> At w' A' (vs.drop (l * size))) -> wpList P ops Q rest (a.put o.dst (.slice A' (n - l) (c - l))) w) :
  wpList P ops Q (o :: rest) a w :=
 wpList_plain hgd fun K hK => by
  subst hL;obtain ⟨i, hi, hz, hs, hby⟩ := E.info
  have hrun : (Instr.sliceAt t (.slice A n c) (some (.int kl l)) none none).run P w = .ok (.slice (if c = l then A else A.map (·.add (l * size))) (n - l) (c - l)) w := by
   simp [Instr.sliceAt, Instr.slice, run_underlying E.und, Instr.sliceBounds, run_sliceBound, sizeOf, typeInfo, hi, hs, hn]
  unfold Oper.wp;simp [execOp, ho, hx, hl, hrun, Result.andThen];refine hK _ _ (h _ fun w' vs hat hlen => ?_);refine hat.drop _ (fun hlt b off hA => ?_);rw [hlen] at hlt;have : l < n := Nat.lt_of_mul_lt_mul_right hlt;rw [if_neg (by omega), hA];simp [Addr.add_lit]
/-- 'x[:h]' -/
theorem eI (w : World) {t e : TypeId} {size bytes : Nat} {z : Value} (E : Elem P t e size bytes z) {ops : Array Oper} {rest : List Oper} {o : Oper} {a : Act} {Q : Exit -> Act -> World -> Prop}
  (hgd : o.guard = none) (x hi' : Operand) (ho : o.op = .slice t x none (some hi') none) (A : Option Addr) (n c : Nat) (hx : a.eval x = .slice A n c) (kh : IntKind) (Hv : Int) (m : Nat) (hh : a.eval hi' = .int kh Hv) (hH : Hv = m) (hm : m <= c)
  (h : wpList P ops Q rest (a.put o.dst (.slice A m c)) w) :
  wpList P ops Q (o :: rest) a w :=
 wpList_plain hgd fun K hK => by
  subst hH;obtain ⟨i, hi, hz, hs, hby⟩ := E.info;have e0 : A.map (·.add 0) = A := by cases A <;> simp [Addr.add]
  have hrun : (Instr.sliceAt t (.slice A n c) none (some (.int kh m)) none).run P w = .ok (.slice A m c) w := by
   simp [Instr.sliceAt, Instr.slice, run_underlying E.und, Instr.sliceBounds, run_sliceBound, sizeOf, typeInfo, hi, hm, e0]
  unfold Oper.wp;simp [execOp, ho, hx, hh, hrun, Result.andThen];exact hK _ _ h
end
end Go.Proofs.Ytikhlcgnlbinfaa
namespace Go.Proofs.Ytikhlcgnlbinfaa
open Lib (hid)
open Go.ChangeShapes Go.WideShapes Go.ChangeAt Go.RowKit
theorem own : ownKnob Try.prog.godebug = none := by kernel_rfl
theorem o6 : laidOutB Try.prog = true := by kernel_rfl
end Go.Proofs.Ytikhlcgnlbinfaa
namespace Go.Proofs.Ytikhlcgnlbinfaa
open Lib (hid)
open Go.RowKit
/-- Block 'g' is just the cells 'cs'; none is frozen. -/
def Blk (w : World) (g : Nat) (t : TypeId) (cs : Array Value) : Prop := w.heap[g]? = some (.cells cs t (0, 0))
section
variable {w w' : World} {g : Nat} {t : TypeId} {cs : Array Value}
theorem Blk.lt (h : Blk w g t cs) : g < w.heap.size := (Array.getElem?_eq_some_iff.1 h).1
theorem Blk.cell (h : Blk w g t cs) (i : Nat) : w.cell? ⟨g, i, none⟩ = cs[i]? := cell_of_row w g i cs t (0, 0) h
theorem Blk.free (h : Blk w g t cs) (i : Nat) : w.frozen? ⟨g, i, none⟩ = false := by
 unfold World.frozen?; rw [show w.heap[g]? = some (.cells cs t (0, 0)) from h]; simp
theorem Blk.new (w : World) (t : TypeId) (cs : Array Value) : Blk (w.alloc (.cells cs t)) w.heap.size t cs := heap_alloc_new w _
theorem Blk.ext (h : Blk w g t cs) (he : Ext w w') : Blk w' g t cs := (Below.block he g h.lt).trans h
theorem Blk.drewN (h : Blk w g t cs) (n : Nat) : Blk (w.drewN n) g t cs := h
theorem Blk.drew (h : Blk w g t cs) : Blk w.drew g t cs := h
theorem Blk.alloc (h : Blk w g t cs) (o : Obj) : Blk (w.alloc o) g t cs := (Below.heap_alloc w o g h.lt).trans h
theorem Blk.set (h : Blk w g t cs) (i : Nat) (u : Value) : Blk (w.setCell ⟨g, i, none⟩ u) g t (cs.setIfInBounds i u) := by
 unfold Blk at h |-;simp [World.setCell, Array.getElem?_modify, h]
theorem Blk.far (h : Blk w g t cs) {p : Addr} (hp : g ≠ p.block) (u : Value) : Blk (w.setCell p u) g t cs := (Below.heap_setCell w p u g hp).trans h
theorem Blk.grown {row : Option Nat} (h : Blk w g t cs) (hb : w.grownBy w' row) (hg : some g ≠ row) : Blk w' g t cs := (hb.block g h.lt hg).trans h
end
/-- A struct of three fields, in a block of its own: its cells. -/
theorem Blk.three {w : World} {g : Nat} {t : TypeId} {a b c : Value} (h : Blk w g t #[a, b, c]) :
  w.cell? ⟨g, 0, none⟩ = some a /\ w.cell? ⟨g, 1, none⟩ = some b /\ w.cell? ⟨g, 2, none⟩ = some c /\ w.frozen? ⟨g, 0, none⟩ = false /\ w.frozen? ⟨g, 1, none⟩ = false /\ w.frozen? ⟨g, 2, none⟩ = false :=
 ⟨h.cell 0, h.cell 1, h.cell 2, h.free 0, h.free 1, h.free 2⟩
/-- The cells 'vs' are those of the elements 'xs', one behind the other. -/
def CsR {α : Type} (R : List Value -> α -> Prop) : List Value -> List α -> Prop
 | vs, [] => vs = []
 | vs, x :: xs => ∃ cs rest, vs = cs ++ rest /\ R cs x /\ CsR R rest xs
section
variable {α : Type} {R R' : List Value -> α -> Prop} {vs cs : List Value} {xs : List α} {x : α}
theorem CsR.snoc (h : CsR R vs xs) (hx : R cs x) : CsR R (vs ++ cs) (xs ++ [x]) := by
 induction xs generalizing vs with
 | nil =>
  obtain rfl : vs = [] := h;exact ⟨cs, [], by simp, hx, rfl⟩
 | cons y ys ih =>
  obtain ⟨ds, rest, rfl, h2, h3⟩ := h;exact ⟨ds, rest ++ cs, by simp, h2, ih h3⟩
theorem CsR.len {k : Nat} (h : CsR R vs xs) (hk : ∀ cs x, R cs x -> cs.length = k) : vs.length = xs.length * k := by
 induction xs generalizing vs with
 | nil => obtain rfl : vs = [] := h; simp
 | cons y ys ih =>
  obtain ⟨cs, rest, rfl, h2, h3⟩ := h;rw [List.length_append, hk _ _ h2, ih h3, List.length_cons, Nat.succ_mul]; omega
end
theorem At.new' (w : World) (vs : List Value) (t : TypeId) {N : Nat} (h : w.heap.size = N) : At (w.alloc (.cells vs.toArray t)) (some ⟨N, 0, none⟩) vs := by
 subst h; exact At.new w vs t
/-- Two rows of different element types never share a block. -/
theorem de {w : World} {base base' : Nat} {e e' : TypeId} {size size' n n' : Nat} {v v' : Value} {vs vs' : List Value} (h : w.ownsRow base e size v n vs) (h' : w.ownsRow base' e' size' v' n' vs') (hne : e ≠ e') : v.ownBlock = none \/ v.ownBlock ≠ v'.ownBlock := by
 rcases h.2 with ⟨rfl, _⟩ | ⟨g, cap, cur, rfl, _, hg, _⟩
 .
  exact .inl rfl
 .
  right
  rcases h'.2 with ⟨rfl, _⟩ | ⟨g', cap', cur', rfl, _, hg', _⟩
  .
   simp [Value.ownBlock]
  .
   intro he;simp [Value.ownBlock] at he;subst he;rw [hg] at hg';injection hg' with hg';injection hg' with _ h3;exact hne h3
end Go.Proofs.Ytikhlcgnlbinfaa
namespace Go.Proofs.Ytikhlcgnlbinfaa
open Lib (hid)
open Go.ChangeShapes Go.WideShapes Go.ChangeAt Go.RowKit Go.Deep
theorem jh {α : Type} {R : List Value -> α -> Prop} {P : Program} {W : World} {H : Type} {enc : TypeId × Value -> H} {t e : TypeId} {a : Option Addr} {len cap fuel k : Nat} {y : DataW H × List MemPlace} {b : Nat} {sp : Nat -> Bool} {hd : Bool}
  (ht : P.underlying t = some (.slice e)) (hk : P.cellsOf e = k) (hR : ∀ cs x, R cs x -> cs.length = k) (hel : ∀ fuel cs z, cs.length = k -> DataW.trod enc P W b sp hd fuel e cs = some z -> ∃ x, R cs x)
  (hf : DataW.trod enc P W b sp hd fuel t [.slice a len cap] = some y) :
  ∃ (xs : List α) (vs : List Value), xs.length = len /\ CsR R vs xs /\ At W a vs /\ len <= cap /\ cap <= 9223372036854775807 := by
 rcases open_slice ht hf with ⟨hcs, _⟩ | ⟨ad, l, c, m, n, D, Pl, hcs, _, hl, hm, hmm, _, hx⟩
 .
  simp at hcs;obtain ⟨rfl, rfl, rfl⟩ := hcs;exact ⟨[], [], rfl, rfl, At.nil, by omega, by omega⟩
 .
  simp at hcs;obtain ⟨rfl, rfl, rfl⟩ := hcs;rw [hk] at hx;have hlm : len <= m := by rw [hmm]; split <;> omega
  have key : ∀ j, j <= len -> ∃ (xs : List α) (vs : List Value), xs.length = j /\ CsR R vs xs /\ ∀ i u, vs[i]? = some u -> W.cell? (ad.add i) = some u := by
   intro j
   induction j with
   | zero => intro _; exact ⟨[], [], rfl, rfl, by simp⟩
   | succ j ih =>
    intro hj;obtain ⟨xs, vs, h1, h2, h3⟩ := ih (by omega);obtain ⟨cs, h4, h5⟩ := hx j (by omega);obtain ⟨_, h7, h8⟩ := World.cells?_some h4;obtain ⟨x, h6⟩ := hel _ _ _ h7 h5;refine ⟨xs ++ [x], vs ++ cs, by simp [h1], h2.snoc h6, fun i u hu => ?_⟩;have hvl := h2.len hR;rw [h1] at hvl
    rcases Nat.lt_or_ge i vs.length with hi | hi
    .
     rw [List.getElem?_append_left hi] at hu; exact h3 i u hu
    .
     rw [List.getElem?_append_right hi] at hu
     have hil : i - vs.length < k := by
      have := (List.getElem?_eq_some_iff.1 hu).1;rw [h7] at this; exact this
     have h9 := h8 (i - vs.length) hil;rw [hu] at h9
     have e : (ad.add (j * k)).add (i - vs.length) = ad.add i := by
      have hij : i = j * k + (i - vs.length) := by omega
      generalize i - vs.length = r at *;subst hij;unfold Addr.add
      by_cases h10 : j * k = 0 <;> by_cases h11 : r = 0 <;> simp [h10, h11, Nat.add_assoc]
     rw [e] at h9;exact h9
  obtain ⟨xs, vs, h1, h2, h3⟩ := key len (Nat.le_refl _);refine ⟨xs, vs, h1, h2, fun hne => ?_, hl, by unfold maxLen at hm; omega⟩;obtain ⟨bb, off, spot⟩ := ad
  have h0 : ∃ u, vs[0]? = some u := by
   cases vs with
   | nil => exact absurd rfl hne
   | cons v vs => exact ⟨v, rfl⟩
  obtain ⟨u, hu⟩ := h0;have hspot : spot = none := by simpa [Addr.add] using World.cell?_spot (h3 0 u hu)
  subst hspot;exact ⟨bb, off, rfl, fun j v hv => by rw [<- Addr.add_lit]; exact h3 j v hv⟩
end Go.Proofs.Ytikhlcgnlbinfaa
namespace Go.Proofs.Ytikhlcgnlbinfaa
open Lib (hid)
open Go.RowKit
structure Keeps (L : List Nat) (w w' : World) : Prop where
 os : w'.os = w.os
 tape : w'.tape = w.tape
 output : w'.output = w.output
 size : w.heap.size <= w'.heap.size
 block : ∀ k, k < w.heap.size -> k ∉ L -> w'.heap[k]? = w.heap[k]?
section
variable {L M : List Nat} {w w1 w2 w' : World} {B : Nat}
theorem Keeps.refl (L : List Nat) (w : World) : Keeps L w w := ⟨rfl, rfl, rfl, Nat.le_refl _, fun _ _ _ => rfl⟩
theorem Keeps.trans (h : Keeps L w w1) (k : Keeps L w1 w2) : Keeps L w w2 :=
 ⟨k.os.trans h.os, k.tape.trans h.tape, k.output.trans h.output, Nat.le_trans h.size k.size, fun i hi hn => (k.block i (Nat.lt_of_lt_of_le hi h.size) hn).trans (h.block i hi hn)⟩
theorem Keeps.mono (h : Keeps L w w') (hL : ∀ k ∈ L, k < w.heap.size -> k ∈ M) : Keeps M w w' := ⟨h.os, h.tape, h.output, h.size, fun i hi hn => h.block i hi fun hl => hn (hL i hl hi)⟩
theorem Keeps.of_ext (h : Ext w w') (L : List Nat) : Keeps L w w' := ⟨h.os, h.tape, h.output, h.size, fun i hi _ => h.block i hi⟩
theorem Keeps.of_grown {row : Option Nat} (h : w.grownBy w' row) (hr : ∀ k, row = some k -> k ∈ L) : Keeps L w w' :=
 ⟨h.os, h.tape, h.output, h.size, fun i hi hn => h.block i hi fun e => hn (hr i e.symm)⟩
/-- Behind such a call memory has still only grown since an earlier world, if what was written into is newer. -/
theorem Keeps.ext {w0 : World} (h : Keeps L w w') (he : Ext w0 w) (hL : ∀ k ∈ L, w0.heap.size <= k) : Ext w0 w' :=
 ⟨h.os.trans he.os, h.tape.trans he.tape, h.output.trans he.output, Nat.le_trans he.size h.size, fun i hi =>
  (h.block i (Nat.lt_of_lt_of_le hi he.size) fun hl => by have := hL i hl; omega).trans (he.block i hi)⟩
theorem Keeps.setCell (h : Keeps L w w') {p : Addr} (hp : p.block ∈ L \/ w.heap.size <= p.block) (u : Value) : Keeps L w (w'.setCell p u) :=
 ⟨h.os, h.tape, h.output, by simpa using h.size, fun i hi hn => (Below.heap_setCell w' p u i (fun e => by rcases hp with hp | hp; exact hn (e ▸ hp); omega)).trans (h.block i hi hn)⟩
theorem Keeps.drew (h : Keeps L w w') : Keeps L w w'.drew := h.trans (.of_ext (Ext.refl _).drew L)
/-- Block k holds no bytes. -/
def NoRow (tb : TypeId) (w : World) (k : Nat) : Prop := ∀ cs fz, w.heap[k]? ≠ some (.cells cs tb fz)
theorem NoRow.of_own {tb te : TypeId} {base size n g : Nat} {v : Value} {vs : List Value} (h : w.ownsRow base te size v n vs) (hg : v.ownBlock = some g) (hne : te ≠ tb) : NoRow tb w g := by
 intro cs' fz e
 rcases h.2 with ⟨rfl, _⟩ | ⟨g', cap, cur, rfl, _, hb, _⟩
 .
  simp [Value.ownBlock] at hg
 .
  simp [Value.ownBlock] at hg;subst hg;rw [hb] at e;injection e with e;injection e with _ e;exact hne e
theorem aj {e : TypeId} {base size n : Nat} {v : Value} {vs : List Value} (h : w.ownsRow base e size v n vs) (hk : Keeps L w w') (hn : ∀ g, v.ownBlock = some g -> g ∉ L) : w'.ownsRow base e size v n vs := by
 refine ⟨h.1, ?_⟩
 rcases h.2 with hv | ⟨g, cap, cur, rfl, hb, hg, rest⟩
 .
  exact .inl hv
 .
  exact .inr ⟨g, cap, cur, rfl, hb, (hk.block g (Array.getElem?_eq_some_iff.1 hg).1 (hn g rfl)).trans hg, rest⟩
theorem Blk.keeps {g : Nat} {t : TypeId} {cs : Array Value} (h : Blk w g t cs) (hk : Keeps L w w') (hn : g ∉ L) : Blk w' g t cs := (hk.block g h.lt hn).trans h
end
theorem cA {w : World} {base g size n c : Nat} {e : TypeId} {xs : List Value} (h : w.ownsRow base e size (.slice (some ⟨g, 0, none⟩) n c) n xs) : ∃ cur, Blk w g e cur /\ base <= g /\ n <= c /\ c <= maxLen /\ cur.size = c * size /\ cur.toList.take (n * size) = xs := by
 rcases h.2 with ⟨h0, _⟩ | ⟨g', cap, cur, hv, hb, hg, h1, h2, h3, h4⟩
 .
  cases h0
 .
  cases hv; exact ⟨cur, hg, hb, h1, h2, h3, h4⟩
theorem eU {w : World} {base : Nat} {e : TypeId} {size n c : Nat} {A : Option Addr} {vs : List Value} (h : w.ownsRow base e size (.slice A n c) n vs) (_hn : 0 < n) : ∃ g, A = some ⟨g, 0, none⟩ /\ base <= g /\ g < w.heap.size := by
 rcases h.2 with ⟨h0, _⟩ | ⟨g', cap, cur, hv, hb, hg, _⟩
 .
  injection h0 with h1 h2 h3; omega
 .
  injection hv with h1 h2 h3;exact ⟨g', h1, hb, Blk.lt hg⟩
theorem bq {w : World} {base g size n c i : Nat} {e : TypeId} {xs : List Value} {u : Value} (h : w.ownsRow base e size (.slice (some ⟨g, 0, none⟩) n c) n xs) : (w.setCell ⟨g, i, none⟩ u).ownsRow base e size (.slice (some ⟨g, 0, none⟩) n c) n (xs.set i u) := by
 obtain ⟨cur, hB, hb, h1, h2, h3, h4⟩ := cA h;refine ⟨by rw [List.length_set]; exact h.1, .inr ⟨g, c, cur.setIfInBounds i u, rfl, hb, hB.set i u, h1, h2, by simp [h3], ?_⟩⟩;rw [Array.toList_setIfInBounds, List.take_set, h4]
theorem cB {w : World} {base : Nat} {e : TypeId} {size n g : Nat} {v : Value} {vs : List Value} (h : w.ownsRow base e size v n vs) (hg : v.ownBlock = some g) : base <= g /\ g < w.heap.size := by
 rcases h.2 with ⟨rfl, _⟩ | ⟨g', cap, cur, rfl, hb, hB, _⟩
 .
  simp [Value.ownBlock] at hg
 .
  simp [Value.ownBlock] at hg; subst hg; exact ⟨hb, Blk.lt hB⟩
/-- The slices 'vs' have rows of their own from block 'base' on, each of n elements, no two in one block, with the cells 'rows'. -/
structure RowsT (te : TypeId) (size base : Nat) (w : World) (n : Nat) (vs : List Value) (rows : List (List Value)) : Prop where
 len : vs.length = rows.length
 row : ∀ (j : Nat) (v : Value) (r : List Value), vs[j]? = some v -> rows[j]? = some r -> w.ownsRow base te size v n r
 far : vs.Pairwise fun u v => u.ownBlock ≠ v.ownBlock
section
variable {te : TypeId} {size base n : Nat} {w w' : World} {vs : List Value} {rows : List (List Value)}
theorem RowsT.nil (te : TypeId) (size base : Nat) (w : World) (n : Nat) : RowsT te size base w n [] [] := ⟨rfl, by simp, .nil⟩
theorem RowsT.keeps {L : List Nat} (h : RowsT te size base w n vs rows) (hk : Keeps L w w') (hn : ∀ v ∈ vs, ∀ g, v.ownBlock = some g -> g ∉ L) : RowsT te size base w' n vs rows :=
 ⟨h.len, fun j v r hv hr => aj (h.row j v r hv hr) hk (hn v (List.mem_of_getElem? hv)), h.far⟩
theorem RowsT.get (h : RowsT te size base w n vs rows) {j : Nat} {r : List Value} (hr : rows[j]? = some r) : ∃ v, vs[j]? = some v /\ w.ownsRow base te size v n r := by
 have hj : j < vs.length := by rw [h.len]; exact (List.getElem?_eq_some_iff.1 hr).1
 exact ⟨_, List.getElem?_eq_getElem hj, h.row j _ r (List.getElem?_eq_getElem hj) hr⟩
/-- Two rows change their places. -/
theorem RowsT.swap (h : RowsT te size base w n vs rows) {a b : Nat} {va vb : Value} {ra rb : List Value} (h1 : vs[a]? = some va) (h2 : vs[b]? = some vb) (h3 : rows[a]? = some ra) (h4 : rows[b]? = some rb) :
  RowsT te size base w n ((vs.set a vb).set b va) ((rows.set a rb).set b ra) := by
 have ha := (List.getElem?_eq_some_iff.1 h1).1;have hb := (List.getElem?_eq_some_iff.1 h2).1;have hra := (List.getElem?_eq_some_iff.1 h3).1;have hrb := (List.getElem?_eq_some_iff.1 h4).1
 have idx : ∀ {α : Type} (l : List α) (x y : α) (k : Nat), a < l.length -> b < l.length -> ((l.set a y).set b x)[k]? = if k = b then some x else if k = a then some y else l[k]? := by
  intro α l x y k hal hbl
  by_cases e1 : k = b
  .
   subst e1;rw [List.getElem?_set_self (by rw [List.length_set]; exact hbl), if_pos rfl]
  .
   rw [List.getElem?_set_ne (fun q => e1 q.symm), if_neg e1]
   by_cases e2 : k = a
   .
    subst e2;rw [List.getElem?_set_self hal, if_pos rfl]
   .
    rw [List.getElem?_set_ne (fun q => e2 q.symm), if_neg e2]
 refine ⟨by simp [h.len], fun k v r hv hr => ?_, ?_⟩
 .
  rw [idx vs va vb k ha hb] at hv;rw [idx rows ra rb k hra hrb] at hr
  by_cases e1 : k = b
  .
   rw [if_pos e1] at hv hr;injection hv with hv;injection hr with hr;subst hv hr;exact h.row a _ _ h1 h3
  .
   rw [if_neg e1] at hv hr
   by_cases e2 : k = a
   .
    rw [if_pos e2] at hv hr;injection hv with hv;injection hr with hr;subst hv hr;exact h.row b _ _ h2 h4
   .
    rw [if_neg e2] at hv hr;exact h.row k v r hv hr
 .
  refine List.pairwise_iff_getElem.2 fun i j hi hj hij => ?_
  have hp := List.pairwise_iff_getElem.1 h.far
  have hne : ∀ x y, (hx : x < vs.length) -> (hy : y < vs.length) -> x ≠ y -> (vs[x]).ownBlock ≠ (vs[y]).ownBlock := fun x y hx hy e => by
   rcases Nat.lt_or_gt_of_ne e with h5 | h5
   .
    exact hp x y hx hy h5
   .
    exact fun q => hp y x hy hx h5 q.symm
  have hi' : i < vs.length := by simpa using hi
  have hj' : j < vs.length := by simpa using hj
  have gi := idx vs va vb i ha hb;have gj := idx vs va vb j ha hb;rw [List.getElem?_eq_getElem hi] at gi;rw [List.getElem?_eq_getElem hj] at gj;generalize ((vs.set a vb).set b va)[i] = ui at gi |-;generalize ((vs.set a vb).set b va)[j] = uj at gj |-;have eva : va = vs[a] := by rw [List.getElem?_eq_getElem ha] at h1; injection h1 with h1; exact h1.symm
  have evb : vb = vs[b] := by rw [List.getElem?_eq_getElem hb] at h2; injection h2 with h2; exact h2.symm
  rw [eva, evb, List.getElem?_eq_getElem hi'] at gi;rw [eva, evb, List.getElem?_eq_getElem hj'] at gj
  have pick : ∀ k, (hk : k < vs.length) -> ∃ x, ∃ hx : x < vs.length, (if k = b then some vs[a] else if k = a then some vs[b] else some vs[k]) = some vs[x] /\ x = (if k = b then a else if k = a then b else k) := fun k hk => by
   by_cases e1 : k = b
   .
    exact ⟨a, ha, by rw [if_pos e1], by rw [if_pos e1]⟩
   .
    by_cases e2 : k = a
    .
     exact ⟨b, hb, by rw [if_neg e1, if_pos e2], by rw [if_neg e1, if_pos e2]⟩
    .
     exact ⟨k, hk, by rw [if_neg e1, if_neg e2], by rw [if_neg e1, if_neg e2]⟩
  obtain ⟨x, hx, ex, ex2⟩ := pick i hi';obtain ⟨y, hy, ey, ey2⟩ := pick j hj';rw [ex] at gi;rw [ey] at gj;injection gi with gi;injection gj with gj;rw [gi, gj];refine hne x y hx hy ?_;rw [ex2, ey2];split <;> split <;> (try split) <;> (try split) <;> omega
/-- Another row behind them, in a newer block. -/
theorem RowsT.push (h : RowsT te size base w n vs rows) {v : Value} {r : List Value} (hr : w.ownsRow base te size v n r) (hf : ∀ u ∈ vs, u.ownBlock ≠ v.ownBlock) : RowsT te size base w n (vs ++ [v]) (rows ++ [r]) := by
 refine ⟨by simp [h.len], fun j u s hu hs => ?_, List.pairwise_append.2 ⟨h.far, by simp, fun u hu v' hv' => by simp at hv'; subst hv'; exact hf u hu⟩⟩
 by_cases e : j < vs.length
 .
  rw [List.getElem?_append_left e] at hu;rw [List.getElem?_append_left (by rw [<- h.len]; exact e)] at hs;exact h.row j u s hu hs
 .
  rw [List.getElem?_append_right (by omega)] at hu;rw [List.getElem?_append_right (by rw [<- h.len]; omega), <- h.len] at hs;have h1 := List.mem_of_getElem? hu;have h2 := List.mem_of_getElem? hs;simp at h1 h2;subst h1 h2;exact hr
end
end Go.Proofs.Ytikhlcgnlbinfaa
namespace Go.Proofs.Ytikhlcgnlbinfaa
open Lib (hid)
/-- The number that digits denote. -/
def val (B : Int) : List Int -> Int
 | [] => 0
 | x :: xs => x + B * val B xs
/-- All are digits. -/
def Dg (B : Int) (xs : List Int) : Prop := ∀ x ∈ xs, 0 <= x /\ x < B
section
variable {B : Int} {xs ys : List Int} {x u : Int} {k : Nat}
theorem Dg.nil : Dg B [] := by simp [Dg]
theorem Dg.take (h : Dg B xs) (k : Nat) : Dg B (xs.take k) := fun x hx => h x (List.mem_of_mem_take hx)
theorem Dg.drop (h : Dg B xs) (k : Nat) : Dg B (xs.drop k) := fun x hx => h x (List.mem_of_mem_drop hx)
theorem Dg.append (h : Dg B xs) (k : Dg B ys) : Dg B (xs ++ ys) := fun x hx => by
 rcases List.mem_append.1 hx with hx | hx
 .
  exact h x hx
 .
  exact k x hx
theorem Dg.set (h : Dg B xs) (hu : 0 <= u /\ u < B) (k : Nat) : Dg B (xs.set k u) := fun x hx => by
 rcases List.mem_or_eq_of_mem_set hx with hx | hx
 .
  exact h x hx
 .
  subst hx; exact hu
theorem Dg.zeros (_hB : 0 < B) (k : Nat) : Dg B (List.replicate k 0) := fun x hx => by
 have := (List.mem_replicate.1 hx).2; omega
theorem Dg.get (h : Dg B xs) (hx : xs[k]? = some x) : 0 <= x /\ x < B := h x (List.mem_of_getElem? hx)
theorem Dg.one (hx : 0 <= x /\ x < B) : Dg B [x] := fun y hy => by simp at hy; subst hy; exact hx
theorem Dg.cons (hx : 0 <= x /\ x < B) (h : Dg B xs) : Dg B (x :: xs) := fun y hy => by
 rcases List.mem_cons.1 hy with hy | hy
 .
  subst hy; exact hx
 .
  exact h y hy
theorem dF (xs ys : List Int) : val B (xs ++ ys) = val B xs + B ^ xs.length * val B ys := by
 induction xs with
 | nil => simp [val]
 | cons x xs ih => simp only [List.cons_append, val, ih, List.length_cons, Int.pow_succ]; grind
theorem dp (x : Int) : val B [x] = x := by simp [val]
theorem bY (xs : List Int) (x : Int) : val B (xs ++ [x]) = val B xs + B ^ xs.length * x := by rw [dF, dp]
theorem bm (xs : List Int) {k : Nat} (h : k <= xs.length) : val B xs = val B (xs.take k) + B ^ k * val B (xs.drop k) := by
 have := dF (B := B) (xs.take k) (xs.drop k);rw [List.take_append_drop, List.length_take, Nat.min_eq_left h] at this;exact this
theorem ax (h : xs[k]? = some x) : val B (xs.take (k + 1)) = val B (xs.take k) + B ^ k * x := by
 have hk : k < xs.length := (List.getElem?_eq_some_iff.1 h).1;rw [List.take_add_one, h];simp only [Option.toList_some];rw [bY, List.length_take, Nat.min_eq_left (by omega)]
theorem aT (h : xs[k]? = some x) : val B (xs.drop k) = x + B * val B (xs.drop (k + 1)) := by
 have hk : k < xs.length := (List.getElem?_eq_some_iff.1 h).1;rw [List.drop_eq_getElem_cons hk, val];rw [List.getElem?_eq_getElem hk] at h;simp only [Option.some.injEq] at h;rw [h]
theorem gg (h : xs[k]? = some x) (u : Int) : val B (xs.set k u) = val B xs + B ^ k * (u - x) := by
 induction xs generalizing k with
 | nil => simp at h
 | cons y ys ih =>
  cases k with
  | zero => simp at h; subst h; simp only [List.set_cons_zero, val]; grind
  | succ k => simp only [List.set_cons_succ, val]; rw [ih (by simpa using h), Int.pow_succ]; grind
theorem fP (k : Nat) : val B (List.replicate k 0) = 0 := by
 induction k with
 | zero => rfl
 | succ k ih => rw [List.replicate_succ, val, ih]; simp
theorem az (hB : 0 < B) (h : Dg B xs) : 0 <= val B xs := by
 induction xs with
 | nil => simp [val]
 | cons x xs ih =>
  have hx := h x (List.mem_cons_self ..);have hi := ih fun y hy => h y (List.mem_cons_of_mem _ hy)
  have := Int.mul_nonneg (Int.le_of_lt hB) hi;rw [val]; omega
theorem aH (hB : 0 < B) (k : Nat) : 0 < B ^ k := Int.pow_pos hB
theorem bH (hB : 0 < B) (h : Dg B xs) : val B xs < B ^ xs.length := by
 induction xs with
 | nil => simp [val]
 | cons x xs ih =>
  have hx := h x (List.mem_cons_self ..);have hi := ih fun y hy => h y (List.mem_cons_of_mem _ hy)
  rw [val, List.length_cons, Int.pow_succ];have h1 : B * (val B xs + 1) <= B * B ^ xs.length := Int.mul_le_mul_of_nonneg_left (by omega) (Int.le_of_lt hB);have h2 : B * (val B xs + 1) = B * val B xs + B := by grind
  have h3 : B * B ^ xs.length = B ^ xs.length * B := Int.mul_comm _ _;omega
end
/-- No most significant digit is 0. -/
def Nm (xs : List Int) : Prop := xs.getLast? ≠ some 0
/-- The normal digits of a number. -/
def Rep (B : Int) (xs : List Int) (n : Nat) : Prop := Dg B xs /\ Nm xs /\ val B xs = (n : Int)
section
variable {B : Int} {xs ys : List Int} {n m : Nat}
theorem Nm.nil : Nm [] := by simp [Nm]
theorem Nm.snoc {x : Int} (h : x ≠ 0) : Nm (xs ++ [x]) := by simp [Nm, h]
theorem Nm.one {x : Int} (h : x ≠ 0) : Nm [x] := by simp [Nm, h]
theorem Nm.split (h : Nm xs) (hne : xs ≠ []) : ∃ ys x, xs = ys ++ [x] /\ x ≠ 0 := by
 refine ⟨xs.dropLast, xs.getLast hne, (List.dropLast_concat_getLast hne).symm, fun e => ?_⟩;exact h (by rw [List.getLast?_eq_some_getLast hne, e])
theorem Nm.take {k : Nat} {x : Int} (h : xs[k]? = some x) (hx : x ≠ 0) : Nm (xs.take (k + 1)) := by
 rw [List.take_add_one, h]; exact Nm.snoc hx
theorem dG (_hB : 1 < B) (hd : Dg B xs) (h : Nm xs) (hne : xs ≠ []) : B ^ (xs.length - 1) <= val B xs := by
 obtain ⟨ys, x, rfl, hx⟩ := h.split hne;have hd1 : Dg B ys := fun y hy => hd y (List.mem_append_left _ hy)
 have hx1 := hd x (List.mem_append_right _ (List.mem_singleton.2 rfl));have h0 := az (by omega) hd1;rw [bY, List.length_append, List.length_singleton, Nat.add_sub_cancel];have hp := aH (B := B) (by omega) ys.length;have : B ^ ys.length * 1 <= B ^ ys.length * x := Int.mul_le_mul_of_nonneg_left (by omega) (Int.le_of_lt hp);omega
theorem df {a b : Nat} (_hB : 1 <= B) (h : a <= b) : B ^ a <= B ^ b := by
 obtain ⟨k, rfl⟩ := Nat.exists_eq_add_of_le h;rw [Int.pow_add];have h1 := aH (B := B) (by omega) a;have h2 := aH (B := B) (by omega) k;have : B ^ a * 1 <= B ^ a * B ^ k := Int.mul_le_mul_of_nonneg_left (by omega) (Int.le_of_lt h1);omega
theorem Rep.len_le (hB : 1 < B) (h : Rep B xs n) {L : Nat} (_hn : (n : Int) < B ^ L) : xs.length <= L := by
 rcases Nat.lt_or_ge L xs.length with hl | hl
 .
  have h1 := dG hB h.1 h.2.1 (by intro e; subst e; simp at hl);rw [h.2.2] at h1;have := df (B := B) (a := L) (b := xs.length - 1) (by omega) (by omega);omega
 .
  exact hl
theorem Rep.lt (_hB : 1 < B) (h : Rep B xs n) : (n : Int) < B ^ xs.length := by rw [<- h.2.2]; exact bH (by omega) h.1
theorem Rep.nil : Rep B [] 0 := ⟨Dg.nil, Nm.nil, rfl⟩
theorem Rep.zero (hB : 1 < B) (h : Rep B xs 0) : xs = [] := by
 rcases xs with _ | ⟨x, xs⟩
 .
  rfl
 .
  have h1 := dG hB h.1 h.2.1 (by simp);rw [h.2.2] at h1;have := aH (B := B) (by omega) ((x :: xs).length - 1);omega
theorem Rep.pos (hB : 1 < B) (h : Rep B xs n) : n = 0 ↔ xs = [] := by
 constructor
 .
  rintro rfl; exact h.zero hB
 .
  rintro rfl; have := h.2.2; simp [val] at this; omega
theorem Rep.one (_hB : 1 < B) : Rep B [1] 1 := ⟨Dg.one (by omega), Nm.one (by omega), dp 1⟩
theorem Rep.small {x : Int} (_h0 : 0 < x) (_h1 : x < B) : Rep B [x] x.toNat := ⟨Dg.one (by omega), Nm.one (by omega), by rw [dp]; omega⟩
theorem Rep.single (_hB : 1 < B) {x : Int} (h : Rep B [x] n) : x = n /\ 0 < n := by
 have h1 := h.2.2;rw [dp] at h1;refine ⟨h1, ?_⟩;have := h.2.1
 rcases Nat.eq_zero_or_pos n with h0 | h0
 .
  subst h0; exact absurd (by simp [h1]) this
 .
  exact h0
theorem o7 (_hB : 1 < B) : ∀ {xs ys : List Int}, xs.length = ys.length -> Dg B xs -> Dg B ys -> val B xs = val B ys -> xs = ys := by
 intro xs
 induction xs with
 | nil => intro ys hl _ _ _; exact (List.eq_nil_of_length_eq_zero hl.symm).symm
 | cons x xs ih =>
  intro ys hl hx hy hv
  rcases ys with _ | ⟨y, ys⟩
  .
   simp at hl
  .
   have hx0 := hx x (List.mem_cons_self ..);have hy0 := hy y (List.mem_cons_self ..);rw [val, val] at hv
   have e1 : x = y := by
    have h1 : (x + B * val B xs) % B = x := by rw [Int.add_mul_emod_self_left]; exact Int.emod_eq_of_lt hx0.1 hx0.2
    have h2 : (y + B * val B ys) % B = y := by rw [Int.add_mul_emod_self_left]; exact Int.emod_eq_of_lt hy0.1 hy0.2
    rw [<- h1, hv, h2]
   subst e1;have e2 : val B xs = val B ys := Int.eq_of_mul_eq_mul_left (by omega : B ≠ 0) (by omega);rw [ih (by simpa using hl) (fun a ha => hx a (List.mem_cons_of_mem _ ha)) (fun a ha => hy a (List.mem_cons_of_mem _ ha)) e2]
theorem Rep.unique (hB : 1 < B) (h : Rep B xs n) (k : Rep B ys n) : xs = ys := by
 have h1 := h.len_le hB (k.lt hB);have h2 := k.len_le hB (h.lt hB);exact o7 hB (by omega) h.1 k.1 (by rw [h.2.2, k.2.2])
theorem Rep.lt_of_len (hB : 1 < B) (h : Rep B xs n) (k : Rep B ys m) (hl : xs.length < ys.length) : n < m := by
 have h1 := h.lt hB;have h2 := dG hB k.1 k.2.1 (by intro e; subst e; simp at hl);rw [k.2.2] at h2;have := df (B := B) (a := xs.length) (b := ys.length - 1) (by omega) (by omega);omega
theorem Rep.of_take {k : Nat} (hd : Dg B xs) (hv : val B (xs.take k) = val B xs) (hn : Nm (xs.take k)) (he : val B xs = (n : Int)) : Rep B (xs.take k) n := ⟨hd.take k, hn, by rw [hv, he]⟩
end
/-- Comparing from the most significant digit on: all digits from k on are equal. -/
theorem dP {B : Int} (_hB : 1 < B) {xs ys : List Int} {k : Nat} {x y : Int} (_hl : xs.length = ys.length) (hx : Dg B xs) (hy : Dg B ys) (h : xs.drop (k + 1) = ys.drop (k + 1)) (h1 : xs[k]? = some x) (h2 : ys[k]? = some y) (_hlt : x < y) : val B xs < val B ys := by
 have hk : k < xs.length := (List.getElem?_eq_some_iff.1 h1).1;rw [bm xs (Nat.le_of_lt hk), bm (B := B) ys (k := k) (by omega), aT h1, aT h2, h];have a1 := bH (B := B) (by omega) (hx.take k);have a2 := az (B := B) (by omega) (hy.take k);rw [List.length_take, Nat.min_eq_left (by omega)] at a1;have hp := aH (B := B) (by omega) k;have : B ^ k * (x + 1) <= B ^ k * y := Int.mul_le_mul_of_nonneg_left (by omega) (Int.le_of_lt hp);generalize B * val B (ys.drop (k + 1)) = r at *;have e1 : B ^ k * (x + r) = B ^ k * (x + 1) - B ^ k + B ^ k * r := by grind
 have e2 : B ^ k * (y + r) = B ^ k * y + B ^ k * r := by grind
 omega
end Go.Proofs.Ytikhlcgnlbinfaa
namespace Go.Proofs.Ytikhlcgnlbinfaa
open Lib (hid)
open Go.RowKit
/-- n has at most L digits. -/
def Fit (B : Int) (n L : Nat) : Prop := (n : Int) < B ^ L
section
variable {B : Int} {n m a b L : Nat} {xs : List Int}
theorem Fit.mul (hB : 0 < B) (h : Fit B n a) (_k : Fit B m b) : Fit B (n * m) (a + b) := by
 unfold Fit at *;rw [Int.pow_add, Int.natCast_mul];have h1 : (n : Int) * m <= n * B ^ b := Int.mul_le_mul_of_nonneg_left (by omega) (by omega);have h2 : (n : Int) * B ^ b < B ^ a * B ^ b := Int.mul_lt_mul_of_pos_right h (aH hB b);omega
theorem Fit.mono (hB : 1 <= B) (_h : Fit B n a) (hl : a <= b) : Fit B n b := by
 have := df (B := B) hB hl;unfold Fit at *; omega
theorem Fit.le (_h : Fit B n a) (_hl : m <= n) : Fit B m a := by unfold Fit at *; omega
theorem Fit.add (hB : 2 <= B) (_h : Fit B n a) (_k : Fit B m a) : Fit B (n + m) (a + 1) := by
 unfold Fit at *;rw [Int.pow_succ];have hp := aH (B := B) (by omega) a;have : B ^ a * 2 <= B ^ a * B := Int.mul_le_mul_of_nonneg_left hB (Int.le_of_lt hp);omega
theorem Fit.of_rep (hB : 1 < B) (h : Rep B xs n) : Fit B n xs.length := h.lt hB
theorem Fit.len (hB : 1 < B) (h : Fit B n L) (hr : Rep B xs n) : xs.length <= L := hr.len_le hB h
theorem Fit.one (_hB : 1 < B) (h : 0 < L) : Fit B 1 L := by
 have := df (B := B) (a := 1) (b := L) (by omega) h;unfold Fit; rw [Int.pow_succ, Int.pow_zero] at this; omega
theorem Fit.zero (hB : 0 < B) : Fit B 0 L := by have := aH hB L; unfold Fit; omega
end
/-- A value that is a slice of words, the normal form of n. -/
def NatV (k : IntKind) (B : Int) (w : World) (v : Value) (n : Nat) : Prop :=
 ∃ A m c xs, v = .slice A m c /\ Ints k w A m xs /\ Rep B xs n /\ m <= c /\ c <= 9223372036854775807
theorem NatV.ext {k : IntKind} {B : Int} {w w' : World} {v : Value} {n : Nat} (h : NatV k B w v n) (he : Ext w w') : NatV k B w' v n := by
 obtain ⟨A, m, c, xs, h1, h2, h3⟩ := h;exact ⟨A, m, c, xs, h1, h2.ext he, h3⟩
theorem NatV.zero {k : IntKind} {B : Int} {w : World} : NatV k B w (.slice none 0 0) 0 := ⟨none, 0, 0, [], rfl, Ints.nil, Rep.nil, by omega, by omega⟩
/-- What a call returns that makes a number. -/
def ep (k : IntKind) (B : Int) (w : World) (n : Nat) (e : Ending) (w' : World) : Prop := ∃ v, e = .returned v /\ NatV k B w' v n /\ Ext w w'
/-- Storing at place j of a row of the call's own. -/
theorem OwnS.store {k : IntKind} {e : TypeId} {base : Nat} {w : World} {A : Option Addr} {n c : Nat} {xs : List Int} (h : OwnS k e base w A n c xs) {j : Nat} (hj : j < n) :
  ∃ g x, A = some ⟨g, 0, none⟩ /\ xs[j]? = some x /\ (Lit.int k x).wf = true /\ w.cell? ⟨g, j, none⟩ = some (.int k x) /\ w.frozen? ⟨g, j, none⟩ = false /\ base <= g /\
   Hid (∀ u, (Lit.int k u).wf = true -> OwnS k e base (w.setCell ⟨g, j, none⟩ (.int k u)) A n c (xs.set j u)) := by
 have hj' : j < xs.length := by rw [h.len]; exact hj
 have hown := h.own
 rcases hown.2 with ⟨_, h0⟩ | ⟨g, cap, cur, hv, hg, _⟩
 .
  omega
 .
  injection hv with hA _ _;subst hA;have hc := hown.cellAt j (by omega);rw [List.getElem?_map, List.getElem?_eq_getElem hj'] at hc;refine ⟨g, xs[j], rfl, List.getElem?_eq_getElem hj', h.wf _ (List.getElem_mem hj'), hc, hown.frozenAt j, hg, fun u hu => ⟨?_, by rw [List.length_set, h.len], fun x hx => ?_⟩⟩
  .
   have := (hown.stored j (.int k u)).1
   rwa [<- List.map_set] at this
  .
   rcases List.mem_or_eq_of_mem_set hx with hx | hx
   .
    exact h.wf x hx
   .
    subst hx; exact hu
theorem OwnS.get {k : IntKind} {e : TypeId} {base : Nat} {w : World} {A : Option Addr} {n c : Nat} {xs : List Int} (h : OwnS k e base w A n c xs) {j : Nat} (hj : j < n) :
  ∃ g x, A = some ⟨g, 0, none⟩ /\ xs[j]? = some x /\ (Lit.int k x).wf = true /\ w.cell? ⟨g, j, none⟩ = some (.int k x) := by
 obtain ⟨g, x, h1, h2, h3, h4, _⟩ := h.store hj;exact ⟨g, x, h1, h2, h3, h4⟩
/-- A beginning of a row of the call's own. -/
theorem OwnS.front {k : IntKind} {e : TypeId} {base : Nat} {w : World} {A : Option Addr} {n c : Nat} {xs : List Int} (h : OwnS k e base w A n c xs) {m : Nat} (hm : m <= n) : OwnS k e base w A m c (xs.take m) := by
 refine ⟨⟨by simp [h.len]; omega, ?_⟩, by rw [List.length_take, h.len]; omega, fun x hx => h.wf x (List.mem_of_mem_take hx)⟩
 rcases h.own.2 with ⟨hv, h0⟩ | ⟨g, cap, cur, hv, hg, hb, h1, h2, h3, h4⟩
 .
  injection hv with hA hn hc;subst hA hc;obtain rfl : m = 0 := by omega
  exact .inl ⟨rfl, rfl⟩
 .
  injection hv with hA hn hc;subst hA hc;refine .inr ⟨g, c, cur, rfl, hg, hb, by omega, h2, h3, ?_⟩;simp only [Nat.mul_one] at h4 |-;rw [List.map_take, <- h4, List.take_take, Nat.min_eq_left hm]
theorem OwnS.natv {k : IntKind} {e : TypeId} {base : Nat} {w : World} {A : Option Addr} {n c : Nat} {xs : List Int} {B : Int} {N : Nat} (h : OwnS k e base w A n c xs) (hr : Rep B xs N) : NatV k B w (.slice A n c) N :=
 ⟨A, n, c, xs, rfl, h.ints, hr, h.cap.1, h.cap.2⟩
/-- The row that 'make' makes. -/
theorem OwnS.made {k : IntKind} {e : TypeId} {base : Nat} {w : World} {g n c : Nat} (h : w.ownsRow base e 1 (.slice (some ⟨g, 0, none⟩) n c) n (List.replicate n (.int k 0))) : OwnS k e base w (some ⟨g, 0, none⟩) n c (List.replicate n 0) := by
 refine ⟨by simpa using h, by simp, fun x hx => ?_⟩;have := (List.mem_replicate.1 hx).2;subst this
 cases k <;> decide
end Go.Proofs.Ytikhlcgnlbinfaa
namespace Go.Proofs.Ytikhlcgnlbinfaa
open Lib (hid)
section
variable {B : Int} {xs ys out : List Int} {k i j : Nat} {x y u c s : Int}
theorem aE (xs : List Int) (k : Nat) : val B (xs.take (k + 1)) = val B (xs.take k) + B ^ k * xs.getD k 0 := by
 rcases Nat.lt_or_ge k xs.length with h | h
 .
  rw [ax (List.getElem?_eq_getElem h)]; simp [List.getD, h]
 .
  rw [List.take_of_length_le (by omega), List.take_of_length_le (by omega)]; simp [List.getD, h]
theorem a8 (h : k < out.length) (u : Int) : val B ((out.set k u).take (k + 1)) = val B (out.take k) + B ^ k * u := by
 rw [aE, List.take_set_of_le (Nat.le_refl k)]; simp [List.getD, h]
theorem eV (h : Dg B xs) (hB : 0 < B) (k : Nat) : 0 <= xs.getD k 0 /\ xs.getD k 0 < B := by
 rcases Nat.lt_or_ge k xs.length with hk | hk
 .
  have := h.get (List.getElem?_eq_getElem hk); simpa [List.getD, hk] using this
 .
  simp [List.getD, hk]; exact hB
theorem aq (h : xs.length <= k) : val B (xs.take k) = val B xs := by rw [List.take_of_length_le h]
/-- One step of an addition. -/
theorem dQ (_hi : val B (out.take i) + c * B ^ i = val B (xs.take i) + val B (ys.take i)) (hl : i < out.length) (_hs : s = xs.getD i 0 + ys.getD i 0 + c) :
  val B ((out.set i (s % B)).take (i + 1)) + s / B * B ^ (i + 1) = val B (xs.take (i + 1)) + val B (ys.take (i + 1)) := by
 have e := Int.emod_add_mul_ediv s B;rw [a8 hl, aE, aE, Int.pow_succ];grind
/-- One step of a subtraction. -/
theorem mC (_hi : val B (out.take i) = val B (xs.take i) - val B (ys.take i) + c * B ^ i) (hl : i < out.length) {c' : Int} (_hs : u = xs.getD i 0 - ys.getD i 0 - c + c' * B) :
  val B ((out.set i u).take (i + 1)) = val B (xs.take (i + 1)) - val B (ys.take (i + 1)) + c' * B ^ (i + 1) := by
 rw [a8 hl, aE, aE, Int.pow_succ];grind
/-- One step of the inner loop of a multiplication: x is the digit i of the first number. -/
theorem gQ {v : Int} {n : Nat} (_hi : val B (out.take n) + c * B ^ (i + j) = v + x * val B (ys.take j) * B ^ i) (hl : i + j < n) (_hn : n <= out.length) {o : Int} (ho : out[i + j]? = some o) (_hs : s = x * ys.getD j 0 + o + c) :
  val B ((out.set (i + j) (s % B)).take n) + s / B * B ^ (i + (j + 1)) = v + x * val B (ys.take (j + 1)) * B ^ i := by
 have e := Int.emod_add_mul_ediv s B;have h1 : (out.set (i + j) (s % B)).take n = (out.take n).set (i + j) (s % B) := by rw [List.take_set]
 have h2 : (out.take n)[i + j]? = some o := by rw [List.getElem?_take, if_pos hl, ho]
 rw [h1, gg h2, aE, <- Nat.add_assoc, Int.pow_succ];have h3 : B ^ (i + j) = B ^ i * B ^ j := Int.pow_add ..;grind
/-- One step of the outer loop. -/
theorem gR {V : Int} {n : Nat} (_hi : val B (out.take n) + c * B ^ (i + j) = val B (xs.take i) * V + x * V * B ^ i) (hn : n = i + j) (hl : n < out.length) (hx : xs.getD i 0 = x) :
  val B ((out.set n c).take (n + 1)) = val B (xs.take (i + 1)) * V := by
 subst hn;rw [a8 hl, aE, hx];grind
/-- Dividing by a digit. -/
theorem kG {d r t : Int} (hi : val B (xs.drop (i + 1)) = d * val B (out.drop (i + 1)) + r) (hl : i < out.length) (hx : xs[i]? = some x) (_ht : t = r * B + x) :
  val B (xs.drop i) = d * val B ((out.set i (t / d)).drop i) + t % d := by
 have e := Int.emod_add_mul_ediv t d;have h1 : (out.set i (t / d))[i]? = some (t / d) := by simp [hl]
 have h2 : (out.set i (t / d)).drop (i + 1) = out.drop (i + 1) := by rw [List.drop_set_of_lt (by omega)]
 rw [aT hx, hi, aT h1, h2];grind
/-- Shifting to the left: p is 2 to the power n. -/
theorem mD {p t : Int} (hi : val B (out.take (i + 1)) = val B (xs.take i) * p) (hl : i + 1 < out.length) {o : Int} (ho : out[i]? = some o) (_ht : t = xs.getD i 0 * p) :
  val B (((out.set i (o + t % B)).set (i + 1) (t / B)).take (i + 2)) = val B (xs.take (i + 1)) * p := by
 have e := Int.emod_add_mul_ediv t B;have h1 : (out.set i (o + t % B)).take (i + 1) = (out.take (i + 1)).set i (o + t % B) := by rw [List.take_set]
 have h2 : (out.take (i + 1))[i]? = some o := by rw [List.getElem?_take, if_pos (by omega), ho]
 rw [a8 (by simpa using hl), h1, gg h2, hi, aE, Int.pow_succ];grind
/-- Shifting to the right: p is 2 to the power n and divides B. -/
theorem gS {p : Int} {r : Int} (hp : 0 < p) (hd : p ∣ B) (hi : p * val B (out.take i) + r = val B (xs.take i) + B ^ i * (xs.getD i 0 % p)) (hl : i < out.length) (hu : u = (xs.getD i 0 + xs.getD (i + 1) 0 * B) / p % B) (hx : Dg B xs) (hB : 0 < B) :
  p * val B ((out.set i u).take (i + 1)) + r = val B (xs.take (i + 1)) + B ^ (i + 1) * (xs.getD (i + 1) 0 % p) := by
 obtain ⟨q, rfl⟩ := hd
 have hq : 0 < q := by
  rcases Int.lt_trichotomy q 0 with h | h | h
  .
   have := Int.mul_neg_of_pos_of_neg hp h; omega
  .
   subst h; simp at hB
  .
   exact h
 have hx0 := eV hx hB i;have hx1 := eV hx hB (i + 1);obtain ⟨a, ha⟩ : ∃ a, xs.getD i 0 = a := ⟨_, rfl⟩;obtain ⟨b, hb⟩ : ∃ b, xs.getD (i + 1) 0 = b := ⟨_, rfl⟩;rw [ha] at hi hu hx0;rw [hb] at hu hx1
 have e1 : (a + b * (p * q)) / p = a / p + b * q := by
  rw [show b * (p * q) = p * (b * q) by grind, Int.add_mul_ediv_left _ _ (by omega)]
 have e2 : (a / p + b * q) % (p * q) = a / p + b % p * q := by
  have h1 : b * q = b % p * q + (b / p) * (p * q) := by
   have := Int.emod_add_mul_ediv b p;grind
  rw [h1, <- Int.add_assoc, Int.add_mul_emod_self_right];have h2 : 0 <= a / p := Int.ediv_nonneg hx0.1 (by omega);have h3 : a / p < q := Int.ediv_lt_of_lt_mul hp (by rw [Int.mul_comm]; exact hx0.2);have h4 := Int.emod_nonneg b (show p ≠ 0 by omega);have h5 := Int.emod_lt_of_pos b hp;have h6 : b % p * q <= (p - 1) * q := Int.mul_le_mul_of_nonneg_right (by omega) (by omega);have h7 : 0 <= b % p * q := Int.mul_nonneg h4 (by omega);have h8 : (p - 1) * q = p * q - q := by grind
  exact Int.emod_eq_of_lt (by omega) (by omega)
 rw [e1, e2] at hu;have e3 := Int.emod_add_mul_ediv a p;rw [a8 hl, aE, Int.pow_succ, ha, hb];grind
end
end Go.Proofs.Ytikhlcgnlbinfaa
namespace Go.Proofs.Ytikhlcgnlbinfaa
open Lib (hid)
open Go.RowKit
theorem oX : Elem Try.prog 215 129 1 4 (.int .u32 0) := Elem.mk' (by kernel_rfl) (by kernel_rfl) rfl (by decide)
/-- A number of the program. -/
def W32 (w : World) (v : Value) (n : Nat) : Prop := NatV .u32 4294967296 w v n
theorem W32.ext {w w' : World} {v : Value} {n : Nat} (h : W32 w v n) (he : Ext w w') : W32 w' v n := NatV.ext h he
theorem cS {w : World} {A : Option Addr} {n : Nat} {xs : List Int} (h : Ints .u32 w A n xs) : Dg 4294967296 xs := fun x hx => by
 have := ah (h.2.1 x hx); omega
theorem b8 {x : Int} (_h : 0 <= x /\ x < 4294967296) : (Lit.int .u32 x).wf = true := WalkArith.wf_u32 (by omega)
/-- What norm returns: a beginning without most significant zeros, of the same value. -/
def RetNorm (w : World) (A : Option Addr) (n c : Nat) (xs : List Int) (e : Ending) (w' : World) : Prop :=
 ∃ m, m <= n /\ Nm (xs.take m) /\ val 4294967296 (xs.take m) = val 4294967296 xs /\ e = .returned (.slice A m c) /\ w = w'
theorem aI (A : Option Addr) (n c : Nat) (xs : List Int) (w : World) (h : Ints .u32 w A n xs) (_hnc : n <= c) (_hcm : c <= 9223372036854775807) :
  Calls Try.prog 187 #[.slice A n c] w (RetNorm w A n c xs) := by
 have H := hid h;have HL : Hid (xs.length = n) := h.1;clear h;go_enter Try.func187, Try.ntmps187;go_wp2
 go_loopg [0] n (fun g v wr => ∃ m, m = g /\ m <= n /\ v = .slice A m c /\ Hid (val 4294967296 (xs.take m) = val 4294967296 xs) /\ w = wr)
 case atStart => exact ⟨n, rfl, Nat.le_refl _, rfl, by rw [List.take_of_length_le (by rw [HL.out]; exact Nat.le_refl _)]; rfl, rfl⟩
 case round =>
  obtain ⟨m, rfl, hm, rfl, hv, rfl⟩ := hrel
  rcases Nat.eq_zero_or_pos m with h0 | h0
  .
   subst h0;go_wp2;go_ret;exact ⟨0, by omega, by simp [Nm], hv.out, rfl, rfl⟩
  .
   obtain ⟨k, rfl⟩ : ∃ k, m = k + 1 := ⟨m - 1, by omega⟩;obtain ⟨b, off, x, rfl, hx, hwf, hc⟩ := H.out.get (j := k) (by omega);obtain ⟨hx0, hx1⟩ := ah hwf;have HX := hid hx;clear hx hwf
   by_cases hz : x = 0
   .
    have hzb : (x == 0) = true := by simpa using hz
    have HV : Hid (val 4294967296 (xs.take k) = val 4294967296 xs) := by
     have := hv.out;rw [ax HX.out, hz] at this;show _ = _;omega
    clear hz hv;go_wp2;go_roundg k
    case rel => exact ⟨k, rfl, by omega, rfl, HV, rfl⟩
    case measure => omega
   .
    have hzb : (x == 0) = false := by simpa using hz
    have HZ := hid hz;clear hz;go_wp2;go_ret;exact ⟨k + 1, hm, Nm.take HX.out HZ.out, hv.out, rfl, rfl⟩
theorem RetNorm.natv {w : World} {A : Option Addr} {n c m N : Nat} {xs : List Int} (h : Ints .u32 w A n xs) (hm : m <= n) (hN : Nm (xs.take m)) (hv : val 4294967296 (xs.take m) = val 4294967296 xs) (he : val 4294967296 xs = (N : Int)) (_hnc : n <= c) (hcm : c <= 9223372036854775807) : W32 w (.slice A m c) N :=
 ⟨A, m, c, xs.take m, rfl, h.take hm, Rep.of_take (cS h) hv hN he, by omega, hcm⟩
theorem es (n : Int) (w : World) (_h0 : 0 <= n) (_h1 : n <= 18446744073709551615) :
  Calls Try.prog 179 #[.int .u64 n] w (ep .u32 4294967296 w n.toNat) := by
 go_enter Try.func179, Try.ntmps179
 go_wp2_with fail
 have hI : Ints .u32 (w.alloc (.cells #[.int .u32 (n % 4294967296), .int .u32 (n / 4294967296)] 129)) (some ⟨w.heap.size, 0, none⟩) 2 [n % 4294967296, n / 4294967296] :=
  ⟨rfl, fun x hx => by simp at hx; rcases hx with rfl | rfl <;> exact b8 (by omega), At.new w [_, _] _⟩
 refine (aI _ _ _ _ _ hI (by omega) (by omega)).mono ?_;rintro e w1 ⟨m, hm, hN, hv, rfl, rfl⟩;have HW := hid (RetNorm.natv (N := n.toNat) (c := 2) hI hm hN hv (by simp [val]; omega) (by omega) (by omega));clear hI hm hN hv;go_wp2;go_ret;exact ⟨_, rfl, HW.out, (Ext.refl w).alloc _⟩
/-- How two numbers compare. -/
def bL (n m : Nat) : Int := if n < m then -1 else if m < n then 1 else 0
theorem cn {n m : Nat} (h : n < m) : bL n m = -1 := by simp [bL, h]
theorem dq {n m : Nat} (h : m < n) : bL n m = 1 := by
 unfold bL; rw [if_neg (by omega), if_pos h]
theorem eP {n m : Nat} (h : n = m) : bL n m = 0 := by simp [bL, h]
theorem dR (va vb : Value) (n m : Nat) (w : World) (ha : W32 w va n) (hb : W32 w vb m) :
  Calls Try.prog 182 #[va, vb] w fun e w' => e = .returned (.int .i64 (bL n m)) /\ Ext w w' := by
 obtain ⟨A, la, ca, xs, rfl, hA, hrx, hca, hcam⟩ := ha;obtain ⟨B, lb, cb, ys, rfl, hB, hry, hcb, hcbm⟩ := hb;have HA := hid hA;have HB := hid hB;have HRX := hid hrx;have HRY := hid hry;have HLA : Hid (xs.length = la) := hA.1;have HLB : Hid (ys.length = lb) := hB.1;clear hA hB hrx hry
 by_cases hne : la = lb
 .
  subst hne;have hnb : ((la : Int) != (la : Int)) = false := by simp
  go_enter Try.func182, Try.ntmps182;go_wp2
  go_loopg [5] (la + 1) (fun g i wr => ∃ k : Nat, g = k + 1 /\ k <= la /\ i = .int .i64 ((k : Int) - 1) /\ Hid (xs.drop k = ys.drop k) /\ Ext w wr)
  case atStart => exact ⟨la, rfl, Nat.le_refl _, rfl, by rw [List.drop_eq_nil_of_le (by rw [HLA.out]; exact Nat.le_refl _), List.drop_eq_nil_of_le (by rw [HLB.out]; exact Nat.le_refl _)]; rfl, Ext.refl w⟩
  case round =>
   obtain ⟨k, rfl, hk, rfl, hd, hX⟩ := hrel;have HX := hid hX;clear hX
   rcases Nat.eq_zero_or_pos k with h0 | h0
   .
    subst h0;rw [show (((0 : Nat) : Int) - 1) = -1 by omega];go_wp2;go_ret;refine ⟨?_, HX.out⟩;have e : xs = ys := by simpa using hd.out
    have := HRX.out.2.2;rw [e, HRY.out.2.2] at this;rw [eP (by omega)];rfl
   .
    obtain ⟨i, rfl⟩ : ∃ i, k = i + 1 := ⟨k - 1, by omega⟩;obtain ⟨b, off, x, rfl, hx, hwf, hc⟩ := (HA.out.ext HX.out).get (j := i) (by omega);obtain ⟨b', off', y, rfl, hy, hwf', hc'⟩ := (HB.out.ext HX.out).get (j := i) (by omega);obtain ⟨hx0, hx1⟩ := ah hwf;obtain ⟨hy0, hy1⟩ := ah hwf';have HXX := hid hx;have HYY := hid hy;have hi1 : (((i + 1 : Nat) : Int) - 1) = (i : Int) := by omega
    have hi2 : (i : Int) < (la : Int) := by omega
    have hi0 : (0 : Int) <= (i : Int) := by omega
    rw [hi1];clear hx hwf hy hwf' hi1
    by_cases hxy : x = y
    .
     have hb1 : (x != y) = false := by simpa using hxy
     have HXY := hid hxy;clear hxy;go_wp2
     go_quiet (fail)
     go_wp2;go_roundg (i + 1)
     case rel => exact ⟨i, rfl, by omega, by go_num, by
      have h1 := List.getElem?_eq_some_iff.1 HXX.out;have h2 := List.getElem?_eq_some_iff.1 HYY.out;show xs.drop i = ys.drop i;rw [List.drop_eq_getElem_cons h1.1, List.drop_eq_getElem_cons h2.1, h1.2, h2.2, HXY.out, hd.out], HX.out.drewN _⟩
     case measure => omega
    .
     have hb1 : (x != y) = true := by simpa using hxy
     by_cases hlt : x < y
     .
      have HLT := hid hlt;clear hxy;go_wp2
      go_quiet (fail)
      go_wp2
      go_quiet (fail)
      go_wp2;go_ret
      have := dP (by omega) (by rw [HLA.out, HLB.out]) HRX.out.1 HRY.out.1 hd.out HXX.out HYY.out HLT.out;rw [HRX.out.2.2, HRY.out.2.2] at this;exact ⟨by rw [cn (by omega)]; rfl, (HX.out.drewN _).drewN _⟩
     .
      have HLT : Hid (y < x) := by show y < x; omega
      clear hxy;go_wp2
      go_quiet (fail)
      go_wp2
      go_quiet (fail)
      go_wp2;go_ret
      have := dP (by omega) (by rw [HLA.out, HLB.out]) HRY.out.1 HRX.out.1 hd.out.symm HYY.out HXX.out HLT.out;rw [HRX.out.2.2, HRY.out.2.2] at this;exact ⟨by rw [dq (by omega)]; rfl, (HX.out.drewN _).drewN _⟩
 .
  have hnb : ((la : Int) != (lb : Int)) = true := by simp; omega
  by_cases hlt : la < lb
  .
   have := HRX.out.lt_of_len (by omega) HRY.out (by rw [HLA.out, HLB.out]; exact hlt);rw [cn this];clear this hne;go_enter Try.func182, Try.ntmps182;go_wp2;go_ret;exact ⟨rfl, Ext.refl w⟩
  .
   have := HRY.out.lt_of_len (by omega) HRX.out (by rw [HLA.out, HLB.out]; omega);rw [dq this];clear this hne;go_enter Try.func182, Try.ntmps182;go_wp2;go_ret;exact ⟨rfl, Ext.refl w⟩
theorem cT (x y c : Int) (w : World) (hx : 0 <= x /\ x <= 4294967295) (hy : 0 <= y /\ y <= 4294967295) (hc : 0 <= c /\ c <= 1) :
  Calls Try.prog 200 #[.int .u32 x, .int .u32 y, .int .u32 c] w fun e w' => e = .returned (.tuple #[.int .u32 ((x + y + c) % 4294967296), .int .u32 ((x + y + c) / 4294967296)]) /\ w = w' := by
 obtain ⟨hx0, hx1⟩ := hx;obtain ⟨hy0, hy1⟩ := hy;obtain ⟨hc0, hc1⟩ := hc;go_enter Try.func200, Try.ntmps200;go_wp2
 go_ret2
 exact ⟨rfl, rfl⟩
theorem qX (A B : Option Addr) (la ca lb cb : Nat) (xs ys : List Int) (n m : Nat) (w : World) (hA : Ints .u32 w A la xs) (hB : Ints .u32 w B lb ys) (hn : val 4294967296 xs = (n : Int)) (hm : val 4294967296 ys = (m : Int)) (_hl : lb <= la) (_hla : la <= 1099511627776) (_hlb : lb <= 1099511627776) :
  Calls Try.prog 181 #[.slice A la ca, .slice B lb cb] w (ep .u32 4294967296 w (n + m)) := by
 have HA := hid hA;have HB := hid hB;have HN := hid hn;have HM := hid hm;have HLA : Hid (xs.length = la) := hA.1;have HLB : Hid (ys.length = lb) := hB.1;clear hA hB hn hm;go_enter Try.func181, Try.ntmps181
 go_wp2_with (at_make; refine ap _ oX rfl rfl _ _ rfl w.heap.size _ _ _ _ (la + 1) (la + 1) rfl rfl (by omega) (by omega) (Nat.le_refl _) (by omega) (by unfold maxLen; omega) (Nat.le_refl _) ?_; intro w1 hown1 hext1 hsz1)
 have HO1 := hid (OwnS.made hown1);have HX1 := hid hext1;clear hown1 hext1 hsz1
 go_loopg [6, 22] la (fun g cy i wr => ∃ (k : Nat) (c : Int) (out : List Int), g = la - k /\ k <= la /\ i = .int .i64 k /\ cy = .int .u32 c /\ 0 <= c /\ c <= 1 /\ OwnS .u32 129 w.heap.size wr (some ⟨w.heap.size, 0, none⟩) (la + 1) (la + 1) out /\ Hid (val 4294967296 (out.take k) + c * 4294967296 ^ k = val 4294967296 (xs.take k) + val 4294967296 (ys.take k)) /\ Ext w wr)
 case atStart => exact ⟨0, 0, _, rfl, by omega, rfl, rfl, by omega, by omega, HO1.out, by simp [Hid, val], HX1.out⟩
 case round =>
  obtain ⟨k, c, out, rfl, hk, rfl, rfl, hc0, hc1, hO, hI, hX⟩ := hrel;have HX := hid hX;have HO := hid hO;clear hX hO
  by_cases hlt : k < la
  .
   obtain ⟨b1, o1, x, hAe, hx, hwf, hcx⟩ := (HA.out.ext HX.out).get hlt;subst hAe;obtain ⟨hx0, hx1⟩ := ah hwf;obtain ⟨g, z, hg, hz, _, hcz, hfz, _, hst⟩ := HO.out.store (j := k) (by omega);obtain rfl : w.heap.size = g := by injection hg with hg; injection hg
   have hk0 : (0 : Int) <= (k : Int) := by omega
   have hk1 : (k : Int) < ((la + 1 : Nat) : Int) := by omega
   have HXX := hid hx;clear hx hwf hz hg
   by_cases hlt2 : k < lb
   .
    obtain ⟨b2, o2, y, hBe, hy, hwf, hcy⟩ := (HB.out.ext HX.out).get hlt2;subst hBe;obtain ⟨hy0, hy1⟩ := ah hwf;have HYY := hid hy;clear hy hwf;have hs0 : 0 <= (x + y + c) % 4294967296 /\ (x + y + c) % 4294967296 < 4294967296 := by omega
    have HS := hid (hst.out _ (b8 hs0));have HI := hid (dQ (xs := xs) (ys := ys) (s := x + y + c) hI.out (by rw [HO.out.len]; omega) (by simp [List.getD, HXX.out, HYY.out]));clear hst hs0
    go_wp2_with fail
    refine (cT x y c _ ⟨hx0, hx1⟩ ⟨hy0, hy1⟩ ⟨hc0, hc1⟩).mono ?_;rintro e w' ⟨rfl, rfl⟩;go_wp2;go_roundg (la - (k + 1))
    case rel => exact ⟨k + 1, (x + y + c) / 4294967296, _, rfl, by omega, by go_num, rfl, by omega, by omega, HS.out, HI.out, HX.out.setCell (Nat.le_refl _) _⟩
    case measure => omega
   .
    have hs0 : 0 <= (x + 0 + c) % 4294967296 /\ (x + 0 + c) % 4294967296 < 4294967296 := by omega
    have HS := hid (hst.out _ (b8 hs0));have HI := hid (dQ (xs := xs) (ys := ys) (s := x + 0 + c) hI.out (by rw [HO.out.len]; omega) (by simp [List.getD, HXX.out, List.getElem?_eq_none (by rw [HLB.out]; omega : ys.length <= k)]));clear hst hs0
    go_wp2_with fail
    refine (cT x 0 c _ ⟨hx0, hx1⟩ ⟨by omega, by omega⟩ ⟨hc0, hc1⟩).mono ?_;rintro e w' ⟨rfl, rfl⟩;go_wp2;go_roundg (la - (k + 1))
    case rel => exact ⟨k + 1, (x + 0 + c) / 4294967296, _, rfl, by omega, by go_num, by go_num, by omega, by omega, by simpa using HS.out, by simpa [Hid] using HI.out, HX.out.setCell (Nat.le_refl _) _⟩
    case measure => omega
  .
   obtain rfl : k = la := by omega
   obtain ⟨g, z, hg, hz, _, hcz, hfz, _, hst⟩ := HO.out.store (j := k) (by omega);obtain rfl : w.heap.size = g := by injection hg with hg; injection hg
   have hk0 : (0 : Int) <= (k : Int) := by omega
   have hk1 : (k : Int) < ((k + 1 : Nat) : Int) := by omega
   have HS := hid (hst.out c (b8 (by omega)))
   have HV : Hid (val 4294967296 (out.set k c) = ((n + m : Nat) : Int)) := by
    have h1 := a8 (B := 4294967296) (out := out) (k := k) (by rw [HO.out.len]; omega) c;rw [List.take_of_length_le (by rw [List.length_set, HO.out.len]; omega)] at h1;have h2 := hI.out;rw [List.take_of_length_le (l := xs) (by rw [HLA.out]; omega), List.take_of_length_le (l := ys) (by rw [HLB.out]; omega), HN.out, HM.out] at h2;show _ = _;rw [h1, Int.natCast_add];have e3 : (4294967296 : Int) ^ k * c = c * 4294967296 ^ k := Int.mul_comm _ _;omega
   clear hst hz hg
   go_wp2_with fail
   refine (aI _ _ _ _ _ HS.out.ints (by omega) (by omega)).mono ?_;rintro e w' ⟨q, hq, hN, hv, rfl, rfl⟩;have HW := hid (RetNorm.natv (N := n + m) (c := k + 1) HS.out.ints hq hN hv HV.out (by omega) (by omega));clear hq hN hv;go_wp2;go_ret;exact ⟨_, rfl, HW.out, HX.out.setCell (Nat.le_refl _) _⟩
theorem qY (A B : Option Addr) (la ca lb cb : Nat) (xs ys : List Int) (n m : Nat) (w : World) (hA : Ints .u32 w A la xs) (hB : Ints .u32 w B lb ys) (hn : val 4294967296 xs = (n : Int)) (hm : val 4294967296 ys = (m : Int)) (_hl : la < lb) (_hla : la <= 1099511627776) (_hlb : lb <= 1099511627776) :
  Calls Try.prog 181 #[.slice A la ca, .slice B lb cb] w (ep .u32 4294967296 w (n + m)) := by
 have HA := hid hA;have HB := hid hB;have HN := hid hn;have HM := hid hm;have HLA : Hid (xs.length = la) := hA.1;have HLB : Hid (ys.length = lb) := hB.1;clear hA hB hn hm;go_enter Try.func181, Try.ntmps181
 go_wp2_with (at_make; refine ap _ oX rfl rfl _ _ rfl w.heap.size _ _ _ _ (lb + 1) (lb + 1) rfl rfl (by omega) (by omega) (Nat.le_refl _) (by omega) (by unfold maxLen; omega) (Nat.le_refl _) ?_; intro w1 hown1 hext1 hsz1)
 have HO1 := hid (OwnS.made hown1);have HX1 := hid hext1;clear hown1 hext1 hsz1
 go_loopg [6, 22] lb (fun g cy i wr => ∃ (k : Nat) (c : Int) (out : List Int), g = lb - k /\ k <= lb /\ i = .int .i64 k /\ cy = .int .u32 c /\ 0 <= c /\ c <= 1 /\ OwnS .u32 129 w.heap.size wr (some ⟨w.heap.size, 0, none⟩) (lb + 1) (lb + 1) out /\ Hid (val 4294967296 (out.take k) + c * 4294967296 ^ k = val 4294967296 (ys.take k) + val 4294967296 (xs.take k)) /\ Ext w wr)
 case atStart => exact ⟨0, 0, _, rfl, by omega, rfl, rfl, by omega, by omega, HO1.out, by simp [Hid, val], HX1.out⟩
 case round =>
  obtain ⟨k, c, out, rfl, hk, rfl, rfl, hc0, hc1, hO, hI, hX⟩ := hrel;have HX := hid hX;have HO := hid hO;clear hX hO
  by_cases hlt : k < lb
  .
   obtain ⟨b1, o1, x, hAe, hx, hwf, hcx⟩ := (HB.out.ext HX.out).get hlt;subst hAe;obtain ⟨hx0, hx1⟩ := ah hwf;obtain ⟨g, z, hg, hz, _, hcz, hfz, _, hst⟩ := HO.out.store (j := k) (by omega);obtain rfl : w.heap.size = g := by injection hg with hg; injection hg
   have hk0 : (0 : Int) <= (k : Int) := by omega
   have hk1 : (k : Int) < ((lb + 1 : Nat) : Int) := by omega
   have HXX := hid hx;clear hx hwf hz hg
   by_cases hlt2 : k < la
   .
    obtain ⟨b2, o2, y, hBe, hy, hwf, hcy⟩ := (HA.out.ext HX.out).get hlt2;subst hBe;obtain ⟨hy0, hy1⟩ := ah hwf;have HYY := hid hy;clear hy hwf;have hs0 : 0 <= (x + y + c) % 4294967296 /\ (x + y + c) % 4294967296 < 4294967296 := by omega
    have HS := hid (hst.out _ (b8 hs0));have HI := hid (dQ (xs := ys) (ys := xs) (s := x + y + c) hI.out (by rw [HO.out.len]; omega) (by simp [List.getD, HXX.out, HYY.out]));clear hst hs0
    go_wp2_with fail
    refine (cT x y c _ ⟨hx0, hx1⟩ ⟨hy0, hy1⟩ ⟨hc0, hc1⟩).mono ?_;rintro e w' ⟨rfl, rfl⟩;go_wp2;go_roundg (lb - (k + 1))
    case rel => exact ⟨k + 1, (x + y + c) / 4294967296, _, rfl, by omega, by go_num, rfl, by omega, by omega, HS.out, HI.out, HX.out.setCell (Nat.le_refl _) _⟩
    case measure => omega
   .
    have hs0 : 0 <= (x + 0 + c) % 4294967296 /\ (x + 0 + c) % 4294967296 < 4294967296 := by omega
    have HS := hid (hst.out _ (b8 hs0));have HI := hid (dQ (xs := ys) (ys := xs) (s := x + 0 + c) hI.out (by rw [HO.out.len]; omega) (by simp [List.getD, HXX.out, List.getElem?_eq_none (by rw [HLA.out]; omega : xs.length <= k)]));clear hst hs0
    go_wp2_with fail
    refine (cT x 0 c _ ⟨hx0, hx1⟩ ⟨by omega, by omega⟩ ⟨hc0, hc1⟩).mono ?_;rintro e w' ⟨rfl, rfl⟩;go_wp2;go_roundg (lb - (k + 1))
    case rel => exact ⟨k + 1, (x + 0 + c) / 4294967296, _, rfl, by omega, by go_num, by go_num, by omega, by omega, by simpa using HS.out, by simpa [Hid] using HI.out, HX.out.setCell (Nat.le_refl _) _⟩
    case measure => omega
  .
   obtain rfl : k = lb := by omega
   obtain ⟨g, z, hg, hz, _, hcz, hfz, _, hst⟩ := HO.out.store (j := k) (by omega);obtain rfl : w.heap.size = g := by injection hg with hg; injection hg
   have hk0 : (0 : Int) <= (k : Int) := by omega
   have hk1 : (k : Int) < ((k + 1 : Nat) : Int) := by omega
   have HS := hid (hst.out c (b8 (by omega)))
   have HV : Hid (val 4294967296 (out.set k c) = ((n + m : Nat) : Int)) := by
    have h1 := a8 (B := 4294967296) (out := out) (k := k) (by rw [HO.out.len]; omega) c;rw [List.take_of_length_le (by rw [List.length_set, HO.out.len]; omega)] at h1;have h2 := hI.out;rw [List.take_of_length_le (l := ys) (by rw [HLB.out]; omega), List.take_of_length_le (l := xs) (by rw [HLA.out]; omega), HN.out, HM.out] at h2;show _ = _;rw [h1, Int.natCast_add];have e3 : (4294967296 : Int) ^ k * c = c * 4294967296 ^ k := Int.mul_comm _ _;omega
   clear hst hz hg
   go_wp2_with fail
   refine (aI _ _ _ _ _ HS.out.ints (by omega) (by omega)).mono ?_;rintro e w' ⟨q, hq, hN, hv, rfl, rfl⟩;have HW := hid (RetNorm.natv (N := n + m) (c := k + 1) HS.out.ints hq hN hv HV.out (by omega) (by omega));clear hq hN hv;go_wp2;go_ret;exact ⟨_, rfl, HW.out, HX.out.setCell (Nat.le_refl _) _⟩
theorem o8 (va vb : Value) (n m La : Nat) (w : World) (ha : W32 w va n) (hb : W32 w vb m) (hn : Fit 4294967296 n La) (hm : Fit 4294967296 m La) (_hL : La <= 1099511627776) :
  Calls Try.prog 181 #[va, vb] w (ep .u32 4294967296 w (n + m)) := by
 obtain ⟨A, la, ca, xs, rfl, hA, hrx, hca, hcam⟩ := ha;obtain ⟨B, lb, cb, ys, rfl, hB, hry, hcb, hcbm⟩ := hb;have h1 := hn.len (by omega) hrx;have h2 := hm.len (by omega) hry;rw [hA.1] at h1;rw [hB.1] at h2
 rcases Nat.lt_or_ge la lb with hl | hl
 .
  exact qY A B la ca lb cb xs ys n m w hA hB hrx.2.2 hry.2.2 hl (by omega) (by omega)
 .
  exact qX A B la ca lb cb xs ys n m w hA hB hrx.2.2 hry.2.2 hl (by omega) (by omega)
/-- What is borrowed. -/
def oY (x y c : Int) : Int := if x < y + c then 1 else 0
theorem kH (x y c : Int) : 0 <= oY x y c /\ oY x y c <= 1 := by unfold oY; split <;> omega
theorem qZ (x y c : Int) (_hx : 0 <= x /\ x <= 4294967295) (_hy : 0 <= y /\ y <= 4294967295) (_hc : 0 <= c /\ c <= 1) : (x - y - c) % 4294967296 = x - y - c + oY x y c * 4294967296 := by
 unfold oY; split <;> omega
theorem o9 (a : Nat) (h : a < 4294967296) : a.testBit 31 = decide (2147483648 <= a) := by
 rw [Nat.testBit_eq_decide_div_mod_eq]
 have e : (a / 2 ^ 31 % 2 = 1) = (2147483648 <= a) := by
  apply propext; constructor <;> intro h <;> omega
 simp only [e]
theorem mE (x y c : Int) (hx : 0 <= x /\ x <= 4294967295) (hy : 0 <= y /\ y <= 4294967295) (_hc : 0 <= c /\ c <= 1) :
  bits .or .u32 (bits .and .u32 (bits .xor .u32 IntKind.u32.max x) y) (bits .and .u32 (bits .xor .u32 IntKind.u32.max (bits .xor .u32 x y)) ((x - y - c) % 4294967296)) / 2147483648 = oY x y c := by
 obtain ⟨a, rfl⟩ := Int.eq_ofNat_of_zero_le hx.1;obtain ⟨b, rfl⟩ := Int.eq_ofNat_of_zero_le hy.1;obtain ⟨d, hd⟩ := Int.eq_ofNat_of_zero_le (by omega : 0 <= ((a : Int) - b - c) % 4294967296);have hd1 : d < 4294967296 := by omega
 have hM : IntKind.u32.max = ((4294967295 : Nat) : Int) := by decide
 have ha1 : a < 4294967296 := by omega
 have hb1 : b < 4294967296 := by omega
 have X : ∀ p q : Nat, p < 4294967296 -> q < 4294967296 -> p ^^^ q < 4294967296 := fun p q hp hq => Nat.xor_lt_two_pow (n := 32) hp hq
 have Y : ∀ p q : Nat, q < 4294967296 -> p &&& q < 4294967296 := fun p q hq => Nat.lt_of_le_of_lt Nat.and_le_right hq
 rw [hd, hM, u32_xor_nat _ _ (by omega) ha1, u32_xor_nat _ _ ha1 hb1, u32_xor_nat _ _ (by omega) (X _ _ ha1 hb1), u32_and_nat _ _ (X _ _ (by omega) ha1) hb1, u32_and_nat _ _ (X _ _ (by omega) (X _ _ ha1 hb1)) hd1, u32_or_nat _ _ (Y _ _ hb1) (Y _ _ hd1)];obtain ⟨E, hE⟩ : ∃ E, ((4294967295 ^^^ a) &&& b) ||| ((4294967295 ^^^ (a ^^^ b)) &&& d) = E := ⟨_, rfl⟩;have hE1 : E < 4294967296 := by rw [<- hE]; exact Nat.or_lt_two_pow (n := 32) (Y _ _ hb1) (Y _ _ hd1)
 have ht : E.testBit 31 = (((!(a.testBit 31)) && b.testBit 31) || ((!(a.testBit 31 != b.testBit 31)) && d.testBit 31)) := by
  rw [<- hE, Nat.testBit_or, Nat.testBit_and, Nat.testBit_and, Nat.testBit_xor, Nat.testBit_xor, Nat.testBit_xor];have : Nat.testBit 4294967295 31 = true := by decide
  rw [this]
  cases a.testBit 31 <;> cases b.testBit 31 <;> simp
 rw [hE];rw [o9 E hE1, o9 a ha1, o9 b hb1, o9 d hd1] at ht;unfold oY
 by_cases h1 : 2147483648 <= a <;> by_cases h2 : 2147483648 <= b <;> by_cases h3 : 2147483648 <= d <;> by_cases h4 : 2147483648 <= E <;> simp [h1, h2, h3, h4] at ht <;> split <;> omega
theorem kI (x y c : Int) (w : World) (hx : 0 <= x /\ x <= 4294967295) (hy : 0 <= y /\ y <= 4294967295) (hc : 0 <= c /\ c <= 1) :
  Calls Try.prog 201 #[.int .u32 x, .int .u32 y, .int .u32 c] w fun e w' => e = .returned (.tuple #[.int .u32 ((x - y - c) % 4294967296), .int .u32 (oY x y c)]) /\ w = w' := by
 have HB := hid (mE x y c hx hy hc);obtain ⟨hx0, hx1⟩ := hx;obtain ⟨hy0, hy1⟩ := hy;obtain ⟨hc0, hc1⟩ := hc;go_enter Try.func201, Try.ntmps201;go_wp2
 go_ret2
 refine ⟨?_, rfl⟩;rw [<- HB.out];rfl
theorem j0 (va vb : Value) (n m La : Nat) (w : World) (ha : W32 w va n) (hb : W32 w vb m) (hn : Fit 4294967296 n La) (hle : m <= n) (_hL : La <= 1099511627776) :
  Calls Try.prog 183 #[va, vb] w (ep .u32 4294967296 w (n - m)) := by
 obtain ⟨A, la, ca, xs, rfl, hA, hrx, hca, hcam⟩ := ha;obtain ⟨B, lb, cb, ys, rfl, hB, hry, hcb, hcbm⟩ := hb;have hla := hn.len (by omega) hrx;have hlb := (hn.le hle).len (by omega) hry
 have hlab : lb <= la := by
  have := Fit.len (by omega) ((Fit.of_rep (by omega) hrx).le hle) hry;rw [hA.1, hB.1] at this; exact this
 rw [hA.1] at hla;rw [hB.1] at hlb;have HA := hid hA;have HB := hid hB;have HN := hid hrx;have HM := hid hry;have HLA : Hid (xs.length = la) := hA.1;have HLB : Hid (ys.length = lb) := hB.1;clear hA hB hrx hry hn;go_enter Try.func183, Try.ntmps183
 go_wp2_with (at_make; refine ap _ oX rfl rfl _ _ rfl w.heap.size _ _ _ _ la la rfl rfl (by omega) (by omega) (Nat.le_refl _) (by omega) (by unfold maxLen; omega) (Nat.le_refl _) ?_; intro w1 hown1 hext1 hsz1)
 have HO1 := hid (OwnS.made hown1);have HX1 := hid hext1;clear hown1 hext1 hsz1
 go_loopg [6, 14] la (fun g cy i wr => ∃ (k : Nat) (c : Int) (out : List Int), g = la - k /\ k <= la /\ i = .int .i64 k /\ cy = .int .u32 c /\ 0 <= c /\ c <= 1 /\ OwnS .u32 129 w.heap.size wr (some ⟨w.heap.size, 0, none⟩) la la out /\ Hid (val 4294967296 (out.take k) = val 4294967296 (xs.take k) - val 4294967296 (ys.take k) + c * 4294967296 ^ k) /\ Ext w wr)
 case atStart => exact ⟨0, 0, _, rfl, by omega, rfl, rfl, by omega, by omega, HO1.out, by simp [Hid, val], HX1.out⟩
 case round =>
  obtain ⟨k, c, out, rfl, hk, rfl, rfl, hc0, hc1, hO, hI, hX⟩ := hrel;have HX := hid hX;have HO := hid hO;clear hX hO
  by_cases hlt : k < la
  .
   obtain ⟨b1, o1, x, hAe, hx, hwf, hcx⟩ := (HA.out.ext HX.out).get hlt;subst hAe;obtain ⟨hx0, hx1⟩ := ah hwf;obtain ⟨g, z, hg, hz, _, hcz, hfz, _, hst⟩ := HO.out.store (j := k) (by omega);obtain rfl : w.heap.size = g := by injection hg with hg; injection hg
   have hk0 : (0 : Int) <= (k : Int) := by omega
   have hk1 : (k : Int) < (la : Int) := by omega
   have HXX := hid hx;clear hx hwf hz hg
   have hy : ∃ y, Hid (ys.getD k 0 = y) /\ 0 <= y /\ y <= 4294967295 /\ ((k < lb /\ ∃ b2 o2, B = some ⟨b2, o2, none⟩ /\ wr.cell? ⟨b2, o2 + k, none⟩ = some (.int .u32 y)) \/ (lb <= k /\ y = 0)) := by
    rcases Nat.lt_or_ge k lb with hlt2 | hlt2
    .
     obtain ⟨b2, o2, y, hBe, hy, hwf, hcy⟩ := (HB.out.ext HX.out).get hlt2;have := ah hwf;exact ⟨y, (by simp [List.getD, hy] : ys.getD k 0 = y), by omega, by omega, .inl ⟨hlt2, b2, o2, hBe, hcy⟩⟩
    .
     exact ⟨0, (by simp [List.getD, List.getElem?_eq_none (by rw [HLB.out]; omega : ys.length <= k)] : ys.getD k 0 = 0), by omega, by omega, .inr ⟨hlt2, rfl⟩⟩
   obtain ⟨y, hyv, hy0, hy1, hyc⟩ := hy;have hs0 : 0 <= (x - y - c) % 4294967296 /\ (x - y - c) % 4294967296 < 4294967296 := by omega
   have HS := hid (hst.out _ (b8 hs0));have hbe := qZ x y c ⟨hx0, hx1⟩ ⟨hy0, hy1⟩ ⟨hc0, hc1⟩;have HI := hid (mC (xs := xs) (ys := ys) (u := (x - y - c) % 4294967296) (c' := oY x y c) hI.out (by rw [HO.out.len]; omega) (by rw [hbe, hyv.out]; simp [List.getD, HXX.out]));obtain ⟨hb0, hb1⟩ := kH x y c;obtain ⟨bo, hbo⟩ : ∃ bo, oY x y c = bo := ⟨_, rfl⟩;have hcall := kI x y c wr ⟨hx0, hx1⟩ ⟨hy0, hy1⟩ ⟨hc0, hc1⟩;rw [hbo] at hcall HI hb0 hb1;have HC := hid hcall;clear hst hs0 hbe hcall hbo
   rcases hyc with ⟨hlt2, b2, o2, hBe, hcy⟩ | ⟨hlt2, hye⟩
   .
    subst hBe
    go_wp2_with fail
    refine HC.out.mono ?_;rintro e w' ⟨rfl, rfl⟩;go_wp2;go_roundg (la - (k + 1))
    case rel => exact ⟨k + 1, bo, _, rfl, by omega, by go_num, rfl, hb0, hb1, HS.out, HI.out, HX.out.setCell (Nat.le_refl _) _⟩
    case measure => omega
   .
    subst hye
    go_wp2_with fail
    refine HC.out.mono ?_;rintro e w' ⟨rfl, rfl⟩;go_wp2;go_roundg (la - (k + 1))
    case rel => exact ⟨k + 1, bo, _, rfl, by omega, by go_num, rfl, hb0, hb1, by simpa using HS.out, by simpa [Hid] using HI.out, HX.out.setCell (Nat.le_refl _) _⟩
    case measure => omega
  .
   obtain rfl : k = la := by omega
   have HV : Hid (val 4294967296 out = ((n - m : Nat) : Int)) := by
    have h2 := hI.out;rw [List.take_of_length_le (l := xs) (by rw [HLA.out]; omega), List.take_of_length_le (l := ys) (by rw [HLB.out]; omega), List.take_of_length_le (l := out) (by rw [HO.out.len]; omega), HN.out.2.2, HM.out.2.2] at h2;have h3 := bH (B := 4294967296) (by omega) (cS HO.out.ints);rw [HO.out.len] at h3;have hp := aH (B := 4294967296) (by omega) k;show _ = _
    have hc : c = 0 := by
     rcases (by omega : c = 0 \/ c = 1) with h | h
     .
      exact h
     .
      subst h; rw [Int.one_mul] at h2; omega
    subst hc;rw [Int.zero_mul] at h2;omega
   go_wp2_with fail
   refine (aI _ _ _ _ _ HO.out.ints (by omega) (by omega)).mono ?_;rintro e w' ⟨q, hq, hN, hv, rfl, rfl⟩;have HW := hid (RetNorm.natv (N := n - m) (c := k) HO.out.ints hq hN hv HV.out (by omega) (by omega));clear hq hN hv;go_wp2;go_ret;exact ⟨_, rfl, HW.out, HX.out⟩
theorem dH {x y : Int} (hx : 0 <= x /\ x <= 4294967295) (hy : 0 <= y /\ y <= 4294967295) : 0 <= x * y /\ x * y <= 18446744065119617025 := by
 have h1 := Int.mul_nonneg hx.1 hy.1;have h2 : x * y <= 4294967295 * y := Int.mul_le_mul_of_nonneg_right hx.2 hy.1;omega
theorem cw (va vb : Value) (n m La Lb : Nat) (w : World) (ha : W32 w va n) (hb : W32 w vb m) (hn : Fit 4294967296 n La) (hm : Fit 4294967296 m Lb) (_hL : La <= 1099511627776) (_hM : Lb <= 1099511627776) :
  Calls Try.prog 180 #[va, vb] w (ep .u32 4294967296 w (n * m)) := by
 obtain ⟨A, la, ca, xs, rfl, hA, hrx, hca, hcam⟩ := ha;obtain ⟨B, lb, cb, ys, rfl, hB, hry, hcb, hcbm⟩ := hb;have hla := hn.len (by omega) hrx;have hlb := hm.len (by omega) hry;rw [hA.1] at hla;rw [hB.1] at hlb;have HA := hid hA;have HB := hid hB;have HN := hid hrx;have HM := hid hry;have HLA : Hid (xs.length = la) := hA.1;have HLB : Hid (ys.length = lb) := hB.1;clear hA hB hrx hry hn hm;go_enter Try.func180, Try.ntmps180
 go_wp2_with (at_make; refine ap _ oX rfl rfl _ _ rfl w.heap.size _ _ _ _ (la + lb) (la + lb) rfl rfl (by omega) (by omega) (Nat.le_refl _) (by omega) (by unfold maxLen; omega) (Nat.le_refl _) ?_; intro w1 hown1 hext1 hsz1)
 have HO1 := hid (OwnS.made hown1);have HX1 := hid hext1;clear hown1 hext1 hsz1
 go_loopg [20] la (fun g i wr => ∃ (k : Nat) (out : List Int), g = la - k /\ k <= la /\ i = .int .i64 k /\ OwnS .u32 129 w.heap.size wr (some ⟨w.heap.size, 0, none⟩) (la + lb) (la + lb) out /\ Hid (val 4294967296 (out.take (k + lb)) = val 4294967296 (xs.take k) * m) /\ Ext w wr)
 case atStart => exact ⟨0, _, rfl, by omega, rfl, HO1.out, by simp [Hid, val, List.take_replicate, fP], HX1.out⟩
 case round =>
  obtain ⟨k, out, rfl, hk, rfl, hO, hI, hX⟩ := hrel;have HX := hid hX;have HO := hid hO;clear hX hO
  by_cases hlt : k < la
  .
   obtain ⟨b1, o1, x, hAe, hx, hwf, hcx⟩ := (HA.out.ext HX.out).get hlt;subst hAe;obtain ⟨hx0, hx1⟩ := ah hwf;have HXX := hid hx;have hk0 : (0 : Int) <= (k : Int) := by omega
   have hk1 : (k : Int) < (la : Int) := by omega
   clear hx hwf;obtain ⟨wo, rfl⟩ : ∃ wo : World, wo = wr := ⟨_, rfl⟩;go_wp2
   go_loopg [8, 27] lb (fun g cy i wr => ∃ (j : Nat) (c : Int) (out : List Int), g = lb - j /\ j <= lb /\ i = .int .i64 j /\ cy = .int .u64 c /\ 0 <= c /\ c <= 4294967295 /\ OwnS .u32 129 w.heap.size wr (some ⟨w.heap.size, 0, none⟩) (la + lb) (la + lb) out /\ Hid (val 4294967296 (out.take (k + lb)) + c * 4294967296 ^ (k + j) = val 4294967296 (xs.take k) * m + x * val 4294967296 (ys.take j) * 4294967296 ^ k) /\ Ext w wr)
   case atStart => exact ⟨0, 0, out, rfl, by omega, rfl, rfl, by omega, by omega, HO.out, by simp [Hid, val]; exact hI.out, HX.out⟩
   case round =>
    obtain ⟨j, c, out1, rfl, hj, rfl, rfl, hc0, hc1, hO1, hI1, hX1⟩ := hrel;have HXr := hid hX1;have HOr := hid hO1;clear hX1 hO1 hcx
    by_cases hlt2 : j < lb
    .
     obtain ⟨b2, o2, y, hBe, hy, hwf, hcy⟩ := (HB.out.ext HXr.out).get hlt2;subst hBe;obtain ⟨hy0, hy1⟩ := ah hwf;have HYY := hid hy;obtain ⟨g, z, hg, hz, hwz, hcz, hfz, _, hst⟩ := HOr.out.store (j := k + j) (by omega);obtain rfl : w.heap.size = g := by injection hg with hg; injection hg
     obtain ⟨hz0, hz1⟩ := ah hwz;have hj0 : (0 : Int) <= (j : Int) := by omega
     have hj1 : (j : Int) < (lb : Int) := by omega
     have hkj0 : (0 : Int) <= (k : Int) + (j : Int) := by omega
     have hkj1 : (k : Int) + (j : Int) < ((la + lb : Nat) : Int) := by omega
     obtain ⟨hp0, hp1⟩ := dH ⟨hx0, hx1⟩ ⟨hy0, hy1⟩;have hs0 : 0 <= (x * y + z + c) % 4294967296 /\ (x * y + z + c) % 4294967296 < 4294967296 := by omega
     have HS := hid (hst.out _ (b8 hs0));have HI := hid (gQ (ys := ys) (s := x * y + z + c) hI1.out (by omega) (by rw [HOr.out.len]; omega) hz (by simp [List.getD, HYY.out]));clear hy hwf hz hg hwz hst hs0;go_wp2;go_roundg (lb - (j + 1))
     case rel => exact ⟨j + 1, (x * y + z + c) / 4294967296, _, rfl, by omega, by go_num, rfl, by omega, by omega, HS.out, HI.out, HXr.out.setCell (Nat.le_refl _) _⟩
     case measure => omega
    .
     obtain rfl : j = lb := by omega
     obtain ⟨g, z, hg, hz, hwz, hcz, hfz, _, hst⟩ := HOr.out.store (j := k + j) (by omega);obtain rfl : w.heap.size = g := by injection hg with hg; injection hg
     have hkj0 : (0 : Int) <= (k : Int) + (j : Int) := by omega
     have hkj1 : (k : Int) + (j : Int) < ((la + j : Nat) : Int) := by omega
     have HS := hid (hst.out c (b8 (by omega)));have HI := hid (gR (xs := xs) (V := m) (by have := hI1.out; rw [aq (xs := ys) (by rw [HLB.out]; omega), HM.out.2.2] at this; exact this) rfl (by rw [HOr.out.len]; omega) (by simp [List.getD, HXX.out]));have hcw : IntKind.u32.wrap c = c := IntWalk.u32_in _ (by omega);clear hz hg hwz hst;go_wp2;go_roundg (la - (k + 1))
     case rel => exact ⟨k + 1, _, rfl, by omega, by go_num, HS.out, by have := HI.out; rw [show k + j + 1 = k + 1 + j by omega] at this; exact this, HXr.out.setCell (Nat.le_refl _) _⟩
     case measure => omega
  .
   obtain rfl : k = la := by omega
   have HV : Hid (val 4294967296 out = ((n * m : Nat) : Int)) := by
    have h2 := hI.out;rw [aq (by rw [HO.out.len]; omega), aq (by rw [HLA.out]; omega), HN.out.2.2, <- Int.natCast_mul] at h2;exact h2
   go_wp2_with fail
   refine (aI _ _ _ _ _ HO.out.ints (by omega) (by omega)).mono ?_;rintro e w' ⟨q, hq, hN, hv, rfl, rfl⟩;have HW := hid (RetNorm.natv (N := n * m) (c := k + lb) HO.out.ints hq hN hv HV.out (by omega) (by omega));clear hq hN hv;go_wp2;go_ret;exact ⟨_, rfl, HW.out, HX.out⟩
end Go.Proofs.Ytikhlcgnlbinfaa
