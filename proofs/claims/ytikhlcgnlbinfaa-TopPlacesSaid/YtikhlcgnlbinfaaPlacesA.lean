/- Lemmas of the proof that follows (Places, part 1): walks of functions by contract, and plain lemmas. Conditions: none. -/
import Derived.WalkKit
import Derived.WalkSpells
import Derived.WalkLawsBesides
import Derived.ProofKit
import Derived.OpenShut
import Derived.ShutString
import Derived.ChangeOld
import Derived.Lib.Hide
import Derived.Maps.AppendAt
import Derived.Laws.CopyOwn
import Derived.Deep.Draws
import Derived.Maps.RangeWalk
import Derived.Deep.LoopGhost
import Derived.Deep.DeepCutAuto
import Derived.Deep.QuietTactic
import Derived.BigQuiet
import Derived.StillTailTactics
import Derived.Test.YtikhlcgnlbinfaaRows
import Derived.Deep.RegionHeld3
import Derived.Deep.Slices
import Derived.Deep.Strs
import Derived.Test.YtikhlcgnlbinfaaChecked
import Derived.StillTail
import Derived.Deep.CutBlock
import Derived.Lib.Strings
import Derived.Lib.Slices
import Derived.Lib.Small
import Derived.Lib.Walk
import Derived.Lib.BitFns
import Derived.IntWalk
import Derived.Lib.SmallJoins
import Derived.Shelf.Bits.Mul64
import Derived.Shelf.Small.Bits
import Derived.Shelf.Strconv.Itoa0
import Derived.Test.YtikhlcgnlbinfaaProg
import Derived.Deep.MidRow
set_option maxRecDepth 100000
set_option maxHeartbeats 2000000
namespace Go.Proofs.Ytikhlcgnlbinfaa
open Lib (hid)
open Go.RowKit
/-- 'w'' has every block of 'w' as it was, and perhaps more. -/
def Ext (w w' : World) : Prop := Below w.heap.size w w'
theorem Ext.refl (w : World) : Ext w w := Below.refl _ _
theorem Ext.size {a b : World} (h : Ext a b) : a.heap.size <= b.heap.size := Below.size h
theorem Ext.trans {a b c : World} (h : Ext a b) (k : Ext b c) : Ext a c := Below.trans h (Below.mono k h.size)
theorem Ext.drew {a b : World} (h : Ext a b) : Ext a b.drew := Below.drew h
theorem Ext.drewN {a b : World} (h : Ext a b) (n : Nat) : Ext a (b.drewN n) := ⟨h.os, h.tape, h.output, h.size, h.block⟩
theorem Ext.alloc {a b : World} (h : Ext a b) (o : Obj) : Ext a (b.alloc o) := Below.alloc h h.size o
theorem Ext.setCell {a b : World} (h : Ext a b) {p : Addr} (hp : a.heap.size <= p.block) (u : Value) : Ext a (b.setCell p u) := Below.setCell h hp u
theorem Ext.grown {a b c : World} {row : Option Nat} (h : Ext a b) (hg : b.grownBy c row) (hr : ∀ k, row = some k -> a.heap.size <= k) : Ext a c := Below.grown h hg h.size hr
theorem Ext.cell {a b : World} (h : Ext a b) {p : Addr} {v : Value} (hc : a.cell? p = some v) : b.cell? p = some v :=
 (Below.cell h (World.block_lt_of_cell? a p hc)).trans hc
theorem Ext.row {a b : World} (h : Ext a b) (row : Option Nat) : a.grownBy b row := ⟨h.os, h.tape, h.output, h.size, fun k hk _ => h.block k hk⟩
/-- The address 'A' leads to the cells 'vs' (no matter where, if there are none). -/
def At (w : World) (A : Option Addr) (vs : List Value) : Prop :=
 vs ≠ [] -> ∃ b off, A = some ⟨b, off, none⟩ /\ ∀ j v, vs[j]? = some v -> w.cell? ⟨b, off + j, none⟩ = some v
section
variable {w w' : World} {A : Option Addr} {vs : List Value}
theorem At.nil : At w A [] := fun h => absurd rfl h
theorem At.ext (h : At w A vs) (he : Ext w w') : At w' A vs := fun hn => by
 obtain ⟨b, off, hA, hc⟩ := h hn;exact ⟨b, off, hA, fun j v hv => he.cell (hc j v hv)⟩
theorem At.get (h : At w A vs) {j : Nat} (hj : j < vs.length) : ∃ b off v, A = some ⟨b, off, none⟩ /\ vs[j]? = some v /\ w.cell? ⟨b, off + j, none⟩ = some v := by
 obtain ⟨b, off, hA, hc⟩ := h (by intro e; subst e; simp at hj);exact ⟨b, off, vs[j], hA, List.getElem?_eq_getElem hj, hc j _ (List.getElem?_eq_getElem hj)⟩
theorem At.take (h : At w A vs) (k : Nat) : At w A (vs.take k) := fun hn => by
 obtain ⟨b, off, hA, hc⟩ := h (by intro e; subst e; simp at hn);refine ⟨b, off, hA, fun j v hv => hc j v ?_⟩;rw [List.getElem?_take] at hv;split at hv
 .
  exact hv
 .
  cases hv
theorem At.drop (h : At w A vs) (k : Nat) {A' : Option Addr} (hA' : k < vs.length -> ∀ b off, A = some ⟨b, off, none⟩ -> A' = some ⟨b, off + k, none⟩) : At w A' (vs.drop k) := fun hn => by
 have hk : k < vs.length := by
  rcases Nat.lt_or_ge k vs.length with h1 | h1
  .
   exact h1
  .
   exact absurd (List.drop_eq_nil_of_le h1) hn
 obtain ⟨b, off, hA, hc⟩ := h (by intro e; subst e; simp at hk);refine ⟨b, off + k, hA' hk b off hA, fun j v hv => ?_⟩;rw [Nat.add_assoc];exact hc _ v (by rw [<- hv, List.getElem?_drop])
theorem At.add (h : At w A vs) : ∀ ad, A = some ad -> ∀ j u, vs[j]? = some u -> w.cell? (ad.add j) = some u := by
 intro ad hA j u hu;obtain ⟨b, off, hA', hc⟩ := h (by intro e; subst e; simp at hu);rw [hA] at hA';injection hA' with hA';subst hA';rw [Addr.add_lit];exact hc j u hu
theorem At.of_own {base : Nat} {e : TypeId} {size n c : Nat} (h : w.ownsRow base e size (.slice A n c) n vs) : At w A vs := fun hn => by
 rcases h.2 with ⟨hv, h0⟩ | ⟨g, cap, cur, hv, _, hg, _⟩
 .
  subst h0;exact absurd (List.eq_nil_of_length_eq_zero (by simpa using h.1)) hn
 .
  have hA : A = some ⟨g, 0, none⟩ := by injection hv
  subst hA;refine ⟨g, 0, rfl, fun j v hj => ?_⟩;have := h.cells (g := g) rfl j v hj
  rwa [Addr.add_lit] at this
end
theorem At.new (w : World) (vs : List Value) (t : TypeId) : At (w.alloc (.cells vs.toArray t)) (some ⟨w.heap.size, 0, none⟩) vs := fun _ =>
 ⟨w.heap.size, 0, rfl, fun j v hv => by
  rw [cell_of_row _ w.heap.size (0 + j) vs.toArray t (0, 0) (heap_alloc_new w _)]
  simpa using hv⟩
theorem bi {w : World} {base : Nat} {e : TypeId} {size n : Nat} {v : Value} {vs : List Value} (h : w.ownsRow base e size v n vs) : ∃ A c, v = .slice A n c := by
 rcases h.2 with ⟨rfl, rfl⟩ | ⟨g, cap, cur, rfl, _⟩
 .
  exact ⟨_, _, rfl⟩
 .
  exact ⟨_, _, rfl⟩
/-- Behind an append onto a row of the call's own, whose source was made just ahead of it. -/
theorem Ext.push {w wr w1 : World} {o : Obj} {e : TypeId} {size n : Nat} {v : Value} {vs : List Value} (h : Ext w wr) (hown : wr.ownsRow w.heap.size e size v n vs) (hg : (wr.alloc o).grownBy w1 v.ownBlock) : Ext w w1 :=
 (h.alloc o).grown hg fun k hk => (hown.lt k hk).1
theorem Ext.app {w wr w1 : World} {e : TypeId} {size n : Nat} {v : Value} {vs : List Value} (h : Ext w wr) (hown : wr.ownsRow w.heap.size e size v n vs) (hg : wr.grownBy w1 v.ownBlock) : Ext w w1 :=
 h.grown hg fun k hk => (hown.lt k hk).1
/-- A slice of integers of kind 'k' with 'n' elements reads as 'xs'. -/
def Ints (k : IntKind) (w : World) (A : Option Addr) (n : Nat) (xs : List Int) : Prop :=
 xs.length = n /\ (∀ x ∈ xs, (Lit.int k x).wf = true) /\ At w A (xs.map (Value.int k))
section
variable {w w' : World} {A : Option Addr} {n : Nat} {xs : List Int} {k : IntKind}
theorem Ints.ext (h : Ints k w A n xs) (he : Ext w w') : Ints k w' A n xs := ⟨h.1, h.2.1, h.2.2.ext he⟩
theorem Ints.nil : Ints k w A 0 [] := ⟨rfl, by simp, At.nil⟩
theorem Ints.get (h : Ints k w A n xs) {j : Nat} (hj : j < n) : ∃ b off x, A = some ⟨b, off, none⟩ /\ xs[j]? = some x /\ (Lit.int k x).wf = true /\ w.cell? ⟨b, off + j, none⟩ = some (.int k x) := by
 have hj' : j < xs.length := by rw [h.1]; exact hj
 obtain ⟨b, off, v, hA, hv, hc⟩ := h.2.2.get (j := j) (by simpa using hj');rw [List.getElem?_map, List.getElem?_eq_getElem hj'] at hv;simp only [Option.map_some, Option.some.injEq] at hv;subst hv;exact ⟨b, off, xs[j], hA, List.getElem?_eq_getElem hj', h.2.1 _ (List.getElem_mem hj'), hc⟩
theorem cV {x : Int} (h : (Lit.int .i64 x).wf = true) : -9223372036854775808 <= x /\ x <= 9223372036854775807 := by
 simp [Lit.wf, IntKind.min, IntKind.max, IntKind.bits, IntKind.signed] at h; omega
theorem Ints.take (h : Ints k w A n xs) {m : Nat} (_hm : m <= n) : Ints k w A m (xs.take m) :=
 ⟨by rw [List.length_take, h.1]; omega, fun x hx => h.2.1 x (List.mem_of_mem_take hx), by rw [List.map_take]; exact h.2.2.take m⟩
end
theorem World.ownsRow.ext' {w w' : World} {base : Nat} {e : TypeId} {size n : Nat} {v : Value} {vs : List Value} (h : w.ownsRow base e size v n vs) (he : Ext w w') : w'.ownsRow base e size v n vs :=
 h.kept (he.row none) (by cases hv : v.ownBlock <;> simp)
theorem World.ownsRow.mono' {w : World} {base base' : Nat} {e : TypeId} {size n : Nat} {v : Value} {vs : List Value} (h : w.ownsRow base e size v n vs) (_hb : base' <= base) : w.ownsRow base' e size v n vs := by
 refine ⟨h.1, ?_⟩
 rcases h.2 with hn | ⟨g, cap, cur, hv, hg, rest⟩
 .
  exact .inl hn
 .
  exact .inr ⟨g, cap, cur, hv, by omega, rest⟩
/-- A slice of integers in memory from block 'base' on, with a row of its own, which reads as 'xs'. -/
structure OwnS (k : IntKind) (e : TypeId) (base : Nat) (w : World) (A : Option Addr) (n c : Nat) (xs : List Int) : Prop where
 own : w.ownsRow base e 1 (.slice A n c) n (xs.map (Value.int k))
 len : xs.length = n
 wf : ∀ x ∈ xs, (Lit.int k x).wf = true
section
variable {k : IntKind} {e : TypeId} {base : Nat} {w w' : World} {A : Option Addr} {n c : Nat} {xs : List Int}
theorem OwnS.ints (h : OwnS k e base w A n c xs) : Ints k w A n xs := ⟨h.len, h.wf, At.of_own h.own⟩
theorem OwnS.ext (h : OwnS k e base w A n c xs) (he : Ext w w') : OwnS k e base w' A n c xs := ⟨World.ownsRow.ext' h.own he, h.len, h.wf⟩
theorem OwnS.mono {base' : Nat} (h : OwnS k e base w A n c xs) (hb : base' <= base) : OwnS k e base' w A n c xs := ⟨World.ownsRow.mono' h.own hb, h.len, h.wf⟩
theorem mO {e : TypeId} {size : Nat} {vs : List Value} (h : w.ownsRow base e size (.slice A n c) n vs) : n <= c /\ c <= 9223372036854775807 := by
 rcases h.2 with ⟨hv, h0⟩ | ⟨g, cap, cur, hv, _, _, h1, h2, _⟩
 .
  injection hv with _ _ h3; omega
 .
  injection hv with _ _ h3;subst h3;unfold maxLen at h2;exact ⟨h1, by omega⟩
theorem OwnS.cap (h : OwnS k e base w A n c xs) : n <= c /\ c <= 9223372036854775807 := mO h.own
end
section
variable {k : IntKind} {w w' : World} {A : Option Addr} {n : Nat} {xss : List (List Int)}
end
/-- The element type 'e' of the slice type 't': one value of 'size' cells and 'bytes' bytes, whose zero is 'z'. -/
structure Elem (P : Program) (t e : TypeId) (size bytes : Nat) (z : Value) : Prop where
 und : P.underlying t = some (.slice e)
 info : ∃ i, P.info? e = some i /\ i.zero = some z /\ i.size = size /\ i.bytes = bytes
 cells : z.cells.size = size
 pos : 0 < size
theorem Elem.mk' {P : Program} {t e : TypeId} {size bytes : Nat} {z : Value} (h1 : P.underlying t = some (.slice e))
  (h2 : (P.info? e).map (fun i => (i.zero, i.size, i.bytes)) = some (some z, size, bytes)) (h3 : z.cells.size = size) (h4 : 0 < size) : Elem P t e size bytes z :=
 ⟨h1, info_parts h2, h3, h4⟩
section
variable {P : Program}
theorem mP (w : World) {t e : TypeId} {size bytes : Nat} {z : Value} (E : Elem P t e size bytes z) (ty : TypeId) (base : Nat)
  (v : Value) (n : Nat) (xs : List Value) (hown : w.ownsRow base e size v n xs)
  (A : Option Addr) (m c : Nat) (news : List Value) (hl : news.length = m * size) (hat : At w A news) (h1 : ∀ u ∈ news, u.oneCell' = true)
  (hbytes : (n + m) * bytes <= 140737488355328) (h63 : n + m <= maxLen) (hbase : base <= w.heap.size) :
  ∃ v' w', (Builtin.append_ #[t, t] ty #[v, .slice A m c]).run P w = .ok v' w' /\ w'.ownsRow base e size v' (n + m) (xs ++ news) /\ w.grownBy w' v.ownBlock /\
   (v'.ownBlock = v.ownBlock \/ v'.ownBlock = some w.heap.size) := by
 obtain ⟨i, hi, hz, hs, hb⟩ := E.info
 rcases A with _ | ad
 .
  have hn : news = [] := by
   rcases news with _ | ⟨u, us⟩
   .
    rfl
   .
    obtain ⟨b, off, hA, _⟩ := hat (by simp)
    cases hA
  subst hn
  have hm : m = 0 := by
   have h0 : m * size = 0 := by simpa using hl.symm
   rcases Nat.mul_eq_zero.1 h0 with h | h
   .
    exact h
   .
    have := E.pos; omega
  subst hm;refine ⟨v, w, ?_, by simpa using hown, World.grownBy.refl w _, .inl rfl⟩
  rcases hown.2 with ⟨rfl, rfl⟩ | ⟨g, cap, cur, rfl, _, _, hnc, _⟩
  .
   simp [Builtin.append_, run_underlying E.und, sizeOf, typeInfo, hi, Builtin.lenOf, Builtin.firstCells]
  .
   simp [Builtin.append_, run_underlying E.und, sizeOf, typeInfo, hi, Builtin.lenOf, Builtin.firstCells, hnc, storeCells]
 .
  obtain ⟨v', w', hrun, h2, h3, _, h5⟩ := run_append_own_at (P := P) w base t ty e i z size bytes E.und hi hz hs hb E.cells E.pos v n xs hown ad m c news hl (hat.add ad rfl) h1 h63 hbytes hbase;exact ⟨v', w', hrun, h2, h3, h5⟩
/-- 'append(s, x...)' onto a row of the call's own, whatever the source. -/
theorem ap (w : World) {t e : TypeId} {size bytes : Nat} {z : Value} (E : Elem P t e size bytes z) {ops : Array Oper} {rest : List Oper} {o : Oper} {a : Act} {Q : Exit -> Act -> World -> Prop}
  (hgd : o.guard = none) (s x : Operand) (ho : o.op = .call { callee := .builtin .append, args := #[s, x], argTypes := #[t, t] })
  (base : Nat) (v : Value) (n : Nat) (xs : List Value) (hs : a.eval s = v) (hown : w.ownsRow base e size v n xs)
  (A : Option Addr) (m c : Nat) (news : List Value) (hx : a.eval x = .slice A m c) (hl : news.length = m * size) (hat : At w A news) (h1 : ∀ u ∈ news, u.oneCell' = true)
  (hbytes : (n + m) * bytes <= 140737488355328) (h63 : n + m <= maxLen) (hbase : base <= w.heap.size)
  (h : ∀ v' w', w'.ownsRow base e size v' (n + m) (xs ++ news) -> w.grownBy w' v.ownBlock -> (v'.ownBlock = v.ownBlock \/ v'.ownBlock = some w.heap.size) -> wpList P ops Q rest (a.put o.dst v') w') :
  wpList P ops Q (o :: rest) a w :=
 wpList_plain hgd fun K hK => by
  obtain ⟨v', w', hrun, h2, h3, h4⟩ := mP (P := P) w E o.type base v n xs hown A m c news hl hat h1 hbytes h63 hbase;unfold Oper.wp execOp;simp only [ho, resolve, invoke, builtin, Sem.run_bind, Sem.run_pure, Result.andThen_ok, List.map_toArray, List.map_cons, List.map_nil, hs, hx, hrun];exact hK _ _ (h v' w' h2 h3 h4)
/-- 'make([]T, n, c)', T of one cell. -/
theorem dC (w : World) {t e : TypeId} {bytes : Nat} {z : Value} (E : Elem P t e 1 bytes z) (hz1 : z.cells = #[z]) {ops : Array Oper} {rest : List Oper} {o : Oper} {a : Act} {Q : Exit -> Act -> World -> Prop}
  (hgd : o.guard = none) (l c : Operand) (ho : o.op = .makeSlice t l c) (base : Nat) (kl kc : IntKind) (L C : Int) (n m : Nat) (hl : a.eval l = .int kl L) (hc : a.eval c = .int kc C)
  (hL : L = n) (hC : C = m) (hnm : n <= m) (_hb : bytes * m <= 281474976710656) (hm : m <= maxLen) (hbase : base <= w.heap.size)
  (h : ∀ w', w'.ownsRow base e 1 (.slice (some ⟨w.heap.size, 0, none⟩) n m) n (List.replicate n z) -> Ext w w' -> w.heap.size < w'.heap.size -> wpList P ops Q rest (a.put o.dst (.slice (some ⟨w.heap.size, 0, none⟩) n m)) w') :
  wpList P ops Q (o :: rest) a w :=
 wpList_plain hgd fun K hK => by
  obtain ⟨i, hi, hz, hs, hby⟩ := E.info;subst hL hC hby
  have hbI : (i.bytes : Int) * (m : Int) <= 281474976710656 := by
   have h : ((i.bytes * m : Nat) : Int) <= 281474976710656 := by omega
   rwa [Int.natCast_mul] at h
  have hrun := run_make (P := P) w t e i z E.und hi hz kl kc n m (by omega) (by omega) hbI (by unfold maxLen at hm; omega);simp only [Int.toNat_natCast] at hrun;rw [hs, Nat.mul_one, hz1] at hrun
  have hown : (w.alloc (.cells (madeCells #[z] m) e)).ownsRow base e 1 (.slice (some ⟨w.heap.size, 0, none⟩) n m) n (List.replicate n z) := by
   refine ⟨by simp, .inr ⟨w.heap.size, m, _, rfl, hbase, heap_alloc_new w _, hnm, hm, by rw [size_madeCells]; simp, ?_⟩⟩;rw [toList_madeCells_one, Nat.mul_one, List.take_replicate, Nat.min_eq_left hnm]
  unfold Oper.wp;simp [execOp, ho, hl, hc, hrun, Result.andThen];exact hK _ _ (h _ hown ((Ext.refl w).alloc _) (by simp))
/-- 'x[l:]' -/
theorem gE (w : World) {t e : TypeId} {size bytes : Nat} {z : Value} (E : Elem P t e size bytes z) {ops : Array Oper} {rest : List Oper} {o : Oper} {a : Act} {Q : Exit -> Act -> World -> Prop}
  (hgd : o.guard = none) (x lo : Operand) (ho : o.op = .slice t x (some lo) none none) (A : Option Addr) (n c : Nat) (hx : a.eval x = .slice A n c) (kl : IntKind) (L : Int) (l : Nat) (hl : a.eval lo = .int kl L) (hL : L = l) (hn : l <= n) (_hc : n <= c)
  (h : ∀ A', (∀ w' vs, At w' A vs -> vs.length = n * size -> At w' A' (vs.drop (l * size))) -> wpList P ops Q rest (a.put o.dst (.slice A' (n - l) (c - l))) w) :
  wpList P ops Q (o :: rest) a w :=
 wpList_plain hgd fun K hK => by
  subst hL;obtain ⟨i, hi, hz, hs, hby⟩ := E.info
  have hrun : (Instr.sliceAt t (.slice A n c) (some (.int kl l)) none none).run P w = .ok (.slice (if c = l then A else A.map (·.add (l * size))) (n - l) (c - l)) w := by
   simp [Instr.sliceAt, Instr.slice, run_underlying E.und, Instr.sliceBounds, run_sliceBound, sizeOf, typeInfo, hi, hs, hn]
  unfold Oper.wp;simp [execOp, ho, hx, hl, hrun, Result.andThen];refine hK _ _ (h _ fun w' vs hat hlen => ?_);refine hat.drop _ (fun hlt b off hA => ?_);rw [hlen] at hlt;have : l < n := Nat.lt_of_mul_lt_mul_right hlt;rw [if_neg (by omega), hA];simp [Addr.add_lit]
/-- 'x[:h]' -/
theorem dS (w : World) {t e : TypeId} {size bytes : Nat} {z : Value} (E : Elem P t e size bytes z) {ops : Array Oper} {rest : List Oper} {o : Oper} {a : Act} {Q : Exit -> Act -> World -> Prop}
  (hgd : o.guard = none) (x hi' : Operand) (ho : o.op = .slice t x none (some hi') none) (A : Option Addr) (n c : Nat) (hx : a.eval x = .slice A n c) (kh : IntKind) (Hv : Int) (m : Nat) (hh : a.eval hi' = .int kh Hv) (hH : Hv = m) (hm : m <= c)
  (h : wpList P ops Q rest (a.put o.dst (.slice A m c)) w) :
  wpList P ops Q (o :: rest) a w :=
 wpList_plain hgd fun K hK => by
  subst hH;obtain ⟨i, hi, hz, hs, hby⟩ := E.info;have e0 : A.map (·.add 0) = A := by cases A <;> simp [Addr.add]
  have hrun : (Instr.sliceAt t (.slice A n c) none (some (.int kh m)) none).run P w = .ok (.slice A m c) w := by
   simp [Instr.sliceAt, Instr.slice, run_underlying E.und, Instr.sliceBounds, run_sliceBound, sizeOf, typeInfo, hi, hm, e0]
  unfold Oper.wp;simp [execOp, ho, hx, hh, hrun, Result.andThen];exact hK _ _ h
end
end Go.Proofs.Ytikhlcgnlbinfaa
namespace Go.Proofs.Ytikhlcgnlbinfaa
open Lib (hid)
open Go.ChangeShapes Go.WideShapes Go.ChangeAt Go.RowKit
theorem own : ownKnob Try.prog.godebug = none := by kernel_rfl
theorem mQ : laidOutB Try.prog = true := by kernel_rfl
end Go.Proofs.Ytikhlcgnlbinfaa
namespace Go.Proofs.Ytikhlcgnlbinfaa
open Lib (hid)
open Go.RowKit
/-- Block 'g' is just the cells 'cs'; none is frozen. -/
def Blk (w : World) (g : Nat) (t : TypeId) (cs : Array Value) : Prop := w.heap[g]? = some (.cells cs t (0, 0))
section
variable {w w' : World} {g : Nat} {t : TypeId} {cs : Array Value}
theorem Blk.lt (h : Blk w g t cs) : g < w.heap.size := (Array.getElem?_eq_some_iff.1 h).1
theorem Blk.cell (h : Blk w g t cs) (i : Nat) : w.cell? ⟨g, i, none⟩ = cs[i]? := cell_of_row w g i cs t (0, 0) h
theorem Blk.free (h : Blk w g t cs) (i : Nat) : w.frozen? ⟨g, i, none⟩ = false := by
 unfold World.frozen?; rw [show w.heap[g]? = some (.cells cs t (0, 0)) from h]; simp
theorem Blk.new (w : World) (t : TypeId) (cs : Array Value) : Blk (w.alloc (.cells cs t)) w.heap.size t cs := heap_alloc_new w _
theorem Blk.ext (h : Blk w g t cs) (he : Ext w w') : Blk w' g t cs := (Below.block he g h.lt).trans h
theorem Blk.drew (h : Blk w g t cs) : Blk w.drew g t cs := h
theorem Blk.alloc (h : Blk w g t cs) (o : Obj) : Blk (w.alloc o) g t cs := (Below.heap_alloc w o g h.lt).trans h
theorem Blk.set (h : Blk w g t cs) (i : Nat) (u : Value) : Blk (w.setCell ⟨g, i, none⟩ u) g t (cs.setIfInBounds i u) := by
 unfold Blk at h |-;simp [World.setCell, Array.getElem?_modify, h]
theorem Blk.far (h : Blk w g t cs) {p : Addr} (hp : g ≠ p.block) (u : Value) : Blk (w.setCell p u) g t cs := (Below.heap_setCell w p u g hp).trans h
theorem Blk.grown {row : Option Nat} (h : Blk w g t cs) (hb : w.grownBy w' row) (hg : some g ≠ row) : Blk w' g t cs := (hb.block g h.lt hg).trans h
end
section
variable {W W' : World} {g : Nat} {T : TypeId} {r : List Value} {a0 a1 a2 a3 a4 a5 a6 a7 a8 a9 a10 a11 a12 a13 a14 a15 a16 a17 a18 a19 : Value}
theorem Blk.c1 (h : Blk W g T (a0 :: r).toArray) : W.cell? ⟨g, 0, none⟩ = some a0 := (h.cell 0).trans (by simp)
theorem Blk.c2 (h : Blk W g T (a0 :: a1 :: r).toArray) : W.cell? ⟨g, 0, none⟩ = some a0 /\ W.cell? ⟨g, 1, none⟩ = some a1 := ⟨(h.cell 0).trans (by simp), (h.cell 1).trans (by simp)⟩
theorem Blk.c3 (h : Blk W g T (a0 :: a1 :: a2 :: r).toArray) : W.cell? ⟨g, 0, none⟩ = some a0 /\ W.cell? ⟨g, 1, none⟩ = some a1 /\ W.cell? ⟨g, 2, none⟩ = some a2 := ⟨(h.cell 0).trans (by simp), (h.cell 1).trans (by simp), (h.cell 2).trans (by simp)⟩
theorem Blk.c4 (h : Blk W g T (a0 :: a1 :: a2 :: a3 :: r).toArray) : W.cell? ⟨g, 0, none⟩ = some a0 /\ W.cell? ⟨g, 1, none⟩ = some a1 /\ W.cell? ⟨g, 2, none⟩ = some a2 /\ W.cell? ⟨g, 3, none⟩ = some a3 := ⟨(h.cell 0).trans (by simp), (h.cell 1).trans (by simp), (h.cell 2).trans (by simp), (h.cell 3).trans (by simp)⟩
theorem Blk.c6 (h : Blk W g T (a0 :: a1 :: a2 :: a3 :: a4 :: a5 :: r).toArray) : W.cell? ⟨g, 0, none⟩ = some a0 /\ W.cell? ⟨g, 1, none⟩ = some a1 /\ W.cell? ⟨g, 2, none⟩ = some a2 /\ W.cell? ⟨g, 3, none⟩ = some a3 /\ W.cell? ⟨g, 4, none⟩ = some a4 /\ W.cell? ⟨g, 5, none⟩ = some a5 := ⟨(h.cell 0).trans (by simp), (h.cell 1).trans (by simp), (h.cell 2).trans (by simp), (h.cell 3).trans (by simp), (h.cell 4).trans (by simp), (h.cell 5).trans (by simp)⟩
theorem Blk.c10 (h : Blk W g T (a0 :: a1 :: a2 :: a3 :: a4 :: a5 :: a6 :: a7 :: a8 :: a9 :: r).toArray) : W.cell? ⟨g, 0, none⟩ = some a0 /\ W.cell? ⟨g, 1, none⟩ = some a1 /\ W.cell? ⟨g, 2, none⟩ = some a2 /\ W.cell? ⟨g, 3, none⟩ = some a3 /\ W.cell? ⟨g, 4, none⟩ = some a4 /\ W.cell? ⟨g, 5, none⟩ = some a5 /\ W.cell? ⟨g, 6, none⟩ = some a6 /\ W.cell? ⟨g, 7, none⟩ = some a7 /\ W.cell? ⟨g, 8, none⟩ = some a8 /\ W.cell? ⟨g, 9, none⟩ = some a9 := ⟨(h.cell 0).trans (by simp), (h.cell 1).trans (by simp), (h.cell 2).trans (by simp), (h.cell 3).trans (by simp), (h.cell 4).trans (by simp), (h.cell 5).trans (by simp), (h.cell 6).trans (by simp), (h.cell 7).trans (by simp), (h.cell 8).trans (by simp), (h.cell 9).trans (by simp)⟩
theorem Blk.c11 (h : Blk W g T (a0 :: a1 :: a2 :: a3 :: a4 :: a5 :: a6 :: a7 :: a8 :: a9 :: a10 :: r).toArray) : W.cell? ⟨g, 0, none⟩ = some a0 /\ W.cell? ⟨g, 1, none⟩ = some a1 /\ W.cell? ⟨g, 2, none⟩ = some a2 /\ W.cell? ⟨g, 3, none⟩ = some a3 /\ W.cell? ⟨g, 4, none⟩ = some a4 /\ W.cell? ⟨g, 5, none⟩ = some a5 /\ W.cell? ⟨g, 6, none⟩ = some a6 /\ W.cell? ⟨g, 7, none⟩ = some a7 /\ W.cell? ⟨g, 8, none⟩ = some a8 /\ W.cell? ⟨g, 9, none⟩ = some a9 /\ W.cell? ⟨g, 10, none⟩ = some a10 := ⟨(h.cell 0).trans (by simp), (h.cell 1).trans (by simp), (h.cell 2).trans (by simp), (h.cell 3).trans (by simp), (h.cell 4).trans (by simp), (h.cell 5).trans (by simp), (h.cell 6).trans (by simp), (h.cell 7).trans (by simp), (h.cell 8).trans (by simp), (h.cell 9).trans (by simp), (h.cell 10).trans (by simp)⟩
theorem Blk.c20 (h : Blk W g T (a0 :: a1 :: a2 :: a3 :: a4 :: a5 :: a6 :: a7 :: a8 :: a9 :: a10 :: a11 :: a12 :: a13 :: a14 :: a15 :: a16 :: a17 :: a18 :: a19 :: r).toArray) : W.cell? ⟨g, 0, none⟩ = some a0 /\ W.cell? ⟨g, 1, none⟩ = some a1 /\ W.cell? ⟨g, 2, none⟩ = some a2 /\ W.cell? ⟨g, 3, none⟩ = some a3 /\ W.cell? ⟨g, 4, none⟩ = some a4 /\ W.cell? ⟨g, 5, none⟩ = some a5 /\ W.cell? ⟨g, 6, none⟩ = some a6 /\ W.cell? ⟨g, 7, none⟩ = some a7 /\ W.cell? ⟨g, 8, none⟩ = some a8 /\ W.cell? ⟨g, 9, none⟩ = some a9 /\ W.cell? ⟨g, 10, none⟩ = some a10 /\ W.cell? ⟨g, 11, none⟩ = some a11 /\ W.cell? ⟨g, 12, none⟩ = some a12 /\ W.cell? ⟨g, 13, none⟩ = some a13 /\ W.cell? ⟨g, 14, none⟩ = some a14 /\ W.cell? ⟨g, 15, none⟩ = some a15 /\ W.cell? ⟨g, 16, none⟩ = some a16 /\ W.cell? ⟨g, 17, none⟩ = some a17 /\ W.cell? ⟨g, 18, none⟩ = some a18 /\ W.cell? ⟨g, 19, none⟩ = some a19 := ⟨(h.cell 0).trans (by simp), (h.cell 1).trans (by simp), (h.cell 2).trans (by simp), (h.cell 3).trans (by simp), (h.cell 4).trans (by simp), (h.cell 5).trans (by simp), (h.cell 6).trans (by simp), (h.cell 7).trans (by simp), (h.cell 8).trans (by simp), (h.cell 9).trans (by simp), (h.cell 10).trans (by simp), (h.cell 11).trans (by simp), (h.cell 12).trans (by simp), (h.cell 13).trans (by simp), (h.cell 14).trans (by simp), (h.cell 15).trans (by simp), (h.cell 16).trans (by simp), (h.cell 17).trans (by simp), (h.cell 18).trans (by simp), (h.cell 19).trans (by simp)⟩
theorem Blk.q {vs : List Value} {v : Value} (h : Blk W g T vs.toArray) (i : Nat) (e : vs[i]? = some v) : W.cell? ⟨g, i, none⟩ = some v := (h.cell i).trans (by rw [List.getElem?_toArray]; exact e)
theorem xE {cs : Array Value} (h : Hid (Blk W g T cs)) (e : Ext W W') : Hid (Blk W' g T cs) := hid (h.out.ext e)
theorem xT {w : World} (h : Hid (Ext w W)) (e : Ext W W') : Hid (Ext w W') := hid (h.out.trans e)
theorem Blk_at {W : World} {t : TypeId} {cs : Array Value} {g : Nat} (hg : W.heap.size = g) : Blk (W.alloc (.cells cs t)) g t cs := hg ▸ Blk.new W t cs
theorem xF (p : Prop) [Decidable p] (h : ¬ p) : decide p = false := decide_eq_false h
theorem xD (p : Prop) [Decidable p] (h : p) : decide p = true := decide_eq_true h
end
theorem xA1 (w : World) (T0 : TypeId) (c0 : Array Value) : Ext w (w.alloc (.cells c0 T0)) /\ Blk (w.alloc (.cells c0 T0)) w.heap.size T0 c0 := ⟨(Ext.refl w).alloc _, Blk.new _ _ _⟩
theorem xA2 (w : World) (T0 : TypeId) (c0 : Array Value) (T1 : TypeId) (c1 : Array Value) : Ext w ((w.alloc (.cells c0 T0)).alloc (.cells c1 T1)) /\ Blk ((w.alloc (.cells c0 T0)).alloc (.cells c1 T1)) w.heap.size T0 c0 /\ Blk ((w.alloc (.cells c0 T0)).alloc (.cells c1 T1)) (w.heap.size + 1) T1 c1 := ⟨((Ext.refl w).alloc _).alloc _, ((Blk_at (W := w) (t := T0) (cs := c0) (g := w.heap.size) (by simp)).alloc _), (Blk_at (W := (w.alloc (.cells c0 T0))) (t := T1) (cs := c1) (g := w.heap.size + 1) (by simp))⟩
theorem xA3 (w : World) (T0 : TypeId) (c0 : Array Value) (T1 : TypeId) (c1 : Array Value) (T2 : TypeId) (c2 : Array Value) : Ext w (((w.alloc (.cells c0 T0)).alloc (.cells c1 T1)).alloc (.cells c2 T2)) /\ Blk (((w.alloc (.cells c0 T0)).alloc (.cells c1 T1)).alloc (.cells c2 T2)) w.heap.size T0 c0 /\ Blk (((w.alloc (.cells c0 T0)).alloc (.cells c1 T1)).alloc (.cells c2 T2)) (w.heap.size + 1) T1 c1 /\ Blk (((w.alloc (.cells c0 T0)).alloc (.cells c1 T1)).alloc (.cells c2 T2)) (w.heap.size + 2) T2 c2 := ⟨(((Ext.refl w).alloc _).alloc _).alloc _, (((Blk_at (W := w) (t := T0) (cs := c0) (g := w.heap.size) (by simp)).alloc _).alloc _), ((Blk_at (W := (w.alloc (.cells c0 T0))) (t := T1) (cs := c1) (g := w.heap.size + 1) (by simp)).alloc _), (Blk_at (W := ((w.alloc (.cells c0 T0)).alloc (.cells c1 T1))) (t := T2) (cs := c2) (g := w.heap.size + 2) (by simp))⟩
theorem xA4 (w : World) (T0 : TypeId) (c0 : Array Value) (T1 : TypeId) (c1 : Array Value) (T2 : TypeId) (c2 : Array Value) (T3 : TypeId) (c3 : Array Value) : Ext w ((((w.alloc (.cells c0 T0)).alloc (.cells c1 T1)).alloc (.cells c2 T2)).alloc (.cells c3 T3)) /\ Blk ((((w.alloc (.cells c0 T0)).alloc (.cells c1 T1)).alloc (.cells c2 T2)).alloc (.cells c3 T3)) w.heap.size T0 c0 /\ Blk ((((w.alloc (.cells c0 T0)).alloc (.cells c1 T1)).alloc (.cells c2 T2)).alloc (.cells c3 T3)) (w.heap.size + 1) T1 c1 /\ Blk ((((w.alloc (.cells c0 T0)).alloc (.cells c1 T1)).alloc (.cells c2 T2)).alloc (.cells c3 T3)) (w.heap.size + 2) T2 c2 /\ Blk ((((w.alloc (.cells c0 T0)).alloc (.cells c1 T1)).alloc (.cells c2 T2)).alloc (.cells c3 T3)) (w.heap.size + 3) T3 c3 := ⟨((((Ext.refl w).alloc _).alloc _).alloc _).alloc _, ((((Blk_at (W := w) (t := T0) (cs := c0) (g := w.heap.size) (by simp)).alloc _).alloc _).alloc _), (((Blk_at (W := (w.alloc (.cells c0 T0))) (t := T1) (cs := c1) (g := w.heap.size + 1) (by simp)).alloc _).alloc _), ((Blk_at (W := ((w.alloc (.cells c0 T0)).alloc (.cells c1 T1))) (t := T2) (cs := c2) (g := w.heap.size + 2) (by simp)).alloc _), (Blk_at (W := (((w.alloc (.cells c0 T0)).alloc (.cells c1 T1)).alloc (.cells c2 T2))) (t := T3) (cs := c3) (g := w.heap.size + 3) (by simp))⟩
theorem xA5 (w : World) (T0 : TypeId) (c0 : Array Value) (T1 : TypeId) (c1 : Array Value) (T2 : TypeId) (c2 : Array Value) (T3 : TypeId) (c3 : Array Value) (T4 : TypeId) (c4 : Array Value) : Ext w (((((w.alloc (.cells c0 T0)).alloc (.cells c1 T1)).alloc (.cells c2 T2)).alloc (.cells c3 T3)).alloc (.cells c4 T4)) /\ Blk (((((w.alloc (.cells c0 T0)).alloc (.cells c1 T1)).alloc (.cells c2 T2)).alloc (.cells c3 T3)).alloc (.cells c4 T4)) w.heap.size T0 c0 /\ Blk (((((w.alloc (.cells c0 T0)).alloc (.cells c1 T1)).alloc (.cells c2 T2)).alloc (.cells c3 T3)).alloc (.cells c4 T4)) (w.heap.size + 1) T1 c1 /\ Blk (((((w.alloc (.cells c0 T0)).alloc (.cells c1 T1)).alloc (.cells c2 T2)).alloc (.cells c3 T3)).alloc (.cells c4 T4)) (w.heap.size + 2) T2 c2 /\ Blk (((((w.alloc (.cells c0 T0)).alloc (.cells c1 T1)).alloc (.cells c2 T2)).alloc (.cells c3 T3)).alloc (.cells c4 T4)) (w.heap.size + 3) T3 c3 /\ Blk (((((w.alloc (.cells c0 T0)).alloc (.cells c1 T1)).alloc (.cells c2 T2)).alloc (.cells c3 T3)).alloc (.cells c4 T4)) (w.heap.size + 4) T4 c4 := ⟨(((((Ext.refl w).alloc _).alloc _).alloc _).alloc _).alloc _, (((((Blk_at (W := w) (t := T0) (cs := c0) (g := w.heap.size) (by simp)).alloc _).alloc _).alloc _).alloc _), ((((Blk_at (W := (w.alloc (.cells c0 T0))) (t := T1) (cs := c1) (g := w.heap.size + 1) (by simp)).alloc _).alloc _).alloc _), (((Blk_at (W := ((w.alloc (.cells c0 T0)).alloc (.cells c1 T1))) (t := T2) (cs := c2) (g := w.heap.size + 2) (by simp)).alloc _).alloc _), ((Blk_at (W := (((w.alloc (.cells c0 T0)).alloc (.cells c1 T1)).alloc (.cells c2 T2))) (t := T3) (cs := c3) (g := w.heap.size + 3) (by simp)).alloc _), (Blk_at (W := ((((w.alloc (.cells c0 T0)).alloc (.cells c1 T1)).alloc (.cells c2 T2)).alloc (.cells c3 T3))) (t := T4) (cs := c4) (g := w.heap.size + 4) (by simp))⟩
theorem xB1 (w : World) (T0 : TypeId) (c0 : Array Value) : Ext w (w.alloc (.cells c0 T0)) /\ Hid (Blk (w.alloc (.cells c0 T0)) w.heap.size T0 c0) := ⟨(Ext.refl w).alloc _, hid (Blk.new _ _ _)⟩
theorem xB2 (w : World) (T0 : TypeId) (c0 : Array Value) (T1 : TypeId) (c1 : Array Value) : Ext w ((w.alloc (.cells c0 T0)).alloc (.cells c1 T1)) /\ Hid (Blk ((w.alloc (.cells c0 T0)).alloc (.cells c1 T1)) w.heap.size T0 c0) /\ Hid (Blk ((w.alloc (.cells c0 T0)).alloc (.cells c1 T1)) (w.heap.size + 1) T1 c1) := ⟨((Ext.refl w).alloc _).alloc _, hid (((Blk_at (W := w) (t := T0) (cs := c0) (g := w.heap.size) (by simp)).alloc _)), hid ((Blk_at (W := (w.alloc (.cells c0 T0))) (t := T1) (cs := c1) (g := w.heap.size + 1) (by simp)))⟩
theorem xB3 (w : World) (T0 : TypeId) (c0 : Array Value) (T1 : TypeId) (c1 : Array Value) (T2 : TypeId) (c2 : Array Value) : Ext w (((w.alloc (.cells c0 T0)).alloc (.cells c1 T1)).alloc (.cells c2 T2)) /\ Hid (Blk (((w.alloc (.cells c0 T0)).alloc (.cells c1 T1)).alloc (.cells c2 T2)) w.heap.size T0 c0) /\ Hid (Blk (((w.alloc (.cells c0 T0)).alloc (.cells c1 T1)).alloc (.cells c2 T2)) (w.heap.size + 1) T1 c1) /\ Hid (Blk (((w.alloc (.cells c0 T0)).alloc (.cells c1 T1)).alloc (.cells c2 T2)) (w.heap.size + 2) T2 c2) := ⟨(((Ext.refl w).alloc _).alloc _).alloc _, hid ((((Blk_at (W := w) (t := T0) (cs := c0) (g := w.heap.size) (by simp)).alloc _).alloc _)), hid (((Blk_at (W := (w.alloc (.cells c0 T0))) (t := T1) (cs := c1) (g := w.heap.size + 1) (by simp)).alloc _)), hid ((Blk_at (W := ((w.alloc (.cells c0 T0)).alloc (.cells c1 T1))) (t := T2) (cs := c2) (g := w.heap.size + 2) (by simp)))⟩
theorem xB4 (w : World) (T0 : TypeId) (c0 : Array Value) (T1 : TypeId) (c1 : Array Value) (T2 : TypeId) (c2 : Array Value) (T3 : TypeId) (c3 : Array Value) : Ext w ((((w.alloc (.cells c0 T0)).alloc (.cells c1 T1)).alloc (.cells c2 T2)).alloc (.cells c3 T3)) /\ Hid (Blk ((((w.alloc (.cells c0 T0)).alloc (.cells c1 T1)).alloc (.cells c2 T2)).alloc (.cells c3 T3)) w.heap.size T0 c0) /\ Hid (Blk ((((w.alloc (.cells c0 T0)).alloc (.cells c1 T1)).alloc (.cells c2 T2)).alloc (.cells c3 T3)) (w.heap.size + 1) T1 c1) /\ Hid (Blk ((((w.alloc (.cells c0 T0)).alloc (.cells c1 T1)).alloc (.cells c2 T2)).alloc (.cells c3 T3)) (w.heap.size + 2) T2 c2) /\ Hid (Blk ((((w.alloc (.cells c0 T0)).alloc (.cells c1 T1)).alloc (.cells c2 T2)).alloc (.cells c3 T3)) (w.heap.size + 3) T3 c3) := ⟨((((Ext.refl w).alloc _).alloc _).alloc _).alloc _, hid (((((Blk_at (W := w) (t := T0) (cs := c0) (g := w.heap.size) (by simp)).alloc _).alloc _).alloc _)), hid ((((Blk_at (W := (w.alloc (.cells c0 T0))) (t := T1) (cs := c1) (g := w.heap.size + 1) (by simp)).alloc _).alloc _)), hid (((Blk_at (W := ((w.alloc (.cells c0 T0)).alloc (.cells c1 T1))) (t := T2) (cs := c2) (g := w.heap.size + 2) (by simp)).alloc _)), hid ((Blk_at (W := (((w.alloc (.cells c0 T0)).alloc (.cells c1 T1)).alloc (.cells c2 T2))) (t := T3) (cs := c3) (g := w.heap.size + 3) (by simp)))⟩
theorem xB5 (w : World) (T0 : TypeId) (c0 : Array Value) (T1 : TypeId) (c1 : Array Value) (T2 : TypeId) (c2 : Array Value) (T3 : TypeId) (c3 : Array Value) (T4 : TypeId) (c4 : Array Value) : Ext w (((((w.alloc (.cells c0 T0)).alloc (.cells c1 T1)).alloc (.cells c2 T2)).alloc (.cells c3 T3)).alloc (.cells c4 T4)) /\ Hid (Blk (((((w.alloc (.cells c0 T0)).alloc (.cells c1 T1)).alloc (.cells c2 T2)).alloc (.cells c3 T3)).alloc (.cells c4 T4)) w.heap.size T0 c0) /\ Hid (Blk (((((w.alloc (.cells c0 T0)).alloc (.cells c1 T1)).alloc (.cells c2 T2)).alloc (.cells c3 T3)).alloc (.cells c4 T4)) (w.heap.size + 1) T1 c1) /\ Hid (Blk (((((w.alloc (.cells c0 T0)).alloc (.cells c1 T1)).alloc (.cells c2 T2)).alloc (.cells c3 T3)).alloc (.cells c4 T4)) (w.heap.size + 2) T2 c2) /\ Hid (Blk (((((w.alloc (.cells c0 T0)).alloc (.cells c1 T1)).alloc (.cells c2 T2)).alloc (.cells c3 T3)).alloc (.cells c4 T4)) (w.heap.size + 3) T3 c3) /\ Hid (Blk (((((w.alloc (.cells c0 T0)).alloc (.cells c1 T1)).alloc (.cells c2 T2)).alloc (.cells c3 T3)).alloc (.cells c4 T4)) (w.heap.size + 4) T4 c4) := ⟨(((((Ext.refl w).alloc _).alloc _).alloc _).alloc _).alloc _, hid ((((((Blk_at (W := w) (t := T0) (cs := c0) (g := w.heap.size) (by simp)).alloc _).alloc _).alloc _).alloc _)), hid (((((Blk_at (W := (w.alloc (.cells c0 T0))) (t := T1) (cs := c1) (g := w.heap.size + 1) (by simp)).alloc _).alloc _).alloc _)), hid ((((Blk_at (W := ((w.alloc (.cells c0 T0)).alloc (.cells c1 T1))) (t := T2) (cs := c2) (g := w.heap.size + 2) (by simp)).alloc _).alloc _)), hid (((Blk_at (W := (((w.alloc (.cells c0 T0)).alloc (.cells c1 T1)).alloc (.cells c2 T2))) (t := T3) (cs := c3) (g := w.heap.size + 3) (by simp)).alloc _)), hid ((Blk_at (W := ((((w.alloc (.cells c0 T0)).alloc (.cells c1 T1)).alloc (.cells c2 T2)).alloc (.cells c3 T3))) (t := T4) (cs := c4) (g := w.heap.size + 4) (by simp)))⟩
/-- The cells 'vs' are those of the elements 'xs', one behind the other. -/
def CsR {α : Type} (R : List Value -> α -> Prop) : List Value -> List α -> Prop
 | vs, [] => vs = []
 | vs, x :: xs => ∃ cs rest, vs = cs ++ rest /\ R cs x /\ CsR R rest xs
section
variable {α : Type} {R R' : List Value -> α -> Prop} {vs cs : List Value} {xs : List α} {x : α}
theorem CsR.snoc (h : CsR R vs xs) (hx : R cs x) : CsR R (vs ++ cs) (xs ++ [x]) := by
 induction xs generalizing vs with
 | nil =>
  obtain rfl : vs = [] := h;exact ⟨cs, [], by simp, hx, rfl⟩
 | cons y ys ih =>
  obtain ⟨ds, rest, rfl, h2, h3⟩ := h;exact ⟨ds, rest ++ cs, by simp, h2, ih h3⟩
theorem CsR.len {k : Nat} (h : CsR R vs xs) (hk : ∀ cs x, R cs x -> cs.length = k) : vs.length = xs.length * k := by
 induction xs generalizing vs with
 | nil => obtain rfl : vs = [] := h; simp
 | cons y ys ih =>
  obtain ⟨cs, rest, rfl, h2, h3⟩ := h;rw [List.length_append, hk _ _ h2, ih h3, List.length_cons, Nat.succ_mul]; omega
end
end Go.Proofs.Ytikhlcgnlbinfaa
namespace Go.Proofs.Ytikhlcgnlbinfaa
open Lib (hid)
open Go.ChangeShapes Go.WideShapes Go.ChangeAt Go.RowKit Go.Deep
theorem iH {α : Type} {R : List Value -> α -> Prop} {P : Program} {W : World} {H : Type} {enc : TypeId × Value -> H} {t e : TypeId} {a : Option Addr} {len cap fuel k : Nat} {y : DataW H × List MemPlace} {b : Nat} {sp : Nat -> Bool} {hd : Bool}
  (ht : P.underlying t = some (.slice e)) (hk : P.cellsOf e = k) (hR : ∀ cs x, R cs x -> cs.length = k) (hel : ∀ fuel cs z, cs.length = k -> DataW.trod enc P W b sp hd fuel e cs = some z -> ∃ x, R cs x)
  (hf : DataW.trod enc P W b sp hd fuel t [.slice a len cap] = some y) :
  ∃ (xs : List α) (vs : List Value), xs.length = len /\ CsR R vs xs /\ At W a vs /\ len <= cap /\ cap <= 9223372036854775807 := by
 rcases open_slice ht hf with ⟨hcs, _⟩ | ⟨ad, l, c, m, n, D, Pl, hcs, _, hl, hm, hmm, _, hx⟩
 .
  simp at hcs;obtain ⟨rfl, rfl, rfl⟩ := hcs;exact ⟨[], [], rfl, rfl, At.nil, by omega, by omega⟩
 .
  simp at hcs;obtain ⟨rfl, rfl, rfl⟩ := hcs;rw [hk] at hx;have hlm : len <= m := by rw [hmm]; split <;> omega
  have key : ∀ j, j <= len -> ∃ (xs : List α) (vs : List Value), xs.length = j /\ CsR R vs xs /\ ∀ i u, vs[i]? = some u -> W.cell? (ad.add i) = some u := by
   intro j
   induction j with
   | zero => intro _; exact ⟨[], [], rfl, rfl, by simp⟩
   | succ j ih =>
    intro hj;obtain ⟨xs, vs, h1, h2, h3⟩ := ih (by omega);obtain ⟨cs, h4, h5⟩ := hx j (by omega);obtain ⟨_, h7, h8⟩ := World.cells?_some h4;obtain ⟨x, h6⟩ := hel _ _ _ h7 h5;refine ⟨xs ++ [x], vs ++ cs, by simp [h1], h2.snoc h6, fun i u hu => ?_⟩;have hvl := h2.len hR;rw [h1] at hvl
    rcases Nat.lt_or_ge i vs.length with hi | hi
    .
     rw [List.getElem?_append_left hi] at hu; exact h3 i u hu
    .
     rw [List.getElem?_append_right hi] at hu
     have hil : i - vs.length < k := by
      have := (List.getElem?_eq_some_iff.1 hu).1;rw [h7] at this; exact this
     have h9 := h8 (i - vs.length) hil;rw [hu] at h9
     have e : (ad.add (j * k)).add (i - vs.length) = ad.add i := by
      have hij : i = j * k + (i - vs.length) := by omega
      generalize i - vs.length = r at *;subst hij;unfold Addr.add
      by_cases h10 : j * k = 0 <;> by_cases h11 : r = 0 <;> simp [h10, h11, Nat.add_assoc]
     rw [e] at h9;exact h9
  obtain ⟨xs, vs, h1, h2, h3⟩ := key len (Nat.le_refl _);refine ⟨xs, vs, h1, h2, fun hne => ?_, hl, by unfold maxLen at hm; omega⟩;obtain ⟨bb, off, spot⟩ := ad
  have h0 : ∃ u, vs[0]? = some u := by
   cases vs with
   | nil => exact absurd rfl hne
   | cons v vs => exact ⟨v, rfl⟩
  obtain ⟨u, hu⟩ := h0;have hspot : spot = none := by simpa [Addr.add] using World.cell?_spot (h3 0 u hu)
  subst hspot;exact ⟨bb, off, rfl, fun j v hv => by rw [<- Addr.add_lit]; exact h3 j v hv⟩
end Go.Proofs.Ytikhlcgnlbinfaa
namespace Go.Proofs.Ytikhlcgnlbinfaa
open Lib (hid)
open Go.RowKit
structure Keeps (L : List Nat) (w w' : World) : Prop where
 os : w'.os = w.os
 tape : w'.tape = w.tape
 output : w'.output = w.output
 size : w.heap.size <= w'.heap.size
 block : ∀ k, k < w.heap.size -> k ∉ L -> w'.heap[k]? = w.heap[k]?
section
variable {L M : List Nat} {w w1 w2 w' : World} {B : Nat}
theorem Keeps.refl (L : List Nat) (w : World) : Keeps L w w := ⟨rfl, rfl, rfl, Nat.le_refl _, fun _ _ _ => rfl⟩
theorem Keeps.trans (h : Keeps L w w1) (k : Keeps L w1 w2) : Keeps L w w2 :=
 ⟨k.os.trans h.os, k.tape.trans h.tape, k.output.trans h.output, Nat.le_trans h.size k.size, fun i hi hn => (k.block i (Nat.lt_of_lt_of_le hi h.size) hn).trans (h.block i hi hn)⟩
theorem Keeps.of_ext (h : Ext w w') (L : List Nat) : Keeps L w w' := ⟨h.os, h.tape, h.output, h.size, fun i hi _ => h.block i hi⟩
/-- Behind such a call memory has still only grown since an earlier world, if what was written into is newer. -/
theorem Keeps.ext {w0 : World} (h : Keeps L w w') (he : Ext w0 w) (hL : ∀ k ∈ L, w0.heap.size <= k) : Ext w0 w' :=
 ⟨h.os.trans he.os, h.tape.trans he.tape, h.output.trans he.output, Nat.le_trans he.size h.size, fun i hi =>
  (h.block i (Nat.lt_of_lt_of_le hi he.size) fun hl => by have := hL i hl; omega).trans (he.block i hi)⟩
theorem Keeps.setCell (h : Keeps L w w') {p : Addr} (hp : p.block ∈ L \/ w.heap.size <= p.block) (u : Value) : Keeps L w (w'.setCell p u) :=
 ⟨h.os, h.tape, h.output, by simpa using h.size, fun i hi hn => (Below.heap_setCell w' p u i (fun e => by rcases hp with hp | hp; exact hn (e ▸ hp); omega)).trans (h.block i hi hn)⟩
theorem Keeps.drew (h : Keeps L w w') : Keeps L w w'.drew := h.trans (.of_ext (Ext.refl _).drew L)
theorem eZ {e : TypeId} {base size n : Nat} {v : Value} {vs : List Value} (h : w.ownsRow base e size v n vs) (hk : Keeps L w w') (hn : ∀ g, v.ownBlock = some g -> g ∉ L) : w'.ownsRow base e size v n vs := by
 refine ⟨h.1, ?_⟩
 rcases h.2 with hv | ⟨g, cap, cur, rfl, hb, hg, rest⟩
 .
  exact .inl hv
 .
  exact .inr ⟨g, cap, cur, rfl, hb, (hk.block g (Array.getElem?_eq_some_iff.1 hg).1 (hn g rfl)).trans hg, rest⟩
end
theorem oQ {w : World} {base : Nat} {e : TypeId} {size n g : Nat} {v : Value} {vs : List Value} (h : w.ownsRow base e size v n vs) (hg : v.ownBlock = some g) : base <= g /\ g < w.heap.size := by
 rcases h.2 with ⟨rfl, _⟩ | ⟨g', cap, cur, rfl, hb, hB, _⟩
 .
  simp [Value.ownBlock] at hg
 .
  simp [Value.ownBlock] at hg; subst hg; exact ⟨hb, Blk.lt hB⟩
section
variable {te : TypeId} {size base n : Nat} {w w' : World} {vs : List Value} {rows : List (List Value)}
end
end Go.Proofs.Ytikhlcgnlbinfaa
namespace Go.Proofs.Ytikhlcgnlbinfaa
open Lib (hid)
/-- The number that digits denote. -/
def am (B : Int) : List Int -> Int
 | [] => 0
 | x :: xs => x + B * am B xs
/-- All are digits. -/
def Dg (B : Int) (xs : List Int) : Prop := ∀ x ∈ xs, 0 <= x /\ x < B
section
variable {B : Int} {xs ys : List Int} {x u : Int} {k : Nat}
theorem Dg.nil : Dg B [] := by simp [Dg]
theorem Dg.take (h : Dg B xs) (k : Nat) : Dg B (xs.take k) := fun x hx => h x (List.mem_of_mem_take hx)
theorem Dg.drop (h : Dg B xs) (k : Nat) : Dg B (xs.drop k) := fun x hx => h x (List.mem_of_mem_drop hx)
theorem Dg.append (h : Dg B xs) (k : Dg B ys) : Dg B (xs ++ ys) := fun x hx => by
 rcases List.mem_append.1 hx with hx | hx
 .
  exact h x hx
 .
  exact k x hx
theorem Dg.set (h : Dg B xs) (hu : 0 <= u /\ u < B) (k : Nat) : Dg B (xs.set k u) := fun x hx => by
 rcases List.mem_or_eq_of_mem_set hx with hx | hx
 .
  exact h x hx
 .
  subst hx; exact hu
theorem Dg.zeros (_hB : 0 < B) (k : Nat) : Dg B (List.replicate k 0) := fun x hx => by
 have := (List.mem_replicate.1 hx).2; omega
theorem Dg.get (h : Dg B xs) (hx : xs[k]? = some x) : 0 <= x /\ x < B := h x (List.mem_of_getElem? hx)
theorem Dg.one (hx : 0 <= x /\ x < B) : Dg B [x] := fun y hy => by simp at hy; subst hy; exact hx
theorem Dg.cons (hx : 0 <= x /\ x < B) (h : Dg B xs) : Dg B (x :: xs) := fun y hy => by
 rcases List.mem_cons.1 hy with hy | hy
 .
  subst hy; exact hx
 .
  exact h y hy
theorem ek (xs ys : List Int) : am B (xs ++ ys) = am B xs + B ^ xs.length * am B ys := by
 induction xs with
 | nil => simp [am]
 | cons x xs ih => simp only [List.cons_append, am, ih, List.length_cons, Int.pow_succ]; grind
theorem di (x : Int) : am B [x] = x := by simp [am]
theorem cH (xs : List Int) (x : Int) : am B (xs ++ [x]) = am B xs + B ^ xs.length * x := by rw [ek, di]
theorem cg (xs : List Int) {k : Nat} (h : k <= xs.length) : am B xs = am B (xs.take k) + B ^ k * am B (xs.drop k) := by
 have := ek (B := B) (xs.take k) (xs.drop k);rw [List.take_append_drop, List.length_take, Nat.min_eq_left h] at this;exact this
theorem bZ (h : xs[k]? = some x) : am B (xs.take (k + 1)) = am B (xs.take k) + B ^ k * x := by
 have hk : k < xs.length := (List.getElem?_eq_some_iff.1 h).1;rw [List.take_add_one, h];simp only [Option.toList_some];rw [cH, List.length_take, Nat.min_eq_left (by omega)]
theorem aH (h : xs[k]? = some x) : am B (xs.drop k) = x + B * am B (xs.drop (k + 1)) := by
 have hk : k < xs.length := (List.getElem?_eq_some_iff.1 h).1;rw [List.drop_eq_getElem_cons hk, am];rw [List.getElem?_eq_getElem hk] at h;simp only [Option.some.injEq] at h;rw [h]
theorem mR (h : xs[k]? = some x) (u : Int) : am B (xs.set k u) = am B xs + B ^ k * (u - x) := by
 induction xs generalizing k with
 | nil => simp at h
 | cons y ys ih =>
  cases k with
  | zero => simp at h; subst h; simp only [List.set_cons_zero, am]; grind
  | succ k => simp only [List.set_cons_succ, am]; rw [ih (by simpa using h), Int.pow_succ]; grind
theorem jJ (k : Nat) : am B (List.replicate k 0) = 0 := by
 induction k with
 | zero => rfl
 | succ k ih => rw [List.replicate_succ, am, ih]; simp
theorem az (hB : 0 < B) (h : Dg B xs) : 0 <= am B xs := by
 induction xs with
 | nil => simp [am]
 | cons x xs ih =>
  have hx := h x (List.mem_cons_self ..);have hi := ih fun y hy => h y (List.mem_cons_of_mem _ hy)
  have := Int.mul_nonneg (Int.le_of_lt hB) hi;rw [am]; omega
theorem aN (hB : 0 < B) (k : Nat) : 0 < B ^ k := Int.pow_pos hB
theorem dD (hB : 0 < B) (h : Dg B xs) : am B xs < B ^ xs.length := by
 induction xs with
 | nil => simp [am]
 | cons x xs ih =>
  have hx := h x (List.mem_cons_self ..);have hi := ih fun y hy => h y (List.mem_cons_of_mem _ hy)
  rw [am, List.length_cons, Int.pow_succ];have h1 : B * (am B xs + 1) <= B * B ^ xs.length := Int.mul_le_mul_of_nonneg_left (by omega) (Int.le_of_lt hB);have h2 : B * (am B xs + 1) = B * am B xs + B := by grind
  have h3 : B * B ^ xs.length = B ^ xs.length * B := Int.mul_comm _ _;omega
end
/-- No most significant digit is 0. -/
def Nm (xs : List Int) : Prop := xs.getLast? ≠ some 0
/-- The normal digits of a number. -/
def Rep (B : Int) (xs : List Int) (n : Nat) : Prop := Dg B xs /\ Nm xs /\ am B xs = (n : Int)
section
variable {B : Int} {xs ys : List Int} {n m : Nat}
theorem Nm.nil : Nm [] := by simp [Nm]
theorem Nm.snoc {x : Int} (h : x ≠ 0) : Nm (xs ++ [x]) := by simp [Nm, h]
theorem Nm.one {x : Int} (h : x ≠ 0) : Nm [x] := by simp [Nm, h]
theorem Nm.split (h : Nm xs) (hne : xs ≠ []) : ∃ ys x, xs = ys ++ [x] /\ x ≠ 0 := by
 refine ⟨xs.dropLast, xs.getLast hne, (List.dropLast_concat_getLast hne).symm, fun e => ?_⟩;exact h (by rw [List.getLast?_eq_some_getLast hne, e])
theorem Nm.take {k : Nat} {x : Int} (h : xs[k]? = some x) (hx : x ≠ 0) : Nm (xs.take (k + 1)) := by
 rw [List.take_add_one, h]; exact Nm.snoc hx
theorem eo (_hB : 1 < B) (hd : Dg B xs) (h : Nm xs) (hne : xs ≠ []) : B ^ (xs.length - 1) <= am B xs := by
 obtain ⟨ys, x, rfl, hx⟩ := h.split hne;have hd1 : Dg B ys := fun y hy => hd y (List.mem_append_left _ hy)
 have hx1 := hd x (List.mem_append_right _ (List.mem_singleton.2 rfl));have h0 := az (by omega) hd1;rw [cH, List.length_append, List.length_singleton, Nat.add_sub_cancel];have hp := aN (B := B) (by omega) ys.length;have : B ^ ys.length * 1 <= B ^ ys.length * x := Int.mul_le_mul_of_nonneg_left (by omega) (Int.le_of_lt hp);omega
theorem ep {a b : Nat} (_hB : 1 <= B) (h : a <= b) : B ^ a <= B ^ b := by
 obtain ⟨k, rfl⟩ := Nat.exists_eq_add_of_le h;rw [Int.pow_add];have h1 := aN (B := B) (by omega) a;have h2 := aN (B := B) (by omega) k;have : B ^ a * 1 <= B ^ a * B ^ k := Int.mul_le_mul_of_nonneg_left (by omega) (Int.le_of_lt h1);omega
theorem Rep.len_le (hB : 1 < B) (h : Rep B xs n) {L : Nat} (_hn : (n : Int) < B ^ L) : xs.length <= L := by
 rcases Nat.lt_or_ge L xs.length with hl | hl
 .
  have h1 := eo hB h.1 h.2.1 (by intro e; subst e; simp at hl);rw [h.2.2] at h1;have := ep (B := B) (a := L) (b := xs.length - 1) (by omega) (by omega);omega
 .
  exact hl
theorem Rep.lt (_hB : 1 < B) (h : Rep B xs n) : (n : Int) < B ^ xs.length := by rw [<- h.2.2]; exact dD (by omega) h.1
theorem Rep.nil : Rep B [] 0 := ⟨Dg.nil, Nm.nil, rfl⟩
theorem Rep.zero (hB : 1 < B) (h : Rep B xs 0) : xs = [] := by
 rcases xs with _ | ⟨x, xs⟩
 .
  rfl
 .
  have h1 := eo hB h.1 h.2.1 (by simp);rw [h.2.2] at h1;have := aN (B := B) (by omega) ((x :: xs).length - 1);omega
theorem Rep.pos (hB : 1 < B) (h : Rep B xs n) : n = 0 ↔ xs = [] := by
 constructor
 .
  rintro rfl; exact h.zero hB
 .
  rintro rfl; have := h.2.2; simp [am] at this; omega
theorem Rep.one (_hB : 1 < B) : Rep B [1] 1 := ⟨Dg.one (by omega), Nm.one (by omega), di 1⟩
theorem Rep.small {x : Int} (_h0 : 0 < x) (_h1 : x < B) : Rep B [x] x.toNat := ⟨Dg.one (by omega), Nm.one (by omega), by rw [di]; omega⟩
theorem Rep.single (_hB : 1 < B) {x : Int} (h : Rep B [x] n) : x = n /\ 0 < n := by
 have h1 := h.2.2;rw [di] at h1;refine ⟨h1, ?_⟩;have := h.2.1
 rcases Nat.eq_zero_or_pos n with h0 | h0
 .
  subst h0; exact absurd (by simp [h1]) this
 .
  exact h0
theorem Rep.lt_of_len (hB : 1 < B) (h : Rep B xs n) (k : Rep B ys m) (hl : xs.length < ys.length) : n < m := by
 have h1 := h.lt hB;have h2 := eo hB k.1 k.2.1 (by intro e; subst e; simp at hl);rw [k.2.2] at h2;have := ep (B := B) (a := xs.length) (b := ys.length - 1) (by omega) (by omega);omega
theorem Rep.of_take {k : Nat} (hd : Dg B xs) (hv : am B (xs.take k) = am B xs) (hn : Nm (xs.take k)) (he : am B xs = (n : Int)) : Rep B (xs.take k) n := ⟨hd.take k, hn, by rw [hv, he]⟩
end
/-- Comparing from the most significant digit on: all digits from k on are equal. -/
theorem gF {B : Int} (_hB : 1 < B) {xs ys : List Int} {k : Nat} {x y : Int} (_hl : xs.length = ys.length) (hx : Dg B xs) (hy : Dg B ys) (h : xs.drop (k + 1) = ys.drop (k + 1)) (h1 : xs[k]? = some x) (h2 : ys[k]? = some y) (_hlt : x < y) : am B xs < am B ys := by
 have hk : k < xs.length := (List.getElem?_eq_some_iff.1 h1).1;rw [cg xs (Nat.le_of_lt hk), cg (B := B) ys (k := k) (by omega), aH h1, aH h2, h];have a1 := dD (B := B) (by omega) (hx.take k);have a2 := az (B := B) (by omega) (hy.take k);rw [List.length_take, Nat.min_eq_left (by omega)] at a1;have hp := aN (B := B) (by omega) k;have : B ^ k * (x + 1) <= B ^ k * y := Int.mul_le_mul_of_nonneg_left (by omega) (Int.le_of_lt hp);generalize B * am B (ys.drop (k + 1)) = r at *;have e1 : B ^ k * (x + r) = B ^ k * (x + 1) - B ^ k + B ^ k * r := by grind
 have e2 : B ^ k * (y + r) = B ^ k * y + B ^ k * r := by grind
 omega
end Go.Proofs.Ytikhlcgnlbinfaa
namespace Go.Proofs.Ytikhlcgnlbinfaa
open Lib (hid)
open Go.RowKit
/-- n has at most L digits. -/
def Fit (B : Int) (n L : Nat) : Prop := (n : Int) < B ^ L
section
variable {B : Int} {n m a b L : Nat} {xs : List Int}
theorem Fit.mul (hB : 0 < B) (h : Fit B n a) (_k : Fit B m b) : Fit B (n * m) (a + b) := by
 unfold Fit at *;rw [Int.pow_add, Int.natCast_mul];have h1 : (n : Int) * m <= n * B ^ b := Int.mul_le_mul_of_nonneg_left (by omega) (by omega);have h2 : (n : Int) * B ^ b < B ^ a * B ^ b := Int.mul_lt_mul_of_pos_right h (aN hB b);omega
theorem Fit.mono (hB : 1 <= B) (_h : Fit B n a) (hl : a <= b) : Fit B n b := by
 have := ep (B := B) hB hl;unfold Fit at *; omega
theorem Fit.le (_h : Fit B n a) (_hl : m <= n) : Fit B m a := by unfold Fit at *; omega
theorem Fit.add (hB : 2 <= B) (_h : Fit B n a) (_k : Fit B m a) : Fit B (n + m) (a + 1) := by
 unfold Fit at *;rw [Int.pow_succ];have hp := aN (B := B) (by omega) a;have : B ^ a * 2 <= B ^ a * B := Int.mul_le_mul_of_nonneg_left hB (Int.le_of_lt hp);omega
theorem Fit.len (hB : 1 < B) (h : Fit B n L) (hr : Rep B xs n) : xs.length <= L := hr.len_le hB h
theorem Fit.one (_hB : 1 < B) (h : 0 < L) : Fit B 1 L := by
 have := ep (B := B) (a := 1) (b := L) (by omega) h;unfold Fit; rw [Int.pow_succ, Int.pow_zero] at this; omega
end
/-- A value that is a slice of words, the normal form of n. -/
def NatV (k : IntKind) (B : Int) (w : World) (v : Value) (n : Nat) : Prop :=
 ∃ A m c xs, v = .slice A m c /\ Ints k w A m xs /\ Rep B xs n /\ m <= c /\ c <= 9223372036854775807
theorem NatV.ext {k : IntKind} {B : Int} {w w' : World} {v : Value} {n : Nat} (h : NatV k B w v n) (he : Ext w w') : NatV k B w' v n := by
 obtain ⟨A, m, c, xs, h1, h2, h3⟩ := h;exact ⟨A, m, c, xs, h1, h2.ext he, h3⟩
theorem NatV.zero {k : IntKind} {B : Int} {w : World} : NatV k B w (.slice none 0 0) 0 := ⟨none, 0, 0, [], rfl, Ints.nil, Rep.nil, by omega, by omega⟩
/-- What a call returns that makes a number. -/
def lc (k : IntKind) (B : Int) (w : World) (n : Nat) (e : Ending) (w' : World) : Prop := ∃ v, e = .returned v /\ NatV k B w' v n /\ Ext w w'
/-- Storing at place j of a row of the call's own. -/
theorem OwnS.store {k : IntKind} {e : TypeId} {base : Nat} {w : World} {A : Option Addr} {n c : Nat} {xs : List Int} (h : OwnS k e base w A n c xs) {j : Nat} (hj : j < n) :
  ∃ g x, A = some ⟨g, 0, none⟩ /\ xs[j]? = some x /\ (Lit.int k x).wf = true /\ w.cell? ⟨g, j, none⟩ = some (.int k x) /\ w.frozen? ⟨g, j, none⟩ = false /\ base <= g /\
   Hid (∀ u, (Lit.int k u).wf = true -> OwnS k e base (w.setCell ⟨g, j, none⟩ (.int k u)) A n c (xs.set j u)) := by
 have hj' : j < xs.length := by rw [h.len]; exact hj
 have hown := h.own
 rcases hown.2 with ⟨_, h0⟩ | ⟨g, cap, cur, hv, hg, _⟩
 .
  omega
 .
  injection hv with hA _ _;subst hA;have hc := hown.cellAt j (by omega);rw [List.getElem?_map, List.getElem?_eq_getElem hj'] at hc;refine ⟨g, xs[j], rfl, List.getElem?_eq_getElem hj', h.wf _ (List.getElem_mem hj'), hc, hown.frozenAt j, hg, fun u hu => ⟨?_, by rw [List.length_set, h.len], fun x hx => ?_⟩⟩
  .
   have := (hown.stored j (.int k u)).1
   rwa [<- List.map_set] at this
  .
   rcases List.mem_or_eq_of_mem_set hx with hx | hx
   .
    exact h.wf x hx
   .
    subst hx; exact hu
theorem OwnS.get {k : IntKind} {e : TypeId} {base : Nat} {w : World} {A : Option Addr} {n c : Nat} {xs : List Int} (h : OwnS k e base w A n c xs) {j : Nat} (hj : j < n) :
  ∃ g x, A = some ⟨g, 0, none⟩ /\ xs[j]? = some x /\ (Lit.int k x).wf = true /\ w.cell? ⟨g, j, none⟩ = some (.int k x) := by
 obtain ⟨g, x, h1, h2, h3, h4, _⟩ := h.store hj;exact ⟨g, x, h1, h2, h3, h4⟩
/-- A beginning of a row of the call's own. -/
theorem OwnS.front {k : IntKind} {e : TypeId} {base : Nat} {w : World} {A : Option Addr} {n c : Nat} {xs : List Int} (h : OwnS k e base w A n c xs) {m : Nat} (hm : m <= n) : OwnS k e base w A m c (xs.take m) := by
 refine ⟨⟨by simp [h.len]; omega, ?_⟩, by rw [List.length_take, h.len]; omega, fun x hx => h.wf x (List.mem_of_mem_take hx)⟩
 rcases h.own.2 with ⟨hv, h0⟩ | ⟨g, cap, cur, hv, hg, hb, h1, h2, h3, h4⟩
 .
  injection hv with hA hn hc;subst hA hc;obtain rfl : m = 0 := by omega
  exact .inl ⟨rfl, rfl⟩
 .
  injection hv with hA hn hc;subst hA hc;refine .inr ⟨g, c, cur, rfl, hg, hb, by omega, h2, h3, ?_⟩;simp only [Nat.mul_one] at h4 |-;rw [List.map_take, <- h4, List.take_take, Nat.min_eq_left hm]
theorem OwnS.natv {k : IntKind} {e : TypeId} {base : Nat} {w : World} {A : Option Addr} {n c : Nat} {xs : List Int} {B : Int} {N : Nat} (h : OwnS k e base w A n c xs) (hr : Rep B xs N) : NatV k B w (.slice A n c) N :=
 ⟨A, n, c, xs, rfl, h.ints, hr, h.cap.1, h.cap.2⟩
/-- The row that 'make' makes. -/
theorem OwnS.made {k : IntKind} {e : TypeId} {base : Nat} {w : World} {g n c : Nat} (h : w.ownsRow base e 1 (.slice (some ⟨g, 0, none⟩) n c) n (List.replicate n (.int k 0))) : OwnS k e base w (some ⟨g, 0, none⟩) n c (List.replicate n 0) := by
 refine ⟨by simpa using h, by simp, fun x hx => ?_⟩;have := (List.mem_replicate.1 hx).2;subst this
 cases k <;> decide
end Go.Proofs.Ytikhlcgnlbinfaa
namespace Go.Proofs.Ytikhlcgnlbinfaa
open Lib (hid)
section
variable {B : Int} {xs ys out : List Int} {k i j : Nat} {x y u c s : Int}
theorem cd (xs : List Int) (k : Nat) : am B (xs.take (k + 1)) = am B (xs.take k) + B ^ k * xs.getD k 0 := by
 rcases Nat.lt_or_ge k xs.length with h | h
 .
  rw [bZ (List.getElem?_eq_getElem h)]; simp [List.getD, h]
 .
  rw [List.take_of_length_le (by omega), List.take_of_length_le (by omega)]; simp [List.getD, h]
theorem fO (h : k < out.length) (u : Int) : am B ((out.set k u).take (k + 1)) = am B (out.take k) + B ^ k * u := by
 rw [cd, List.take_set_of_le (Nat.le_refl k)]; simp [List.getD, h]
theorem cB (h : xs.length <= k) : am B (xs.take k) = am B xs := by rw [List.take_of_length_le h]
/-- One step of the inner loop of a multiplication: x is the digit i of the first number. -/
theorem ld {v : Int} {n : Nat} (_hi : am B (out.take n) + c * B ^ (i + j) = v + x * am B (ys.take j) * B ^ i) (hl : i + j < n) (_hn : n <= out.length) {o : Int} (ho : out[i + j]? = some o) (_hs : s = x * ys.getD j 0 + o + c) :
  am B ((out.set (i + j) (s % B)).take n) + s / B * B ^ (i + (j + 1)) = v + x * am B (ys.take (j + 1)) * B ^ i := by
 have e := Int.emod_add_mul_ediv s B;have h1 : (out.set (i + j) (s % B)).take n = (out.take n).set (i + j) (s % B) := by rw [List.take_set]
 have h2 : (out.take n)[i + j]? = some o := by rw [List.getElem?_take, if_pos hl, ho]
 rw [h1, mR h2, cd, <- Nat.add_assoc, Int.pow_succ];have h3 : B ^ (i + j) = B ^ i * B ^ j := Int.pow_add ..;grind
/-- One step of the outer loop. -/
theorem lf {V : Int} {n : Nat} (_hi : am B (out.take n) + c * B ^ (i + j) = am B (xs.take i) * V + x * V * B ^ i) (hn : n = i + j) (hl : n < out.length) (hx : xs.getD i 0 = x) :
  am B ((out.set n c).take (n + 1)) = am B (xs.take (i + 1)) * V := by
 subst hn;rw [fO hl, cd, hx];grind
end
end Go.Proofs.Ytikhlcgnlbinfaa
namespace Go.Proofs.Ytikhlcgnlbinfaa
open Lib (hid)
open Go.RowKit
/-- How two numbers compare. -/
def cG (n m : Nat) : Int := if n < m then -1 else if m < n then 1 else 0
theorem dj {n m : Nat} (h : n < m) : cG n m = -1 := by simp [cG, h]
theorem ec {n m : Nat} (h : m < n) : cG n m = 1 := by
 unfold cG; rw [if_neg (by omega), if_pos h]
theorem fP {n m : Nat} (h : n = m) : cG n m = 0 := by simp [cG, h]
/-- The operations of a region. -/
def ab (n : Nat) : Code -> Option (List Oper)
 | .region i ops _ => if i == n then some ops.toList else none
 | .seq a b => match ab n a with
  | some c => some c
  | none => ab n b
 | .block _ c => ab n c
 | .loop c => ab n c
 | .scope c => ab n c
 | .cond _ a b => match ab n a with
  | some c => some c
  | none => ab n b
 | _ => none
def ae (f : Func) (n : Nat) : List Oper := (f.body.bind (ab n)).getD []
/-- The act with the values 'us k', 'us (k + 1)', .. in the slots 'ds' (none: no slot). -/
def aE (a : Act) : List (Option Tmp) -> (Nat -> Value) -> Nat -> Act
 | [], _, _ => a
 | d :: ds, us, k => aE (a.put d (us k)) ds us (k + 1)
def dE (us : Nat -> Value) (i : Nat) (v : Value) : Nat -> Value := fun j => if j = i then v else us j
theorem jK (a : Act) (d : Option Tmp) (x y : Value) : (a.put d x).put d y = a.put d y := by
 cases d <;> simp [Act.put, Array.setIfInBounds_setIfInBounds]
theorem jL (a : Act) {d e : Option Tmp} (h : d = none \/ d ≠ e) (x y : Value) : (a.put d x).put e y = (a.put e y).put d x := by
 cases d with
 | none => rfl
 | some d =>
  cases e with
  | none => rfl
  | some e =>
   have hne : d ≠ e := fun q => by rcases h with h | h <;> simp_all
   simp only [Act.put];rw [Array.setIfInBounds_comm _ _ hne]
/-- No slot twice. -/
def dk (ds : List (Option Tmp)) : Prop := ds.Pairwise fun d e => d = none \/ d ≠ e
theorem jM (us : Nat -> Value) (d : Option Tmp) (v : Value) : ∀ (ds : List (Option Tmp)), (∀ e ∈ ds, d = none \/ d ≠ e) -> ∀ (a : Act) (k : Nat), (aE a ds us k).put d v = aE (a.put d v) ds us k := by
 intro ds
 induction ds with
 | nil => intro _ a k; rfl
 | cons e ds ih =>
  intro hd a k;simp only [aE];rw [ih (fun e he => hd e (List.mem_cons_of_mem _ he)), jL a (hd e (List.mem_cons_self ..))]
theorem gG (ds : List (Option Tmp)) (us us' : Nat -> Value) : ∀ (a : Act) (k : Nat), (∀ j, k <= j -> us j = us' j) -> aE a ds us k = aE a ds us' k := by
 induction ds with
 | nil => intro a k _; rfl
 | cons e ds ih =>
  intro a k h;simp only [aE];rw [h k (Nat.le_refl _)];exact ih _ _ fun j hj => h j (by omega)
theorem fj (us : Nat -> Value) (v : Value) : ∀ (ds : List (Option Tmp)), dk ds -> ∀ (a : Act) (k i : Nat) (d : Option Tmp), ds[i]? = some d -> (aE a ds us k).put d v = aE a ds (dE us (k + i) v) k := by
 intro ds
 induction ds with
 | nil => intro _ a k i d h; simp at h
 | cons e ds ih =>
  intro hn a k i d h;have hn' := List.pairwise_cons.1 hn
  cases i with
  | zero =>
   simp at h;subst h;simp only [aE];rw [jM us e v ds hn'.1, jK];have e1 : dE us (k + 0) v k = v := by simp [dE]
   rw [e1];exact gG ds _ _ _ _ fun j hj => by simp [dE]; omega
  | succ i =>
   simp only [aE];have hi : ds[i]? = some d := by simpa using h
   rw [ih hn'.2 _ (k + 1) i d hi];have e1 : dE us (k + (i + 1)) v k = us k := by simp [dE]
   have e2 : k + 1 + i = k + (i + 1) := by omega
   rw [e1, e2]
theorem dT : ∀ (ds : List (Option Tmp)) (a : Act) (k : Nat) (us : Nat -> Value), (∀ d, some d ∈ ds -> d < a.tmps.size) -> (∀ i d, ds[i]? = some (some d) -> us (k + i) = a.tmps.getD d undef) -> aE a ds us k = a := by
 intro ds
 induction ds with
 | nil => intro a k us _ _; rfl
 | cons e ds ih =>
  intro a k us hb hu;simp only [aE]
  have hput : a.put e (us k) = a := by
   cases e with
   | none => rfl
   | some d =>
    have h0 := hu 0 d rfl;rw [Nat.add_zero] at h0;rw [h0];have hd := hb d (List.mem_cons_self ..);simp only [Act.put]
    have : a.tmps.setIfInBounds d (a.tmps.getD d undef) = a.tmps := by
     apply Array.ext_getElem?;intro i;rw [Array.getElem?_setIfInBounds]
     by_cases hi : d = i
     .
      subst hi; simp [hd, Array.getD]
     .
      simp [hi]
    rw [this]
  rw [hput]
  exact ih a (k + 1) us (fun d hd => hb d (List.mem_cons_of_mem _ hd)) fun i d hi => by
   have := hu (i + 1) d (by simpa using hi);rw [<- this]; congr 1; omega
/-- What one operation must give: 'done' are those that were carried out; 'D' those whose values it uses, 'A' those that cannot have been carried out before it. -/
def JOp (P : Program) (ops : Array Oper) (V : Nat -> Value -> World -> Prop) (J : (Nat -> Prop) -> World -> Prop) (D A : List (List Nat)) (ds : List (Option Tmp)) (a : Act) (i : Nat) (o : Oper) : Prop :=
 ∀ (done : Nat -> Prop) (us : Nat -> Value) (W : World), J done W -> (∀ j ∈ D.getD i [], V j (us j) W /\ done j) -> (∀ j ∈ A.getD i [], ¬ done j) -> ¬ done i -> ∀ K : Act -> World -> Prop,
  (∀ v W', V i v W' -> (∀ j u, done j -> V j u W -> V j u W') -> J (fun k => done k \/ k = i) W' -> K ((aE a ds us 0).put o.dst v) W') -> ∀ Q' : Exit -> Act -> World -> Prop,
  if Region.wanted o (yielded ops (aE a ds us 0).tmps) then o.wp P (aE a ds us 0) W K Q' else K ((aE a ds us 0).put o.dst undef) W
def JAll (P : Program) (ops : Array Oper) (V : Nat -> Value -> World -> Prop) (J : (Nat -> Prop) -> World -> Prop) (D A : List (List Nat)) (ds : List (Option Tmp)) (a : Act) : Nat -> List Oper -> Prop
 | _, [] => True
 | i, o :: rest => JOp P ops V J D A ds a i o /\ JAll P ops V J D A ds a (i + 1) rest
theorem JAll.at {P : Program} {ops : Array Oper} {V : Nat -> Value -> World -> Prop} {J : (Nat -> Prop) -> World -> Prop} {D A : List (List Nat)} {ds : List (Option Tmp)} {a : Act} : ∀ (l : List Oper) (k : Nat), JAll P ops V J D A ds a k l -> ∀ i o, l[i]? = some o -> JOp P ops V J D A ds a (k + i) o := by
 intro l
 induction l with
 | nil => intro k _ i o h; simp at h
 | cons x l ih =>
  intro k h i o ho
  cases i with
  | zero => simp at ho; subst ho; exact h.1
  | succ i =>
   have := ih (k + 1) h.2 i o (by simpa using ho);rw [show k + 1 + i = k + (i + 1) by omega] at this;exact this
theorem jN (a : Act) (d : Option Tmp) (v : Value) : (a.put d v).tmps.size = a.tmps.size := by
 cases d <;> simp [Act.put]
theorem jO (a : Act) (e : Option Tmp) (v : Value) {d : Tmp} (h : e ≠ some d) : (a.put e v).tmps[d]? = a.tmps[d]? := by
 cases e with
 | none => rfl
 | some e => simp only [Act.put]; rw [Array.getElem?_setIfInBounds, if_neg (fun q => h (by rw [q]))]
theorem cW (us : Nat -> Value) : ∀ (ds : List (Option Tmp)) (a : Act) (k : Nat) (d : Tmp), some d ∉ ds -> (aE a ds us k).tmps[d]? = a.tmps[d]? := by
 intro ds
 induction ds with
 | nil => intro a k d _; rfl
 | cons e ds ih =>
  intro a k d h;simp only [List.mem_cons, not_or] at h;simp only [aE];rw [ih _ _ d h.2, jO _ _ _ (Ne.symm h.1)]
theorem fk (us : Nat -> Value) : ∀ (ds : List (Option Tmp)), dk ds -> ∀ (a : Act) (k i : Nat) (d : Tmp), ds[i]? = some (some d) -> d < a.tmps.size -> (aE a ds us k).tmps[d]? = some (us (k + i)) := by
 intro ds
 induction ds with
 | nil => intro _ a k i d h; simp at h
 | cons e ds ih =>
  intro hn a k i d h hd;have hn' := List.pairwise_cons.1 hn;simp only [aE]
  cases i with
  | zero =>
   simp at h;subst h;rw [cW us ds _ _ d (fun hm => by rcases hn'.1 _ hm with h | h <;> simp at h)];simp only [Act.put];rw [Array.getElem?_setIfInBounds_self_of_lt hd]; rfl
  | succ i =>
   have hi : ds[i]? = some (some d) := by simpa using h
   rw [ih hn'.2 _ (k + 1) i d hi (by rw [jN]; exact hd)]
   congr 2; omega
/-- The same mN a frame of which only the slots' values are known. -/
theorem JOp.of {P : Program} {ops : Array Oper} {V : Nat -> Value -> World -> Prop} {J : (Nat -> Prop) -> World -> Prop} {D A : List (List Nat)} {ds : List (Option Tmp)} {a : Act} {i : Nat} {o : Oper} (hn : dk ds) (hs : ∀ d, some d ∈ ds -> d < a.tmps.size)
  (h : ∀ (done : Nat -> Prop) (us : Nat -> Value) (W : World), J done W -> (∀ j ∈ D.getD i [], V j (us j) W /\ done j) -> (∀ j ∈ A.getD i [], ¬ done j) -> ¬ done i -> ∀ b : Act, (∀ j d, ds[j]? = some (some d) -> b.tmps[d]? = some (us j)) -> (∀ d, some d ∉ ds -> b.tmps[d]? = a.tmps[d]?) -> ∀ K : Act -> World -> Prop,
   (∀ v W', V i v W' -> (∀ j u, done j -> V j u W -> V j u W') -> J (fun k => done k \/ k = i) W' -> K (b.put o.dst v) W') -> ∀ Q' : Exit -> Act -> World -> Prop,
   if Region.wanted o (yielded ops b.tmps) then o.wp P b W K Q' else K (b.put o.dst undef) W) : JOp P ops V J D A ds a i o := by
 intro done us W hJ hdep haft hnot K hK Q';refine h done us W hJ hdep haft hnot _ (fun j d hj => ?_) (fun d hd => cW us ds a 0 d hd) K hK Q';have := fk us ds hn a 0 j d hj (hs d (List.mem_of_getElem? hj))
 rwa [Nat.zero_add] at this
/-- What one operation must give, mN a frame of which only the slots' values are known. -/
def qt (P : Program) (ops : Array Oper) (V : Nat -> Value -> World -> Prop) (J : (Nat -> Prop) -> World -> Prop) (D A : List (List Nat)) (ds : List (Option Tmp)) (a : Act) (i : Nat) (o : Oper) : Prop :=
 ∀ (done : Nat -> Prop) (us : Nat -> Value) (W : World), J done W -> (∀ j ∈ D.getD i [], V j (us j) W /\ done j) -> (∀ j ∈ A.getD i [], ¬ done j) -> ¬ done i -> ∀ b : Act, (∀ j d, ds[j]? = some (some d) -> b.tmps[d]? = some (us j)) -> (∀ d, some d ∉ ds -> b.tmps[d]? = a.tmps[d]?) -> ∀ K : Act -> World -> Prop,
   (∀ v W', V i v W' -> (∀ j u, done j -> V j u W -> V j u W') -> J (fun k => done k \/ k = i) W' -> K (b.put o.dst v) W') -> ∀ Q' : Exit -> Act -> World -> Prop,
   if Region.wanted o (yielded ops b.tmps) then o.wp P b W K Q' else K (b.put o.dst undef) W
def JAllq (P : Program) (ops : Array Oper) (V : Nat -> Value -> World -> Prop) (J : (Nat -> Prop) -> World -> Prop) (D A : List (List Nat)) (ds : List (Option Tmp)) (a : Act) : Nat -> List Oper -> Prop
 | _, [] => True
 | i, o :: rest => qt P ops V J D A ds a i o /\ JAllq P ops V J D A ds a (i + 1) rest
theorem JAllq.all {P : Program} {ops : Array Oper} {V : Nat -> Value -> World -> Prop} {J : (Nat -> Prop) -> World -> Prop} {D A : List (List Nat)} {ds : List (Option Tmp)} {a : Act} (hn : dk ds) (hs : ∀ d, some d ∈ ds -> d < a.tmps.size) : ∀ (l : List Oper) (k : Nat), JAllq P ops V J D A ds a k l -> JAll P ops V J D A ds a k l := by
 intro l
 induction l with
 | nil => intro k _; trivial
 | cons o l ih => intro k h; exact ⟨JOp.of hn hs h.1, ih (k + 1) h.2⟩
def dl : List (Option Tmp) -> Bool
 | [] => true
 | d :: ds => ds.all (fun e => d == none || d != e) && dl ds
theorem cX : ∀ (ds : List (Option Tmp)), dl ds = true -> dk ds := by
 intro ds
 induction ds with
 | nil => intro _; exact List.Pairwise.nil
 | cons d ds ih =>
  intro h;simp only [dl, Bool.and_eq_true] at h;refine List.Pairwise.cons (fun e he => ?_) (ih h.2);have := List.all_eq_true.1 h.1 e he;simp at this
  rcases this with h | h
  .
   exact .inl h
  .
   exact .inr h
theorem aI {ds : List (Option Tmp)} {N : Nat} (h : ds.all (fun x => match x with | some d => decide (d < N) | none => true) = true) {a : Act} (hs : N <= a.tmps.size) : ∀ d, some d ∈ ds -> d < a.tmps.size := fun d hd => by
 have := List.all_eq_true.1 h _ hd;simp at this;exact Nat.lt_of_lt_of_le this hs
/-- What the kernel looks at. -/
def jB (ops : Array Oper) (n : Nat) (ds : List (Option Tmp)) (D A : List (List Nat)) : Bool :=
 decide (n <= ops.size) && decide (ds.length = n) && dl ds && (List.range n).all (fun i => (((ops[i]?).map (·.dst)) == ds[i]?) && (D.getD i []).all (fun j => decide (j < i) && Region.waitsFor .any ops i j) && (A.getD i []).all (fun j => decide (j < n) && Region.waitsFor .any ops j i)) &&
 (List.range n).all (fun i => match ops[i]? with | some o => o.after.all (fun e => !Region.binds .any e || decide (e.on < i)) | none => false) &&
 (decide (n = ops.size) || (Region.sinkB .any ops n && Region.chainB .any ops n)) && Region.seqB .any ops (ops.size - n) n ((List.range ops.size).map (fun i => decide (i < n))).toArray
section
variable {P : Program} {l : List Oper} {n : Nat} {ds : List (Option Tmp)} {D A : List (List Nat)} {V : Nat -> Value -> World -> Prop} {J : (Nat -> Prop) -> World -> Prop} {a : Act} {Q : Exit -> Act -> World -> Prop}
theorem pE (hB : jB l.toArray n ds D A = true) (hJ : ∀ p q W, (∀ k, p k ↔ q k) -> J p W -> J q W) (hop : JAll P l.toArray V J D A ds a 0 (l.take n))
  (hend : ∀ us W, (∀ j, j < n -> V j (us j) W) -> J (fun k => k < n) W -> wpList P l.toArray Q (l.drop n) (aE a ds us 0) W) :
  ∀ (f : Nat) (rem : List Nat) (listed : Array Bool) (us : Nat -> Value) (W : World), rem.length = f -> rem.Nodup -> HeadInv .any l.toArray n listed -> (∀ j, j < n -> (listed.getD j true = false ↔ j ∈ rem)) -> (∀ j ∈ rem, j < n) ->
   (∀ j, j < n -> j ∉ rem -> V j (us j) W) -> J (fun k => k < n /\ k ∉ rem) W -> wpAny P .any l.toArray Q (f + (l.toArray.size - n)) listed (aE a ds us 0) W := by
 simp only [jB, Bool.and_eq_true, decide_eq_true_eq] at hB;obtain ⟨⟨⟨⟨⟨⟨hn, hl⟩, hnt⟩, hD⟩, hless⟩, hsc⟩, hseq⟩ := hB;have hnd := cX ds hnt;intro f
 induction f with
 | zero =>
  intro rem listed us W hlen _ inv hrem _ hV hX;obtain rfl : rem = [] := List.eq_nil_of_length_eq_zero hlen
  have hlist : listed = ((List.range l.toArray.size).map (fun i => decide (i < n))).toArray := by
   apply Array.ext
   .
    simp [inv.size]
   .
    intro i h1 h2;have hsz := inv.size;simp only [List.getElem_toArray, List.getElem_map, List.getElem_range]
    by_cases hi : i < n
    .
     have h3 := hrem i hi;simp only [List.not_mem_nil, iff_false, Bool.not_eq_false] at h3;have h4 : listed.getD i true = listed[i] := by simp [Array.getD, h1]
     rw [h4] at h3;simp [h3, hi]
    .
     have h3 := inv.tail i (by omega) (by omega);have h4 : listed.getD i true = listed[i] := by simp [Array.getD, h1]
     rw [h4] at h3;simp [h3, hi]
  have hdl : (l.drop n).length = l.toArray.size - n := by simp
  rw [Nat.zero_add, <- hdl];refine wpAny_of_seq (l.drop n) n listed _ W (fun j => by simp [List.getElem?_drop]) ?_ (hend us W (fun j hj => hV j hj (by simp)) (hJ _ _ W (by simp) hX));rw [hdl, hlist];exact hseq
 | succ f ih =>
  intro rem listed us W hlen hnodup inv hrem hlt hV hX;rw [show f + 1 + (l.toArray.size - n) = (f + (l.toArray.size - n)) + 1 by omega];have hne : rem ≠ [] := by intro e; subst e; simp at hlen
  refine ⟨fun h0 => ?_, fun i hi => ?_⟩
  .
   exfalso
   obtain ⟨k, hk, hmin⟩ : ∃ k ∈ rem, ∀ j ∈ rem, k <= j := by
    obtain ⟨m, hm, hm2⟩ := exists_least (p := fun m => m ∈ rem) (by cases rem with | nil => exact absurd rfl hne | cons x xs => exact ⟨x, List.mem_cons_self ..⟩);exact ⟨m, hm, fun j hj => hm2 j hj⟩
   have hkn := hlt k hk
   have hr : k ∈ Region.ready .any l.toArray listed := by
    refine mem_ready.2 ⟨(hrem k hkn).2 hk, ?_⟩;have h1 := List.all_eq_true.1 hless k (List.mem_range.2 hkn)
    cases ho : l.toArray[k]? with
    | none => rw [ho] at h1; simp at h1
    | some o =>
     rw [ho] at h1;refine ⟨o, rfl, fun e he hb => ?_⟩;have h2 := Array.all_eq_true_iff_forall_mem.1 h1 e he;simp only [hb, Bool.not_true, Bool.false_or, decide_eq_true_eq] at h2;have h3 : e.on ∉ rem := fun h => by have := hmin _ h; omega
     have h4 : listed.getD e.on true = true := by
      cases h5 : listed.getD e.on true with
      | true => rfl
      | false => exact absurd ((hrem e.on (by omega)).1 h5) h3
     have hsz : e.on < listed.size := by rw [inv.size]; omega
     simp [Array.getD, hsz] at h4 |-;exact h4
   rw [h0] at hr
   cases hr
  .
   obtain ⟨hun, o, ho, hall⟩ := mem_ready.1 hi;have hisz : i < l.toArray.size := (Array.getElem?_eq_some_iff.1 ho).1
   have hin : i < n := by
    rcases Nat.lt_or_ge i n with h | h
    .
     exact h
    .
     simp only [Bool.or_eq_true, Bool.and_eq_true, decide_eq_true_eq] at hsc
     rcases hsc with hsc | ⟨hs, hc⟩
     .
      omega
     .
      obtain ⟨k, hk⟩ : ∃ k, k ∈ rem := by cases rem with | nil => exact absurd rfl hne | cons x xs => exact ⟨x, List.mem_cons_self ..⟩
      exact absurd hi (tail_waits hs hc (by omega) inv _ k rfl (hlt k hk) ((hrem k (hlt k hk)).2 hk) i h)
   have hir : i ∈ rem := (hrem i hin).1 hun;have hDi := List.all_eq_true.1 hD i (List.mem_range.2 hin);simp only [Bool.and_eq_true, beq_iff_eq] at hDi;obtain ⟨⟨hdst, hdeps⟩, hafts⟩ := hDi;rw [ho] at hdst;simp only [Option.map_some] at hdst;have hm := JAll.at (l.take n) 0 hop i o (by rw [List.getElem?_take, if_pos hin]; simpa using ho);rw [Nat.zero_add] at hm
   have hdp : ∀ j ∈ D.getD i [], V j (us j) W /\ (j < n /\ j ∉ rem) := fun j hj => by
    have h1 := List.all_eq_true.1 hdeps j hj;simp only [Bool.and_eq_true, decide_eq_true_eq] at h1;obtain ⟨oj, hoj, e, he, hb, hon⟩ := Region.waitsFor_spec h1.2;have : oj = o := Option.some.inj (hoj.symm.trans ho);subst this;have h2 := hall e he hb;rw [hon] at h2
    have hjr : j ∉ rem := fun hjr => by
     have h3 := (hrem j (by omega)).2 hjr;rw [getD_both h3] at h2
     cases h2
    exact ⟨hV j (by omega) hjr, by omega, hjr⟩
   have haf : ∀ j ∈ A.getD i [], ¬ (j < n /\ j ∉ rem) := fun j hj hd => by
    have h1 := List.all_eq_true.1 hafts j hj;simp only [Bool.and_eq_true, decide_eq_true_eq] at h1;obtain ⟨oj, hoj, e, he, hb, hon⟩ := Region.waitsFor_spec h1.2
    have h4 : listed.getD j false = true := by
     have h5 : listed.getD j true = true := by
      cases h5 : listed.getD j true with
      | true => rfl
      | false => exact absurd ((hrem j hd.1).1 h5) hd.2
     have hsz : j < listed.size := by rw [inv.size]; omega
     simp [Array.getD, hsz] at h5 |-;exact h5
    have h6 := inv.closed j oj hoj h4 e he hb;rw [hon, getD_both hun] at h6
    cases h6
   have key : ∀ v W', V i v W' -> (∀ j u, (j < n /\ j ∉ rem) -> V j u W -> V j u W') -> J (fun k => (k < n /\ k ∉ rem) \/ k = i) W' -> wpAny P .any l.toArray Q (f + (l.toArray.size - n)) (listed.setIfInBounds i true) ((aE a ds us 0).put o.dst v) W' := fun v W' hv hst hj => by
    rw [fj us v ds hnd a 0 i o.dst hdst.symm, Nat.zero_add];refine ih (rem.erase i) _ (dE us i v) W' (by rw [List.length_erase_of_mem hir]; omega) (hnodup.erase i) (inv.set hi hin) (fun j hj => ?_) (fun j hj => hlt j (List.mem_of_mem_erase hj)) (fun j hj hjr => ?_) (hJ _ _ W' (fun k => ?_) hj)
    .
     by_cases hji : i = j
     .
      subst hji;have hsz : i < listed.size := by rw [inv.size]; omega
      simp [Array.getD, hsz];exact fun h => (hnodup.mem_erase_iff.1 h).1 rfl
     .
      rw [getD_set_ne true hji, hrem j hj, hnodup.mem_erase_iff];exact ⟨fun h => ⟨Ne.symm hji, h⟩, fun h => h.2⟩
    .
     by_cases hji : j = i
     .
      subst hji; simpa [dE] using hv
     .
      have : dE us i v j = us j := by simp [dE, hji]
      rw [this];have hjr' : j ∉ rem := fun h => hjr (hnodup.mem_erase_iff.2 ⟨hji, h⟩)
      exact hst j _ ⟨hj, hjr'⟩ (hV j hj hjr')
    .
     rw [hnodup.mem_erase_iff];constructor
     .
      rintro (⟨h1, h2⟩ | rfl)
      .
       exact ⟨h1, fun h => h2 h.2⟩
      .
       exact ⟨hin, fun h => h.1 rfl⟩
     .
      rintro ⟨h1, h2⟩
      by_cases hki : k = i
      .
       exact .inr hki
      .
       exact .inl ⟨h1, fun h => h2 ⟨hki, h⟩⟩
   unfold wpOp;rw [ho];simp only;have hgo := hm (fun k => k < n /\ k ∉ rem) us W hX hdp haf (fun h => h.2 hir) (wpAny P .any l.toArray Q (f + (l.toArray.size - n)) (listed.setIfInBounds i true)) key Q;split
   .
    rename_i hw; rw [if_pos hw] at hgo; exact .inl hgo
   .
    rename_i hw; rw [if_neg hw] at hgo; exact hgo
/-- THE LAW. -/
theorem aJ {id : Nat} {w : World} (n : Nat) (ds : List (Option Tmp)) (D A : List (List Nat)) (V : Nat -> Value -> World -> Prop) (J : (Nat -> Prop) -> World -> Prop) (hm : P.follows .mixedOrders = true) (hB : jB l.toArray n ds D A = true)
  (hd : ∀ d, some d ∈ ds -> d < a.tmps.size) (hJ : ∀ p q W, (∀ k, p k ↔ q k) -> J p W -> J q W) (h0 : J (fun _ => False) w.drew) (hop : JAllq P l.toArray V J D A ds a 0 (l.take n))
  (hend : ∀ us W, (∀ j, j < n -> V j (us j) W) -> J (fun k => k < n) W -> wpList P l.toArray Q (l.drop n) (aE a ds us 0) W) : (Code.region id l.toArray true).wp P Q a w := by
 refine wp_region_any hm ?_;have hB' := hB;simp only [jB, Bool.and_eq_true, decide_eq_true_eq] at hB';obtain ⟨⟨⟨⟨⟨⟨hn, hl⟩, hnt⟩, _⟩, _⟩, _⟩, _⟩ := hB'
 have h := pE hB hJ (JAllq.all (cX ds hnt) hd _ 0 hop) hend n (List.range n) (Array.replicate l.toArray.size false) (fun j => a.tmps.getD ((ds.getD j none).getD 0) undef) w.drew (by simp) List.nodup_range
  ⟨by simp, fun j oj _ hl => (by rw [getD_replicate_false] at hl; cases hl), fun t _ ht => getD_in (by simpa using ht) (getD_replicate_false _ _)⟩
  (fun j hj => ⟨fun _ => List.mem_range.2 hj, fun _ => getD_in (by simp at hn |-; omega) (getD_replicate_false _ _)⟩) (fun j hj => List.mem_range.1 hj)
  (fun j hj h => absurd (List.mem_range.2 hj) h) (hJ _ _ _ (fun k => by simp) h0)
 rw [dT ds a 0 _ hd (fun i d hi => by simp [List.getD, hi])] at h;have e : n + (l.toArray.size - n) = l.toArray.size := by omega
 rw [e] at h;exact h
end
/-- What an operation's value is: known, or told by a predicate that growing memory leaves as it is. -/
inductive Sp where
 | c (v : Value)
 | p (P : Value -> World -> Prop)
def Sp.at : Sp -> Value -> World -> Prop
 | .c x, v, _ => v = x
 | .p P, v, W => P v W
def Vs (Ps : List Sp) (i : Nat) (v : Value) (W : World) : Prop := (Ps.getD i (.p fun _ _ => True)).at v W
def Mos : List Sp -> Prop
 | [] => True
 | .c _ :: l => Mos l
 | .p P :: l => (∀ v W W', P v W -> Ext W W' -> P v W') /\ Mos l
theorem Mos.at : ∀ {Ps : List Sp}, Mos Ps -> ∀ (i : Nat) {v : Value} {W W' : World}, Vs Ps i v W -> Ext W W' -> Vs Ps i v W'
 | [], _, _, _, _, _, _, _ => by simp [Vs, Sp.at]
 | .c _ :: _, _, 0, _, _, _, h, _ => h
 | .p _ :: _, hm, 0, v, W, W', h, hX => hm.1 v W W' h hX
 | .c _ :: l, hm, i + 1, _, _, _, h, hX => Mos.at (Ps := l) hm i h hX
 | .p _ :: l, hm, i + 1, _, _, _, h, hX => Mos.at (Ps := l) hm.2 i h hX
/-- What is known of the values that an operation uses. -/
def aB (b : Act) (W : World) (u : Value) (d : Tmp) : Sp -> Prop -> Prop
 | .c x, r => b.tmps[d]? = some x -> r
 | .p P, r => b.tmps[d]? = some u -> P u W -> r
def aO (ds : List Tmp) (Ps : List Sp) (us : Nat -> Value) (b : Act) (W : World) : List Nat -> Prop -> Prop
 | [], r => r
 | j :: l, r => aB b W (us j) (ds.getD j 0) (Ps.getD j (.p fun _ _ => True)) (aO ds Ps us b W l r)
def ay (b : Act) : List (Tmp × Value) -> Prop -> Prop
 | [], r => r
 | s :: l, r => b.tmps[s.1]? = some s.2 -> ay b l r
/-- The slots that the region reads. -/
def jf (a : Act) : List (Tmp × Value) -> Prop
 | [] => True
 | s :: l => a.tmps[s.1]? = some s.2 /\ jf a l
theorem fl {a b : Act} {r : Prop} {ds : List Tmp} (hb : ∀ d, some d ∉ ds.map some -> b.tmps[d]? = a.tmps[d]?) : ∀ {S : List (Tmp × Value)}, jf a S -> S.all (fun s => !ds.contains s.1) = true -> ay b S r -> r
 | [], _, _, h => h
 | s :: l, hs, hc, h => by
  simp only [List.all_cons, Bool.and_eq_true] at hc;refine fl hb hs.2 hc.2 (h ?_);rw [hb s.1 (by intro hm; obtain ⟨x, hx, e⟩ := List.mem_map.1 hm; injection e with e; subst e; simp [hx] at hc)];exact hs.1
theorem gH {b : Act} {r : Prop} {ds : List Tmp} {Ps : List Sp} {us : Nat -> Value} {W : World} (hl : Ps.length = ds.length) (hb : ∀ j d, (ds.map some)[j]? = some (some d) -> b.tmps[d]? = some (us j)) : ∀ {L : List Nat}, (∀ j ∈ L, j < ds.length /\ Vs Ps j (us j) W) -> aO ds Ps us b W L r -> r
 | [], _, h => h
 | j :: l, hd, h => by
  obtain ⟨h1, h2⟩ := hd j (by simp)
  have hj : (ds.map some)[j]? = some (some (ds.getD j 0)) := by
   rw [List.getElem?_map, List.getElem?_eq_getElem h1, List.getD_eq_getElem?_getD, List.getElem?_eq_getElem h1];rfl
  have hv := hb j _ hj;refine gH hl hb (L := l) (fun k hk => hd k (List.mem_cons_of_mem _ hk)) ?_;unfold aO at h;revert h;unfold Vs at h2;revert h2
  cases Ps.getD j (.p fun _ _ => True) with
  | c x => intro h2 h; exact h (by rw [hv]; exact congrArg some h2)
  | p P => intro h2 h; exact h hv h2
/-- What one operation must give. -/
def qw (P : Program) (ops : Array Oper) (Ps : List Sp) (w : World) (D : List (List Nat)) (ds : List Tmp) (S : List (Tmp × Value)) (i : Nat) (o : Oper) : Prop :=
 ∀ (us : Nat -> Value) (W : World) (b : Act), Ext w W -> ∀ K : Act -> World -> Prop,
  (∀ v, Vs Ps i v W -> K (b.put o.dst v) W) -> (∀ v W', Vs Ps i v W' -> Ext W W' -> K (b.put o.dst v) W') -> ∀ Q' : Exit -> Act -> World -> Prop,
  aO ds Ps us b W (D.getD i []) (ay b S (if Region.wanted o (yielded ops b.tmps) then o.wp P b W K Q' else K (b.put o.dst undef) W))
def KAs (P : Program) (ops : Array Oper) (Ps : List Sp) (w : World) (D : List (List Nat)) (ds : List Tmp) (S : List (Tmp × Value)) : Nat -> List Oper -> Prop
 | _, [] => True
 | i, o :: rest => qw P ops Ps w D ds S i o /\ KAs P ops Ps w D ds S (i + 1) rest
theorem KAs.j {P : Program} {ops : Array Oper} {Ps : List Sp} {w : World} {D : List (List Nat)} {ds : List Tmp} {S : List (Tmp × Value)} {a : Act} (hm : Mos Ps) (hl : Ps.length = ds.length) (hD : D.all (fun l => l.all fun j => decide (j < ds.length)) = true) (hS : jf a S) (hc : S.all (fun s => !ds.contains s.1) = true) : ∀ (l : List Oper) (k : Nat), KAs P ops Ps w D ds S k l -> JAllq P ops (Vs Ps) (fun _ W => Ext w W) D [] (ds.map some) a k l := by
 intro l
 induction l with
 | nil => intro k _; trivial
 | cons o l ih =>
  intro k h;refine ⟨fun done us W hJ hdep haft hnot b hb hb' K hK Q' => ?_, ih (k + 1) h.2⟩;have h1 := h.1 us W b hJ K (fun v hv => hK v W hv (fun _ _ _ q => q) hJ) (fun v W' hv hX => hK v W' hv (fun j u _ q => hm.at j q hX) (hJ.trans hX)) Q';refine fl hb' hS hc (gH hl hb (fun j hj => ⟨?_, (hdep j hj).1⟩) h1)
  have hk : k < D.length := by
   rcases Nat.lt_or_ge k D.length with q | q
   .
    exact q
   .
    rw [List.getD_eq_getElem?_getD, List.getElem?_eq_none q] at hj; simp at hj
  have hmem : D.getD k [] ∈ D := by rw [List.getD_eq_getElem?_getD, List.getElem?_eq_getElem hk]; exact List.getElem_mem hk
  have := List.all_eq_true.1 (List.all_eq_true.1 hD _ hmem) j hj;exact of_decide_eq_true this
/-- What may be used behind the region. -/
def EndK (W : World) (fin : Act -> Prop) : List Tmp -> List Sp -> Act -> Prop
 | [], _, a => fin a
 | _ :: _, [], a => fin a
 | d :: ds, .c x :: Ps, a => EndK W fin ds Ps (a.put (some d) x)
 | d :: ds, .p P :: Ps, a => ∀ v, P v W -> EndK W fin ds Ps (a.put (some d) v)
theorem EndK.use {W : World} {fin : Act -> Prop} {us : Nat -> Value} : ∀ {ds : List Tmp} {Ps : List Sp} {a : Act} {k : Nat}, EndK W fin ds Ps a -> Ps.length = ds.length -> (∀ j, j < Ps.length -> Vs Ps j (us (k + j)) W) -> fin (aE a (ds.map some) us k)
 | [], [], _, _, h, _, _ => h
 | d :: ds, .c x :: Ps, a, k, h, hl, hv => by
  have h0 : us k = x := hv 0 (by simp);have := EndK.use (ds := ds) (Ps := Ps) (k := k + 1) (us := us) h (by simpa using hl) (fun j hj => by have := hv (j + 1) (by simpa using hj); rw [show k + 1 + j = k + (j + 1) by omega]; exact this);rw [<- h0] at this;exact this
 | d :: ds, .p P :: Ps, a, k, h, hl, hv =>
  EndK.use (ds := ds) (Ps := Ps) (k := k + 1) (us := us) (h (us k) (hv 0 (by simp))) (by simpa using hl) (fun j hj => by have := hv (j + 1) (by simpa using hj); rw [show k + 1 + j = k + (j + 1) by omega]; exact this)
 | [], _ :: _, _, _, _, hl, _ => by simp at hl
 | _ :: _, [], _, _, _, hl, _ => by simp at hl
/-- The law of a region. -/
def aS (P : Program) (f : Func) (R n N : Nat) (w : World) (ds : List Tmp) (Ps : List Sp) (S : List (Tmp × Value)) : Prop :=
 ∀ (a : Act) (Q : Exit -> Act -> World -> Prop), N <= a.tmps.size -> jf a S -> (∀ W, Ext w W -> EndK W (fun b => wpList P (ae f R).toArray Q ((ae f R).drop n) b W) ds Ps a) -> (Code.region R (ae f R).toArray true).wp P Q a w
theorem aT {P : Program} {f : Func} {R n N : Nat} {w : World} {ds : List Tmp} {Ps : List Sp} {S : List (Tmp × Value)} (D : List (List Nat)) (hm : P.follows .mixedOrders = true) (hB : jB (ae f R).toArray n (ds.map some) D [] = true)
  (hk : (decide (ds.length = n) && decide (Ps.length = n) && D.all (fun l => l.all fun j => decide (j < n)) && ds.all (fun d => decide (d < N)) && S.all (fun s => !ds.contains s.1)) = true) (hmon : Mos Ps) (hop : KAs P (ae f R).toArray Ps w D ds S 0 ((ae f R).take n)) : aS P f R n N w ds Ps S := by
 intro a Q hs hS hend;simp only [Bool.and_eq_true, decide_eq_true_eq] at hk;obtain ⟨⟨⟨⟨h1, h2⟩, h3⟩, h4⟩, h5⟩ := hk;refine aJ n (ds.map some) D [] (Vs Ps) (fun _ W => Ext w W) hm hB ?_ (fun _ _ _ _ h => h) ((Ext.refl w).drew) (hop.j hmon (by omega) (by rw [h1]; exact h3) hS h5) ?_
 .
  intro d hd;obtain ⟨x, hx, e⟩ := List.mem_map.1 hd;injection e with e;subst e;exact Nat.lt_of_lt_of_le (of_decide_eq_true (List.all_eq_true.1 h4 _ hx)) hs
 .
  intro us W hV hJ;exact EndK.use (k := 0) (hend W hJ) (by omega) (fun j hj => by rw [Nat.zero_add]; exact hV j (by omega))
/-- The value is c. -/
def dh (c : Value) : Value -> World -> Prop := fun v _ => v = c
def Vl (Ps : List (Value -> World -> Prop)) (i : Nat) (v : Value) (W : World) : Prop := Ps.getD i (fun _ _ => True) v W
/-- Growing memory leaves each predicate as it is. -/
def Mon : List (Value -> World -> Prop) -> Prop
 | [] => True
 | P :: l => (∀ v W W', P v W -> Ext W W' -> P v W') /\ Mon l
theorem bp {c : Value} : ∀ v W W', dh c v W -> Ext W W' -> dh c v W' := fun _ _ _ h _ => h
theorem Mon.at : ∀ {Ps : List (Value -> World -> Prop)}, Mon Ps -> ∀ (i : Nat) {v : Value} {W W' : World}, Vl Ps i v W -> Ext W W' -> Vl Ps i v W'
 | [], _, _, _, _, _, _, _ => by simp [Vl]
 | _ :: _, hm, 0, v, W, W', h, hX => hm.1 v W W' h hX
 | _ :: _, hm, i + 1, _, _, _, h, hX => Mon.at hm.2 i h hX
/-- What the values are that an operation uses. -/
def Deps (Ps : List (Value -> World -> Prop)) (us : Nat -> Value) (W : World) : List Nat -> Prop
 | [] => True
 | [j] => Vl Ps j (us j) W
 | j :: k :: l => Vl Ps j (us j) W /\ Deps Ps us W (k :: l)
theorem Deps.of {Ps : List (Value -> World -> Prop)} {us : Nat -> Value} {W : World} {p : Nat -> Prop} : ∀ {L : List Nat}, (∀ j ∈ L, Vl Ps j (us j) W /\ p j) -> Deps Ps us W L
 | [], _ => trivial
 | [j], h => (h j (by simp)).1
 | j :: k :: l, h => ⟨(h j (by simp)).1, Deps.of (L := k :: l) (fun q hq => h q (List.mem_cons_of_mem _ hq))⟩
/-- What one operation must give. -/
def qA (P : Program) (ops : Array Oper) (Ps : List (Value -> World -> Prop)) (w : World) (D : List (List Nat)) (ds : List (Option Tmp)) (a : Act) (i : Nat) (o : Oper) : Prop :=
 ∀ (us : Nat -> Value) (W : World), Ext w W -> Deps Ps us W (D.getD i []) -> ∀ b : Act, (∀ j d, ds[j]? = some (some d) -> b.tmps[d]? = some (us j)) -> (∀ d, some d ∉ ds -> b.tmps[d]? = a.tmps[d]?) -> ∀ K : Act -> World -> Prop,
  (∀ v, Vl Ps i v W -> K (b.put o.dst v) W) -> (∀ v W', Vl Ps i v W' -> Ext W W' -> K (b.put o.dst v) W') -> ∀ Q' : Exit -> Act -> World -> Prop,
  if Region.wanted o (yielded ops b.tmps) then o.wp P b W K Q' else K (b.put o.dst undef) W
def KAll (P : Program) (ops : Array Oper) (Ps : List (Value -> World -> Prop)) (w : World) (D : List (List Nat)) (ds : List (Option Tmp)) (a : Act) : Nat -> List Oper -> Prop
 | _, [] => True
 | i, o :: rest => qA P ops Ps w D ds a i o /\ KAll P ops Ps w D ds a (i + 1) rest
theorem KAll.j {P : Program} {ops : Array Oper} {Ps : List (Value -> World -> Prop)} {w : World} {D : List (List Nat)} {ds : List (Option Tmp)} {a : Act} (hm : Mon Ps) : ∀ (l : List Oper) (k : Nat), KAll P ops Ps w D ds a k l -> JAllq P ops (Vl Ps) (fun _ W => Ext w W) D [] ds a k l := by
 intro l
 induction l with
 | nil => intro k _; trivial
 | cons o l ih =>
  intro k h;refine ⟨fun done us W hJ hdep haft hnot b hb hb' K hK Q' => ?_, ih (k + 1) h.2⟩;exact h.1 us W hJ (.of hdep) b hb hb' K (fun v hv => hK v W hv (fun _ _ _ q => q) hJ) (fun v W' hv hX => hK v W' hv (fun j u _ q => hm.at j q hX) (hJ.trans hX)) Q'
/-- What all values are. -/
def VAll (us : Nat -> Value) (W : World) : List (Value -> World -> Prop) -> Nat -> Prop
 | [], _ => True
 | P :: l, k => P (us k) W /\ VAll us W l (k + 1)
theorem VAll.of {us : Nat -> Value} {W : World} : ∀ {Ps : List (Value -> World -> Prop)} {k : Nat}, (∀ j, j < Ps.length -> Vl Ps j (us (k + j)) W) -> VAll us W Ps k
 | [], _, _ => trivial
 | _ :: Ps, k, h => ⟨h 0 (by simp), VAll.of (Ps := Ps) (k := k + 1) (fun j hj => by have := h (j + 1) (by simpa using hj); rw [show k + 1 + j = k + (j + 1) by omega]; exact this)⟩
/-- A slot's value, known. -/
theorem aP {b : Act} {d : Tmp} {u c : Value} (h : b.tmps[d]? = some u) (e : u = c) : b.tmps[d]? = some c := by
 rw [h, e]
section
variable {P : Program} {l : List Oper} {a : Act} {Q : Exit -> Act -> World -> Prop}
theorem bX {id : Nat} {w : World} (n : Nat) (ds : List (Option Tmp)) (D : List (List Nat)) (Ps : List (Value -> World -> Prop)) {N : Nat} (hm : P.follows .mixedOrders = true) (hB : jB l.toArray n ds D [] = true) (_hn : Ps.length = n)
  (hd : ds.all (fun x => match x with | some d => decide (d < N) | none => true) = true) (hs : N <= a.tmps.size) (hmon : Mon Ps) (hop : KAll P l.toArray Ps w D ds a 0 (l.take n))
  (hend : ∀ us W, VAll us W Ps 0 -> Ext w W -> wpList P l.toArray Q (l.drop n) (aE a ds us 0) W) : (Code.region id l.toArray true).wp P Q a w := by
 refine aJ n ds D [] (Vl Ps) (fun _ W => Ext w W) hm hB (aI hd hs) (fun _ _ _ _ h => h) ((Ext.refl w).drew) (hop.j hmon) ?_;intro us W hV hJ;exact hend us W (VAll.of (fun j hj => by rw [Nat.zero_add]; exact hV j (by omega))) hJ
end
theorem gI : ∀ (k x : Nat), x < 2 ^ k -> k <= 64 -> 0 < x -> 1 <= Lib.bitLen x /\ 2 ^ (Lib.bitLen x - 1) <= x /\ x < 2 ^ Lib.bitLen x := by
 intro k
 induction k with
 | zero => intro x h _ h0; simp at h; omega
 | succ k ih =>
  intro x h hk h0;have h64 : x < 2 ^ 64 := Nat.lt_of_lt_of_le h (Nat.pow_le_pow_right (by omega) hk);have hh := Lib.bitLen_half x (by omega) h64
  rcases Nat.eq_zero_or_pos (x / 2) with h2 | h2
  .
   have : x = 1 := by omega
   subst this;have e : Lib.bitLen 1 = 1 := by decide
   rw [e]; decide
  .
   have hi := ih (x / 2) (by rw [Nat.pow_succ] at h; omega) (by omega) h2;rw [hh];generalize Lib.bitLen (x / 2) = b at *;obtain ⟨c, rfl⟩ : ∃ c, b = c + 1 := ⟨b - 1, by omega⟩;simp only [Nat.add_sub_cancel] at hi;rw [show 1 + (c + 1) - 1 = c + 1 by omega, show 1 + (c + 1) = c + 2 by omega, Nat.pow_succ, Nat.pow_succ];rw [Nat.pow_succ] at hi;omega
end Go.Proofs.Ytikhlcgnlbinfaa
namespace Go.Proofs.Ytikhlcgnlbinfaa
open Lib (hid)
/-- A number with a sign. -/
def sgn (s : Bool) (n : Nat) : Int := if s then -(n : Int) else n
theorem jg (s : Bool) (n : Nat) : (sgn s n).natAbs = n := by cases s <;> simp [sgn]
theorem ed (x : Int) : sgn (decide (x < 0)) x.natAbs = x := by
 by_cases h : x < 0 <;> simp [sgn, h] <;> omega
/-- The sign that a number bears: none if it is 0. -/
def nz (s : Bool) (n : Nat) : Bool := s && decide (n ≠ 0)
theorem oR (s : Bool) {n : Nat} (h : n ≠ 0) : nz s n = s := by simp [nz, h]
theorem gJ (s : Bool) (n : Nat) : decide (sgn s n < 0) = nz s n := by
 unfold nz
 cases s
 .
  simp [sgn]
 .
  by_cases h : n = 0
  .
   simp [sgn, h]
  .
   have : -(n : Int) < 0 := by omega
   simp [sgn, h]; omega
/-- The rational number of a sign, a numerator and a denominator. -/
def aW (s : Bool) (n d : Nat) : Rat := mkRat (sgn s n) d
theorem mS (s : Bool) {n g : Nat} (h : g ∣ n) : sgn s n / (g : Int) = sgn s (n / g) := by
 obtain ⟨k, rfl⟩ := h
 rcases Nat.eq_zero_or_pos g with h0 | h0
 .
  subst h0; cases s <;> simp [sgn]
 .
  rw [Nat.mul_div_cancel_left _ h0]
  cases s
  .
   simp only [sgn]; rw [if_neg (by simp), if_neg (by simp), Int.natCast_mul, Int.mul_ediv_cancel_left _ (by omega)]
  .
   simp only [sgn]; rw [if_pos trivial, if_pos trivial, Int.natCast_mul, <- Int.mul_neg, Int.mul_ediv_cancel_left _ (by omega)]
/-- In lowest terms. -/
theorem cI (s : Bool) (n d : Nat) (_hd : 0 < d) : (aW s n d).num = sgn s (n / Nat.gcd n d) /\ (aW s n d).den = d / Nat.gcd n d := by
 have h : aW s n d = Rat.normalize (sgn s n) d (by omega) := (Rat.normalize_eq_mkRat _).symm;rw [h, Rat.normalize_eq];simp only [jg];exact ⟨mS s (Nat.gcd_dvd_left n d), trivial⟩
theorem bP (s : Bool) (n d : Nat) (hd : 0 < d) : decide ((aW s n d).num < 0) = nz s n /\ (aW s n d).num.natAbs = n / Nat.gcd n d := by
 rw [(cI s n d hd).1, jg, gJ];refine ⟨?_, rfl⟩;unfold nz;have hg : 0 < Nat.gcd n d := Nat.gcd_pos_of_pos_right n hd
 congr 1
 have : n / Nat.gcd n d = 0 ↔ n = 0 := by
  constructor
  .
   intro h;have hk := Nat.div_mul_cancel (Nat.gcd_dvd_left n d);rw [h, Nat.zero_mul] at hk;exact hk.symm
  .
   rintro rfl; simp
 simp only [ne_eq, this]
theorem fp (q : Rat) : aW (decide (q.num < 0)) q.num.natAbs q.den = q := by
 unfold aW; rw [ed, Rat.mkRat_self]
theorem ft (s : Bool) (n d : Nat) (_hd : 0 < d) : aW s n d = 0 ↔ n = 0 := by
 unfold aW;rw [Rat.mkRat_eq_zero (by omega)]
 cases s <;> simp [sgn]
section
variable {s t : Bool} {n m d e : Nat}
theorem lg (_hd : 0 < d) (_hm : 0 < m) : aW s n d / aW t m e = aW (s != t) (n * e) (d * m) := by
 have hmz : (m : Rat) ≠ 0 := by intro h; have := (Rat.natCast_inj (a := m) (b := 0)).1 h; omega
 have hdz : (d : Rat) ≠ 0 := by intro h; have := (Rat.natCast_inj (a := d) (b := 0)).1 h; omega
 unfold aW;rw [Rat.mkRat_eq_div, Rat.mkRat_eq_div, Rat.mkRat_eq_div];have c1 : ∀ (b : Bool) (k : Nat), ((sgn b k : Int) : Rat) = if b then -(k : Rat) else (k : Rat) := fun b k => by cases b <;> simp [sgn, Rat.intCast_natCast]
 rw [c1, c1, c1, Rat.natCast_mul, Rat.natCast_mul]
 by_cases hez : (e : Rat) = 0
 .
  rw [hez]; cases s <;> cases t <;> simp [Rat.div_def]
 .
  cases s <;> cases t <;> simp <;> grind
end
/-- How many words a rational number has. -/
def oS (q : Rat) (L : Nat) : Prop := Fit 4294967296 q.num.natAbs L /\ Fit 4294967296 q.den L
/-- The sign of a number. -/
def aU (q : Rat) : Int := if q.num < 0 then -1 else if q.num = 0 then 0 else 1
end Go.Proofs.Ytikhlcgnlbinfaa
namespace Go.Proofs.Ytikhlcgnlbinfaa
open Lib (hid)
open Go.RowKit
/-- A value that is no integer. -/
def cj (v : Value) : Prop := ∀ k x, v ≠ .int k x
theorem bx (b : Bool) : cj (.bool b) := fun _ _ h => by cases h
theorem bY (A : Option Addr) (l c : Nat) : cj (.slice A l c) := fun _ _ h => by cases h
/-- Storing into a block that holds no integers changes no slice of integers. -/
theorem Ints.past {k : IntKind} {w : World} {A : Option Addr} {n : Nat} {xs : List Int} {g : Nat} (h : Ints k w A n xs) (hg : ∀ i v, w.cell? ⟨g, i, none⟩ = some v -> cj v) (i : Nat) (u : Value) : Ints k (w.setCell ⟨g, i, none⟩ u) A n xs := by
 refine ⟨h.1, h.2.1, fun hne => ?_⟩;obtain ⟨b, off, hA, hc⟩ := h.2.2 hne
 have hb : b ≠ g := by
  intro e;subst e
  have h0 : ∃ v, (xs.map (Value.int k))[0]? = some v := by
   cases hm : xs.map (Value.int k) with
   | nil => exact absurd hm hne
   | cons v vs => exact ⟨v, rfl⟩
  obtain ⟨v, hv⟩ := h0;have h1 := hg _ _ (hc 0 v hv);rw [List.getElem?_map] at hv
  cases hx : xs[0]? with
  | none => rw [hx] at hv; simp at hv
  | some x => rw [hx] at hv; simp at hv; exact h1 k x hv.symm
 refine ⟨b, off, hA, fun j v hv => ?_⟩;have hlt := World.block_lt_of_cell? w _ (hc j v hv);have hh : (w.setCell ⟨g, i, none⟩ u).heap[b]? = w.heap[b]? := Below.heap_setCell w ⟨g, i, none⟩ u b hb;have := hc j v hv;unfold World.cell? at this |-;simp only [hh];exact this
/-- A block that holds no integers. -/
def NoInts (w : World) (g : Nat) : Prop := ∃ t cs, Blk w g t cs /\ ∀ v ∈ cs, cj v
theorem NoInts.cell {w : World} {g : Nat} (h : NoInts w g) : ∀ i v, w.cell? ⟨g, i, none⟩ = some v -> cj v := by
 obtain ⟨t, cs, hB, hv⟩ := h;intro i v hc;rw [hB.cell i] at hc;exact hv v (Array.mem_of_getElem? hc)
theorem NoInts.set {w : World} {g : Nat} (h : NoInts w g) (i : Nat) {u : Value} (hu : cj u) : NoInts (w.setCell ⟨g, i, none⟩ u) g := by
 obtain ⟨t, cs, hB, hv⟩ := h;refine ⟨t, _, hB.set i u, fun v hm => ?_⟩
 rcases Array.mem_or_eq_of_mem_setIfInBounds hm with h | h
 .
  exact hv v h
 .
  subst h; exact hu
theorem NoInts.three {w : World} {g : Nat} {t : TypeId} {b : Bool} {A1 A2 : Option Addr} {l1 c1 l2 c2 : Nat} (h : Blk w g t #[.bool b, .slice A1 l1 c1, .slice A2 l2 c2]) : NoInts w g :=
 ⟨t, _, h, fun v hv => by
  simp at hv
  rcases hv with rfl | rfl | rfl
  .
   exact bx _
  .
   exact bY _ _ _
  .
   exact bY _ _ _⟩
theorem Ext.boxed {w0 w : World} {g : Nat} (h : Ext w0 w) (hg : w0.heap.size <= g) (x y z : Value) : Ext w0 (((w.setCell ⟨g, 0, none⟩ x).setCell ⟨g, 1, none⟩ y).setCell ⟨g, 2, none⟩ z) :=
 ((h.setCell hg x).setCell hg y).setCell hg z
theorem gD : Elem Try.prog 61 3 1 8 (.int .i64 0) := Elem.mk' (by kernel_rfl) (by kernel_rfl) rfl (by decide)
/-- A number of the reference. -/
def Z16 (w : World) (v : Value) (n : Nat) : Prop := NatV .i64 65536 w v n
theorem Z16.ext {w w' : World} {v : Value} {n : Nat} (h : Z16 w v n) (he : Ext w w') : Z16 w' v n := NatV.ext h he
theorem gK {x : Int} (_h : 0 <= x /\ x < 65536) : (Lit.int .i64 x).wf = true := WalkArith.wf_i64 (by omega)
theorem fv {xs : List Int} (h : Dg 65536 xs) : ∀ x ∈ xs, (Lit.int .i64 x).wf = true := fun x hx => gK (h x hx)
/-- What trim returns: a beginning without most significant zeros, of the same value. -/
def mT (w : World) (A : Option Addr) (n c : Nat) (xs : List Int) (e : Ending) (w' : World) : Prop :=
 ∃ m, m <= n /\ Nm (xs.take m) /\ am 65536 (xs.take m) = am 65536 xs /\ e = .returned (.slice A m c) /\ w = w'
theorem gL (A : Option Addr) (n c : Nat) (xs : List Int) (w : World) (h : Ints .i64 w A n xs) (_hnc : n <= c) (_hcm : c <= 9223372036854775807) :
  Calls Try.prog 173 #[.slice A n c] w (mT w A n c xs) := by
 have H := hid h;have HL : Hid (xs.length = n) := h.1;clear h;go_enter Try.func173, Try.ntmps173;go_wp2
 go_loopg [3] n (fun g v wr => ∃ m : Nat, m = g /\ m <= n /\ v = .int .i64 (m : Int) /\ Hid (am 65536 (xs.take m) = am 65536 xs) /\ w = wr)
 case atStart => exact ⟨n, rfl, Nat.le_refl _, rfl, by rw [List.take_of_length_le (by rw [HL.out]; exact Nat.le_refl _)]; rfl, rfl⟩
 case round =>
  obtain ⟨m, rfl, hm, rfl, hv, rfl⟩ := hrel
  rcases Nat.eq_zero_or_pos m with h0 | h0
  .
   subst h0
   go_wp2_with (first | (refine dS (o := ⟨some 20, _, _, _, _, _⟩) _ gD rfl _ _ rfl A n c rfl _ _ 0 rfl rfl (by omega) ?_))
   go_ret;exact ⟨0, by omega, by simp [Nm], hv.out, rfl, rfl⟩
  .
   obtain ⟨k, rfl⟩ : ∃ k, m = k + 1 := ⟨m - 1, by omega⟩;obtain ⟨b, off, x, rfl, hx, hwf, hc⟩ := H.out.get (j := k) (by omega);obtain ⟨hx0, hx1⟩ := cV hwf;have HX := hid hx;have hkc : ((k + 1 : Nat) : Int) = (k : Int) + 1 := by omega
   have hk0 : (0 : Int) <= (k : Int) := by omega
   have hkn : (k : Int) < (n : Int) := by omega
   rw [hkc];clear hx hwf hkc
   by_cases hz : x = 0
   .
    have hzb : (x == 0) = true := by simpa using hz
    have HV : Hid (am 65536 (xs.take k) = am 65536 xs) := by
     have := hv.out;rw [bZ HX.out, hz] at this;show _ = _;omega
    clear hz hv;go_wp2;go_roundg k
    case rel => exact ⟨k, rfl, by omega, rfl, HV, rfl⟩
    case measure => omega
   .
    have hzb : (x == 0) = false := by simpa using hz
    have HZ := hid hz;clear hz
    go_wp2_with (first | (refine dS (o := ⟨some 20, _, _, _, _, _⟩) _ gD rfl _ _ rfl _ n c rfl _ _ (k + 1) rfl (by omega) (by omega) ?_))
    go_ret;exact ⟨k + 1, hm, Nm.take HX.out HZ.out, hv.out, rfl, rfl⟩
theorem gM {A : Option Addr} {n c N : Nat} {xs : List Int} {w : World} (h : Ints .i64 w A n xs) (hd : Dg 65536 xs) (he : am 65536 xs = (N : Int)) (hnc : n <= c) (hcm : c <= 9223372036854775807) :
  Calls Try.prog 173 #[.slice A n c] w fun e w' => ∃ v, e = .returned v /\ Z16 w v N /\ w = w' := by
 refine (gL A n c xs w h hnc hcm).mono ?_;rintro e w' ⟨m, hm, hN, hv, rfl, rfl⟩;exact ⟨_, rfl, ⟨A, m, c, xs.take m, rfl, h.take hm, Rep.of_take hd hv hN he, by omega, hcm⟩, rfl⟩
theorem bE (xs : List Int) (k : Nat) : am 65536 (xs.take (k + 1)) = am 65536 (xs.take k) + 65536 ^ k * xs.getD k 0 := by
 by_cases h : k < xs.length
 .
  have hx : xs[k]? = some xs[k] := List.getElem?_eq_getElem h;rw [bZ hx];simp [List.getD, hx]
 .
  rw [List.take_of_length_le (by omega), List.take_of_length_le (by omega)];simp [List.getD, List.getElem?_eq_none (by omega : xs.length <= k)]
theorem getD_some {xs : List Int} {k : Nat} {x : Int} (h : xs[k]? = some x) : xs.getD k 0 = x := by simp [List.getD, h]
theorem cO {xs : List Int} {k : Nat} (h : xs.length <= k) : xs.getD k 0 = 0 := by simp [List.getD, List.getElem?_eq_none h]
theorem cP {xs ys out : List Int} {k : Nat} {c s : Int} (_hI : am 65536 out + c * 65536 ^ k = am 65536 (xs.take k) + am 65536 (ys.take k)) (hl : out.length = k) (_hs : s = c + xs.getD k 0 + ys.getD k 0) :
  am 65536 (out ++ [s % 65536]) + s / 65536 * 65536 ^ (k + 1) = am 65536 (xs.take (k + 1)) + am 65536 (ys.take (k + 1)) := by
 rw [cH, hl, bE, bE, Int.pow_succ];have h := Int.mul_ediv_add_emod s 65536;generalize s / 65536 = q at *;generalize s % 65536 = r at *;have hs' : r = c + xs.getD k 0 + ys.getD k 0 - 65536 * q := by omega
 subst hs';grind
theorem cQ {xs ys out : List Int} {k : Nat} {c c' s : Int} (_hI : am 65536 out = am 65536 (xs.take k) - am 65536 (ys.take k) + c * 65536 ^ k) (hl : out.length = k) (hs : s = xs.getD k 0 - c - ys.getD k 0 + 65536 * c') :
  am 65536 (out ++ [s]) = am 65536 (xs.take (k + 1)) - am 65536 (ys.take (k + 1)) + c' * 65536 ^ (k + 1) := by
 rw [cH, hl, bE, bE, Int.pow_succ, hs];grind
theorem aQ (va vb : Value) (n m : Nat) (w : World) (ha : Z16 w va n) (hb : Z16 w vb m) :
  Calls Try.prog 171 #[va, vb] w fun e w' => e = .returned (.int .i64 (cG n m)) /\ Ext w w' := by
 obtain ⟨A, la, ca, xs, rfl, hA, hrx, hca, hcam⟩ := ha;obtain ⟨B, lb, cb, ys, rfl, hB, hry, hcb, hcbm⟩ := hb;have HA := hid hA;have HB := hid hB;have HRX := hid hrx;have HRY := hid hry;have HLA : Hid (xs.length = la) := hA.1;have HLB : Hid (ys.length = lb) := hB.1;clear hA hB hrx hry
 by_cases hne : la = lb
 .
  subst hne;have hnb : ((la : Int) != (la : Int)) = false := by simp
  go_enter Try.func171, Try.ntmps171;go_wp2
  go_loopg [5] (la + 1) (fun g i wr => ∃ k : Nat, g = k + 1 /\ k <= la /\ i = .int .i64 ((k : Int) - 1) /\ Hid (xs.drop k = ys.drop k) /\ Ext w wr)
  case atStart => exact ⟨la, rfl, Nat.le_refl _, rfl, by rw [List.drop_eq_nil_of_le (by rw [HLA.out]; exact Nat.le_refl _), List.drop_eq_nil_of_le (by rw [HLB.out]; exact Nat.le_refl _)]; rfl, Ext.refl w⟩
  case round =>
   obtain ⟨k, rfl, hk, rfl, hd, hX⟩ := hrel;have HX := hid hX;clear hX
   rcases Nat.eq_zero_or_pos k with h0 | h0
   .
    subst h0;rw [show (((0 : Nat) : Int) - 1) = -1 by omega];go_wp2;go_ret;refine ⟨?_, HX.out⟩;have e : xs = ys := by simpa using hd.out
    have := HRX.out.2.2;rw [e, HRY.out.2.2] at this;rw [fP (by omega)];rfl
   .
    obtain ⟨i, rfl⟩ : ∃ i, k = i + 1 := ⟨k - 1, by omega⟩;obtain ⟨b, off, x, rfl, hx, hwf, hc⟩ := (HA.out.ext HX.out).get (j := i) (by omega);obtain ⟨b', off', y, rfl, hy, hwf', hc'⟩ := (HB.out.ext HX.out).get (j := i) (by omega);obtain ⟨hx0, hx1⟩ := cV hwf;obtain ⟨hy0, hy1⟩ := cV hwf';have HXX := hid hx;have HYY := hid hy;have hi1 : (((i + 1 : Nat) : Int) - 1) = (i : Int) := by omega
    have hi2 : (i : Int) < (la : Int) := by omega
    have hi0 : (0 : Int) <= (i : Int) := by omega
    rw [hi1];clear hx hwf hy hwf' hi1
    by_cases hxy : x = y
    .
     have hb1 : (x != y) = false := by simpa using hxy
     have HXY := hid hxy;clear hxy;go_wp2
     go_quiet (fail)
     go_wp2;go_roundg (i + 1)
     case rel => exact ⟨i, rfl, by omega, by go_num, by
      have h1 := List.getElem?_eq_some_iff.1 HXX.out;have h2 := List.getElem?_eq_some_iff.1 HYY.out;show xs.drop i = ys.drop i;rw [List.drop_eq_getElem_cons h1.1, List.drop_eq_getElem_cons h2.1, h1.2, h2.2, HXY.out, hd.out], HX.out.drewN _⟩
     case measure => omega
    .
     have hb1 : (x != y) = true := by simpa using hxy
     by_cases hlt : x < y
     .
      have HLT := hid hlt;clear hxy;go_wp2
      go_quiet (fail)
      go_wp2
      go_quiet (fail)
      go_wp2;go_ret
      have := gF (by omega) (by rw [HLA.out, HLB.out]) HRX.out.1 HRY.out.1 hd.out HXX.out HYY.out HLT.out;rw [HRX.out.2.2, HRY.out.2.2] at this;exact ⟨by rw [dj (by omega)]; rfl, (HX.out.drewN _).drewN _⟩
     .
      have HLT : Hid (y < x) := by show y < x; omega
      clear hxy;go_wp2
      go_quiet (fail)
      go_wp2
      go_quiet (fail)
      go_wp2;go_ret
      have := gF (by omega) (by rw [HLA.out, HLB.out]) HRY.out.1 HRX.out.1 hd.out.symm HYY.out HXX.out HLT.out;rw [HRX.out.2.2, HRY.out.2.2] at this;exact ⟨by rw [ec (by omega)]; rfl, (HX.out.drewN _).drewN _⟩
 .
  have hnb : ((la : Int) != (lb : Int)) = true := by simp; omega
  by_cases hlt : la < lb
  .
   have := HRX.out.lt_of_len (by omega) HRY.out (by rw [HLA.out, HLB.out]; exact hlt);rw [dj this];clear this hne;go_enter Try.func171, Try.ntmps171;go_wp2;go_ret;exact ⟨rfl, Ext.refl w⟩
  .
   have := HRY.out.lt_of_len (by omega) HRX.out (by rw [HLA.out, HLB.out]; omega);rw [ec this];clear this hne;go_enter Try.func171, Try.ntmps171;go_wp2;go_ret;exact ⟨rfl, Ext.refl w⟩
theorem gN (va vb : Value) (n m L : Nat) (w : World) (ha : Z16 w va n) (hb : Z16 w vb m) (fn : Fit 65536 n L) (fm : Fit 65536 m L) (_hL : L <= 1000000) :
  Calls Try.prog 170 #[va, vb] w (lc .i64 65536 w (n + m)) := by
 obtain ⟨A, la, ca, xs, rfl, hA, hrx, hca, hcam⟩ := ha;obtain ⟨B, lb, cb, ys, rfl, hB, hry, hcb, hcbm⟩ := hb;have hla := fn.len (by omega) hrx;have hlb := fm.len (by omega) hry;rw [hA.1] at hla;rw [hB.1] at hlb;have HA := hid hA;have HB := hid hB;have HRX := hid hrx;have HRY := hid hry;have HLA : Hid (xs.length = la) := hA.1;have HLB : Hid (ys.length = lb) := hB.1;clear hA hB hrx hry fn fm;go_enter Try.func170, Try.ntmps170;go_wp2
 go_loopg [5, 6, 7] (la + lb + 1) (fun g v cy i wr => ∃ (k : Nat) (c : Int) (out : List Int), g = la + lb + 1 - k /\ k <= la + lb + 1 /\ (k <= la \/ k <= lb \/ c = 0) /\ i = .int .i64 (k : Int) /\ cy = .int .i64 c /\ 0 <= c /\ c <= 1 /\ Hid (wr.ownsRow w.heap.size 3 1 v k (out.map (.int .i64))) /\ Hid (Dg 65536 out) /\ Hid (out.length = k) /\ Hid (am 65536 out + c * 65536 ^ k = am 65536 (xs.take k) + am 65536 (ys.take k)) /\ Hid (Ext w wr))
 case atStart => exact ⟨0, 0, [], rfl, by omega, by omega, rfl, rfl, by omega, by omega, World.ownsRow_nil _ _ _ _, Dg.nil, rfl, by simp [Hid, am], Ext.refl w⟩
 case round =>
  obtain ⟨k, c, out, rfl, hk, hor, rfl, rfl, hc0, hc1, HO, HD, HLO, HI, HX⟩ := hrel;have hk0 : (0 : Int) <= (k : Int) := by omega
  have hown := HO.out
  by_cases h1 : k < la
  .
   have h1I : (k : Int) < (la : Int) := by omega
   obtain ⟨b1, o1, x, rfl, hx, hwf, hcx⟩ := (HA.out.ext HX.out).get h1;obtain ⟨hx0, hx1⟩ := HRX.out.1.get hx;have HXX := hid (getD_some hx);clear hx hwf
   by_cases h2 : k < lb
   .
    have h2I : (k : Int) < (lb : Int) := by omega
    obtain ⟨b2, o2, y, rfl, hy, hwf, hcy⟩ := (HB.out.ext HX.out).get h2;obtain ⟨hy0, hy1⟩ := HRY.out.1.get hy;have HYY := hid (getD_some hy);clear hy hwf;have HS : Hid (c + x + y = c + xs.getD k 0 + ys.getD k 0) := by show _ = _; rw [HXX.out, HYY.out]
    have hs0 : 0 <= c + x + y := by omega
    have hs1 : c + x + y <= 131071 := by omega
    have hm0 := Int.emod_nonneg (c + x + y) (show (65536 : Int) ≠ 0 by omega);have hm1 := Int.emod_lt_of_pos (c + x + y) (show (0 : Int) < 65536 by omega);have HST := hid (cP HI.out HLO.out HS.out);have HDD := hid (HD.out.append (Dg.one ⟨hm0, hm1⟩));clear hm0 hm1
    go_wp2_with (at_builtin; refine ap _ gD rfl _ _ rfl w.heap.size _ k _ rfl (hown.alloc _) _ 1 1 [.int .i64 ((c + x + y) % 65536)] rfl rfl (At.new _ [_] _) (by simp [Value.oneCell']) (by omega) (by unfold maxLen; omega) (by have := HX.out.size; simp; omega) ?_; intro v1 w1 hown1 hgr1 _; have HO1 := hid hown1; have HX1 := hid (Ext.push HX.out HO.out hgr1); clear hown1 hgr1)
    go_roundg (la + lb + 1 - (k + 1))
    case rel => exact ⟨k + 1, (c + x + y) / 65536, out ++ [(c + x + y) % 65536], rfl, by omega, by omega, by go_num, rfl, by omega, by omega, by rw [List.map_append]; exact HO1.out, HDD.out, by rw [List.length_append, HLO.out]; rfl, HST.out, HX1.out⟩
    case measure => omega
   .
    have HYY : Hid (ys.getD k 0 = 0) := cO (by rw [HLB.out]; omega);have HS : Hid (c + x = c + xs.getD k 0 + ys.getD k 0) := by show _ = _; rw [HXX.out, HYY.out]; omega
    have hs0 : 0 <= c + x := by omega
    have hs1 : c + x <= 131071 := by omega
    have hm0 := Int.emod_nonneg (c + x) (show (65536 : Int) ≠ 0 by omega);have hm1 := Int.emod_lt_of_pos (c + x) (show (0 : Int) < 65536 by omega);have HST := hid (cP HI.out HLO.out HS.out);have HDD := hid (HD.out.append (Dg.one ⟨hm0, hm1⟩));clear hm0 hm1
    go_wp2_with (at_builtin; refine ap _ gD rfl _ _ rfl w.heap.size _ k _ rfl (hown.alloc _) _ 1 1 [.int .i64 ((c + x) % 65536)] rfl rfl (At.new _ [_] _) (by simp [Value.oneCell']) (by omega) (by unfold maxLen; omega) (by have := HX.out.size; simp; omega) ?_; intro v1 w1 hown1 hgr1 _; have HO1 := hid hown1; have HX1 := hid (Ext.push HX.out HO.out hgr1); clear hown1 hgr1)
    go_roundg (la + lb + 1 - (k + 1))
    case rel => exact ⟨k + 1, (c + x) / 65536, out ++ [(c + x) % 65536], rfl, by omega, by omega, by go_num, rfl, by omega, by omega, by rw [List.map_append]; exact HO1.out, HDD.out, by rw [List.length_append, HLO.out]; rfl, HST.out, HX1.out⟩
    case measure => omega
  .
   have HXX : Hid (xs.getD k 0 = 0) := cO (by rw [HLA.out]; omega)
   by_cases h2 : k < lb
   .
    have h2I : (k : Int) < (lb : Int) := by omega
    obtain ⟨b2, o2, y, rfl, hy, hwf, hcy⟩ := (HB.out.ext HX.out).get h2;obtain ⟨hy0, hy1⟩ := HRY.out.1.get hy;have HYY := hid (getD_some hy);clear hy hwf;have HS : Hid (c + y = c + xs.getD k 0 + ys.getD k 0) := by show _ = _; rw [HXX.out, HYY.out]; omega
    have hs0 : 0 <= c + y := by omega
    have hs1 : c + y <= 131071 := by omega
    have hm0 := Int.emod_nonneg (c + y) (show (65536 : Int) ≠ 0 by omega);have hm1 := Int.emod_lt_of_pos (c + y) (show (0 : Int) < 65536 by omega);have HST := hid (cP HI.out HLO.out HS.out);have HDD := hid (HD.out.append (Dg.one ⟨hm0, hm1⟩));clear hm0 hm1
    go_wp2_with (at_builtin; refine ap _ gD rfl _ _ rfl w.heap.size _ k _ rfl (hown.alloc _) _ 1 1 [.int .i64 ((c + y) % 65536)] rfl rfl (At.new _ [_] _) (by simp [Value.oneCell']) (by omega) (by unfold maxLen; omega) (by have := HX.out.size; simp; omega) ?_; intro v1 w1 hown1 hgr1 _; have HO1 := hid hown1; have HX1 := hid (Ext.push HX.out HO.out hgr1); clear hown1 hgr1)
    go_roundg (la + lb + 1 - (k + 1))
    case rel => exact ⟨k + 1, (c + y) / 65536, out ++ [(c + y) % 65536], rfl, by omega, by omega, by go_num, rfl, by omega, by omega, by rw [List.map_append]; exact HO1.out, HDD.out, by rw [List.length_append, HLO.out]; rfl, HST.out, HX1.out⟩
    case measure => omega
   .
    have HYY : Hid (ys.getD k 0 = 0) := cO (by rw [HLB.out]; omega)
    by_cases h3 : 0 < c
    .
     have HS : Hid (c = c + xs.getD k 0 + ys.getD k 0) := by show _ = _; rw [HXX.out, HYY.out]; omega
     have hs0 : 0 <= c := by omega
     have hs1 : c <= 131071 := by omega
     have hm0 := Int.emod_nonneg (c) (show (65536 : Int) ≠ 0 by omega);have hm1 := Int.emod_lt_of_pos (c) (show (0 : Int) < 65536 by omega);have HST := hid (cP HI.out HLO.out HS.out);have HDD := hid (HD.out.append (Dg.one ⟨hm0, hm1⟩));clear hm0 hm1
     go_wp2_with (at_builtin; refine ap _ gD rfl _ _ rfl w.heap.size _ k _ rfl (hown.alloc _) _ 1 1 [.int .i64 ((c) % 65536)] rfl rfl (At.new _ [_] _) (by simp [Value.oneCell']) (by omega) (by unfold maxLen; omega) (by have := HX.out.size; simp; omega) ?_; intro v1 w1 hown1 hgr1 _; have HO1 := hid hown1; have HX1 := hid (Ext.push HX.out HO.out hgr1); clear hown1 hgr1)
     go_roundg (la + lb + 1 - (k + 1))
     case rel => exact ⟨k + 1, (c) / 65536, out ++ [(c) % 65536], rfl, by omega, by omega, by go_num, rfl, by omega, by omega, by rw [List.map_append]; exact HO1.out, HDD.out, by rw [List.length_append, HLO.out]; rfl, HST.out, HX1.out⟩
     case measure => omega
    .
     obtain rfl : c = 0 := by omega
     have hI := HI.out;rw [List.take_of_length_le (by rw [HLA.out]; omega), List.take_of_length_le (by rw [HLB.out]; omega), HRX.out.2.2, HRY.out.2.2] at hI;have HV : Hid (am 65536 out = ((n + m : Nat) : Int)) := by show _ = _; omega
     clear hI hown;obtain ⟨A2, c2, rfl⟩ := bi HO.out;have HOS : Hid (OwnS .i64 3 w.heap.size wr A2 k c2 out) := ⟨HO.out, HLO.out, fv HD.out⟩;obtain ⟨hc1', hc2'⟩ := HOS.out.cap
     go_wp2_with fail
     refine (gM HOS.out.ints HD.out HV.out hc1' hc2').mono ?_;rintro e _ ⟨v, rfl, hv, rfl⟩;have HZ := hid hv;clear hv;go_wp2;go_ret;exact ⟨_, rfl, HZ.out, HX.out⟩
end Go.Proofs.Ytikhlcgnlbinfaa
