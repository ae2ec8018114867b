/- Lemmas of the proof that follows (TopTransfer, part 6): walks of functions by contract, and plain lemmas. Conditions: none. -/
import Derived.Test.YtekhmfliaojabaaTopTransferE
namespace Go.Proofs.Ytekhmfliaojabaa
open Go.RowKit

/-- A slot of the program's map. -/
def SlotV (base : Nat) (w : World) (v : Value) (d : Dlv) : Prop := ∃ A n c, v = .agg #[.slice A n c, .bool d.lost] ∧ OwnS .u8 5 base w A n c d.body
/-- Three cells that hold a delivery. -/
def DlO (base : Nat) (w : World) (cs : List Value) (d : Dlv) : Prop := ∃ A n c, cs = [.int .i64 d.seq, .slice A n c, .bool d.lost] ∧ OwnS .u8 5 base w A n c d.body
/-- A slice of deliveries: a row of its own from 'rb' on, the bytes in rows from 'base' on. -/
def DlL (rb base : Nat) (w : World) (v : Value) (ds : List Dlv) : Prop := ∃ vs, w.ownsRow rb 72 3 v ds.length vs ∧ CsR (DlO base w) vs ds
section
variable {base rb : Nat} {w w' : World} {v : Value} {d : Dlv} {cs : List Value} {ds : List Dlv} {L : List Nat}
theorem SlotV.ext (h : SlotV base w v d) (he : Ext w w') : SlotV base w' v d := by obtain ⟨A, n, c, h1, h2⟩ := h; exact ⟨A, n, c, h1, h2.ext he⟩
theorem SlotV.keeps (h : SlotV base w v d) (hk : Keeps L w w') (hn : ∀ g ∈ L, NoRow 5 w g) : SlotV base w' v d := by obtain ⟨A, n, c, h1, h2⟩ := h; exact ⟨A, n, c, h1, h2.keeps hk hn⟩
theorem DlO.ext (h : DlO base w cs d) (he : Ext w w') : DlO base w' cs d := by obtain ⟨A, n, c, h1, h2⟩ := h; exact ⟨A, n, c, h1, h2.ext he⟩
theorem DlO.keeps (h : DlO base w cs d) (hk : Keeps L w w') (hn : ∀ g ∈ L, NoRow 5 w g) : DlO base w' cs d := by obtain ⟨A, n, c, h1, h2⟩ := h; exact ⟨A, n, c, h1, h2.keeps hk hn⟩
theorem DlO.len (h : DlO base w cs d) : cs.length = 3 := by obtain ⟨A, n, c, rfl, _⟩ := h; rfl
theorem DlO.one (h : DlO base w cs d) : ∀ u ∈ cs, u.oneCell' = true := by obtain ⟨A, n, c, rfl, _⟩ := h; simp [Value.oneCell']
theorem DlL.nil (rb base : Nat) (w : World) : DlL rb base w (.slice none 0 0) [] := ⟨[], World.ownsRow_nil _ _ _ _, rfl⟩
theorem DlL.ext (h : DlL rb base w v ds) (he : Ext w w') : DlL rb base w' v ds := by obtain ⟨vs, h1, h2⟩ := h; exact ⟨vs, World.ownsRow.ext' h1 he, h2.imp fun _ _ h => h.ext he⟩
theorem DlL.keeps (h : DlL rb base w v ds) (hk : Keeps L w w') (n1 : ∀ g ∈ L, NoRow 72 w g) (n2 : ∀ g ∈ L, NoRow 5 w g) : DlL rb base w' v ds := by
  obtain ⟨vs, h1, h2⟩ := h
  refine ⟨vs, ownsRow_keeps h1 hk fun k hv hl => ?_, h2.imp fun _ _ h => h.keeps hk n2⟩
  rcases h1.2 with ⟨rfl, _⟩ | ⟨g', cap, cur, rfl, _, hg, _⟩
  · simp [Value.ownBlock] at hv
  · simp [Value.ownBlock] at hv
    subst hv
    exact n1 _ hl _ _ hg
theorem DlL.slice (h : DlL rb base w v ds) : ∃ A c, v = .slice A ds.length c := by obtain ⟨vs, h1, _⟩ := h; exact own_slice h1
theorem DlL.mono {rb' : Nat} (h : DlL rb base w v ds) (hb : rb' ≤ rb) : DlL rb' base w v ds := by obtain ⟨vs, h1, h2⟩ := h; exact ⟨vs, World.ownsRow.mono' h1 hb, h2⟩
theorem DlL.get (h : DlL rb base w v ds) {j : Nat} (hj : j < ds.length) : ∃ g c d A n cc, v = .slice (some ⟨g, 0, none⟩) ds.length c ∧ ds[j]? = some d ∧ w.cell? ⟨g, j * 3, none⟩ = some (.int .i64 d.seq) ∧ w.cell? ⟨g, j * 3 + 1, none⟩ = some (.slice A n cc) ∧ w.cell? ⟨g, j * 3 + 2, none⟩ = some (.bool d.lost) ∧ OwnS .u8 5 base w A n cc d.body := by
  obtain ⟨vs, h1, h2⟩ := h
  obtain ⟨A, c, rfl⟩ := own_slice h1
  obtain ⟨g, rfl, _, _⟩ := own_block h1 (by omega)
  have hd : ds[j]? = some ds[j] := List.getElem?_eq_getElem hj
  obtain ⟨cs, ⟨A', n, cc, rfl, h4⟩, h5⟩ := h2.get (fun _ _ h => h.len) hd
  have hl := h2.len (k := 3) fun _ _ h => h.len
  have hc := At.of_own h1
  obtain ⟨b, off, hA, hc⟩ := hc (by intro e; subst e; simp at hl; omega)
  injection hA with hA
  injection hA with e1 e2
  subst e1 e2
  refine ⟨g, c, _, A', n, cc, rfl, hd, ?_, ?_, ?_, h4⟩
  · have := hc _ _ (h5 0 _ rfl); rwa [Nat.zero_add, Nat.add_zero] at this
  · have := hc _ _ (h5 1 _ rfl); rwa [Nat.zero_add] at this
  · have := hc _ _ (h5 2 _ rfl); rwa [Nat.zero_add] at this
/-- A delivery is put behind the others. -/
theorem DlL.snoc {vs : List Value} {v1 : Value} {s : Int} {A : Option Addr} {n c : Nat} {lo : Bool} {xs : List Int} (h2 : CsR (DlO base w) vs ds) (hv : w.ownsRow rb 72 3 v ds.length vs) (hO : OwnS .u8 5 base w A n c xs)
    (hown : w'.ownsRow rb 72 3 v1 (ds.length + 1) (vs ++ [.int .i64 s, .slice A n c, .bool lo])) (hgr : w.grownBy w' v.ownBlock) : DlL rb base w' v1 (ds ++ [⟨s, xs, lo⟩]) := by
  have hk : Keeps v.ownBlock.toList w w' := Keeps.of_grown hgr fun k hk => by rw [hk]; simp
  have hn : ∀ k ∈ v.ownBlock.toList, NoRow 5 w k := fun k hk => NoRow.of_own hv (by simpa using hk) (by decide)
  refine ⟨_, by rw [List.length_append]; exact hown, CsR.snoc (h2.imp fun _ _ h => h.keeps hk hn) ?_⟩
  exact DlO.keeps ⟨A, n, c, rfl, hO⟩ hk hn
end

/-- The program's receiver, whatever it holds: block g, map m. -/
structure RcvQ (base : Nat) (w : World) (g m : Nat) (st wn n : Int) (h : List Dlv) : Prop where
  blk : Blk w g 102 #[.int .i64 st, .int .i64 wn, .int .i64 n, .map (some m)]
  map : ∃ l, MapL Try.prog 3 w m l ∧ F2 (fun p d => p.1 = d.seq ∧ SlotV base w p.2 d) l h
  lo : base ≤ g ∧ base ≤ m
section
variable {base : Nat} {w w' : World} {g m : Nat} {st wn n : Int} {h : List Dlv} {L : List Nat} {l : List (Int × Value)}
theorem RcvQ.ext (hq : RcvQ base w g m st wn n h) (he : Ext w w') : RcvQ base w' g m st wn n h := by
  obtain ⟨h1, ⟨l, h2, h3⟩, h4⟩ := hq
  exact ⟨h1.ext he, ⟨l, h2.ext he, h3.imp fun _ _ _ h => ⟨h.1, h.2.ext he⟩⟩, h4⟩
theorem RcvQ.keeps (hq : RcvQ base w g m st wn n h) (hk : Keeps L w w') (n1 : ∀ k ∈ L, NoRow 102 w k) (n2 : m ∉ L) (n3 : ∀ k ∈ L, NoRow 5 w k) : RcvQ base w' g m st wn n h := by
  obtain ⟨h1, ⟨l, h2, h3⟩, h4⟩ := hq
  exact ⟨h1.away hk n1, ⟨l, h2.keeps hk n2, h3.imp fun _ _ _ h => ⟨h.1, h.2.keeps hk n3⟩⟩, h4⟩
theorem RcvQ.lt (hq : RcvQ base w g m st wn n h) : g < w.heap.size ∧ m < w.heap.size := ⟨hq.blk.lt, by obtain ⟨l, h2, _⟩ := hq.map; exact h2.lt⟩
theorem RcvQ.base_le (hq : RcvQ base w g m st wn n h) : base ≤ w.heap.size := by have := hq.lt; have := hq.lo; omega
theorem RcvQ.far (hq : RcvQ base w g m st wn n h) (t : TypeId) (ht : 102 ≠ t) : ∀ k ∈ [g, m], NoRow t w k := by
  intro k hk
  simp at hk
  rcases hk with rfl | rfl
  · exact NoRow.of_blk hq.blk ht
  · obtain ⟨l, h2, _⟩ := hq.map; exact h2.notRow t
theorem RcvQ.new {w0 : World} (hq : RcvQ base w g m st wn n h) (hb : w0.heap.size ≤ base) : ∀ k ∈ [g, m], w0.heap.size ≤ k := by
  intro k hk
  have := hq.lo
  simp at hk
  rcases hk with rfl | rfl <;> omega
theorem find_some_ (h3 : F2 (fun p d => p.1 = d.seq ∧ SlotV base w p.2 d) l h) {s : Int} {d : Dlv} (hf : findD h s = some d) : ∃ v, look l s = some v ∧ SlotV base w v d := by
  rcases h3.find (p := fun p => p.1 == s) (q := fun d => d.seq == s) (fun p d h => by rw [h.1]) with ⟨_, hb⟩ | ⟨p, d', ha, hb, hr⟩
  · unfold findD at hf; rw [hb] at hf; cases hf
  · unfold findD at hf
    rw [hb] at hf
    injection hf with hf
    subst hf
    exact ⟨p.2, by unfold look; rw [ha]; rfl, hr.2⟩
theorem find_none_ (h3 : F2 (fun p d => p.1 = d.seq ∧ SlotV base w p.2 d) l h) {s : Int} (hf : findD h s = none) : look l s = none := by
  rcases h3.find (p := fun p => p.1 == s) (q := fun d => d.seq == s) (fun p d h => by rw [h.1]) with ⟨ha, _⟩ | ⟨p, d', ha, hb, hr⟩
  · unfold look; rw [ha]; rfl
  · unfold findD at hf; rw [hb] at hf; cases hf
theorem RcvQ.apart (hq : RcvQ base w g m st wn n h) : (h.map Dlv.seq).Nodup := by
  obtain ⟨l, h2, h3⟩ := hq.map
  rw [← h3.map_eq (f := Prod.fst) (g := Dlv.seq) fun a b h => h.1]
  exact h2.apart
/-- What a lookup of a slot finds. -/
theorem slot_at (h3 : F2 (fun p d => p.1 = d.seq ∧ SlotV base w p.2 d) l h) (s : Int) :
    ∃ A nn c lo, (look l s).getD (.agg #[.slice none 0 0, .bool false]) = .agg #[.slice A nn c, .bool lo] ∧ (look l s).isSome = (findD h s).isSome ∧ ∀ d, findD h s = some d → d.lost = lo ∧ OwnS .u8 5 base w A nn c d.body := by
  cases hf : findD h s with
  | none =>
    rw [find_none_ h3 hf]
    exact ⟨none, 0, 0, false, rfl, rfl, fun d hd => by cases hd⟩
  | some d =>
    obtain ⟨v, hv, A, nn, c, rfl, hO⟩ := find_some_ h3 hf
    rw [hv]
    exact ⟨A, nn, c, d.lost, rfl, rfl, fun d' hd => by injection hd with hd; subst hd; exact ⟨rfl, hO⟩⟩
end
structure RcvP (base : Nat) (w : World) (g m : Nat) (r : Rcv) : Prop where
  q : RcvQ base w g m r.stream r.window r.next r.held
  ok : RcvOk r
theorem RcvP.ext {base : Nat} {w w' : World} {g m : Nat} {r : Rcv} (h : RcvP base w g m r) (he : Ext w w') : RcvP base w' g m r := ⟨h.q.ext he, h.ok⟩

/-- The reference's receiver: block g, the row v. -/
structure RecQ (base : Nat) (w : World) (g : Nat) (v : Value) (st wn n : Int) (h : List Dlv) : Prop where
  blk : Blk w g 126 #[.int .i64 st, .int .i64 wn, .int .i64 n, v]
  row : DlL base base w v h
  lo : base ≤ g
section
variable {base : Nat} {w w' : World} {g : Nat} {v : Value} {st wn n : Int} {h : List Dlv} {L : List Nat}
theorem RecQ.ext (hq : RecQ base w g v st wn n h) (he : Ext w w') : RecQ base w' g v st wn n h := ⟨hq.blk.ext he, hq.row.ext he, hq.lo⟩
theorem RecQ.keeps (hq : RecQ base w g v st wn n h) (hk : Keeps L w w') (n1 : ∀ k ∈ L, NoRow 126 w k) (n2 : ∀ k ∈ L, NoRow 72 w k) (n3 : ∀ k ∈ L, NoRow 5 w k) : RecQ base w' g v st wn n h :=
  ⟨hq.blk.away hk n1, hq.row.keeps hk n2 n3, hq.lo⟩
theorem RecQ.lt (hq : RecQ base w g v st wn n h) : g < w.heap.size := hq.blk.lt
theorem RecQ.base_le (hq : RecQ base w g v st wn n h) : base ≤ w.heap.size := by have := hq.lt; have := hq.lo; omega
theorem RecQ.far (hq : RecQ base w g v st wn n h) (t : TypeId) (ht : 126 ≠ t) (ht' : 72 ≠ t) : ∀ k ∈ g :: v.ownBlock.toList, NoRow t w k := by
  intro k hk
  simp only [List.mem_cons, Option.mem_toList] at hk
  rcases hk with rfl | hk
  · exact NoRow.of_blk hq.blk ht
  · obtain ⟨l, h2, _⟩ := hq.row; exact NoRow.of_own h2 hk ht'
theorem RecQ.new {w0 : World} (hq : RecQ base w g v st wn n h) (hb : w0.heap.size ≤ base) : ∀ k ∈ g :: v.ownBlock.toList, w0.heap.size ≤ k := by
  intro k hk
  have := hq.lo
  simp only [List.mem_cons, Option.mem_toList] at hk
  rcases hk with rfl | hk
  · omega
  · obtain ⟨l, h2, _⟩ := hq.row
    have := (h2.lt k hk).1
    omega
theorem RecQ.noMap {P : Program} {k : TypeId} {m : Nat} {l : List (Int × Value)} (hq : RecQ base w g v st wn n h) (hm : MapL P k w m l) : m ∉ g :: v.ownBlock.toList := by
  intro hk
  simp only [List.mem_cons, Option.mem_toList] at hk
  rcases hk with rfl | hk
  · exact hm.notRow _ _ _ hq.blk
  · obtain ⟨l, h2, _⟩ := hq.row
    exact hm.ne_row h2 hk.symm
theorem RecQ.ne (hq : RecQ base w g v st wn n h) : some g ≠ v.ownBlock := by
  obtain ⟨l, h2, _⟩ := hq.row
  intro e
  exact NoRow.of_own h2 e.symm (show 72 ≠ 126 by decide) _ _ hq.blk
end
structure RecR (base : Nat) (w : World) (g : Nat) (v : Value) (r : Rcv) : Prop where
  q : RecQ base w g v r.stream r.window r.next r.held
  ok : RcvOk r
theorem RecR.ext {base : Nat} {w w' : World} {g : Nat} {v : Value} {r : Rcv} (h : RecR base w g v r) (he : Ext w w') : RecR base w' g v r := ⟨h.q.ext he, h.ok⟩
theorem RcvQ.away {base base' : Nat} {w w' : World} {g m g' : Nat} {v : Value} {st wn n st' wn' n' : Int} {h h' : List Dlv} (hq : RcvQ base w g m st wn n h) (hr : RecQ base' w g' v st' wn' n' h') (hk : Keeps (g' :: v.ownBlock.toList) w w') : RcvQ base w' g m st wn n h := by
  obtain ⟨l, h2, _⟩ := hq.map
  exact hq.keeps hk (hr.far _ (by decide) (by decide)) (hr.noMap h2) (hr.far _ (by decide) (by decide))
theorem RecQ.away {base base' : Nat} {w w' : World} {g m g' : Nat} {v : Value} {st wn n st' wn' n' : Int} {h h' : List Dlv} (hr : RecQ base w g' v st wn n h) (hq : RcvQ base' w g m st' wn' n' h') (hk : Keeps [g, m] w w') : RecQ base w' g' v st wn n h :=
  hr.keeps hk (hq.far _ (by decide)) (hq.far _ (by decide)) (hq.far _ (by decide))
end Go.Proofs.Ytekhmfliaojabaa
namespace Go.Proofs.Ytekhmfliaojabaa
open Go.RowKit

theorem und_mapS : Try.prog.underlying 100 = some (.map 3 121) := by kernel_rfl
theorem zero_S (w : World) : (zeroValue 121).run Try.prog w = .ok (.agg #[.slice none 0 0, .bool false]) w := by kernel_rfl
theorem elD : Elem Try.prog 67 72 3 40 (.agg #[.int .i64 0, .slice none 0 0, .bool false]) := Elem.mk' (by kernel_rfl) (by kernel_rfl) rfl (by decide)

set_option maxRecDepth 100000 in
set_option maxHeartbeats 2000000 in
theorem noneQ_any (g : Nat) (x : Int) (w : World) (h : w.cell? ⟨g, 1, none⟩ = some (.int .i64 x)) (h0 : x ≠ 0) :
    Calls Try.prog 77 #[.pointer (some ⟨g, 0, none⟩)] w (fun e w' => e = .returned (.bool false) ∧ w = w') := by
  have hne : (x == 0) = false := by simpa using h0
  have hnp : ((some (⟨g, 0, none⟩ : Addr)) == none) = false := by simp
  clear h0
  go_enter Try.func77, Try.ntmps77
  go_wp2
  go_ret
  exact ⟨rfl, rfl⟩

set_option maxRecDepth 100000 in
set_option maxHeartbeats 2000000 in
theorem refused_r6 (g : Nat) (s n wn : Int) (fr : Bool) (w : World) (f1 : w.cell? ⟨g, 1, none⟩ = some (.int .i64 wn)) (f2 : w.cell? ⟨g, 2, none⟩ = some (.int .i64 n)) (h1 : 0 ≤ n ∧ n ≤ 5000000000) (h2 : 0 ≤ wn ∧ wn ≤ 64) (hfr : decide (n + wn ≤ s) = fr) (a : Act) (Q : Exit → Act → World → Prop) (hsize : 34 ≤ a.tmps.size)
    (s0 : a.tmps[0]? = some (.pointer (some ⟨g, 0, none⟩)))
    (s1 : a.tmps[1]? = some (.int .i64 s))
    (hend : ∀ (xv0 xv1 xv2 xv3 xv4 xv5 xv6 xv7 xv8 xv9 xv10 : Value) (W : World), (xv0 = .int .i64 s) → (xv1 = .pointer (some ⟨g, 0, none⟩)) → (xv2 = .pointer (some ⟨g, 0, none⟩)) → (xv3 = .pointer (some ⟨g, 2, none⟩)) → (xv4 = .int .i64 n) → (xv5 = .pointer (some ⟨g, 0, none⟩)) → (xv6 = .pointer (some ⟨g, 0, none⟩)) → (xv7 = .pointer (some ⟨g, 1, none⟩)) → (xv8 = .int .i64 wn) → (xv9 = .int .i64 (n + wn)) → (xv10 = .bool fr) → Ext w W → wpList Try.prog (rops Try.f79 6).toArray Q ((rops Try.f79 6).drop 11) (((((((((((a.put (some 23) xv0).put (some 24) xv1).put (some 25) xv2).put (some 26) xv3).put (some 27) xv4).put (some 28) xv5).put (some 29) xv6).put (some 30) xv7).put (some 31) xv8).put (some 32) xv9).put (some 33) xv10) W) :
    (Code.region 6 (rops Try.f79 6).toArray true).wp Try.prog Q a w := by
  have hmono : ∀ (W W' : World) (j : Nat) (u : Value), Ext W W' → (fun (i : Nat) (v : Value) (W : World) => match i with
    | 0 => v = .int .i64 s
    | 1 => v = .pointer (some ⟨g, 0, none⟩)
    | 2 => v = .pointer (some ⟨g, 0, none⟩)
    | 3 => v = .pointer (some ⟨g, 2, none⟩)
    | 4 => v = .int .i64 n
    | 5 => v = .pointer (some ⟨g, 0, none⟩)
    | 6 => v = .pointer (some ⟨g, 0, none⟩)
    | 7 => v = .pointer (some ⟨g, 1, none⟩)
    | 8 => v = .int .i64 wn
    | 9 => v = .int .i64 (n + wn)
    | 10 => v = .bool fr
    | _ => True) j u W → (fun (i : Nat) (v : Value) (W : World) => match i with
    | 0 => v = .int .i64 s
    | 1 => v = .pointer (some ⟨g, 0, none⟩)
    | 2 => v = .pointer (some ⟨g, 0, none⟩)
    | 3 => v = .pointer (some ⟨g, 2, none⟩)
    | 4 => v = .int .i64 n
    | 5 => v = .pointer (some ⟨g, 0, none⟩)
    | 6 => v = .pointer (some ⟨g, 0, none⟩)
    | 7 => v = .pointer (some ⟨g, 1, none⟩)
    | 8 => v = .int .i64 wn
    | 9 => v = .int .i64 (n + wn)
    | 10 => v = .bool fr
    | _ => True) j u W' := by
    intro W W' j u hX h
    match j, h with
    | 0, h => exact h
    | 1, h => exact h
    | 2, h => exact h
    | 3, h => exact h
    | 4, h => exact h
    | 5, h => exact h
    | 6, h => exact h
    | 7, h => exact h
    | 8, h => exact h
    | 9, h => exact h
    | 10, h => exact h
    | _ + 11, h => exact h
  have hsz : ∀ d, some d ∈ ([some 23, some 24, some 25, some 26, some 27, some 28, some 29, some 30, some 31, some 32, some 33] : List (Option Tmp)) → d < a.tmps.size := slots_lt (by decide) hsize
  refine wp_region_j 11 [some 23, some 24, some 25, some 26, some 27, some 28, some 29, some 30, some 31, some 32, some 33] [[], [], [1], [2], [3], [], [5], [6], [7], [4, 8], [0, 9]] [[], [], [], [], [], [], [], [], [], [], []] (fun (i : Nat) (v : Value) (W : World) => match i with
    | 0 => v = .int .i64 s
    | 1 => v = .pointer (some ⟨g, 0, none⟩)
    | 2 => v = .pointer (some ⟨g, 0, none⟩)
    | 3 => v = .pointer (some ⟨g, 2, none⟩)
    | 4 => v = .int .i64 n
    | 5 => v = .pointer (some ⟨g, 0, none⟩)
    | 6 => v = .pointer (some ⟨g, 0, none⟩)
    | 7 => v = .pointer (some ⟨g, 1, none⟩)
    | 8 => v = .int .i64 wn
    | 9 => v = .int .i64 (n + wn)
    | 10 => v = .bool fr
    | _ => True) (fun _ W => Ext w W) (by kernel_rfl) (by kernel_rfl) hsz (fun _ _ _ _ h => h) ((Ext.refl w).drew) ?_ ?_
  · clear hend
    simp only [rops, Try.f79, regOf, Option.bind_some, Nat.reduceBEq, if_true, if_false, Bool.false_eq_true, Option.getD_some]
    simp only [List.take_succ_cons, List.take_zero]
    refine ⟨?_, ?_, ?_, ?_, ?_, ?_, ?_, ?_, ?_, ?_, ?_, trivial⟩
    · intro done us W hJ hdep haft hnot b hb hb' K hK Q'
      have e1 := (hb' 1 (by simp)).trans s1
      clear hb hb'
      go_simp
      exact hK _ _ rfl (fun _ _ _ h => h) hJ
    · intro done us W hJ hdep haft hnot b hb hb' K hK Q'
      have e0 := (hb' 0 (by simp)).trans s0
      clear hb hb'
      go_simp
      exact hK _ _ rfl (fun _ _ _ h => h) hJ
    · intro done us W hJ hdep haft hnot b hb hb' K hK Q'
      simp only [List.getD_cons_succ, List.getD_cons_zero, List.mem_cons, List.not_mem_nil, or_false, forall_eq_or_imp, forall_eq] at hdep
      have e24 := hb 1 24 rfl
      have d1 := hdep
      rw [d1.1] at e24
      clear hb hb' hdep d1
      go_simp
      exact hK _ _ rfl (fun _ _ _ h => h) hJ
    · intro done us W hJ hdep haft hnot b hb hb' K hK Q'
      simp only [List.getD_cons_succ, List.getD_cons_zero, List.mem_cons, List.not_mem_nil, or_false, forall_eq_or_imp, forall_eq] at hdep
      have e25 := hb 2 25 rfl
      have d2 := hdep
      rw [d2.1] at e25
      clear hb hb' hdep d2
      go_simp
      exact hK _ _ rfl (fun _ _ _ h => h) hJ
    · intro done us W hJ hdep haft hnot b hb hb' K hK Q'
      simp only [List.getD_cons_succ, List.getD_cons_zero, List.mem_cons, List.not_mem_nil, or_false, forall_eq_or_imp, forall_eq] at hdep
      have e26 := hb 3 26 rfl
      have d3 := hdep
      rw [d3.1] at e26
      clear hb hb' hdep d3
      have q := Ext.cell hJ f2
      go_simp
      exact hK _ _ rfl (fun _ _ _ h => h) hJ
    · intro done us W hJ hdep haft hnot b hb hb' K hK Q'
      have e0 := (hb' 0 (by simp)).trans s0
      clear hb hb'
      go_simp
      exact hK _ _ rfl (fun _ _ _ h => h) hJ
    · intro done us W hJ hdep haft hnot b hb hb' K hK Q'
      simp only [List.getD_cons_succ, List.getD_cons_zero, List.mem_cons, List.not_mem_nil, or_false, forall_eq_or_imp, forall_eq] at hdep
      have e28 := hb 5 28 rfl
      have d5 := hdep
      rw [d5.1] at e28
      clear hb hb' hdep d5
      go_simp
      exact hK _ _ rfl (fun _ _ _ h => h) hJ
    · intro done us W hJ hdep haft hnot b hb hb' K hK Q'
      simp only [List.getD_cons_succ, List.getD_cons_zero, List.mem_cons, List.not_mem_nil, or_false, forall_eq_or_imp, forall_eq] at hdep
      have e29 := hb 6 29 rfl
      have d6 := hdep
      rw [d6.1] at e29
      clear hb hb' hdep d6
      go_simp
      exact hK _ _ rfl (fun _ _ _ h => h) hJ
    · intro done us W hJ hdep haft hnot b hb hb' K hK Q'
      simp only [List.getD_cons_succ, List.getD_cons_zero, List.mem_cons, List.not_mem_nil, or_false, forall_eq_or_imp, forall_eq] at hdep
      have e30 := hb 7 30 rfl
      have d7 := hdep
      rw [d7.1] at e30
      clear hb hb' hdep d7
      have q := Ext.cell hJ f1
      go_simp
      exact hK _ _ rfl (fun _ _ _ h => h) hJ
    · intro done us W hJ hdep haft hnot b hb hb' K hK Q'
      simp only [List.getD_cons_succ, List.getD_cons_zero, List.mem_cons, List.not_mem_nil, or_false, forall_eq_or_imp, forall_eq] at hdep
      have e27 := hb 4 27 rfl
      have e31 := hb 8 31 rfl
      have d4 := hdep.1
      have d8 := hdep.2
      rw [d4.1] at e27
      rw [d8.1] at e31
      clear hb hb' hdep d4 d8
      have qw : IntKind.i64.wrap (n + wn) = n + wn := IntWalk.i64_in _ (by omega)
      go_simp
      exact hK _ _ rfl (fun _ _ _ h => h) hJ
    · intro done us W hJ hdep haft hnot b hb hb' K hK Q'
      simp only [List.getD_cons_succ, List.getD_cons_zero, List.mem_cons, List.not_mem_nil, or_false, forall_eq_or_imp, forall_eq] at hdep
      have e23 := hb 0 23 rfl
      have e32 := hb 9 32 rfl
      have d0 := hdep.1
      have d9 := hdep.2
      rw [d0.1] at e23
      rw [d9.1] at e32
      clear hb hb' hdep d0 d9
      go_simp
      exact hK _ _ (by first | rfl | exact congrArg Value.bool hfr | (congr 1; exact hfr)) (fun _ _ _ h => h) hJ
  · intro us W hV hJ
    exact hend (us 0) (us 1) (us 2) (us 3) (us 4) (us 5) (us 6) (us 7) (us 8) (us 9) (us 10) W (hV 0 (by omega)) (hV 1 (by omega)) (hV 2 (by omega)) (hV 3 (by omega)) (hV 4 (by omega)) (hV 5 (by omega)) (hV 6 (by omega)) (hV 7 (by omega)) (hV 8 (by omega)) (hV 9 (by omega)) (hV 10 (by omega)) hJ

set_option maxRecDepth 100000 in
set_option maxHeartbeats 2000000 in
theorem refused_any (base g m : Nat) (r : Rcv) (s : Int) (w : World) (h : RcvP base w g m r) (hs : -9223372036854775808 ≤ s ∧ s ≤ 9223372036854775807) :
    Calls Try.prog 79 #[.pointer (some ⟨g, 0, none⟩), .int .i64 s] w (fun e w' => e = .returned (.int .i64 (refuse r s)) ∧ Ext w w') := by
  have hn := h.ok.next
  have hw := h.ok.window
  have HB := Lib.hid h.q.blk
  have f2 := h.q.blk.cell 2
  have f3 := h.q.blk.cell 3
  obtain ⟨l, hM, hF⟩ := h.q.map
  obtain ⟨A, nn, c, lo, h1, h2, _⟩ := slot_at hF s
  have q := hM.run_look keyed_int und_mapS (zero_S _) (keyOf_i64 und_int hs)
  rw [h1, h2] at q
  clear h1 h2 hM hF h
  by_cases h1 : s < r.next
  · have q1 : decide (s < r.next) = true := decide_eq_true h1
    have HE : Hid (refuse r s = 26) := Lib.hid (by unfold refuse; rw [if_pos h1])
    clear q
    go_enter Try.func79, Try.ntmps79
    go_wp2
    go_ret
    rw [HE.out]
    exact ⟨rfl, Ext.refl w⟩
  · have q1 : decide (s < r.next) = false := decide_eq_false h1
    cases hfd : (findD r.held s).isSome with
    | true =>
      rw [hfd] at q
      have HE : Hid (refuse r s = 27) := Lib.hid (by unfold refuse; rw [if_neg h1, if_pos hfd])
      clear hfd
      go_enter Try.func79, Try.ntmps79
      go_wp2
      go_ret
      rw [HE.out]
      exact ⟨rfl, (Ext.refl w).alloc _⟩
    | false =>
      rw [hfd] at q
      by_cases h3 : r.next + r.window ≤ s
      · have HE : Hid (refuse r s = 28) := Lib.hid (by unfold refuse; rw [if_neg h1, if_neg (by rw [hfd]; simp), if_pos h3])
        clear hfd
        go_enter Try.func79, Try.ntmps79
        go_upto_region 6 with (fail)
        have hXa : Ext w (w.alloc (.cells #[.slice A nn c, .bool lo] 121)) := (Ext.refl _).alloc _
        generalize w.alloc (.cells #[.slice A nn c, .bool lo] 121) = w1 at hXa ⊢
        have hb1 := HB.out.ext hXa
        refine refused_r6 g s r.next r.window true _ (hb1.cell 1) (hb1.cell 2) (by omega) (by omega) (decide_eq_true (by omega)) _ _ (by simp) rfl rfl ?_
        rintro xv0 xv1 xv2 xv3 xv4 xv5 xv6 xv7 xv8 xv9 xv10 W rfl rfl rfl rfl rfl rfl rfl rfl rfl rfl rfl hXW
        simp only [rops, Try.f79, regOf, Option.bind_some, Nat.reduceBEq, if_true, if_false, Bool.false_eq_true, Option.getD_some, List.drop_succ_cons, List.drop_zero]
        simp only [Act.put, List.setIfInBounds_toArray, List.set_cons_succ, List.set_cons_zero]
        have HXW := Lib.hid (hXa.trans hXW)
        clear hXa hXW hb1
        go_wp2
        go_ret
        rw [HE.out]
        exact ⟨rfl, HXW.out⟩
      · have HE : Hid (refuse r s = 0) := Lib.hid (by unfold refuse; rw [if_neg h1, if_neg (by rw [hfd]; simp), if_neg h3])
        clear hfd
        go_enter Try.func79, Try.ntmps79
        go_upto_region 6 with (fail)
        have hXa : Ext w (w.alloc (.cells #[.slice A nn c, .bool lo] 121)) := (Ext.refl _).alloc _
        generalize w.alloc (.cells #[.slice A nn c, .bool lo] 121) = w1 at hXa ⊢
        have hb1 := HB.out.ext hXa
        refine refused_r6 g s r.next r.window false _ (hb1.cell 1) (hb1.cell 2) (by omega) (by omega) (decide_eq_false (by omega)) _ _ (by simp) rfl rfl ?_
        rintro xv0 xv1 xv2 xv3 xv4 xv5 xv6 xv7 xv8 xv9 xv10 W rfl rfl rfl rfl rfl rfl rfl rfl rfl rfl rfl hXW
        simp only [rops, Try.f79, regOf, Option.bind_some, Nat.reduceBEq, if_true, if_false, Bool.false_eq_true, Option.getD_some, List.drop_succ_cons, List.drop_zero]
        simp only [Act.put, List.setIfInBounds_toArray, List.set_cons_succ, List.set_cons_zero]
        have HXW := Lib.hid (hXa.trans hXW)
        clear hXa hXW hb1
        go_wp2
        go_ret
        rw [HE.out]
        exact ⟨rfl, HXW.out⟩

set_option maxRecDepth 100000 in
set_option maxHeartbeats 2000000 in
theorem deliver_r2 (g m : Nat) (n : Int) (l : List (Int × Value)) (A : Option Addr) (nn c : Nat) (lo th : Bool) (w : World) (f2 : w.cell? ⟨g, 2, none⟩ = some (.int .i64 n)) (f3 : w.cell? ⟨g, 3, none⟩ = some (.map (some m))) (hM : MapL Try.prog 3 w m l) (hn : -9223372036854775808 ≤ n ∧ n ≤ 9223372036854775807) (hlk : (look l n).getD (.agg #[.slice none 0 0, .bool false]) = .agg #[.slice A nn c, .bool lo]) (his : (look l n).isSome = th) (a : Act) (Q : Exit → Act → World → Prop) (hsize : 18 ≤ a.tmps.size)
    (s0 : a.tmps[0]? = some (.pointer (some ⟨g, 0, none⟩)))
    (hend : ∀ (xv0 xv1 xv2 xv3 xv4 xv5 xv6 xv7 xv8 xv9 xv10 xv11 xv12 xv13 xv14 : Value) (W : World), (xv0 = .pointer (some ⟨g, 0, none⟩)) → (xv1 = .pointer (some ⟨g, 0, none⟩)) → (xv2 = .pointer (some ⟨g, 3, none⟩)) → (xv3 = .map (some m)) → (xv4 = .pointer (some ⟨g, 0, none⟩)) → (xv5 = .pointer (some ⟨g, 0, none⟩)) → (xv6 = .pointer (some ⟨g, 2, none⟩)) → (xv7 = .int .i64 n) → (xv8 = .tuple #[.agg #[.slice A nn c, .bool lo], .bool th]) → (xv9 = .tuple #[.agg #[.slice A nn c, .bool lo], .bool th]) → (xv10 = .agg #[.slice A nn c, .bool lo]) → (xv11 = .bool th) → (xv14 = .bool th) → (∃ g, xv12 = .pointer (some ⟨g, 0, none⟩) ∧ w.heap.size ≤ g ∧ Blk W g 121 #[.slice A nn c, .bool lo]) → Ext w W → wpList Try.prog (rops Try.f80 2).toArray Q [] (((((((((((((((a.put (some 7) xv0).put (some 8) xv1).put (some 9) xv2).put (some 10) xv3).put (some 11) xv4).put (some 12) xv5).put (some 13) xv6).put (some 14) xv7).put (some 15) xv8).put (some 6) xv9).put (some 16) xv10).put (some 17) xv11).put (some 4) xv12).put (none) xv13).put (some 5) xv14) W) :
    (Code.region 2 (rops Try.f80 2).toArray true).wp Try.prog Q a w := by
  have hsz : ∀ d, some d ∈ ([some 7, some 8, some 9, some 10, some 11, some 12, some 13, some 14, some 15, some 6, some 16, some 17, some 4, none, some 5] : List (Option Tmp)) → d < a.tmps.size := slots_lt (by decide) hsize
  refine wp_region_g 15 [some 7, some 8, some 9, some 10, some 11, some 12, some 13, some 14, some 15, some 6, some 16, some 17, some 4, none, some 5] [[], [0], [1], [2], [], [4], [5], [6], [3, 7], [8], [9], [9], [], [10, 12], [11]] [[], [], [], [], [], [], [], [], [], [], [], [], [13], [], []] (fun (done : Nat → Prop) (us : Nat → Value) (W : World) => Ext w W ∧ (done 0 → us 0 = .pointer (some ⟨g, 0, none⟩)) ∧ (done 1 → us 1 = .pointer (some ⟨g, 0, none⟩)) ∧ (done 2 → us 2 = .pointer (some ⟨g, 3, none⟩)) ∧ (done 3 → us 3 = .map (some m)) ∧ (done 4 → us 4 = .pointer (some ⟨g, 0, none⟩)) ∧ (done 5 → us 5 = .pointer (some ⟨g, 0, none⟩)) ∧ (done 6 → us 6 = .pointer (some ⟨g, 2, none⟩)) ∧ (done 7 → us 7 = .int .i64 n) ∧ (done 8 → us 8 = .tuple #[.agg #[.slice A nn c, .bool lo], .bool th]) ∧ (done 9 → us 9 = .tuple #[.agg #[.slice A nn c, .bool lo], .bool th]) ∧ (done 10 → us 10 = .agg #[.slice A nn c, .bool lo]) ∧ (done 11 → us 11 = .bool th) ∧ (done 14 → us 14 = .bool th) ∧ Loc w W 121 #[.slice none 0 0, .bool false] #[.slice A nn c, .bool lo] (done 12) (done 13) (us 12)) (by kernel_rfl) (by kernel_rfl) hsz (fun p q us W h => by have e : p = q := funext fun k => propext (h k); rw [e]; exact id) (fun us => ⟨(Ext.refl w).drew, fun h => h.elim, fun h => h.elim, fun h => h.elim, fun h => h.elim, fun h => h.elim, fun h => h.elim, fun h => h.elim, fun h => h.elim, fun h => h.elim, fun h => h.elim, fun h => h.elim, fun h => h.elim, fun h => h.elim, Loc.unmade id⟩) ?_ ?_
  · clear hend
    simp only [rops, Try.f80, regOf, Option.bind_some, Nat.reduceBEq, if_true, if_false, Bool.false_eq_true, Option.getD_some]
    simp only [List.take_succ_cons, List.take_zero]
    refine ⟨?_, ?_, ?_, ?_, ?_, ?_, ?_, ?_, ?_, ?_, ?_, ?_, ?_, ?_, ?_, trivial⟩
    · intro done us W hJ hdep haft hnot b hb hb' K hK Q'
      obtain ⟨hX0, cc0, cc1, cc2, cc3, cc4, cc5, cc6, cc7, cc8, cc9, cc10, cc11, cc14, ll12⟩ := hJ
      have e0 := (hb' 0 (by simp)).trans s0
      clear hb hb'
      have hfin := hK (.pointer (some ⟨g, 0, none⟩)) _ ⟨hX0, fun _ => rfl, fun h => cc1 (h.resolve_right (by decide)), fun h => cc2 (h.resolve_right (by decide)), fun h => cc3 (h.resolve_right (by decide)), fun h => cc4 (h.resolve_right (by decide)), fun h => cc5 (h.resolve_right (by decide)), fun h => cc6 (h.resolve_right (by decide)), fun h => cc7 (h.resolve_right (by decide)), fun h => cc8 (h.resolve_right (by decide)), fun h => cc9 (h.resolve_right (by decide)), fun h => cc10 (h.resolve_right (by decide)), fun h => cc11 (h.resolve_right (by decide)), fun h => cc14 (h.resolve_right (by decide)), Loc.same ll12 ⟨fun h => h.resolve_right (by decide), .inl⟩ ⟨fun h => h.resolve_right (by decide), .inl⟩⟩
      clear hK cc0 cc1 cc2 cc3 cc4 cc5 cc6 cc7 cc8 cc9 cc10 cc11 cc14 ll12
      go_simp
      exact hfin
    · intro done us W hJ hdep haft hnot b hb hb' K hK Q'
      obtain ⟨hX0, cc0, cc1, cc2, cc3, cc4, cc5, cc6, cc7, cc8, cc9, cc10, cc11, cc14, ll12⟩ := hJ
      simp only [List.getD_cons_succ, List.getD_cons_zero, List.mem_cons, List.not_mem_nil, or_false, forall_eq_or_imp, forall_eq] at hdep
      have e7 := hb 0 7 rfl
      rw [cc0 hdep] at e7
      clear hb hb'
      have hfin := hK (.pointer (some ⟨g, 0, none⟩)) _ ⟨hX0, fun h => cc0 (h.resolve_right (by decide)), fun _ => rfl, fun h => cc2 (h.resolve_right (by decide)), fun h => cc3 (h.resolve_right (by decide)), fun h => cc4 (h.resolve_right (by decide)), fun h => cc5 (h.resolve_right (by decide)), fun h => cc6 (h.resolve_right (by decide)), fun h => cc7 (h.resolve_right (by decide)), fun h => cc8 (h.resolve_right (by decide)), fun h => cc9 (h.resolve_right (by decide)), fun h => cc10 (h.resolve_right (by decide)), fun h => cc11 (h.resolve_right (by decide)), fun h => cc14 (h.resolve_right (by decide)), Loc.same ll12 ⟨fun h => h.resolve_right (by decide), .inl⟩ ⟨fun h => h.resolve_right (by decide), .inl⟩⟩
      clear hK cc0 cc1 cc2 cc3 cc4 cc5 cc6 cc7 cc8 cc9 cc10 cc11 cc14 ll12
      go_simp
      exact hfin
    · intro done us W hJ hdep haft hnot b hb hb' K hK Q'
      obtain ⟨hX0, cc0, cc1, cc2, cc3, cc4, cc5, cc6, cc7, cc8, cc9, cc10, cc11, cc14, ll12⟩ := hJ
      simp only [List.getD_cons_succ, List.getD_cons_zero, List.mem_cons, List.not_mem_nil, or_false, forall_eq_or_imp, forall_eq] at hdep
      have e8 := hb 1 8 rfl
      rw [cc1 hdep] at e8
      clear hb hb'
      have hfin := hK (.pointer (some ⟨g, 3, none⟩)) _ ⟨hX0, fun h => cc0 (h.resolve_right (by decide)), fun h => cc1 (h.resolve_right (by decide)), fun _ => rfl, fun h => cc3 (h.resolve_right (by decide)), fun h => cc4 (h.resolve_right (by decide)), fun h => cc5 (h.resolve_right (by decide)), fun h => cc6 (h.resolve_right (by decide)), fun h => cc7 (h.resolve_right (by decide)), fun h => cc8 (h.resolve_right (by decide)), fun h => cc9 (h.resolve_right (by decide)), fun h => cc10 (h.resolve_right (by decide)), fun h => cc11 (h.resolve_right (by decide)), fun h => cc14 (h.resolve_right (by decide)), Loc.same ll12 ⟨fun h => h.resolve_right (by decide), .inl⟩ ⟨fun h => h.resolve_right (by decide), .inl⟩⟩
      clear hK cc0 cc1 cc2 cc3 cc4 cc5 cc6 cc7 cc8 cc9 cc10 cc11 cc14 ll12
      go_simp
      exact hfin
    · intro done us W hJ hdep haft hnot b hb hb' K hK Q'
      obtain ⟨hX0, cc0, cc1, cc2, cc3, cc4, cc5, cc6, cc7, cc8, cc9, cc10, cc11, cc14, ll12⟩ := hJ
      simp only [List.getD_cons_succ, List.getD_cons_zero, List.mem_cons, List.not_mem_nil, or_false, forall_eq_or_imp, forall_eq] at hdep
      have e9 := hb 2 9 rfl
      rw [cc2 hdep] at e9
      clear hb hb'
      have z1 := Ext.cell hX0 f3
      have hfin := hK (.map (some m)) _ ⟨hX0, fun h => cc0 (h.resolve_right (by decide)), fun h => cc1 (h.resolve_right (by decide)), fun h => cc2 (h.resolve_right (by decide)), fun _ => rfl, fun h => cc4 (h.resolve_right (by decide)), fun h => cc5 (h.resolve_right (by decide)), fun h => cc6 (h.resolve_right (by decide)), fun h => cc7 (h.resolve_right (by decide)), fun h => cc8 (h.resolve_right (by decide)), fun h => cc9 (h.resolve_right (by decide)), fun h => cc10 (h.resolve_right (by decide)), fun h => cc11 (h.resolve_right (by decide)), fun h => cc14 (h.resolve_right (by decide)), Loc.same ll12 ⟨fun h => h.resolve_right (by decide), .inl⟩ ⟨fun h => h.resolve_right (by decide), .inl⟩⟩
      clear hK cc0 cc1 cc2 cc3 cc4 cc5 cc6 cc7 cc8 cc9 cc10 cc11 cc14 ll12
      go_simp
      exact hfin
    · intro done us W hJ hdep haft hnot b hb hb' K hK Q'
      obtain ⟨hX0, cc0, cc1, cc2, cc3, cc4, cc5, cc6, cc7, cc8, cc9, cc10, cc11, cc14, ll12⟩ := hJ
      have e0 := (hb' 0 (by simp)).trans s0
      clear hb hb'
      have hfin := hK (.pointer (some ⟨g, 0, none⟩)) _ ⟨hX0, fun h => cc0 (h.resolve_right (by decide)), fun h => cc1 (h.resolve_right (by decide)), fun h => cc2 (h.resolve_right (by decide)), fun h => cc3 (h.resolve_right (by decide)), fun _ => rfl, fun h => cc5 (h.resolve_right (by decide)), fun h => cc6 (h.resolve_right (by decide)), fun h => cc7 (h.resolve_right (by decide)), fun h => cc8 (h.resolve_right (by decide)), fun h => cc9 (h.resolve_right (by decide)), fun h => cc10 (h.resolve_right (by decide)), fun h => cc11 (h.resolve_right (by decide)), fun h => cc14 (h.resolve_right (by decide)), Loc.same ll12 ⟨fun h => h.resolve_right (by decide), .inl⟩ ⟨fun h => h.resolve_right (by decide), .inl⟩⟩
      clear hK cc0 cc1 cc2 cc3 cc4 cc5 cc6 cc7 cc8 cc9 cc10 cc11 cc14 ll12
      go_simp
      exact hfin
    · intro done us W hJ hdep haft hnot b hb hb' K hK Q'
      obtain ⟨hX0, cc0, cc1, cc2, cc3, cc4, cc5, cc6, cc7, cc8, cc9, cc10, cc11, cc14, ll12⟩ := hJ
      simp only [List.getD_cons_succ, List.getD_cons_zero, List.mem_cons, List.not_mem_nil, or_false, forall_eq_or_imp, forall_eq] at hdep
      have e11 := hb 4 11 rfl
      rw [cc4 hdep] at e11
      clear hb hb'
      have hfin := hK (.pointer (some ⟨g, 0, none⟩)) _ ⟨hX0, fun h => cc0 (h.resolve_right (by decide)), fun h => cc1 (h.resolve_right (by decide)), fun h => cc2 (h.resolve_right (by decide)), fun h => cc3 (h.resolve_right (by decide)), fun h => cc4 (h.resolve_right (by decide)), fun _ => rfl, fun h => cc6 (h.resolve_right (by decide)), fun h => cc7 (h.resolve_right (by decide)), fun h => cc8 (h.resolve_right (by decide)), fun h => cc9 (h.resolve_right (by decide)), fun h => cc10 (h.resolve_right (by decide)), fun h => cc11 (h.resolve_right (by decide)), fun h => cc14 (h.resolve_right (by decide)), Loc.same ll12 ⟨fun h => h.resolve_right (by decide), .inl⟩ ⟨fun h => h.resolve_right (by decide), .inl⟩⟩
      clear hK cc0 cc1 cc2 cc3 cc4 cc5 cc6 cc7 cc8 cc9 cc10 cc11 cc14 ll12
      go_simp
      exact hfin
    · intro done us W hJ hdep haft hnot b hb hb' K hK Q'
      obtain ⟨hX0, cc0, cc1, cc2, cc3, cc4, cc5, cc6, cc7, cc8, cc9, cc10, cc11, cc14, ll12⟩ := hJ
      simp only [List.getD_cons_succ, List.getD_cons_zero, List.mem_cons, List.not_mem_nil, or_false, forall_eq_or_imp, forall_eq] at hdep
      have e12 := hb 5 12 rfl
      rw [cc5 hdep] at e12
      clear hb hb'
      have hfin := hK (.pointer (some ⟨g, 2, none⟩)) _ ⟨hX0, fun h => cc0 (h.resolve_right (by decide)), fun h => cc1 (h.resolve_right (by decide)), fun h => cc2 (h.resolve_right (by decide)), fun h => cc3 (h.resolve_right (by decide)), fun h => cc4 (h.resolve_right (by decide)), fun h => cc5 (h.resolve_right (by decide)), fun _ => rfl, fun h => cc7 (h.resolve_right (by decide)), fun h => cc8 (h.resolve_right (by decide)), fun h => cc9 (h.resolve_right (by decide)), fun h => cc10 (h.resolve_right (by decide)), fun h => cc11 (h.resolve_right (by decide)), fun h => cc14 (h.resolve_right (by decide)), Loc.same ll12 ⟨fun h => h.resolve_right (by decide), .inl⟩ ⟨fun h => h.resolve_right (by decide), .inl⟩⟩
      clear hK cc0 cc1 cc2 cc3 cc4 cc5 cc6 cc7 cc8 cc9 cc10 cc11 cc14 ll12
      go_simp
      exact hfin
    · intro done us W hJ hdep haft hnot b hb hb' K hK Q'
      obtain ⟨hX0, cc0, cc1, cc2, cc3, cc4, cc5, cc6, cc7, cc8, cc9, cc10, cc11, cc14, ll12⟩ := hJ
      simp only [List.getD_cons_succ, List.getD_cons_zero, List.mem_cons, List.not_mem_nil, or_false, forall_eq_or_imp, forall_eq] at hdep
      have e13 := hb 6 13 rfl
      rw [cc6 hdep] at e13
      clear hb hb'
      have z1 := Ext.cell hX0 f2
      have hfin := hK (.int .i64 n) _ ⟨hX0, fun h => cc0 (h.resolve_right (by decide)), fun h => cc1 (h.resolve_right (by decide)), fun h => cc2 (h.resolve_right (by decide)), fun h => cc3 (h.resolve_right (by decide)), fun h => cc4 (h.resolve_right (by decide)), fun h => cc5 (h.resolve_right (by decide)), fun h => cc6 (h.resolve_right (by decide)), fun _ => rfl, fun h => cc8 (h.resolve_right (by decide)), fun h => cc9 (h.resolve_right (by decide)), fun h => cc10 (h.resolve_right (by decide)), fun h => cc11 (h.resolve_right (by decide)), fun h => cc14 (h.resolve_right (by decide)), Loc.same ll12 ⟨fun h => h.resolve_right (by decide), .inl⟩ ⟨fun h => h.resolve_right (by decide), .inl⟩⟩
      clear hK cc0 cc1 cc2 cc3 cc4 cc5 cc6 cc7 cc8 cc9 cc10 cc11 cc14 ll12
      go_simp
      exact hfin
    · intro done us W hJ hdep haft hnot b hb hb' K hK Q'
      obtain ⟨hX0, cc0, cc1, cc2, cc3, cc4, cc5, cc6, cc7, cc8, cc9, cc10, cc11, cc14, ll12⟩ := hJ
      simp only [List.getD_cons_succ, List.getD_cons_zero, List.mem_cons, List.not_mem_nil, or_false, forall_eq_or_imp, forall_eq] at hdep
      have e10 := hb 3 10 rfl
      rw [cc3 hdep.1] at e10
      have e14 := hb 7 14 rfl
      rw [cc7 hdep.2] at e14
      clear hb hb'
      have q := (MapL.ext hM hX0).run_look keyed_int und_mapS (zero_S _) (keyOf_i64 und_int hn)
      rw [hlk, his] at q
      have hfin := hK (.tuple #[.agg #[.slice A nn c, .bool lo], .bool th]) _ ⟨hX0, fun h => cc0 (h.resolve_right (by decide)), fun h => cc1 (h.resolve_right (by decide)), fun h => cc2 (h.resolve_right (by decide)), fun h => cc3 (h.resolve_right (by decide)), fun h => cc4 (h.resolve_right (by decide)), fun h => cc5 (h.resolve_right (by decide)), fun h => cc6 (h.resolve_right (by decide)), fun h => cc7 (h.resolve_right (by decide)), fun _ => rfl, fun h => cc9 (h.resolve_right (by decide)), fun h => cc10 (h.resolve_right (by decide)), fun h => cc11 (h.resolve_right (by decide)), fun h => cc14 (h.resolve_right (by decide)), Loc.same ll12 ⟨fun h => h.resolve_right (by decide), .inl⟩ ⟨fun h => h.resolve_right (by decide), .inl⟩⟩
      clear hK cc0 cc1 cc2 cc3 cc4 cc5 cc6 cc7 cc8 cc9 cc10 cc11 cc14 ll12
      go_simp
      exact hfin
    · intro done us W hJ hdep haft hnot b hb hb' K hK Q'
      obtain ⟨hX0, cc0, cc1, cc2, cc3, cc4, cc5, cc6, cc7, cc8, cc9, cc10, cc11, cc14, ll12⟩ := hJ
      simp only [List.getD_cons_succ, List.getD_cons_zero, List.mem_cons, List.not_mem_nil, or_false, forall_eq_or_imp, forall_eq] at hdep
      have e15 := hb 8 15 rfl
      rw [cc8 hdep] at e15
      clear hb hb'
      have hfin := hK (.tuple #[.agg #[.slice A nn c, .bool lo], .bool th]) _ ⟨hX0, fun h => cc0 (h.resolve_right (by decide)), fun h => cc1 (h.resolve_right (by decide)), fun h => cc2 (h.resolve_right (by decide)), fun h => cc3 (h.resolve_right (by decide)), fun h => cc4 (h.resolve_right (by decide)), fun h => cc5 (h.resolve_right (by decide)), fun h => cc6 (h.resolve_right (by decide)), fun h => cc7 (h.resolve_right (by decide)), fun h => cc8 (h.resolve_right (by decide)), fun _ => rfl, fun h => cc10 (h.resolve_right (by decide)), fun h => cc11 (h.resolve_right (by decide)), fun h => cc14 (h.resolve_right (by decide)), Loc.same ll12 ⟨fun h => h.resolve_right (by decide), .inl⟩ ⟨fun h => h.resolve_right (by decide), .inl⟩⟩
      clear hK cc0 cc1 cc2 cc3 cc4 cc5 cc6 cc7 cc8 cc9 cc10 cc11 cc14 ll12
      go_simp
      exact hfin
    · intro done us W hJ hdep haft hnot b hb hb' K hK Q'
      obtain ⟨hX0, cc0, cc1, cc2, cc3, cc4, cc5, cc6, cc7, cc8, cc9, cc10, cc11, cc14, ll12⟩ := hJ
      simp only [List.getD_cons_succ, List.getD_cons_zero, List.mem_cons, List.not_mem_nil, or_false, forall_eq_or_imp, forall_eq] at hdep
      have e6 := hb 9 6 rfl
      rw [cc9 hdep] at e6
      clear hb hb'
      have hfin := hK (.agg #[.slice A nn c, .bool lo]) _ ⟨hX0, fun h => cc0 (h.resolve_right (by decide)), fun h => cc1 (h.resolve_right (by decide)), fun h => cc2 (h.resolve_right (by decide)), fun h => cc3 (h.resolve_right (by decide)), fun h => cc4 (h.resolve_right (by decide)), fun h => cc5 (h.resolve_right (by decide)), fun h => cc6 (h.resolve_right (by decide)), fun h => cc7 (h.resolve_right (by decide)), fun h => cc8 (h.resolve_right (by decide)), fun h => cc9 (h.resolve_right (by decide)), fun _ => rfl, fun h => cc11 (h.resolve_right (by decide)), fun h => cc14 (h.resolve_right (by decide)), Loc.same ll12 ⟨fun h => h.resolve_right (by decide), .inl⟩ ⟨fun h => h.resolve_right (by decide), .inl⟩⟩
      clear hK cc0 cc1 cc2 cc3 cc4 cc5 cc6 cc7 cc8 cc9 cc10 cc11 cc14 ll12
      go_simp
      exact hfin
    · intro done us W hJ hdep haft hnot b hb hb' K hK Q'
      obtain ⟨hX0, cc0, cc1, cc2, cc3, cc4, cc5, cc6, cc7, cc8, cc9, cc10, cc11, cc14, ll12⟩ := hJ
      simp only [List.getD_cons_succ, List.getD_cons_zero, List.mem_cons, List.not_mem_nil, or_false, forall_eq_or_imp, forall_eq] at hdep
      have e6 := hb 9 6 rfl
      rw [cc9 hdep] at e6
      clear hb hb'
      have hfin := hK (.bool th) _ ⟨hX0, fun h => cc0 (h.resolve_right (by decide)), fun h => cc1 (h.resolve_right (by decide)), fun h => cc2 (h.resolve_right (by decide)), fun h => cc3 (h.resolve_right (by decide)), fun h => cc4 (h.resolve_right (by decide)), fun h => cc5 (h.resolve_right (by decide)), fun h => cc6 (h.resolve_right (by decide)), fun h => cc7 (h.resolve_right (by decide)), fun h => cc8 (h.resolve_right (by decide)), fun h => cc9 (h.resolve_right (by decide)), fun h => cc10 (h.resolve_right (by decide)), fun _ => rfl, fun h => cc14 (h.resolve_right (by decide)), Loc.same ll12 ⟨fun h => h.resolve_right (by decide), .inl⟩ ⟨fun h => h.resolve_right (by decide), .inl⟩⟩
      clear hK cc0 cc1 cc2 cc3 cc4 cc5 cc6 cc7 cc8 cc9 cc10 cc11 cc14 ll12
      go_simp
      exact hfin
    · intro done us W hJ hdep haft hnot b hb hb' K hK Q'
      obtain ⟨hX0, cc0, cc1, cc2, cc3, cc4, cc5, cc6, cc7, cc8, cc9, cc10, cc11, cc14, ll12⟩ := hJ
      simp only [List.getD_cons_succ, List.getD_cons_zero, List.mem_cons, List.not_mem_nil, or_false, forall_eq_or_imp, forall_eq] at haft
      clear hb hb'
      have hfin := hK _ _ ⟨hX0.alloc _, fun h => cc0 (h.resolve_right (by decide)), fun h => cc1 (h.resolve_right (by decide)), fun h => cc2 (h.resolve_right (by decide)), fun h => cc3 (h.resolve_right (by decide)), fun h => cc4 (h.resolve_right (by decide)), fun h => cc5 (h.resolve_right (by decide)), fun h => cc6 (h.resolve_right (by decide)), fun h => cc7 (h.resolve_right (by decide)), fun h => cc8 (h.resolve_right (by decide)), fun h => cc9 (h.resolve_right (by decide)), fun h => cc10 (h.resolve_right (by decide)), fun h => cc11 (h.resolve_right (by decide)), fun h => cc14 (h.resolve_right (by decide)), Loc.new w W hX0 (fun h => h.elim haft (by decide)) (Ext.refl _)⟩
      clear hK hX0 cc0 cc1 cc2 cc3 cc4 cc5 cc6 cc7 cc8 cc9 cc10 cc11 cc14 ll12
      go_simp
      exact hfin
    · intro done us W hJ hdep haft hnot b hb hb' K hK Q'
      obtain ⟨hX0, cc0, cc1, cc2, cc3, cc4, cc5, cc6, cc7, cc8, cc9, cc10, cc11, cc14, ll12⟩ := hJ
      simp only [List.getD_cons_succ, List.getD_cons_zero, List.mem_cons, List.not_mem_nil, or_false, forall_eq_or_imp, forall_eq] at hdep
      have e4 := hb 12 4 rfl
      have e16 := hb 10 16 rfl
      rw [cc10 hdep.1] at e16
      obtain ⟨g, eg, hg, hB⟩ := ll12.stored hdep.2 hnot
      rw [eg] at e4
      have q0 : W.cell? ⟨g, 0, none⟩ = some (.slice none 0 0) := hB.cell 0
      have z0 : W.frozen? ⟨g, 0, none⟩ = false := hB.free 0
      have q1 : W.cell? ⟨g, 1, none⟩ = some (.bool false) := hB.cell 1
      have z1 : W.frozen? ⟨g, 1, none⟩ = false := hB.free 1
      clear hb hb'
      have hfin := hK undef _ ⟨((hX0.setCell hg _).setCell hg _), fun h => cc0 (h.resolve_right (by decide)), fun h => cc1 (h.resolve_right (by decide)), fun h => cc2 (h.resolve_right (by decide)), fun h => cc3 (h.resolve_right (by decide)), fun h => cc4 (h.resolve_right (by decide)), fun h => cc5 (h.resolve_right (by decide)), fun h => cc6 (h.resolve_right (by decide)), fun h => cc7 (h.resolve_right (by decide)), fun h => cc8 (h.resolve_right (by decide)), fun h => cc9 (h.resolve_right (by decide)), fun h => cc10 (h.resolve_right (by decide)), fun h => cc11 (h.resolve_right (by decide)), fun h => cc14 (h.resolve_right (by decide)), ⟨fun _ => ⟨g, eg, hg, fun _ => (Blk.set (Blk.set hB 0 _) 1 _), fun h => absurd (.inr rfl) h⟩⟩⟩
      clear hK hX0 cc0 cc1 cc2 cc3 cc4 cc5 cc6 cc7 cc8 cc9 cc10 cc11 cc14 ll12
      go_simp
      exact hfin
    · intro done us W hJ hdep haft hnot b hb hb' K hK Q'
      obtain ⟨hX0, cc0, cc1, cc2, cc3, cc4, cc5, cc6, cc7, cc8, cc9, cc10, cc11, cc14, ll12⟩ := hJ
      simp only [List.getD_cons_succ, List.getD_cons_zero, List.mem_cons, List.not_mem_nil, or_false, forall_eq_or_imp, forall_eq] at hdep
      have e17 := hb 11 17 rfl
      rw [cc11 hdep] at e17
      clear hb hb'
      have hfin := hK (.bool th) _ ⟨hX0, fun h => cc0 (h.resolve_right (by decide)), fun h => cc1 (h.resolve_right (by decide)), fun h => cc2 (h.resolve_right (by decide)), fun h => cc3 (h.resolve_right (by decide)), fun h => cc4 (h.resolve_right (by decide)), fun h => cc5 (h.resolve_right (by decide)), fun h => cc6 (h.resolve_right (by decide)), fun h => cc7 (h.resolve_right (by decide)), fun h => cc8 (h.resolve_right (by decide)), fun h => cc9 (h.resolve_right (by decide)), fun h => cc10 (h.resolve_right (by decide)), fun h => cc11 (h.resolve_right (by decide)), fun _ => rfl, Loc.same ll12 ⟨fun h => h.resolve_right (by decide), .inl⟩ ⟨fun h => h.resolve_right (by decide), .inl⟩⟩
      clear hK cc0 cc1 cc2 cc3 cc4 cc5 cc6 cc7 cc8 cc9 cc10 cc11 cc14 ll12
      go_simp
      exact hfin
  · intro us W hJ
    obtain ⟨hX0, cc0, cc1, cc2, cc3, cc4, cc5, cc6, cc7, cc8, cc9, cc10, cc11, cc14, ll12⟩ := hJ
    rw [show (rops Try.f80 2).drop 15 = [] by kernel_rfl]
    exact hend (us 0) (us 1) (us 2) (us 3) (us 4) (us 5) (us 6) (us 7) (us 8) (us 9) (us 10) (us 11) (us 12) (us 13) (us 14) W (cc0 (show 0 < 15 by decide)) (cc1 (show 1 < 15 by decide)) (cc2 (show 2 < 15 by decide)) (cc3 (show 3 < 15 by decide)) (cc4 (show 4 < 15 by decide)) (cc5 (show 5 < 15 by decide)) (cc6 (show 6 < 15 by decide)) (cc7 (show 7 < 15 by decide)) (cc8 (show 8 < 15 by decide)) (cc9 (show 9 < 15 by decide)) (cc10 (show 10 < 15 by decide)) (cc11 (show 11 < 15 by decide)) (cc14 (show 14 < 15 by decide)) (ll12.done (show 12 < 15 by decide) (show 13 < 15 by decide)) hX0
set_option maxRecDepth 100000 in
set_option maxHeartbeats 2000000 in
theorem deliver_r5 (g gs : Nat) (n : Int) (v3 : Value) (A : Option Addr) (nn c : Nat) (lo : Bool) (w : World) (f2 : w.cell? ⟨g, 2, none⟩ = some (.int .i64 n)) (y0 : w.cell? ⟨gs, 0, none⟩ = some (.slice A nn c)) (y1 : w.cell? ⟨gs, 1, none⟩ = some (.bool lo)) (a : Act) (Q : Exit → Act → World → Prop) (hsize : 32 ≤ a.tmps.size)
    (s0 : a.tmps[0]? = some (.pointer (some ⟨g, 0, none⟩)))
    (s3 : a.tmps[3]? = some (v3))
    (s4 : a.tmps[4]? = some (.pointer (some ⟨gs, 0, none⟩)))
    (hend : ∀ (xv0 xv1 xv2 xv3 xv4 xv5 xv6 xv7 xv8 xv9 xv10 : Value) (W : World), (xv0 = v3) → (xv1 = .pointer (some ⟨g, 0, none⟩)) → (xv2 = .pointer (some ⟨g, 0, none⟩)) → (xv3 = .pointer (some ⟨g, 2, none⟩)) → (xv4 = .int .i64 n) → (xv5 = .pointer (some ⟨gs, 0, none⟩)) → (xv6 = .slice A nn c) → (xv7 = .pointer (some ⟨gs, 1, none⟩)) → (xv8 = .bool lo) → (xv9 = .agg #[.int .i64 n, .slice A nn c, .bool lo]) → (∃ g', xv10 = .slice (some ⟨g', 0, none⟩) 1 1 ∧ At W (some ⟨g', 0, none⟩) [.int .i64 n, .slice A nn c, .bool lo]) → Ext w W → wpList Try.prog (rops Try.f80 5).toArray Q ((rops Try.f80 5).drop 11) (((((((((((a.put (some 21) xv0).put (some 22) xv1).put (some 23) xv2).put (some 24) xv3).put (some 25) xv4).put (some 26) xv5).put (some 27) xv6).put (some 28) xv7).put (some 29) xv8).put (some 30) xv9).put (some 31) xv10) W) :
    (Code.region 5 (rops Try.f80 5).toArray true).wp Try.prog Q a w := by
  have hmono : ∀ (W W' : World) (j : Nat) (u : Value), Ext W W' → (fun (i : Nat) (v : Value) (W : World) => match i with
    | 0 => v = v3
    | 1 => v = .pointer (some ⟨g, 0, none⟩)
    | 2 => v = .pointer (some ⟨g, 0, none⟩)
    | 3 => v = .pointer (some ⟨g, 2, none⟩)
    | 4 => v = .int .i64 n
    | 5 => v = .pointer (some ⟨gs, 0, none⟩)
    | 6 => v = .slice A nn c
    | 7 => v = .pointer (some ⟨gs, 1, none⟩)
    | 8 => v = .bool lo
    | 9 => v = .agg #[.int .i64 n, .slice A nn c, .bool lo]
    | 10 => ∃ g', v = .slice (some ⟨g', 0, none⟩) 1 1 ∧ At W (some ⟨g', 0, none⟩) [.int .i64 n, .slice A nn c, .bool lo]
    | _ => True) j u W → (fun (i : Nat) (v : Value) (W : World) => match i with
    | 0 => v = v3
    | 1 => v = .pointer (some ⟨g, 0, none⟩)
    | 2 => v = .pointer (some ⟨g, 0, none⟩)
    | 3 => v = .pointer (some ⟨g, 2, none⟩)
    | 4 => v = .int .i64 n
    | 5 => v = .pointer (some ⟨gs, 0, none⟩)
    | 6 => v = .slice A nn c
    | 7 => v = .pointer (some ⟨gs, 1, none⟩)
    | 8 => v = .bool lo
    | 9 => v = .agg #[.int .i64 n, .slice A nn c, .bool lo]
    | 10 => ∃ g', v = .slice (some ⟨g', 0, none⟩) 1 1 ∧ At W (some ⟨g', 0, none⟩) [.int .i64 n, .slice A nn c, .bool lo]
    | _ => True) j u W' := by
    intro W W' j u hX h
    match j, h with
    | 0, h => exact h
    | 1, h => exact h
    | 2, h => exact h
    | 3, h => exact h
    | 4, h => exact h
    | 5, h => exact h
    | 6, h => exact h
    | 7, h => exact h
    | 8, h => exact h
    | 9, h => exact h
    | 10, h => obtain ⟨g', h1, h2⟩ := h; exact ⟨g', h1, h2.ext hX⟩
    | _ + 11, h => exact h
  have hsz : ∀ d, some d ∈ ([some 21, some 22, some 23, some 24, some 25, some 26, some 27, some 28, some 29, some 30, some 31] : List (Option Tmp)) → d < a.tmps.size := slots_lt (by decide) hsize
  refine wp_region_j 11 [some 21, some 22, some 23, some 24, some 25, some 26, some 27, some 28, some 29, some 30, some 31] [[], [], [1], [2], [3], [], [5], [], [7], [4, 6, 8], [9]] [[], [], [], [], [], [], [], [], [], [], []] (fun (i : Nat) (v : Value) (W : World) => match i with
    | 0 => v = v3
    | 1 => v = .pointer (some ⟨g, 0, none⟩)
    | 2 => v = .pointer (some ⟨g, 0, none⟩)
    | 3 => v = .pointer (some ⟨g, 2, none⟩)
    | 4 => v = .int .i64 n
    | 5 => v = .pointer (some ⟨gs, 0, none⟩)
    | 6 => v = .slice A nn c
    | 7 => v = .pointer (some ⟨gs, 1, none⟩)
    | 8 => v = .bool lo
    | 9 => v = .agg #[.int .i64 n, .slice A nn c, .bool lo]
    | 10 => ∃ g', v = .slice (some ⟨g', 0, none⟩) 1 1 ∧ At W (some ⟨g', 0, none⟩) [.int .i64 n, .slice A nn c, .bool lo]
    | _ => True) (fun _ W => Ext w W) (by kernel_rfl) (by kernel_rfl) hsz (fun _ _ _ _ h => h) ((Ext.refl w).drew) ?_ ?_
  · clear hend
    simp only [rops, Try.f80, regOf, Option.bind_some, Nat.reduceBEq, if_true, if_false, Bool.false_eq_true, Option.getD_some]
    simp only [List.take_succ_cons, List.take_zero]
    refine ⟨?_, ?_, ?_, ?_, ?_, ?_, ?_, ?_, ?_, ?_, ?_, trivial⟩
    · intro done us W hJ hdep haft hnot b hb hb' K hK Q'
      have e3 := (hb' 3 (by simp)).trans s3
      clear hb hb'
      go_simp
      exact hK _ _ rfl (fun _ _ _ h => h) hJ
    · intro done us W hJ hdep haft hnot b hb hb' K hK Q'
      have e0 := (hb' 0 (by simp)).trans s0
      clear hb hb'
      go_simp
      exact hK _ _ rfl (fun _ _ _ h => h) hJ
    · intro done us W hJ hdep haft hnot b hb hb' K hK Q'
      simp only [List.getD_cons_succ, List.getD_cons_zero, List.mem_cons, List.not_mem_nil, or_false, forall_eq_or_imp, forall_eq] at hdep
      have e22 := hb 1 22 rfl
      have d1 := hdep
      rw [d1.1] at e22
      clear hb hb' hdep d1
      go_simp
      exact hK _ _ rfl (fun _ _ _ h => h) hJ
    · intro done us W hJ hdep haft hnot b hb hb' K hK Q'
      simp only [List.getD_cons_succ, List.getD_cons_zero, List.mem_cons, List.not_mem_nil, or_false, forall_eq_or_imp, forall_eq] at hdep
      have e23 := hb 2 23 rfl
      have d2 := hdep
      rw [d2.1] at e23
      clear hb hb' hdep d2
      go_simp
      exact hK _ _ rfl (fun _ _ _ h => h) hJ
    · intro done us W hJ hdep haft hnot b hb hb' K hK Q'
      simp only [List.getD_cons_succ, List.getD_cons_zero, List.mem_cons, List.not_mem_nil, or_false, forall_eq_or_imp, forall_eq] at hdep
      have e24 := hb 3 24 rfl
      have d3 := hdep
      rw [d3.1] at e24
      clear hb hb' hdep d3
      have q := Ext.cell hJ f2
      go_simp
      exact hK _ _ rfl (fun _ _ _ h => h) hJ
    · intro done us W hJ hdep haft hnot b hb hb' K hK Q'
      have e4 := (hb' 4 (by simp)).trans s4
      clear hb hb'
      go_simp
      exact hK _ _ rfl (fun _ _ _ h => h) hJ
    · intro done us W hJ hdep haft hnot b hb hb' K hK Q'
      simp only [List.getD_cons_succ, List.getD_cons_zero, List.mem_cons, List.not_mem_nil, or_false, forall_eq_or_imp, forall_eq] at hdep
      have e26 := hb 5 26 rfl
      have d5 := hdep
      rw [d5.1] at e26
      clear hb hb' hdep d5
      have q := Ext.cell hJ y0
      go_simp
      exact hK _ _ rfl (fun _ _ _ h => h) hJ
    · intro done us W hJ hdep haft hnot b hb hb' K hK Q'
      have e4 := (hb' 4 (by simp)).trans s4
      clear hb hb'
      go_simp
      exact hK _ _ rfl (fun _ _ _ h => h) hJ
    · intro done us W hJ hdep haft hnot b hb hb' K hK Q'
      simp only [List.getD_cons_succ, List.getD_cons_zero, List.mem_cons, List.not_mem_nil, or_false, forall_eq_or_imp, forall_eq] at hdep
      have e28 := hb 7 28 rfl
      have d7 := hdep
      rw [d7.1] at e28
      clear hb hb' hdep d7
      have q := Ext.cell hJ y1
      go_simp
      exact hK _ _ rfl (fun _ _ _ h => h) hJ
    · intro done us W hJ hdep haft hnot b hb hb' K hK Q'
      simp only [List.getD_cons_succ, List.getD_cons_zero, List.mem_cons, List.not_mem_nil, or_false, forall_eq_or_imp, forall_eq] at hdep
      have e25 := hb 4 25 rfl
      have e27 := hb 6 27 rfl
      have e29 := hb 8 29 rfl
      have d4 := hdep.1
      have d6 := hdep.2.1
      have d8 := hdep.2.2
      rw [d4.1] at e25
      rw [d6.1] at e27
      rw [d8.1] at e29
      clear hb hb' hdep d4 d6 d8
      go_simp
      exact hK _ _ rfl (fun _ _ _ h => h) hJ
    · intro done us W hJ hdep haft hnot b hb hb' K hK Q'
      simp only [List.getD_cons_succ, List.getD_cons_zero, List.mem_cons, List.not_mem_nil, or_false, forall_eq_or_imp, forall_eq] at hdep
      have e30 := hb 9 30 rfl
      have d9 := hdep
      rw [d9.1] at e30
      clear hb hb' hdep d9
      have ha := At.new' W [.int .i64 n, .slice A nn c, .bool lo] 72 rfl
      have hX := (Ext.refl W).alloc (.cells #[.int .i64 n, .slice A nn c, .bool lo] 72)
      go_simp
      exact hK _ _ ⟨_, rfl, ha⟩ (fun j u _ h => hmono _ _ j u hX h) (Ext.trans hJ hX)
  · intro us W hV hJ
    exact hend (us 0) (us 1) (us 2) (us 3) (us 4) (us 5) (us 6) (us 7) (us 8) (us 9) (us 10) W (hV 0 (by omega)) (hV 1 (by omega)) (hV 2 (by omega)) (hV 3 (by omega)) (hV 4 (by omega)) (hV 5 (by omega)) (hV 6 (by omega)) (hV 7 (by omega)) (hV 8 (by omega)) (hV 9 (by omega)) (hV 10 (by omega)) hJ
set_option maxRecDepth 100000 in
set_option maxHeartbeats 2000000 in
theorem deliver_r6 (g m : Nat) (n : Int) (w : World) (f2 : w.cell? ⟨g, 2, none⟩ = some (.int .i64 n)) (f3 : w.cell? ⟨g, 3, none⟩ = some (.map (some m))) (a : Act) (Q : Exit → Act → World → Prop) (hsize : 41 ≤ a.tmps.size)
    (s0 : a.tmps[0]? = some (.pointer (some ⟨g, 0, none⟩)))
    (hend : ∀ (xv0 xv1 xv2 xv3 xv4 xv5 xv6 xv7 : Value) (W : World), (xv0 = .pointer (some ⟨g, 0, none⟩)) → (xv1 = .pointer (some ⟨g, 0, none⟩)) → (xv2 = .pointer (some ⟨g, 3, none⟩)) → (xv3 = .map (some m)) → (xv4 = .pointer (some ⟨g, 0, none⟩)) → (xv5 = .pointer (some ⟨g, 0, none⟩)) → (xv6 = .pointer (some ⟨g, 2, none⟩)) → (xv7 = .int .i64 n) → Ext w W → wpList Try.prog (rops Try.f80 6).toArray Q ((rops Try.f80 6).drop 8) ((((((((a.put (some 33) xv0).put (some 34) xv1).put (some 35) xv2).put (some 36) xv3).put (some 37) xv4).put (some 38) xv5).put (some 39) xv6).put (some 40) xv7) W) :
    (Code.region 6 (rops Try.f80 6).toArray true).wp Try.prog Q a w := by
  have hmono : ∀ (W W' : World) (j : Nat) (u : Value), Ext W W' → (fun (i : Nat) (v : Value) (W : World) => match i with
    | 0 => v = .pointer (some ⟨g, 0, none⟩)
    | 1 => v = .pointer (some ⟨g, 0, none⟩)
    | 2 => v = .pointer (some ⟨g, 3, none⟩)
    | 3 => v = .map (some m)
    | 4 => v = .pointer (some ⟨g, 0, none⟩)
    | 5 => v = .pointer (some ⟨g, 0, none⟩)
    | 6 => v = .pointer (some ⟨g, 2, none⟩)
    | 7 => v = .int .i64 n
    | _ => True) j u W → (fun (i : Nat) (v : Value) (W : World) => match i with
    | 0 => v = .pointer (some ⟨g, 0, none⟩)
    | 1 => v = .pointer (some ⟨g, 0, none⟩)
    | 2 => v = .pointer (some ⟨g, 3, none⟩)
    | 3 => v = .map (some m)
    | 4 => v = .pointer (some ⟨g, 0, none⟩)
    | 5 => v = .pointer (some ⟨g, 0, none⟩)
    | 6 => v = .pointer (some ⟨g, 2, none⟩)
    | 7 => v = .int .i64 n
    | _ => True) j u W' := by
    intro W W' j u hX h
    match j, h with
    | 0, h => exact h
    | 1, h => exact h
    | 2, h => exact h
    | 3, h => exact h
    | 4, h => exact h
    | 5, h => exact h
    | 6, h => exact h
    | 7, h => exact h
    | _ + 8, h => exact h
  have hsz : ∀ d, some d ∈ ([some 33, some 34, some 35, some 36, some 37, some 38, some 39, some 40] : List (Option Tmp)) → d < a.tmps.size := slots_lt (by decide) hsize
  refine wp_region_j 8 [some 33, some 34, some 35, some 36, some 37, some 38, some 39, some 40] [[], [0], [1], [2], [], [4], [5], [6]] [[], [], [], [], [], [], [], []] (fun (i : Nat) (v : Value) (W : World) => match i with
    | 0 => v = .pointer (some ⟨g, 0, none⟩)
    | 1 => v = .pointer (some ⟨g, 0, none⟩)
    | 2 => v = .pointer (some ⟨g, 3, none⟩)
    | 3 => v = .map (some m)
    | 4 => v = .pointer (some ⟨g, 0, none⟩)
    | 5 => v = .pointer (some ⟨g, 0, none⟩)
    | 6 => v = .pointer (some ⟨g, 2, none⟩)
    | 7 => v = .int .i64 n
    | _ => True) (fun _ W => Ext w W) (by kernel_rfl) (by kernel_rfl) hsz (fun _ _ _ _ h => h) ((Ext.refl w).drew) ?_ ?_
  · clear hend
    simp only [rops, Try.f80, regOf, Option.bind_some, Nat.reduceBEq, if_true, if_false, Bool.false_eq_true, Option.getD_some]
    simp only [List.take_succ_cons, List.take_zero]
    refine ⟨?_, ?_, ?_, ?_, ?_, ?_, ?_, ?_, trivial⟩
    · intro done us W hJ hdep haft hnot b hb hb' K hK Q'
      have e0 := (hb' 0 (by simp)).trans s0
      clear hb hb'
      go_simp
      exact hK _ _ rfl (fun _ _ _ h => h) hJ
    · intro done us W hJ hdep haft hnot b hb hb' K hK Q'
      simp only [List.getD_cons_succ, List.getD_cons_zero, List.mem_cons, List.not_mem_nil, or_false, forall_eq_or_imp, forall_eq] at hdep
      have e33 := hb 0 33 rfl
      have d0 := hdep
      rw [d0.1] at e33
      clear hb hb' hdep d0
      go_simp
      exact hK _ _ rfl (fun _ _ _ h => h) hJ
    · intro done us W hJ hdep haft hnot b hb hb' K hK Q'
      simp only [List.getD_cons_succ, List.getD_cons_zero, List.mem_cons, List.not_mem_nil, or_false, forall_eq_or_imp, forall_eq] at hdep
      have e34 := hb 1 34 rfl
      have d1 := hdep
      rw [d1.1] at e34
      clear hb hb' hdep d1
      go_simp
      exact hK _ _ rfl (fun _ _ _ h => h) hJ
    · intro done us W hJ hdep haft hnot b hb hb' K hK Q'
      simp only [List.getD_cons_succ, List.getD_cons_zero, List.mem_cons, List.not_mem_nil, or_false, forall_eq_or_imp, forall_eq] at hdep
      have e35 := hb 2 35 rfl
      have d2 := hdep
      rw [d2.1] at e35
      clear hb hb' hdep d2
      have q := Ext.cell hJ f3
      go_simp
      exact hK _ _ rfl (fun _ _ _ h => h) hJ
    · intro done us W hJ hdep haft hnot b hb hb' K hK Q'
      have e0 := (hb' 0 (by simp)).trans s0
      clear hb hb'
      go_simp
      exact hK _ _ rfl (fun _ _ _ h => h) hJ
    · intro done us W hJ hdep haft hnot b hb hb' K hK Q'
      simp only [List.getD_cons_succ, List.getD_cons_zero, List.mem_cons, List.not_mem_nil, or_false, forall_eq_or_imp, forall_eq] at hdep
      have e37 := hb 4 37 rfl
      have d4 := hdep
      rw [d4.1] at e37
      clear hb hb' hdep d4
      go_simp
      exact hK _ _ rfl (fun _ _ _ h => h) hJ
    · intro done us W hJ hdep haft hnot b hb hb' K hK Q'
      simp only [List.getD_cons_succ, List.getD_cons_zero, List.mem_cons, List.not_mem_nil, or_false, forall_eq_or_imp, forall_eq] at hdep
      have e38 := hb 5 38 rfl
      have d5 := hdep
      rw [d5.1] at e38
      clear hb hb' hdep d5
      go_simp
      exact hK _ _ rfl (fun _ _ _ h => h) hJ
    · intro done us W hJ hdep haft hnot b hb hb' K hK Q'
      simp only [List.getD_cons_succ, List.getD_cons_zero, List.mem_cons, List.not_mem_nil, or_false, forall_eq_or_imp, forall_eq] at hdep
      have e39 := hb 6 39 rfl
      have d6 := hdep
      rw [d6.1] at e39
      clear hb hb' hdep d6
      have q := Ext.cell hJ f2
      go_simp
      exact hK _ _ rfl (fun _ _ _ h => h) hJ
  · intro us W hV hJ
    exact hend (us 0) (us 1) (us 2) (us 3) (us 4) (us 5) (us 6) (us 7) W (hV 0 (by omega)) (hV 1 (by omega)) (hV 2 (by omega)) (hV 3 (by omega)) (hV 4 (by omega)) (hV 5 (by omega)) (hV 6 (by omega)) (hV 7 (by omega)) hJ

/-- One is taken out of the map and counted. -/
theorem RcvQ.shrink {base : Nat} {w : World} {g m : Nat} {st wn n : Int} {h : List Dlv} {l : List (Int × Value)} (hB : Blk w g 102 #[.int .i64 st, .int .i64 wn, .int .i64 n, .map (some m)])
    (hM : MapL Try.prog 3 w m (l.filter fun p => !(p.1 == n))) (hF : F2 (fun p d => p.1 = d.seq ∧ SlotV base w p.2 d) l h) (lo : base ≤ g ∧ base ≤ m) :
    RcvQ base (w.setCell ⟨g, 2, none⟩ (.int .i64 (n + 1))) g m st wn (n + 1) (wipe h n) := by
  have hgm : g ≠ m := hM.ne_blk hB
  have hK : Keeps [g] w (w.setCell ⟨g, 2, none⟩ (.int .i64 (n + 1))) := (Keeps.refl _ _).setCell (.inl (by simp)) _
  have hN : ∀ k ∈ [g], NoRow 5 w k := by intro k hk; simp at hk; subst hk; exact NoRow.of_blk hB (by decide)
  refine ⟨?_, ⟨_, hM.setCell (by simpa using hgm.symm) _, ?_⟩, lo⟩
  · have := hB.set 2 (.int .i64 (n + 1))
    simpa using this
  · exact F2.imp (F2.filter (p := fun p => !(p.1 == n)) (q := fun d => !(d.seq == n)) hF (fun p q h => by rw [h.1])) (fun p q _ h => And.intro h.1 (h.2.keeps hK hN))

set_option maxRecDepth 100000 in
set_option maxHeartbeats 4000000 in
theorem deliver_any (base g m : Nat) (st wn n : Int) (h : List Dlv) (w : World) (hq : RcvQ base w g m st wn n h) (h0 : 0 ≤ n) (h1 : n ≤ 5000000000) (hl : h.length ≤ 1000) :
    Calls Try.prog 80 #[.pointer (some ⟨g, 0, none⟩)] w (fun e w' => ∃ v, e = .returned v ∧ DlL w.heap.size base w' v (deliv h.length n h).1 ∧ RcvQ base w' g m st wn (deliv h.length n h).2.1 (deliv h.length n h).2.2 ∧ Keeps [g, m] w w') := by
  have HQ0 := Lib.hid hq
  clear hq
  go_enter Try.func80, Try.ntmps80
  go_wp2_with fail
  go_loopg [3] (h.length + 1) (fun f v wr => ∃ (n' : Int) (h' pre : List Dlv), f = h'.length + 1 ∧ pre.length + h'.length = h.length ∧ n ≤ n' ∧ n' ≤ n + pre.length ∧ Hid (deliv h.length n h = (pre ++ (deliv h'.length n' h').1, (deliv h'.length n' h').2)) ∧ Hid (DlL w.heap.size base wr v pre) ∧ Hid (RcvQ base wr g m st wn n' h') ∧ Hid (Keeps [g, m] w wr))
  case atStart => exact ⟨n, h, [], rfl, by simp, by omega, by simp, Lib.hid (by simp), Lib.hid (DlL.nil _ _ _), HQ0, Lib.hid (Keeps.refl _ _)⟩
  case round =>
    obtain ⟨n', h', pre, rfl, hlen, hn0, hn1, HD, HL, HQ, HK⟩ := hrel
    obtain ⟨l, hM, hF⟩ := HQ.out.map
    obtain ⟨A, nn, c, lo, hlk, his, hdd⟩ := slot_at hF n'
    have hap := HQ.out.apart
    have hsl := HL.out.slice
    obtain ⟨A0, c0, rfl⟩ := hsl
    cases hf : findD h' n' with
    | none =>
      have HD2 : Hid (deliv h.length n h = (pre, n', h')) := Lib.hid (by rw [HD.out, deliv_none hf]; simp)
      go_upto_region 2 with (fail)
      refine deliver_r2 g m n' l A nn c lo false wr (HQ.out.blk.cell 2) (HQ.out.blk.cell 3) hM (by omega) hlk (by rw [his, hf]; rfl) _ _ (by simp) rfl ?_
      rintro xv0 xv1 xv2 xv3 xv4 xv5 xv6 xv7 xv8 xv9 xv10 xv11 xv12 xv13 xv14 w2 rfl rfl rfl rfl rfl rfl rfl rfl rfl rfl rfl rfl rfl ⟨gs, rfl, _, hBs⟩ hX2
      simp only [rops, Try.f80, regOf, Option.bind_some, Nat.reduceBEq, if_true, if_false, Bool.false_eq_true, Option.getD_some, List.drop_succ_cons, List.drop_zero]
      simp only [Act.put, List.setIfInBounds_toArray, List.set_cons_succ, List.set_cons_zero]
      have HBS := Lib.hid hBs
      have HX2 := Lib.hid hX2
      clear hBs hX2
      clear hlk his hf hap hdd hM hF
      go_wp2
      go_ret
      rw [HD2.out]
      exact ⟨_, rfl, HL.out.ext HX2.out, HQ.out.ext HX2.out, HK.out.trans (Keeps.of_ext HX2.out _)⟩
    | some d =>
      obtain ⟨hlo, hO⟩ := hdd d hf
      have hwl := wipe_len hap hf
      have HD2 : Hid (deliv h.length n h = ((pre ++ [d]) ++ (deliv (wipe h' n').length (n' + 1) (wipe h' n')).1, (deliv (wipe h' n').length (n' + 1) (wipe h' n')).2)) := Lib.hid (by rw [HD.out, ← hwl, deliv_some hf]; simp)
      have hdn := (findD_mem hf).2
      go_upto_region 2 with (fail)
      refine deliver_r2 g m n' l A nn c lo true wr (HQ.out.blk.cell 2) (HQ.out.blk.cell 3) hM (by omega) hlk (by rw [his, hf]; rfl) _ _ (by simp) rfl ?_
      rintro xv0 xv1 xv2 xv3 xv4 xv5 xv6 xv7 xv8 xv9 xv10 xv11 xv12 xv13 xv14 w2 rfl rfl rfl rfl rfl rfl rfl rfl rfl rfl rfl rfl rfl ⟨gs, rfl, _, hBs⟩ hX2
      simp only [rops, Try.f80, regOf, Option.bind_some, Nat.reduceBEq, if_true, if_false, Bool.false_eq_true, Option.getD_some, List.drop_succ_cons, List.drop_zero]
      simp only [Act.put, List.setIfInBounds_toArray, List.set_cons_succ, List.set_cons_zero]
      have HBS := Lib.hid hBs
      have HX2 := Lib.hid hX2
      clear hBs hX2
      have HO := Lib.hid (hO.ext HX2.out)
      have HQ2 := Lib.hid (HQ.out.ext HX2.out)
      have HL2 := Lib.hid (HL.out.ext HX2.out)
      have HK2 := Lib.hid (HK.out.trans (Keeps.of_ext HX2.out _))
      have HDE : Hid (d = ⟨n', d.body, lo⟩) := Lib.hid (by rw [← hlo, ← hdn])
      obtain ⟨vl, hvl, _⟩ := find_some_ hF hf
      have HVL := Lib.hid hvl
      have HM2 := Lib.hid (hM.ext HX2.out)
      have HF2 := Lib.hid (hF.imp fun p q _ h => And.intro h.1 (h.2.ext HX2.out))
      have HWL := Lib.hid hwl
      clear hlk his hf hap hdd hM hF hO hlo hdn hwl hvl HD HX2
      go_upto_region 5 with (fail)
      refine deliver_r5 g gs n' (.slice A0 pre.length c0) A nn c lo _ (HQ2.out.blk.cell 2) (HBS.out.cell 0) (HBS.out.cell 1) _ _ (by simp) rfl rfl rfl ?_
      rintro xv0 xv1 xv2 xv3 xv4 xv5 xv6 xv7 xv8 xv9 xv10 w3 rfl rfl rfl rfl rfl rfl rfl rfl rfl rfl ⟨g', rfl, hat⟩ hX3
      simp only [rops, Try.f80, regOf, Option.bind_some, Nat.reduceBEq, if_true, if_false, Bool.false_eq_true, Option.getD_some, List.drop_succ_cons, List.drop_zero]
      simp only [Act.put, List.setIfInBounds_toArray, List.set_cons_succ, List.set_cons_zero]
      have hL3 := HL2.out.ext hX3
      obtain ⟨vs, hown, hcs⟩ := hL3
      have hO3 := HO.out.ext hX3
      have HM3 := Lib.hid (HM2.out.ext hX3)
      have HF3 := Lib.hid (HF2.out.imp fun p q _ h => And.intro h.1 (h.2.ext hX3))
      have HQ3 := Lib.hid (HQ2.out.ext hX3)
      have HK3 := Lib.hid (HK2.out.trans (Keeps.of_ext hX3 _))
      clear HQ2 HL2 HK2 HM2 HF2 HBS HO hX3
      have hws := HK3.out.size
      have hpl : pre.length ≤ 1000 := by omega
      refine wpList_app _ elD rfl (.tmp 21) (.tmp 31) rfl w.heap.size (.slice A0 pre.length c0) pre.length vs rfl hown (some ⟨g', 0, none⟩) 1 1 _ rfl rfl hat (by simp [Value.oneCell']) (by omega) (by unfold maxLen; omega) hws ?_
      intro v4 w4 hown4 hgr4 _
      have hk4 : Keeps (Value.slice A0 pre.length c0).ownBlock.toList w3 w4 := Keeps.of_grown hgr4 fun k hk => by rw [hk]; simp
      have hn4 : ∀ t, 72 ≠ t → ∀ k ∈ (Value.slice A0 pre.length c0).ownBlock.toList, NoRow t w3 k := fun t ht k hk => NoRow.of_own hown (by simpa using hk) ht
      have HL4 := Lib.hid (DlL.snoc hcs hown hO3 hown4 hgr4)
      have hm4 : m ∉ (Value.slice A0 pre.length c0).ownBlock.toList := fun hk => HM3.out.ne_row hown (Option.mem_toList.1 hk).symm
      have HM4 := Lib.hid (HM3.out.keeps hk4 hm4)
      have HF4 := Lib.hid (HF3.out.imp fun p q _ h => And.intro h.1 (h.2.keeps hk4 (hn4 _ (by decide))))
      have HQ4 := Lib.hid (HQ3.out.keeps hk4 (hn4 _ (by decide)) hm4 (hn4 _ (by decide)))
      have HK4 := Lib.hid (HK3.out.grown hgr4 fun k hk => .inr (hown.lt k hk).1)
      have hsl4 : ∃ A c, v4 = .slice A (pre.length + 1) c := by simpa using HL4.out.slice
      obtain ⟨A4, c4, rfl⟩ := hsl4
      clear hown4 hgr4 hk4 hn4 hm4 HM3 HF3 HQ3 HK3 hown hcs hO3 hat hws
      go_upto_region 6 with (fail)
      refine deliver_r6 g m n' _ (HQ4.out.blk.cell 2) (HQ4.out.blk.cell 3) _ _ (by simp) rfl ?_
      rintro yv0 yv1 yv2 yv3 yv4 yv5 yv6 yv7 w5 rfl rfl rfl rfl rfl rfl rfl rfl hX5
      simp only [rops, Try.f80, regOf, Option.bind_some, Nat.reduceBEq, if_true, if_false, Bool.false_eq_true, Option.getD_some, List.drop_succ_cons, List.drop_zero]
      simp only [Act.put, List.setIfInBounds_toArray, List.set_cons_succ, List.set_cons_zero]
      have hM5 := HM4.out.ext hX5
      have hB5 := HQ4.out.blk.ext hX5
      have hL5 := HL4.out.ext hX5
      have hF5 := HF4.out.imp fun p q _ h => And.intro h.1 (h.2.ext hX5)
      have hK5 := HK4.out.trans (Keeps.of_ext hX5 _)
      refine wpList_del_yes _ rfl (.tmp 36) (.tmp 40) 100 rfl 121 keyed_int und_int und_mapS rfl hM5 n' rfl (by omega) vl HVL.out ?_
      intro w6 hM6 hG6
      have hgm : g ≠ m := hM5.ne_blk hB5
      have hk6 : Keeps [m] w5 w6 := Keeps.of_grown hG6 (by rintro k ⟨⟩; simp)
      have hN6 : ∀ t, ∀ k ∈ [m], NoRow t w5 k := by intro t k hk; simp at hk; subst hk; exact hM5.notRow _
      have hB6 := hB5.grown hG6 (by simpa using hgm)
      have hF6 := hF5.imp fun p q _ h => And.intro h.1 (h.2.keeps hk6 (hN6 _))
      have hL6 := hL5.keeps hk6 (hN6 _) (hN6 _)
      have hK6 := hK5.grown hG6 (by rintro k ⟨⟩; simp)
      have f2 := hB6.cell 2
      have z2 := hB6.free 2
      have HQ7 := Lib.hid (RcvQ.shrink hB6 hM6 hF6 HQ4.out.lo)
      have hk7 : Keeps [g] w6 (w6.setCell ⟨g, 2, none⟩ (.int .i64 (n' + 1))) := (Keeps.refl _ _).setCell (.inl (by simp)) _
      have hN7 : ∀ t, 102 ≠ t → ∀ k ∈ [g], NoRow t w6 k := by intro t ht k hk; simp at hk; subst hk; exact NoRow.of_blk hB6 ht
      have HL7 := Lib.hid (hL6.keeps hk7 (hN7 _ (by decide)) (hN7 _ (by decide)))
      have HK7 := Lib.hid (hK6.setCell (p := ⟨g, 2, none⟩) (.inl (by simp)) (.int .i64 (n' + 1)))
      clear hM6 hG6 hk6 hN6 hB6 hF6 hL6 hK6 hk7 hN7 hM5 hB5 hL5 hF5 hK5 hX5 HM4 HF4 HQ4 HL4 HK4 hgm
      go_wp2
      go_roundg ((wipe h' n').length + 1)
      case rel =>
        refine ⟨n' + 1, wipe h' n', pre ++ [⟨n', d.body, lo⟩], rfl, by have := HWL.out; simp; omega, by omega, by simp; omega, ?_, HL7, HQ7, HK7⟩
        rw [← HDE.out]
        exact HD2
      case measure => have := HWL.out; omega

end Go.Proofs.Ytekhmfliaojabaa
namespace Go.Proofs.Ytekhmfliaojabaa
open Go.RowKit

set_option maxHeartbeats 400000 in
theorem valid_yes (s q : Int) (A : Option Addr) (n c : Nat) (w : World) (h1 : 0 ≤ s) (h2 : s ≤ 255) (h3 : 0 ≤ q) (h4 : q ≤ 4294967295) (h5 : n ≤ 1024) :
    Calls Try.prog 78 #[.agg #[.int .i64 s, .int .i64 q, .slice A n c]] w fun e w' => e = .returned (.bool true) ∧ Ext w w' := by
  go_enter Try.func78, Try.ntmps78
  go_wp2
  go_ret
  exact ⟨by simp; omega, (Ext.refl w).alloc _⟩
set_option maxHeartbeats 400000 in
theorem valid_no (s q : Int) (A : Option Addr) (n c : Nat) (w : World) (h : ¬ (0 ≤ s ∧ s ≤ 255 ∧ 0 ≤ q ∧ q ≤ 4294967295 ∧ n ≤ 1024)) :
    Calls Try.prog 78 #[.agg #[.int .i64 s, .int .i64 q, .slice A n c]] w fun e w' => e = .returned (.bool false) ∧ Ext w w' := by
  by_cases h1 : 0 ≤ s
  · by_cases h2 : s < 256
    · by_cases h3 : 0 ≤ q
      · by_cases h4 : q ≤ 4294967295
        · have h5 : ¬ n ≤ 1024 := fun h5 => h ⟨h1, by omega, h3, h4, h5⟩
          clear h
          go_enter Try.func78, Try.ntmps78
          go_wp2
          go_ret
          exact ⟨by simp; omega, (Ext.refl w).alloc _⟩
        · clear h
          go_enter Try.func78, Try.ntmps78
          go_wp2
          go_ret
          exact ⟨by simp, (Ext.refl w).alloc _⟩
      · clear h
        go_enter Try.func78, Try.ntmps78
        go_wp2
        go_ret
        exact ⟨by simp, (Ext.refl w).alloc _⟩
    · clear h
      go_enter Try.func78, Try.ntmps78
      go_wp2
      go_ret
      exact ⟨by simp, (Ext.refl w).alloc _⟩
  · clear h
    go_enter Try.func78, Try.ntmps78
    go_wp2
    go_ret
    exact ⟨by simp, (Ext.refl w).alloc _⟩

set_option maxHeartbeats 400000 in
theorem big32_any (w0 : World) (A : Option Addr) (n c : Nat) (vs : List Value) (q : Int) (w : World) (h : w.ownsRow w0.heap.size 5 1 (.slice A n c) n vs) (hx : Ext w0 w) (hn : n ≤ 1000000) (h0 : 0 ≤ q) (h1 : q ≤ 4294967295) :
    Calls Try.prog 81 #[.slice A n c, .int .u32 q] w fun e w' => ∃ A' c', e = .returned (.slice A' (n + 4) c') ∧ w'.ownsRow w0.heap.size 5 1 (.slice A' (n + 4) c') (n + 4) (vs ++ (big4 q).map (.int .u8)) ∧ Ext w0 w' := by
  have HX := Lib.hid hx
  clear hx
  have hb := big4_byte h0 h1
  have e1 : IntKind.u8.wrap (q / 16777216) = q / 16777216 := IntWalk.u8_in _ (by omega)
  have e2 : IntKind.u8.wrap (q / 65536) = q / 65536 % 256 := by rw [IntKind.wrap_u8]
  have e3 : IntKind.u8.wrap (q / 256) = q / 256 % 256 := by rw [IntKind.wrap_u8]
  have e4 : IntKind.u8.wrap q = q % 256 := by rw [IntKind.wrap_u8]
  clear hb
  go_enter Try.func81, Try.ntmps81
  go_wp2_with (at_builtin; refine wpList_app _ elB rfl _ _ rfl w0.heap.size (.slice A n c) n vs rfl (h.alloc _) _ 4 4 ((big4 q).map (.int .u8)) rfl rfl (At.new _ [_, _, _, _] _) (ints_oneCell _ _) (by omega) (by unfold maxLen; omega) (by have := HX.out.size; simp; omega) ?_; intro v1 w1 hown1 hgr1 hdj; clear hdj)
  go_ret
  obtain ⟨A2, c2, rfl⟩ := own_slice hown1
  exact ⟨A2, c2, rfl, hown1, HX.out.push h hgr1⟩

set_option maxRecDepth 100000 in
set_option maxHeartbeats 2000000 in
theorem pack_ok (s q : Int) (A : Option Addr) (n c : Nat) (xs : List Int) (w : World) (h : Ints .u8 w A n xs) (hok : FrOk ⟨s, q, xs⟩) :
    Calls Try.prog 49 #[.agg #[.int .i64 s, .int .i64 q, .slice A n c]] w (RetBytes w (pck ⟨s, q, xs⟩) 0) := by
  have H := Lib.hid h
  have HOK := Lib.hid hok
  obtain ⟨h1, h2, h3, h4, h5⟩ := hok
  simp only at h1 h2 h3 h4 h5
  rw [h.1] at h5
  clear h
  go_enter Try.func49, Try.ntmps49
  go_wp2_with fail
  refine (valid_yes s q A n c _ h1 h2 h3 h4 h5).mono ?_
  rintro e w1 ⟨rfl, hX1⟩
  have hB1 := (Blk.new w 38 #[.int .i64 s, .int .i64 q, .slice A n c]).ext hX1
  have HXw := Lib.hid (((Ext.refl w).alloc _).trans hX1)
  have HB1 := Lib.hid hB1
  have hlt := hB1.lt
  obtain ⟨r0, r1, r2, f0, f1, f2⟩ := hB1.three
  clear hX1 hB1
  go_wp2_with (first | (at_make; refine wpList_mk _ elB rfl rfl _ _ rfl w1.heap.size _ _ _ _ 0 (12 + n) rfl rfl rfl (by omega) (by omega) (by omega) (by unfold maxLen; omega) (Nat.le_refl _) ?_; intro w2 hown2 hext2 hsz2; have HX2 := Lib.hid hext2; obtain ⟨r0, r1, r2, f0, f1, f2⟩ := (HB1.out.ext hext2).three; clear hext2) | (at_builtin; refine wpList_app (o := ⟨some 19, _, _, _, _, _⟩) _ elB rfl _ _ rfl w1.heap.size (.slice (some ⟨w1.heap.size, 0, none⟩) 0 (12 + n)) 0 [] rfl (hown2.alloc _) _ 2 2 [.int .u8 165, .int .u8 s] rfl rfl (At.new _ [_, _] _) (by simp [Value.oneCell']) (by omega) (by unfold maxLen; omega) (by have := HX2.out.size; simp; omega) ?_; intro v3 w3 hown3 hgr3 hdj3; clear hdj3; have HX3 := Lib.hid (HX2.out.push hown2 hgr3); clear hgr3; obtain ⟨r0, r1, r2, f0, f1, f2⟩ := (HB1.out.ext HX3.out).three; obtain ⟨A3, c3, hv3⟩ := own_slice hown3; rw [hv3]; rw [hv3] at hown3; clear hv3))
  simp only [Nat.zero_add, List.nil_append] at hown3
  have hqw : IntKind.u32.wrap q = q := IntWalk.u32_in _ (by omega)
  refine (big32_any w1 _ _ _ _ q w3 hown3 HX3.out (by omega) h3 h4).mono ?_
  rintro e w4 ⟨A4, c4, rfl, hown4, hX4⟩
  have HX4 := Lib.hid hX4
  obtain ⟨r0, r1, r2, f0, f1, f2⟩ := (HB1.out.ext hX4).three
  clear hX4 hown3 hown2 HX3 HX2
  have hw1 : IntKind.u8.wrap ((n : Int) / 256) = (n : Int) / 256 := IntWalk.u8_in _ (by omega)
  have hw2 : IntKind.u8.wrap (n : Int) = (n : Int) % 256 := by rw [IntKind.wrap_u8]
  go_wp2_with (first | (at_builtin; refine wpList_app (o := ⟨some 36, _, _, _, _, _⟩) _ elB rfl _ _ rfl w1.heap.size (.slice A4 (2 + 4) c4) (2 + 4) _ rfl (hown4.alloc _) _ 2 2 [.int .u8 ((n : Int) / 256), .int .u8 ((n : Int) % 256)] rfl rfl (At.new _ [_, _] _) (by simp [Value.oneCell']) (by omega) (by unfold maxLen; omega) (by have := HX4.out.size; simp; omega) ?_; intro v5 w5 hown5 hgr5 hdj5; clear hdj5; have HX5 := Lib.hid (HX4.out.push hown4 hgr5); clear hgr5; obtain ⟨r0, r1, r2, f0, f1, f2⟩ := (HB1.out.ext HX5.out).three; obtain ⟨A5, c5, hv5⟩ := own_slice hown5; rw [hv5]; rw [hv5] at hown5; clear hv5) | (at_builtin; refine wpList_app (o := ⟨some 40, _, _, _, _, _⟩) _ elB rfl _ _ rfl w1.heap.size (.slice A5 (2 + 4 + 2) c5) (2 + 4 + 2) _ rfl hown5 A n c (xs.map (.int .u8)) rfl (by rw [List.length_map, H.out.1]; omega) (H.out.ext (HXw.out.trans HX5.out)).2.2 (ints_oneCell _ _) (by omega) (by unfold maxLen; omega) HX5.out.size ?_; intro v6 w6 hown6 hgr6 hdj6; clear hdj6; have HX6 := Lib.hid (HX5.out.app hown5 hgr6); clear hgr6; obtain ⟨A6, c6, hv6⟩ := own_slice hown6; rw [hv6]; rw [hv6] at hown6; clear hv6))
  have hl : xs.length = n := H.out.1
  have hvs : ((([.int .u8 165, .int .u8 s] ++ (big4 q).map (Value.int .u8)) ++ [.int .u8 ((n : Int) / 256), .int .u8 ((n : Int) % 256)]) ++ xs.map (Value.int .u8)) = (heads ⟨s, q, xs⟩).map (Value.int .u8) := by
    subst hl; simp [heads]
  rw [hvs] at hown6
  have hby := heads_byte HOK.out (fun x hx => u8_bounds (H.out.2.1 x hx))
  have hIh : Ints .u8 w6 A6 (2 + 4 + 2 + n) (heads ⟨s, q, xs⟩) := ⟨by rw [heads_len]; simp only; omega, fun x hx => WalkArith.wf_u8 (hby x hx), At.of_own hown6⟩
  obtain ⟨q6, hq6⟩ : ∃ r, crc (heads ⟨s, q, xs⟩) = r := ⟨_, rfl⟩
  have hcr := crc_range (heads ⟨s, q, xs⟩)
  have hck := checksum_any _ _ c6 _ _ hIh (by omega)
  rw [hq6] at hck hcr
  refine hck.mono ?_
  have HQ6 := Lib.hid hq6
  have HBY := Lib.hid hby
  clear hck hq6 hvs hIh hby r0 r1 r2 f0 f1 f2 HX5 HX4 hown5 hown4
  rintro e w' ⟨rfl, rfl⟩
  go_wp2_with fail
  refine (big32_any w1 _ _ _ _ q6 w6 hown6 HX6.out (by omega) hcr.1 hcr.2).mono ?_
  rintro e w7 ⟨A7, c7, rfl, hown7, hX7⟩
  have HX7 := Lib.hid hX7
  clear hX7 hown6
  go_wp2
  go_ret2
  have hb := pck_byte HOK.out (fun x hx => u8_bounds (H.out.2.1 x hx))
  refine ⟨A7, _, c7, rfl, ⟨?_, ?_, fun x hx => WalkArith.wf_u8 (hb x hx)⟩, HXw.out.trans HX7.out⟩
  · have e : (heads ⟨s, q, xs⟩).map (Value.int .u8) ++ (big4 q6).map (Value.int .u8) = (pck ⟨s, q, xs⟩).map (Value.int .u8) := by
      unfold pck; rw [List.map_append, HQ6.out]
    rw [e] at hown7
    exact World.ownsRow.mono' hown7 HXw.out.size
  · rw [pck_len]; simp only; omega

set_option maxHeartbeats 400000 in
theorem pack_bad (s q : Int) (A : Option Addr) (n c : Nat) (w : World) (h : ¬ (0 ≤ s ∧ s ≤ 255 ∧ 0 ≤ q ∧ q ≤ 4294967295 ∧ n ≤ 1024)) :
    Calls Try.prog 49 #[.agg #[.int .i64 s, .int .i64 q, .slice A n c]] w (RetBytes w [] 20) := by
  have HN := Lib.hid h
  clear h
  go_enter Try.func49, Try.ntmps49
  go_wp2_with fail
  refine (valid_no s q A n c _ HN.out).mono ?_
  rintro e w1 ⟨rfl, hX1⟩
  have HX := Lib.hid (((Ext.refl w).alloc _).trans hX1)
  clear hX1
  go_wp2
  go_ret2
  exact ⟨none, 0, 0, rfl, ⟨World.ownsRow_nil _ _ _ _, rfl, by simp⟩, HX.out⟩

/-- What Pack gives: the bytes and the error. -/
def packO (f : Fr) : List Int × Int := if FrOk f then (pck f, 0) else ([], 20)

theorem pack_any (s q : Int) (A : Option Addr) (n c : Nat) (xs : List Int) (w : World) (h : Ints .u8 w A n xs) :
    Calls Try.prog 49 #[.agg #[.int .i64 s, .int .i64 q, .slice A n c]] w (RetBytes w (packO ⟨s, q, xs⟩).1 (packO ⟨s, q, xs⟩).2) := by
  unfold packO
  by_cases hok : FrOk ⟨s, q, xs⟩
  · rw [if_pos hok]; exact pack_ok s q A n c xs w h hok
  · rw [if_neg hok]
    refine pack_bad s q A n c w ?_
    unfold FrOk at hok
    simpa [h.1] using hok
end Go.Proofs.Ytekhmfliaojabaa
namespace Go.Proofs.Ytekhmfliaojabaa
open Go.RowKit

/-- One is put into the map. -/
theorem RcvQ.grow {base : Nat} {w w' : World} {g m : Nat} {st wn n : Int} {h : List Dlv} {l : List (Int × Value)} {v : Value} {d : Dlv} (hq : RcvQ base w g m st wn n h) (hM : MapL Try.prog 3 w m l) (hF : F2 (fun p d => p.1 = d.seq ∧ SlotV base w p.2 d) l h)
    (hM' : MapL Try.prog 3 w' m (l ++ [(d.seq, v)])) (hg : w.grownBy w' (some m)) (hv : SlotV base w v d) : RcvQ base w' g m st wn n (h ++ [d]) := by
  have hgm : g ≠ m := hM.ne_blk hq.blk
  have hk : Keeps [m] w w' := Keeps.of_grown hg (by rintro k ⟨⟩; simp)
  have hN : ∀ k ∈ [m], NoRow 5 w k := by intro k hk; simp at hk; subst hk; exact hM.notRow _
  exact ⟨hq.blk.grown hg (by simpa using hgm), ⟨_, hM', (hF.snoc (a := (d.seq, v)) (b := d) ⟨rfl, hv⟩).imp fun p q _ h => ⟨h.1, h.2.keeps hk hN⟩⟩, hq.lo⟩
/-- What Take and GiveUp leave. -/
def RetK (base g m : Nat) (w : World) (r : Rcv × List Dlv × Int) (e : Ending) (w' : World) : Prop :=
  ∃ v, e = .returned (.tuple #[v, .int .i64 r.2.2]) ∧ DlL w.heap.size base w' v r.2.1 ∧ RcvP base w' g m r.1 ∧ Keeps [g, m] w w'
theorem keepR_yes {r : Rcv} {d : Dlv} (h : refuse r d.seq = 0) : keepR r d = ({ r with next := (deliv (r.held ++ [d]).length r.next (r.held ++ [d])).2.1, held := (deliv (r.held ++ [d]).length r.next (r.held ++ [d])).2.2 }, (deliv (r.held ++ [d]).length r.next (r.held ++ [d])).1, 0) := by
  unfold keepR kept; rw [if_neg (by simpa using h)]; simp
theorem keepR_no {r : Rcv} {d : Dlv} (h : refuse r d.seq ≠ 0) : keepR r d = (r, [], refuse r d.seq) := by unfold keepR; rw [if_pos h]

set_option maxRecDepth 100000 in
set_option maxHeartbeats 2000000 in
theorem take_r5 (g gf : Nat) (fs st : Int) (fb : Bool) (w : World) (y0 : w.cell? ⟨gf, 0, none⟩ = some (.int .i64 fs)) (f0 : w.cell? ⟨g, 0, none⟩ = some (.int .i64 st)) (hfb : (fs != st) = fb) (a : Act) (Q : Exit → Act → World → Prop) (hsize : 19 ≤ a.tmps.size)
    (s0 : a.tmps[0]? = some (.pointer (some ⟨g, 0, none⟩)))
    (s3 : a.tmps[3]? = some (.pointer (some ⟨gf, 0, none⟩)))
    (hend : ∀ (xv0 xv1 xv2 xv3 xv4 xv5 xv6 : Value) (W : World), (xv0 = .pointer (some ⟨gf, 0, none⟩)) → (xv1 = .int .i64 fs) → (xv2 = .pointer (some ⟨g, 0, none⟩)) → (xv3 = .pointer (some ⟨g, 0, none⟩)) → (xv4 = .pointer (some ⟨g, 0, none⟩)) → (xv5 = .int .i64 st) → (xv6 = .bool fb) → Ext w W → wpList Try.prog (rops Try.f46 5).toArray Q ((rops Try.f46 5).drop 7) (((((((a.put (some 12) xv0).put (some 13) xv1).put (some 14) xv2).put (some 15) xv3).put (some 16) xv4).put (some 17) xv5).put (some 18) xv6) W) :
    (Code.region 5 (rops Try.f46 5).toArray true).wp Try.prog Q a w := by
  have hmono : ∀ (W W' : World) (j : Nat) (u : Value), Ext W W' → (fun (i : Nat) (v : Value) (W : World) => match i with
    | 0 => v = .pointer (some ⟨gf, 0, none⟩)
    | 1 => v = .int .i64 fs
    | 2 => v = .pointer (some ⟨g, 0, none⟩)
    | 3 => v = .pointer (some ⟨g, 0, none⟩)
    | 4 => v = .pointer (some ⟨g, 0, none⟩)
    | 5 => v = .int .i64 st
    | 6 => v = .bool fb
    | _ => True) j u W → (fun (i : Nat) (v : Value) (W : World) => match i with
    | 0 => v = .pointer (some ⟨gf, 0, none⟩)
    | 1 => v = .int .i64 fs
    | 2 => v = .pointer (some ⟨g, 0, none⟩)
    | 3 => v = .pointer (some ⟨g, 0, none⟩)
    | 4 => v = .pointer (some ⟨g, 0, none⟩)
    | 5 => v = .int .i64 st
    | 6 => v = .bool fb
    | _ => True) j u W' := by
    intro W W' j u hX h
    match j, h with
    | 0, h => exact h
    | 1, h => exact h
    | 2, h => exact h
    | 3, h => exact h
    | 4, h => exact h
    | 5, h => exact h
    | 6, h => exact h
    | _ + 7, h => exact h
  have hsz : ∀ d, some d ∈ ([some 12, some 13, some 14, some 15, some 16, some 17, some 18] : List (Option Tmp)) → d < a.tmps.size := slots_lt (by decide) hsize
  refine wp_region_j 7 [some 12, some 13, some 14, some 15, some 16, some 17, some 18] [[], [0], [], [2], [3], [4], [1, 5]] [[], [], [], [], [], [], []] (fun (i : Nat) (v : Value) (W : World) => match i with
    | 0 => v = .pointer (some ⟨gf, 0, none⟩)
    | 1 => v = .int .i64 fs
    | 2 => v = .pointer (some ⟨g, 0, none⟩)
    | 3 => v = .pointer (some ⟨g, 0, none⟩)
    | 4 => v = .pointer (some ⟨g, 0, none⟩)
    | 5 => v = .int .i64 st
    | 6 => v = .bool fb
    | _ => True) (fun _ W => Ext w W) (by kernel_rfl) (by kernel_rfl) hsz (fun _ _ _ _ h => h) ((Ext.refl w).drew) ?_ ?_
  · clear hend
    simp only [rops, Try.f46, regOf, Option.bind_some, Nat.reduceBEq, if_true, if_false, Bool.false_eq_true, Option.getD_some]
    simp only [List.take_succ_cons, List.take_zero]
    refine ⟨?_, ?_, ?_, ?_, ?_, ?_, ?_, trivial⟩
    · intro done us W hJ hdep haft hnot b hb hb' K hK Q'
      have e3 := (hb' 3 (by simp)).trans s3
      clear hb hb'
      go_simp
      exact hK _ _ rfl (fun _ _ _ h => h) hJ
    · intro done us W hJ hdep haft hnot b hb hb' K hK Q'
      simp only [List.getD_cons_succ, List.getD_cons_zero, List.mem_cons, List.not_mem_nil, or_false, forall_eq_or_imp, forall_eq] at hdep
      have e12 := hb 0 12 rfl
      have d0 := hdep
      rw [d0.1] at e12
      clear hb hb' hdep d0
      have q := Ext.cell hJ y0
      go_simp
      exact hK _ _ rfl (fun _ _ _ h => h) hJ
    · intro done us W hJ hdep haft hnot b hb hb' K hK Q'
      have e0 := (hb' 0 (by simp)).trans s0
      clear hb hb'
      go_simp
      exact hK _ _ rfl (fun _ _ _ h => h) hJ
    · intro done us W hJ hdep haft hnot b hb hb' K hK Q'
      simp only [List.getD_cons_succ, List.getD_cons_zero, List.mem_cons, List.not_mem_nil, or_false, forall_eq_or_imp, forall_eq] at hdep
      have e14 := hb 2 14 rfl
      have d2 := hdep
      rw [d2.1] at e14
      clear hb hb' hdep d2
      go_simp
      exact hK _ _ rfl (fun _ _ _ h => h) hJ
    · intro done us W hJ hdep haft hnot b hb hb' K hK Q'
      simp only [List.getD_cons_succ, List.getD_cons_zero, List.mem_cons, List.not_mem_nil, or_false, forall_eq_or_imp, forall_eq] at hdep
      have e15 := hb 3 15 rfl
      have d3 := hdep
      rw [d3.1] at e15
      clear hb hb' hdep d3
      go_simp
      exact hK _ _ rfl (fun _ _ _ h => h) hJ
    · intro done us W hJ hdep haft hnot b hb hb' K hK Q'
      simp only [List.getD_cons_succ, List.getD_cons_zero, List.mem_cons, List.not_mem_nil, or_false, forall_eq_or_imp, forall_eq] at hdep
      have e16 := hb 4 16 rfl
      have d4 := hdep
      rw [d4.1] at e16
      clear hb hb' hdep d4
      have q := Ext.cell hJ f0
      go_simp
      exact hK _ _ rfl (fun _ _ _ h => h) hJ
    · intro done us W hJ hdep haft hnot b hb hb' K hK Q'
      simp only [List.getD_cons_succ, List.getD_cons_zero, List.mem_cons, List.not_mem_nil, or_false, forall_eq_or_imp, forall_eq] at hdep
      have e13 := hb 1 13 rfl
      have e17 := hb 5 17 rfl
      have d1 := hdep.1
      have d5 := hdep.2
      rw [d1.1] at e13
      rw [d5.1] at e17
      clear hb hb' hdep d1 d5
      go_simp
      exact hK _ _ (by first | rfl | exact congrArg Value.bool hfb) (fun _ _ _ h => h) hJ
  · intro us W hV hJ
    exact hend (us 0) (us 1) (us 2) (us 3) (us 4) (us 5) (us 6) W (hV 0 (by omega)) (hV 1 (by omega)) (hV 2 (by omega)) (hV 3 (by omega)) (hV 4 (by omega)) (hV 5 (by omega)) (hV 6 (by omega)) hJ
set_option maxRecDepth 100000 in
set_option maxHeartbeats 2000000 in
theorem take_r10 (g m gf : Nat) (fq : Int) (Ab : Option Addr) (n c : Nat) (xs : List Int) (w : World) (f3 : w.cell? ⟨g, 3, none⟩ = some (.map (some m))) (y1 : w.cell? ⟨gf, 1, none⟩ = some (.int .i64 fq)) (y2 : w.cell? ⟨gf, 2, none⟩ = some (.slice Ab n c)) (hI : Ints .u8 w Ab n xs) (hn : n ≤ 1000000) (a : Act) (Q : Exit → Act → World → Prop) (hsize : 37 ≤ a.tmps.size)
    (s0 : a.tmps[0]? = some (.pointer (some ⟨g, 0, none⟩)))
    (s3 : a.tmps[3]? = some (.pointer (some ⟨gf, 0, none⟩)))
    (hend : ∀ (xv0 xv1 xv2 xv3 xv4 xv5 xv6 xv7 xv8 xv9 xv10 : Value) (W : World), (xv0 = .pointer (some ⟨g, 0, none⟩)) → (xv1 = .pointer (some ⟨g, 0, none⟩)) → (xv2 = .pointer (some ⟨g, 3, none⟩)) → (xv3 = .map (some m)) → (xv4 = .pointer (some ⟨gf, 1, none⟩)) → (xv5 = .int .i64 fq) → (Row0 w.heap.size W xv6) → (xv7 = .pointer (some ⟨gf, 2, none⟩)) → (xv8 = .slice Ab n c) → (BodyV w.heap.size W xv9 xs) → (∃ A' n' c', xv10 = .agg #[.slice A' n' c', .bool false] ∧ OwnS .u8 5 w.heap.size W A' n' c' xs) → Ext w W → wpList Try.prog (rops Try.f46 10).toArray Q ((rops Try.f46 10).drop 11) (((((((((((a.put (some 26) xv0).put (some 27) xv1).put (some 28) xv2).put (some 29) xv3).put (some 30) xv4).put (some 31) xv5).put (some 32) xv6).put (some 33) xv7).put (some 34) xv8).put (some 35) xv9).put (some 36) xv10) W) :
    (Code.region 10 (rops Try.f46 10).toArray true).wp Try.prog Q a w := by
  have hmono : ∀ (W W' : World) (j : Nat) (u : Value), Ext W W' → (fun (i : Nat) (v : Value) (W : World) => match i with
    | 0 => v = .pointer (some ⟨g, 0, none⟩)
    | 1 => v = .pointer (some ⟨g, 0, none⟩)
    | 2 => v = .pointer (some ⟨g, 3, none⟩)
    | 3 => v = .map (some m)
    | 4 => v = .pointer (some ⟨gf, 1, none⟩)
    | 5 => v = .int .i64 fq
    | 6 => Row0 w.heap.size W v
    | 7 => v = .pointer (some ⟨gf, 2, none⟩)
    | 8 => v = .slice Ab n c
    | 9 => BodyV w.heap.size W v xs
    | 10 => ∃ A' n' c', v = .agg #[.slice A' n' c', .bool false] ∧ OwnS .u8 5 w.heap.size W A' n' c' xs
    | _ => True) j u W → (fun (i : Nat) (v : Value) (W : World) => match i with
    | 0 => v = .pointer (some ⟨g, 0, none⟩)
    | 1 => v = .pointer (some ⟨g, 0, none⟩)
    | 2 => v = .pointer (some ⟨g, 3, none⟩)
    | 3 => v = .map (some m)
    | 4 => v = .pointer (some ⟨gf, 1, none⟩)
    | 5 => v = .int .i64 fq
    | 6 => Row0 w.heap.size W v
    | 7 => v = .pointer (some ⟨gf, 2, none⟩)
    | 8 => v = .slice Ab n c
    | 9 => BodyV w.heap.size W v xs
    | 10 => ∃ A' n' c', v = .agg #[.slice A' n' c', .bool false] ∧ OwnS .u8 5 w.heap.size W A' n' c' xs
    | _ => True) j u W' := by
    intro W W' j u hX h
    match j, h with
    | 0, h => exact h
    | 1, h => exact h
    | 2, h => exact h
    | 3, h => exact h
    | 4, h => exact h
    | 5, h => exact h
    | 6, h => exact Row0.ext h hX
    | 7, h => exact h
    | 8, h => exact h
    | 9, h => exact BodyV.ext h hX
    | 10, h => obtain ⟨A', n', c', h1, h2⟩ := h; exact ⟨A', n', c', h1, h2.ext hX⟩
    | _ + 11, h => exact h
  have hsz : ∀ d, some d ∈ ([some 26, some 27, some 28, some 29, some 30, some 31, some 32, some 33, some 34, some 35, some 36] : List (Option Tmp)) → d < a.tmps.size := slots_lt (by decide) hsize
  refine wp_region_j 11 [some 26, some 27, some 28, some 29, some 30, some 31, some 32, some 33, some 34, some 35, some 36] [[], [0], [1], [2], [], [4], [], [], [7], [6, 8], [9]] [[], [], [], [], [], [], [], [], [], [], []] (fun (i : Nat) (v : Value) (W : World) => match i with
    | 0 => v = .pointer (some ⟨g, 0, none⟩)
    | 1 => v = .pointer (some ⟨g, 0, none⟩)
    | 2 => v = .pointer (some ⟨g, 3, none⟩)
    | 3 => v = .map (some m)
    | 4 => v = .pointer (some ⟨gf, 1, none⟩)
    | 5 => v = .int .i64 fq
    | 6 => Row0 w.heap.size W v
    | 7 => v = .pointer (some ⟨gf, 2, none⟩)
    | 8 => v = .slice Ab n c
    | 9 => BodyV w.heap.size W v xs
    | 10 => ∃ A' n' c', v = .agg #[.slice A' n' c', .bool false] ∧ OwnS .u8 5 w.heap.size W A' n' c' xs
    | _ => True) (fun _ W => Ext w W) (by kernel_rfl) (by kernel_rfl) hsz (fun _ _ _ _ h => h) ((Ext.refl w).drew) ?_ ?_
  · clear hend
    simp only [rops, Try.f46, regOf, Option.bind_some, Nat.reduceBEq, if_true, if_false, Bool.false_eq_true, Option.getD_some]
    simp only [List.take_succ_cons, List.take_zero]
    refine ⟨?_, ?_, ?_, ?_, ?_, ?_, ?_, ?_, ?_, ?_, ?_, trivial⟩
    · intro done us W hJ hdep haft hnot b hb hb' K hK Q'
      have e0 := (hb' 0 (by simp)).trans s0
      clear hb hb'
      go_simp
      exact hK _ _ rfl (fun _ _ _ h => h) hJ
    · intro done us W hJ hdep haft hnot b hb hb' K hK Q'
      simp only [List.getD_cons_succ, List.getD_cons_zero, List.mem_cons, List.not_mem_nil, or_false, forall_eq_or_imp, forall_eq] at hdep
      have e26 := hb 0 26 rfl
      have d0 := hdep
      rw [d0.1] at e26
      clear hb hb' hdep d0
      go_simp
      exact hK _ _ rfl (fun _ _ _ h => h) hJ
    · intro done us W hJ hdep haft hnot b hb hb' K hK Q'
      simp only [List.getD_cons_succ, List.getD_cons_zero, List.mem_cons, List.not_mem_nil, or_false, forall_eq_or_imp, forall_eq] at hdep
      have e27 := hb 1 27 rfl
      have d1 := hdep
      rw [d1.1] at e27
      clear hb hb' hdep d1
      go_simp
      exact hK _ _ rfl (fun _ _ _ h => h) hJ
    · intro done us W hJ hdep haft hnot b hb hb' K hK Q'
      simp only [List.getD_cons_succ, List.getD_cons_zero, List.mem_cons, List.not_mem_nil, or_false, forall_eq_or_imp, forall_eq] at hdep
      have e28 := hb 2 28 rfl
      have d2 := hdep
      rw [d2.1] at e28
      clear hb hb' hdep d2
      have q := Ext.cell hJ f3
      go_simp
      exact hK _ _ rfl (fun _ _ _ h => h) hJ
    · intro done us W hJ hdep haft hnot b hb hb' K hK Q'
      have e3 := (hb' 3 (by simp)).trans s3
      clear hb hb'
      go_simp
      exact hK _ _ rfl (fun _ _ _ h => h) hJ
    · intro done us W hJ hdep haft hnot b hb hb' K hK Q'
      simp only [List.getD_cons_succ, List.getD_cons_zero, List.mem_cons, List.not_mem_nil, or_false, forall_eq_or_imp, forall_eq] at hdep
      have e30 := hb 4 30 rfl
      have d4 := hdep
      rw [d4.1] at e30
      clear hb hb' hdep d4
      have q := Ext.cell hJ y1
      go_simp
      exact hK _ _ rfl (fun _ _ _ h => h) hJ
    · intro done us W hJ hdep haft hnot b hb hb' K hK Q'
      clear hb hb'
      have ho := Row0.new (W := W) (Ext.size hJ)
      go_simp
      exact hK _ _ ho (fun j u _ h => hmono _ _ j u ((Ext.refl _).alloc _) h) (Ext.alloc hJ _)
    · intro done us W hJ hdep haft hnot b hb hb' K hK Q'
      have e3 := (hb' 3 (by simp)).trans s3
      clear hb hb'
      go_simp
      exact hK _ _ rfl (fun _ _ _ h => h) hJ
    · intro done us W hJ hdep haft hnot b hb hb' K hK Q'
      simp only [List.getD_cons_succ, List.getD_cons_zero, List.mem_cons, List.not_mem_nil, or_false, forall_eq_or_imp, forall_eq] at hdep
      have e33 := hb 7 33 rfl
      have d7 := hdep
      rw [d7.1] at e33
      clear hb hb' hdep d7
      have q := Ext.cell hJ y2
      go_simp
      exact hK _ _ rfl (fun _ _ _ h => h) hJ
    · intro done us W hJ hdep haft hnot b hb hb' K hK Q'
      simp only [List.getD_cons_succ, List.getD_cons_zero, List.mem_cons, List.not_mem_nil, or_false, forall_eq_or_imp, forall_eq] at hdep
      have e32 := hb 6 32 rfl
      have e34 := hb 8 34 rfl
      have d6 := hdep.1
      have d8 := hdep.2
      rw [d8.1] at e34
      clear hb hb' hdep d8
      obtain ⟨gq, e', ho⟩ := d6.1
      rw [e'] at e32
      obtain ⟨v', w', q, ho', hX⟩ := run_app0 (P := Try.prog) W elB 22 w.heap.size gq ho Ab n c (xs.map (.int .u8)) (by rw [List.length_map, hI.1]; omega) (Ints.ext hI hJ).2.2 (ints_oneCell _ _) (by omega) (by unfold maxLen; omega) (Ext.size hJ)
      obtain ⟨A', c', rfl⟩ := own_slice ho'
      exact jop_app rfl rfl e32 e34 q (hK _ _ ⟨A', _, c', rfl, ho', hI.1, hI.2.1⟩ (fun j u _ h => hmono _ _ j u hX h) (Ext.trans hJ hX))
    · intro done us W hJ hdep haft hnot b hb hb' K hK Q'
      simp only [List.getD_cons_succ, List.getD_cons_zero, List.mem_cons, List.not_mem_nil, or_false, forall_eq_or_imp, forall_eq] at hdep
      have e35 := hb 9 35 rfl
      have d9 := hdep
      clear hb hb' hdep 
      obtain ⟨A', n', c', e', ho⟩ := d9.1
      rw [e'] at e35
      go_simp
      exact hK _ _ ⟨A', n', c', rfl, ho⟩ (fun _ _ _ h => h) hJ
  · intro us W hV hJ
    exact hend (us 0) (us 1) (us 2) (us 3) (us 4) (us 5) (us 6) (us 7) (us 8) (us 9) (us 10) W (hV 0 (by omega)) (hV 1 (by omega)) (hV 2 (by omega)) (hV 3 (by omega)) (hV 4 (by omega)) (hV 5 (by omega)) (hV 6 (by omega)) (hV 7 (by omega)) (hV 8 (by omega)) (hV 9 (by omega)) (hV 10 (by omega)) hJ
set_option maxRecDepth 100000 in
set_option maxHeartbeats 4000000 in
theorem takeP_any (base g m : Nat) (r : Rcv) (f : Fr) (Ab : Option Addr) (n c : Nat) (w : World) (h : RcvP base w g m r) (hI : Ints .u8 w Ab n f.body) :
    Calls Try.prog 46 #[.pointer (some ⟨g, 0, none⟩), .agg #[.int .i64 f.stream, .int .i64 f.seq, .slice Ab n c]] w (RetK base g m w (takeR r f)) := by
  have HP := Lib.hid h
  have HI := Lib.hid hI
  have hbl := hI.1
  have lb := h.q.base_le
  obtain ⟨lw0, lw1⟩ := h.ok.window
  obtain ⟨st, q, xs⟩ := f
  simp only at hI HI hbl ⊢
  have HBL := Lib.hid hbl
  clear h hI hbl
  have hXe : Ext w (w.alloc (.cells #[.int .i64 st, .int .i64 q, .slice Ab n c] 38)) := ((Ext.refl w).alloc _)
  have kf : Blk (w.alloc (.cells #[.int .i64 st, .int .i64 q, .slice Ab n c] 38)) w.heap.size 38 #[.int .i64 st, .int .i64 q, .slice Ab n c] := Blk.at_ (by simp)
  go_enter Try.func46, Try.ntmps46
  go_wp2_with fail
  generalize (w.alloc (.cells #[.int .i64 st, .int .i64 q, .slice Ab n c] 38)) = w1 at hXe kf ⊢
  have HX := Lib.hid hXe
  clear hXe
  have Kf := Lib.hid kf
  clear kf
  replace HP := Lib.hid (HP.out.ext HX.out)
  replace HI := Lib.hid (HI.out.ext HX.out)
  refine (noneQ_any g r.window _ (HP.out.q.blk.cell 1) (by omega)).mono ?_
  rintro e _ ⟨rfl, rfl⟩
  by_cases hok : FrOk ⟨st, q, xs⟩
  · obtain ⟨o1, o2, o3, o4, o5⟩ := hok
    simp only at o1 o2 o3 o4 o5
    have hE : takeR r ⟨st, q, xs⟩ = if st ≠ r.stream then (r, [], 25) else keepR r ⟨q, xs, false⟩ := by unfold takeR; rw [if_neg (fun h => h ⟨o1, o2, o3, o4, o5⟩)]
    have HE0 := Lib.hid hE
    clear hE
    have hn5 : n ≤ 1024 := by have := HBL.out; omega
    have cf0 : w1.cell? ⟨w.heap.size, 0, none⟩ = some (.int .i64 st) := Kf.out.cell 0
    have cf1 : w1.cell? ⟨w.heap.size, 1, none⟩ = some (.int .i64 q) := Kf.out.cell 1
    have cf2 : w1.cell? ⟨w.heap.size, 2, none⟩ = some (.slice Ab n c) := Kf.out.cell 2
    go_wp2_with fail
    clear cf0 cf1 cf2
    refine (valid_yes st q Ab n c _ o1 o2 o3 o4 hn5).mono ?_
    rintro e w2 ⟨rfl, hX⟩
    replace hX : Ext w1 w2 := by with_reducible exact hX
    replace HX := Lib.hid (HX.out.trans hX)
    replace HP := Lib.hid (HP.out.ext hX)
    replace HI := Lib.hid (HI.out.ext hX)
    replace Kf := Lib.hid (Kf.out.ext hX)
    clear hX
    by_cases hst : st = r.stream
    · have hfb : (st != r.stream) = false := by simpa using hst
      have HE1 : Hid (takeR r ⟨st, q, xs⟩ = keepR r ⟨q, xs, false⟩) := Lib.hid (by rw [HE0.out, if_neg (by simpa using hst)])
      clear hst
      go_upto_region 5 with (fail)
      refine take_r5 g w.heap.size st r.stream false _ (Kf.out.cell 0) (HP.out.q.blk.cell 0) hfb _ _ (by simp) rfl rfl ?_
      rintro xv0 xv1 xv2 xv3 xv4 xv5 xv6 w3 rfl rfl rfl rfl rfl rfl rfl hXW
      simp only [rops, Try.f46, regOf, Option.bind_some, Nat.reduceBEq, if_true, if_false, Bool.false_eq_true, Option.getD_some, List.drop_succ_cons, List.drop_zero]
      simp only [Act.put, List.setIfInBounds_toArray, List.set_cons_succ, List.set_cons_zero]
      replace HX := Lib.hid (HX.out.trans hXW)
      replace HP := Lib.hid (HP.out.ext hXW)
      replace HI := Lib.hid (HI.out.ext hXW)
      replace Kf := Lib.hid (Kf.out.ext hXW)
      clear hXW
      clear hfb
      have cf0 : w3.cell? ⟨w.heap.size, 0, none⟩ = some (.int .i64 st) := Kf.out.cell 0
      have cf1 : w3.cell? ⟨w.heap.size, 1, none⟩ = some (.int .i64 q) := Kf.out.cell 1
      have cf2 : w3.cell? ⟨w.heap.size, 2, none⟩ = some (.slice Ab n c) := Kf.out.cell 2
      go_wp2_with fail
      clear cf0 cf1 cf2
      refine (refused_any base g m r q _ HP.out (by omega)).mono ?_
      rintro e w4 ⟨rfl, hX⟩
      replace hX : Ext w3 w4 := by with_reducible exact hX
      replace HX := Lib.hid (HX.out.trans hX)
      replace HP := Lib.hid (HP.out.ext hX)
      replace HI := Lib.hid (HI.out.ext hX)
      replace Kf := Lib.hid (Kf.out.ext hX)
      clear hX
      by_cases hrf : refuse r q = 0
      · have HRF : Hid (refuse r (⟨q, xs, false⟩ : Dlv).seq = 0) := Lib.hid hrf
        have HE := HE1
        rw [hrf]
        clear hrf
        have HZ3 := Lib.hid HX.out.size
        go_upto_region 10 with (fail)
        refine take_r10 g m w.heap.size q Ab n c xs _ (HP.out.q.blk.cell 3) (Kf.out.cell 1) (Kf.out.cell 2) HI.out (by omega) _ _ (by simp) rfl rfl ?_
        rintro xv0 xv1 xv2 xv3 xv4 xv5 xv6 xv7 xv8 xv9 xv10 w5 rfl rfl rfl rfl rfl rfl _ rfl rfl _ ⟨A2, n2, c2, rfl, ho2⟩ hXW
        simp only [rops, Try.f46, regOf, Option.bind_some, Nat.reduceBEq, if_true, if_false, Bool.false_eq_true, Option.getD_some, List.drop_succ_cons, List.drop_zero]
        simp only [Act.put, List.setIfInBounds_toArray, List.set_cons_succ, List.set_cons_zero]
        replace HX := Lib.hid (HX.out.trans hXW)
        replace HP := Lib.hid (HP.out.ext hXW)
        replace HI := Lib.hid (HI.out.ext hXW)
        replace Kf := Lib.hid (Kf.out.ext hXW)
        clear hXW
        have hwz := HX.out.size
        have HO := Lib.hid ho2
        clear ho2
        obtain ⟨l, hM, hF⟩ := HP.out.q.map
        have hl0 : look l q = none := find_none_ hF (refuse_ok HRF.out).2.1
        have hll : l.length ≤ 64 := by have := HP.out.ok.room; rw [hF.len]; exact this
        refine wpList_put_new _ rfl (.tmp 29) (.tmp 31) (.tmp 36) 100 rfl 121 keyed_int und_int und_mapS rfl hM (by unfold maxLen; omega) q _ rfl rfl (by omega) hl0 ?_
        intro w5 hM5 hG5
        have HQ5 := Lib.hid (RcvQ.grow (d := ⟨q, xs, false⟩) HP.out.q hM hF hM5 hG5 ⟨A2, n2, c2, rfl, HO.out.mono (by have := HZ3.out; omega)⟩)
        have HK5 := Lib.hid ((Keeps.of_ext HX.out [g, m]).grown hG5 (by rintro k ⟨⟩; simp))
        have hro := HP.out.ok.room
        have hnx := HP.out.ok.next
        have HKO := Lib.hid (keepR_ok (d := ⟨q, xs, false⟩) HP.out.ok (by simp only; omega) (by simp only; omega))
        clear hM hF hl0 hll hM5 hG5 HP
        go_wp2_with fail
        have hz5 := HK5.out.size
        refine (deliver_any base g m r.stream r.window r.next _ _ HQ5.out (by omega) (by omega) (by simp; omega)).mono ?_
        rintro e w6 ⟨v, rfl, hv, hq6, hk6⟩
        have HV := Lib.hid (hv.mono hz5)
        have HQ6 := Lib.hid hq6
        have HK6 := Lib.hid (HK5.out.trans hk6)
        clear hv hq6 hk6 HQ5 HK5
        go_wp2
        go_ret2
        have hko := HKO.out
        rw [HE.out]
        rw [keepR_yes HRF.out] at hko ⊢
        exact ⟨_, rfl, HV.out, ⟨HQ6.out, hko⟩, HK6.out⟩
      · have hne : (refuse r q != 0) = true := by simpa using hrf
        have HE : Hid (takeR r ⟨st, q, xs⟩ = (r, [], refuse r q)) := Lib.hid (by rw [HE1.out, keepR_no hrf])
        clear hrf
        go_wp2
        go_ret2
        rw [HE.out]
        exact ⟨_, rfl, DlL.nil _ _ _, HP.out, Keeps.of_ext HX.out _⟩
    · have hfb : (st != r.stream) = true := by simpa using hst
      have HE : Hid (takeR r ⟨st, q, xs⟩ = (r, [], 25)) := Lib.hid (by rw [HE0.out, if_pos hst])
      clear hst
      go_upto_region 5 with (fail)
      refine take_r5 g w.heap.size st r.stream true _ (Kf.out.cell 0) (HP.out.q.blk.cell 0) hfb _ _ (by simp) rfl rfl ?_
      rintro xv0 xv1 xv2 xv3 xv4 xv5 xv6 w3 rfl rfl rfl rfl rfl rfl rfl hXW
      simp only [rops, Try.f46, regOf, Option.bind_some, Nat.reduceBEq, if_true, if_false, Bool.false_eq_true, Option.getD_some, List.drop_succ_cons, List.drop_zero]
      simp only [Act.put, List.setIfInBounds_toArray, List.set_cons_succ, List.set_cons_zero]
      replace HX := Lib.hid (HX.out.trans hXW)
      replace HP := Lib.hid (HP.out.ext hXW)
      replace HI := Lib.hid (HI.out.ext hXW)
      replace Kf := Lib.hid (Kf.out.ext hXW)
      clear hXW
      clear hfb
      go_wp2
      go_ret2
      rw [HE.out]
      exact ⟨_, rfl, DlL.nil _ _ _, HP.out, Keeps.of_ext HX.out _⟩
  · have HE : Hid (takeR r ⟨st, q, xs⟩ = (r, [], 20)) := Lib.hid (by unfold takeR; rw [if_pos hok])
    have hok2 : ¬ (0 ≤ st ∧ st ≤ 255 ∧ 0 ≤ q ∧ q ≤ 4294967295 ∧ n ≤ 1024) := by rw [← HBL.out]; exact hok
    clear hok
    have cf0 : w1.cell? ⟨w.heap.size, 0, none⟩ = some (.int .i64 st) := Kf.out.cell 0
    have cf1 : w1.cell? ⟨w.heap.size, 1, none⟩ = some (.int .i64 q) := Kf.out.cell 1
    have cf2 : w1.cell? ⟨w.heap.size, 2, none⟩ = some (.slice Ab n c) := Kf.out.cell 2
    go_wp2_with fail
    clear cf0 cf1 cf2
    refine (valid_no st q Ab n c _ hok2).mono ?_
    rintro e w2 ⟨rfl, hX⟩
    replace hX : Ext w1 w2 := by with_reducible exact hX
    replace HX := Lib.hid (HX.out.trans hX)
    replace HP := Lib.hid (HP.out.ext hX)
    replace HI := Lib.hid (HI.out.ext hX)
    replace Kf := Lib.hid (Kf.out.ext hX)
    clear hX
    clear hok2
    go_wp2
    go_ret2
    rw [HE.out]
    exact ⟨_, rfl, DlL.nil _ _ _, HP.out, Keeps.of_ext HX.out _⟩

end Go.Proofs.Ytekhmfliaojabaa
