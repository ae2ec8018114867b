/- Lemmas of the proof that follows (Adjusts, part 14): walks of functions by contract, and plain lemmas. Conditions: none. -/
import Derived.Test.YtikhlcgnlbinfaaAdjustsM
set_option maxRecDepth 100000
set_option maxHeartbeats 16000000
namespace Go.Proofs.Ytikhlcgnlbinfaa
open Lib (hid)
open Go.RowKit
section
variable {P : Program}
theorem pB (w : World) {t e : TypeId} {size bytes : Nat} {z : Value} (E : Elem P t e size bytes z) (ty : TypeId) (base g : Nat)
  (hown : w.ownsRow base e size (.slice (some ⟨g, 0, none⟩) 0 0) 0 [])
  (A : Option Addr) (m c : Nat) (news : List Value) (hl : news.length = m * size) (hat : At w A news) (h1 : ∀ u ∈ news, u.oneCell' = true)
  (hbytes : m * bytes <= 140737488355328) (h63 : m <= maxLen) (hbase : base <= w.heap.size) :
  ∃ v' w', (Builtin.append_ #[t, t] ty #[.slice (some ⟨g, 0, none⟩) 0 0, .slice A m c]).run P w = .ok v' w' /\ w'.ownsRow base e size v' m news /\ Ext w w' := by
 obtain ⟨i, hi, hz, hs, hb⟩ := E.info
 rcases Nat.eq_zero_or_pos m with rfl | hm
 .
  obtain rfl : news = [] := List.eq_nil_of_length_eq_zero (by simpa using hl);refine ⟨_, w, ?_, hown, Ext.refl w⟩
  rcases A with _ | ad <;> simp [Builtin.append_, run_underlying E.und, sizeOf, typeInfo, hi, Builtin.lenOf, Builtin.firstCells, storeCells, loadCells, loadCellsFrom]
 .
  have hp := E.pos
  have hne : news ≠ [] := by
   intro h;subst h;have h0 : m * size = 0 := by simpa using hl.symm
   rcases Nat.mul_eq_zero.1 h0 with h | h <;> omega
  obtain ⟨b, off, rfl, _⟩ := hat hne;have hnews := hat.add ⟨b, off, none⟩ rfl;have hmax : m <= 9223372036854775807 := by simp only [maxLen] at h63; omega
  obtain ⟨v', w', hr, h2, h3, _, h5⟩ := run_append_own_at (P := P) w base t ty e i z size bytes E.und hi hz hs hb E.cells E.pos _ 0 [] hown ⟨b, off, none⟩ m c news hl hnews h1 (by omega) (by simpa using hbytes) hbase;have hr' := run_append_grow (P := P) w t ty e i z E.und hi hz ⟨g, 0, none⟩ 0 0 [] (by rw [hs]; exact hown.1) (hown.cells (g := g) rfl) ⟨b, off, none⟩ m c news (by rw [hs]; exact hl) hnews (by omega) (by omega) (by rw [hb]; exact growslice_fits (by omega) (by simpa using hbytes));refine ⟨v', w', hr, by simpa using h2, ?_⟩;rw [hr'] at hr;injection hr with e1 e2;subst e2;exact (Ext.refl w).drew.alloc _
/-- An operation that is always done, whose value is known. -/
theorem rL {ops : Array Oper} {o : Oper} {b : Act} {W W' : World} {K : Act -> World -> Prop} {Q' : Exit -> Act -> World -> Prop} {v' : Value} (hg : o.guard = none) (hrun : (execOp b.eval o).run P W = .ok (.value v') W') (hK : K (b.put o.dst v') W') :
  if Region.wanted o (yielded ops b.tmps) then o.wp P b W K Q' else K (b.put o.dst undef) W := by
 simp only [Region.wanted, hg, if_true, Oper.wp, hrun];exact hK
/-- 'append(s, x...)' in a region that draws its order. -/
theorem ig {ops : Array Oper} {o : Oper} {b : Act} {W W' : World} {K : Act -> World -> Prop} {Q' : Exit -> Act -> World -> Prop} {t : TypeId} {i j : Tmp} {v u v' : Value} (hg : o.guard = none)
  (ho : o.op = .call { callee := .builtin .append, args := #[.tmp i, .tmp j], argTypes := #[t, t] }) (hi : b.tmps[i]? = some v) (hj : b.tmps[j]? = some u)
  (hrun : (Builtin.append_ #[t, t] o.type #[v, u]).run P W = .ok v' W') (hK : K (b.put o.dst v') W') :
  if Region.wanted o (yielded ops b.tmps) then o.wp P b W K Q' else K (b.put o.dst undef) W := by
 refine rL hg ?_ hK;have e1 : b.eval (.tmp i) = v := by simp [Act.eval, hi]
 have e2 : b.eval (.tmp j) = u := by simp [Act.eval, hj]
 unfold execOp;simp only [ho, resolve, invoke, builtin, Sem.run_bind, Sem.run_pure, Result.andThen_ok, List.map_toArray, List.map_cons, List.map_nil, e1, e2, hrun]
end
/-- A row of shifts, made by appending. -/
theorem tI : Elem Try.prog 117 229 9 168 (.agg #[.bool false, .slice none 0 0, .slice none 0 0, .bool false, .slice none 0 0, .slice none 0 0, .bool false, .slice none 0 0, .slice none 0 0]) := Elem.mk' (by kernel_rfl) (by kernel_rfl) rfl (by decide)
def SRow (base : Nat) (w : World) (v : Value) (n : Nat) (f : Nat -> Rat) : Prop := (∃ us, w.ownsRow base 229 9 v n us /\ NumK 3 (Tri QZ) w us (3 * n) f) /\ RowNI w v
section
variable {base n : Nat} {w w' : World} {v : Value} {f h : Nat -> Rat}
theorem SRow.shp {A : Option Addr} {c : Nat} (k : SRow base w (.slice A n c) n f) (hn : 0 < n) : ∃ g, A = some ⟨g, 0, none⟩ /\ base <= g /\ g < w.heap.size /\ ShP QZ w g 0 n f := by
 obtain ⟨⟨us, h1, h2⟩, h3⟩ := k;have hlow := fun g hg => bX (g := g) h1 hg
 rcases h1.2 with ⟨hv, h0⟩ | ⟨g, cap, cur, hv, hg, hb⟩
 .
  omega
 .
  injection hv with hA hn hc;subst hA;exact ⟨g, rfl, hg, (hlow g (by simp [Value.ownBlock])).2, ShP.of_row h1 h2⟩
end
/-- How an element reads: as itself. -/
def mR (v : Value) : Option (DataW Value × List MemPlace) := some (.held v, [])
/-- What stands at a key. -/
def db (l : List (Int × Value)) (x : Int) : Option Value := (l.find? fun p => p.1 == x).map Prod.snd
theorem gL {l : List (Int × Value)} {x : Int} {v : Value} (h : db l x = none) (y : Int) : db (l ++ [(x, v)]) y = if y = x then some v else db l y := by
 unfold db at h |-;rw [List.find?_append]
 by_cases e : y = x
 .
  subst e;rw [Option.map_eq_none_iff] at h;rw [h];simp
 .
  rw [if_neg e];have : ([(x, v)] : List (Int × Value)).find? (fun p => p.1 == y) = none := by simp; exact fun h => e h.symm
  rw [this]; simp
theorem pC {l : List (Int × Value)} {x : Int} {v : Value} (h : db l x = some v) : (x, v) ∈ l := by
 unfold db at h;obtain ⟨p, hp, rfl⟩ := Option.map_eq_some_iff.1 h;have h1 := List.find?_some hp;have h2 := List.mem_of_find?_eq_some hp;have : p.1 = x := by simpa using h1
 rw [<- this]; exact h2
theorem dK {l : List (Int × Value)} {x : Int} : db l x = none ↔ x ∉ l.map Prod.fst := by
 unfold db;rw [Option.map_eq_none_iff, List.find?_eq_none];constructor
 .
  intro h hm;obtain ⟨p, hp, rfl⟩ := List.mem_map.1 hm;exact h p hp (by simp)
 .
  intro h p hp e;exact h (List.mem_map.2 ⟨p, hp, by simpa using e⟩)
theorem kw {l : List (Int × Value)} (hn : (l.map Prod.fst).Nodup) {x : Int} {v : Value} (h : db l x = none) : ((l ++ [(x, v)]).map Prod.fst).Nodup := by
 rw [List.map_append, List.nodup_append];refine ⟨hn, by simp, fun a ha b hb => ?_⟩;simp at hb;subst hb;rintro rfl;exact dK.1 h ha
/-- Block 'b' is a map of just these keys with these values. -/
structure MapL (P : Program) (k : TypeId) (w : World) (b : Nat) (l : List (Int × Value)) : Prop where
 own : ∃ D, w.ownsMap P k mR b l.length D /\ (∀ x z, D.atKey (.int .i64 x) z = ((db l x).map DataW.held).getD z) /\ Maps.size D = l.length
 apart : (l.map Prod.fst).Nodup
section
variable {P : Program} {k : TypeId} {w w' : World} {b : Nat} {l l' : List (Int × Value)}
theorem MapL.lt (h : MapL P k w b l) : b < w.heap.size := by obtain ⟨D, h1, _⟩ := h.own; exact h1.lt
theorem MapL.kept {row : Option Nat} (h : MapL P k w b l) (hg : w.grownBy w' row) (hne : some b ≠ row) : MapL P k w' b l := by obtain ⟨D, h1, h2⟩ := h.own; exact ⟨⟨D, h1.kept hg hne, h2⟩, h.apart⟩
theorem MapL.ext (h : MapL P k w b l) (he : Ext w w') : MapL P k w' b l := h.kept (he.row none) (by simp)
theorem MapL.setCell (h : MapL P k w b l) {a : Addr} (ha : b ≠ a.block) (u : Value) : MapL P k (w.setCell a u) b l := by obtain ⟨D, h1, h2⟩ := h.own; exact ⟨⟨D, h1.setCell ha u, h2⟩, h.apart⟩
theorem MapL.made (w : World) (P : Program) (k : TypeId) : MapL P k (w.alloc (.map #[] 0)) w.heap.size [] := ⟨⟨_, World.ownsMap_made w P k mR, fun _ _ => rfl, rfl⟩, by simp⟩
variable (K : Maps.Keyed P k) {t e : TypeId} (ht : P.underlying t = some (.map k e))
theorem sL {D : DataW Value} {l : List (Int × Value)} (h : ∀ x z, D.atKey (.int .i64 x) z = ((db l x).map DataW.held).getD z) (x : Int) : Maps.has D (.int .i64 x) = (db l x).isSome := by
 cases hl : db l x with
 | none => exact Maps.has_false_of_atKey fun z => by rw [h, hl]; rfl
 | some v => exact Maps.has_true_of_atKey (y := .held v) fun z => by rw [h, hl]; rfl
include K ht
/-- 'm[x]'. -/
theorem MapL.run_at (h : MapL P k w b l) {z : Value} (hz : (zeroValue e).run P w = .ok z w) {x : Int} (hkey : keyOf P k (.int .i64 x) = some (.int .i64 x)) :
  (Instr.lookup t (.map (some b)) (.int .i64 x) false).run P w = .ok ((db l x).getD z) w := by
 obtain ⟨⟨D, h1, h2, h3⟩, h4⟩ := h;obtain ⟨v, ps, hrun, hv⟩ := h1.lookup K ht hz (zd := .held z) (zp := []) rfl hkey;rw [h2] at hv
 have : v = (db l x).getD z := by
  injection hv with hv;injection hv with hv _
  cases hl : db l x with
  | none => rw [hl] at hv; injection hv
  | some u => rw [hl] at hv; injection hv
 subst this;exact hrun
/-- 'm[x] = v', x a new key. -/
theorem MapL.run_put (h : MapL P k w b l) (hn : l.length < maxLen) {x : Int} {v : Value} (hkey : keyOf P k (.int .i64 x) = some (.int .i64 x)) (hl : db l x = none) :
  ∃ w', (Instr.mapUpdate t (.map (some b)) (.int .i64 x) v).run P w = .ok () w' /\ MapL P k w' b (l ++ [(x, v)]) /\ w.grownBy w' (some b) := by
 obtain ⟨⟨D, h1, h2, h3⟩, h4⟩ := h;obtain ⟨w', hrun, h5, h6⟩ := h1.store K ht hn (d := .held v) (ps := []) hkey rfl (val := v);refine ⟨w', hrun, ⟨⟨_, by rw [List.length_append]; exact h5, fun y z => ?_, ?_⟩, kw h4 hl⟩, h6.grown⟩
 .
  by_cases e : y = x
  .
   subst e;rw [Maps.atKey_put_same h1.isMap (K.key hkey), gL hl, if_pos rfl]; rfl
  .
   rw [Maps.atKey_put_other (by intro e'; injection e' with _ e'; exact e e'), gL hl, if_neg e, h2]
 .
  rw [Maps.size_put (h1.tidy K), sL h2, hl]; simp [h3]
end
section
variable {P : Program} (w : World) {ops : Array Oper} {rest : List Oper} {o : Oper} {a : Act} {Q : Exit -> Act -> World -> Prop} {k : TypeId} {b : Nat} {l : List (Int × Value)}
theorem eP {P : Program} {k : TypeId} (hk : P.underlying k = some (.int .i64)) {x : Int} (_hx : -9223372036854775808 <= x /\ x <= 9223372036854775807) : keyOf P k (.int .i64 x) = some (.int .i64 x) := by
 have : (Lit.int .i64 x).wf = true := by simp [Lit.wf, IntKind.min, IntKind.max, IntKind.bits, IntKind.signed]; omega
 simp [keyOf, mapKey, hk, this]
/-- 'm[x] = v', a new key. -/
theorem fW (hg : o.guard = none) (m x v : Operand) (t : TypeId) (hop : o.op = Op.mapUpdate t m x v) (e : TypeId) (K : Maps.Keyed P k) (hk : P.underlying k = some (.int .i64)) (ht : P.underlying t = some (.map k e))
  (hm : a.eval m = .map (some b)) (hown : MapL P k w b l) (hn : l.length < maxLen) (X : Int) (V : Value) (hx : a.eval x = .int .i64 X) (hv : a.eval v = V) (hX : -9223372036854775808 <= X /\ X <= 9223372036854775807) (hl : db l X = none)
  (hK : ∀ w', MapL P k w' b (l ++ [(X, V)]) -> w.grownBy w' (some b) -> wpList P ops Q rest (a.put o.dst undef) w') : wpList P ops Q (o :: rest) a w := by
 refine wpList_plain hg fun K' hK' => ?_
 obtain ⟨w', hrun, r1, r2⟩ := hown.run_put K ht hn (v := V) (eP hk hX) hl;unfold Oper.wp;simp [execOp, hop, hm, hx, hv, hrun, Result.andThen];exact hK' _ _ (hK w' r1 r2)
end
theorem eQ : Maps.Keyed Try.prog 3 := Maps.int_keyed Try.underlying3
theorem ij : Try.prog.underlying 3 = some (.int .i64) := by kernel_rfl
theorem fX : Try.prog.underlying 223 = some (.map 3 4) := by kernel_rfl
theorem pD (w : World) : (zeroValue 4).run Try.prog w = .ok (.bool false) w := by kernel_rfl
theorem rY : Elem Try.prog 74 90 7 56 (.agg #[.int .i64 0, .int .i64 0, .int .i64 0, .int .i64 0, .int .i64 0, .int .i64 0, .int .i64 0]) := Elem.mk' (by kernel_rfl) (by kernel_rfl) rfl (by decide)
/-- What the map of dropped indexes holds. -/
def gl (l : List Int) : List (Int × Value) := l.map fun d => (d, Value.bool true)
theorem rM (l : List Int) (d : Int) : gl (l ++ [d]) = gl l ++ [(d, .bool true)] := by unfold gl; rw [List.map_append]; rfl
theorem sM (l : List Int) : (gl l).length = l.length := by unfold gl; simp
theorem il (l : List Int) : (gl l).map Prod.fst = l := by unfold gl; rw [List.map_map]; exact List.map_id' l
theorem lJ (l : List Int) (x : Int) : (db (gl l) x).getD (.bool false) = .bool (l.contains x) := by
 by_cases h : x ∈ l
 .
  have hc : l.contains x = true := by simpa using h
  rw [hc]
  cases hl : db (gl l) x with
  | none =>
   rw [dK, il] at hl;exact absurd h hl
  | some v =>
   have := pC hl;unfold gl at this;obtain ⟨d, _, hd⟩ := List.mem_map.1 this;injection hd with _ hd;rw [<- hd];rfl
 .
  have hc : l.contains x = false := by simpa using h
  rw [hc, dK.2 (by rw [il]; exact h)];rfl
theorem pE {l : List Int} {x : Int} (h : x ∉ l) : db (gl l) x = none := dK.2 (by rw [il]; exact h)
theorem bM {n : Nat} {ds : List Int} (h : DropOk n ds) (k : Nat) : DropOk n (ds.take k) := ⟨fun i hi => h.1 i (List.mem_of_mem_take hi), h.2.sublist (List.take_sublist _ _)⟩
theorem eV {n : Nat} {ds : List Int} {k : Nat} {d : Int} (hd : ds[k]? = some d) : DropOk n (ds.take (k + 1)) ↔ DropOk n (ds.take k) /\ 0 <= d /\ d < n /\ d ∉ ds.take k := by
 have e : ds.take (k + 1) = ds.take k ++ [d] := by rw [List.take_add_one, hd]; rfl
 unfold DropOk;rw [e, List.nodup_append];constructor
 .
  rintro ⟨h1, h2, _, h3⟩;refine ⟨⟨fun i hi => h1 i (List.mem_append_left _ hi), h2⟩, (h1 d (by simp)).1, (h1 d (by simp)).2, fun hm => h3 d hm d (by simp) rfl⟩
 .
  rintro ⟨⟨h1, h2⟩, h3, h4, h5⟩;refine ⟨fun i hi => ?_, h2, by simp, fun a ha b hb => ?_⟩
  .
   rcases List.mem_append.1 hi with h | h
   .
    exact h1 i h
   .
    simp at h; subst h; exact ⟨h3, h4⟩
  .
   simp at hb; subst hb; intro e; subst e; exact h5 ha
theorem gM (ms : List Mt) (ds : List Int) (k : Nat) : (al ds (k + 1)).map (aZ ms) = (al ds k).map (aZ ms) ++ (if ds.contains (k : Int) then [] else [aZ ms k]) := by
 rw [dW, List.map_append];split <;> rfl
theorem jK (ds : List Int) (k : Nat) : (al ds k).length <= k := by
 have := List.length_filter_le (fun i => !ds.contains ((i : Nat) : Int)) (List.range k);unfold al;rw [List.length_range] at this;exact this
theorem kC (S : Nat) (A : Option Addr) (n c : Nat) (ms : List Mt) (Ad : Option Addr) (nd cd : Nat) (ds : List Int) (w : World) (h : MsAt w A n ms) (hv : VP (S : Int) ms) (hn : ds.length = nd) (hI : Ints .i64 w Ad nd ds) (_hnd : nd <= 1000) (hb : DropOk n ds) :
  Calls Try.prog 51 #[.agg #[.int .i64 (S : Int), .slice A n c], .slice Ad nd cd] w (fun e w' => ∃ v, e = .returned (.tuple #[.agg #[.int .i64 (S : Int), v], .int .i64 0]) /\ w'.ownsRow w.heap.size 90 7 v (a9 ms ds).length (jf (a9 ms ds)) /\ Ext w w') := by
 have H := hid h;have hXe : Ext w ((w.alloc (.cells #[.int .i64 (S : Int), .slice A n c] 76)).alloc (.cells #[.int .i64 0, .slice none 0 0] 76)) := ((Ext.refl w).alloc _).alloc _;have kP : Blk ((w.alloc (.cells #[.int .i64 (S : Int), .slice A n c] 76)).alloc (.cells #[.int .i64 0, .slice none 0 0] 76)) w.heap.size 76 #[.int .i64 (S : Int), .slice A n c] := Blk.alloc (Blk.new w _ _) _;have kR : Blk ((w.alloc (.cells #[.int .i64 (S : Int), .slice A n c] 76)).alloc (.cells #[.int .i64 0, .slice none 0 0] 76)) (w.heap.size + 1) 76 #[.int .i64 0, .slice none 0 0] := Blk.at_ (by simp);have HV := hid hv;clear h hv;go_enter Try.func51, Try.ntmps51
 go_upto_region 1 with (fail)
 generalize (w.alloc _).alloc _ = w1 at hXe kP kR |-;have HX := hid hXe;have HP := hid kP;have HR := hid kR;clear hXe kP kR;have p0 := HP.out.cell 0;have p1 := HP.out.cell 1;simp only [List.getElem?_toArray, List.getElem?_cons_zero, List.getElem?_cons_succ] at p0 p1
 go_wp2_with fail
 have HI := hid hI;have HLD := hid hn;have hn64 : n <= 64 := by have := HV.out.2.2.1; have := H.out.1; omega
 clear hI hn;have HB := hid hb;clear hb;refine (bG (S : Int) A n c ms _ (H.out.ext HX.out)).mono ?_;rw [aW.2 HV.out];rintro e w2 ⟨rfl, hX⟩;replace HX := hid (HX.out.trans hX);replace HP := hid (HP.out.ext hX);replace HR := hid (HR.out.ext hX);clear hX p0 p1;have hmm := @run_makeMap Try.prog
 go_upto_region 4 with (fail)
 clear hmm;have hXa : Ext w2 (w2.alloc (.map #[] 0)) := (Ext.refl _).alloc _;have kM := MapL.made w2 Try.prog 3;have hrl := HR.out.lt;replace HX := hid (HX.out.trans hXa);replace HP := hid (HP.out.ext hXa);replace HR := hid (HR.out.ext hXa);clear hXa;generalize w2.heap.size = gm at kM hrl |-;generalize w2.alloc _ = w3 at kM HX HP HR |-;have HM := hid kM;clear kM
 go_wp2_with fail
 go_loopg [19] nd (fun fu iv wr => ∃ j : Nat, fu = nd - j /\ j <= nd /\ iv = .int .i64 (j : Int) /\ Hid (DropOk n (ds.take j)) /\ Hid (MapL Try.prog 3 wr gm (gl (ds.take j))) /\ Hid (Blk wr w.heap.size 76 #[.int .i64 (S : Int), .slice A n c]) /\ Hid (Blk wr (w.heap.size + 1) 76 #[.int .i64 0, .slice none 0 0]) /\ Hid (Ext w wr))
 case atStart => exact ⟨0, rfl, by omega, rfl, hid (DropOk.nil n), HM, HP, HR, HX⟩
 case round =>
  clear HM HP HR HX;obtain ⟨j, rfl, hj, rfl, HOK, HM, HP, HR, HX⟩ := hrel;have pl := HP.out;have p0 := pl.cell 0;have p1 := pl.cell 1;simp only [List.getElem?_toArray, List.getElem?_cons_zero, List.getElem?_cons_succ] at p0 p1;clear pl
  by_cases hlt : j < nd
  .
   have q1 : decide (j < nd) = true := decide_eq_true hlt;obtain ⟨gd, od, d, hAd, hd, hwf, x0⟩ := (HI.out.ext HX.out).get hlt;subst hAd;have hdr : -9223372036854775808 <= d /\ d <= 9223372036854775807 := by simp [Lit.wf, IntKind.min, IntKind.max, IntKind.bits, IntKind.signed] at hwf; omega
   have HSN := hid (eV (n := n) hd);have HD := hid hd;clear hd hwf;have r0 := HR.out.cell 0;have r1 := HR.out.cell 1;have f0 := HR.out.free 0;have f1 := HR.out.free 1;simp only [List.getElem?_toArray, List.getElem?_cons_zero, List.getElem?_cons_succ] at r0 r1
   by_cases h1 : d < 0
   .
    have q2 : decide (d < 0) = true := decide_eq_true h1;have HN : Hid (¬ DropOk n ds) := hid (fun h => by have := (HSN.out.1 (bM h (j + 1))).2.1; omega);clear h1 hdr;exact absurd HB.out HN.out
   .
    have q2 : decide (d < 0) = false := decide_eq_false h1
    by_cases h2 : (n : Int) <= d
    .
     have q3 : decide ((n : Int) <= d) = true := decide_eq_true h2;have HN : Hid (¬ DropOk n ds) := hid (fun h => by have := (HSN.out.1 (bM h (j + 1))).2.2.1; omega);clear h1 h2 hdr;exact absurd HB.out HN.out
    .
     have q3 : decide ((n : Int) <= d) = false := decide_eq_false h2;have q := HM.out.run_at (t := 223) eQ fX (pD _) (eP ij (x := d) hdr);rw [lJ] at q
     by_cases h3 : d ∈ ds.take j
     .
      rw [show (ds.take j).contains d = true by simpa using h3] at q;have HN : Hid (¬ DropOk n ds) := hid (fun h => (HSN.out.1 (bM h (j + 1))).2.2.2 h3);clear h1 h2 h3 hdr;exact absurd HB.out HN.out
     .
      rw [show (ds.take j).contains d = false by simpa using h3] at q;have HO2 : Hid (DropOk n (ds.take (j + 1))) := hid (HSN.out.2 ⟨HOK.out, by omega, by omega, h3⟩);have HLN := hid (pE h3);have hlen : (gl (ds.take j)).length <= j := by rw [sM, List.length_take]; omega
      clear h1 h2 h3 r0 r1 f0 f1
      go_upto_region 9 with (fail)
      clear q p0 p1 x0
      go_wp2_with (at_mapUpdate; refine fW _ rfl _ _ _ 223 rfl 4 eQ ij fX rfl HM.out (by unfold maxLen; omega) d (.bool true) rfl rfl hdr HLN.out ?_; intro w8 hm8 hg8; have HM8 := hid hm8; have HG8 := hid hg8; clear hm8 hg8)
      go_roundg (nd - (j + 1))
      case rel =>
       refine ⟨j + 1, rfl, by omega, by go_num, HO2, hid ?_, hid (HP.out.grown HG8.out (by simp; omega)), hid (HR.out.grown HG8.out (by simp; omega)), hid (HX.out.grown HG8.out (fun b hb => by injection hb with hb; omega))⟩;rw [show ds.take (j + 1) = ds.take j ++ [d] by rw [List.take_add_one, HD.out]; rfl, rM];exact HM8.out
      case measure => omega
  .
   obtain rfl : nd = j := by omega
   have q1 : decide (nd < nd) = false := by simp
   have HDT : Hid (ds.take nd = ds) := hid (List.take_of_length_le (by have := HLD.out; omega));rw [HDT.out] at HM;clear HOK HDT
   go_upto_region 12 with (fail)
   have hXa : Ext wr (wr.alloc (.cells #[.int .i64 (S : Int), .slice none 0 0] 76)) := (Ext.refl _).alloc _;have kQ := Blk.new wr 76 #[.int .i64 (S : Int), .slice none 0 0];have hml := HM.out.lt;replace HX := hid (HX.out.trans hXa);replace HP := hid (HP.out.ext hXa);replace HR := hid (HR.out.ext hXa);replace HM := hid (HM.out.ext hXa);clear hXa p0 p1;generalize wr.heap.size = gq at kQ hml |-;generalize wr.alloc _ = w4 at kQ HX HP HR HM |-;have HQ := hid kQ;clear kQ;have pl := HP.out;have p0 := pl.cell 0;have p1 := pl.cell 1;simp only [List.getElem?_toArray, List.getElem?_cons_zero, List.getElem?_cons_succ] at p0 p1;clear pl
   go_wp2_with fail
   clear p0 p1
   go_loopg [47] n (fun fu iv wz => ∃ (k : Nat) (ov : Value), fu = n - k /\ k <= n /\ iv = .int .i64 (k : Int) /\ Hid (wz.ownsRow (gq + 1) 90 7 ov (al ds k).length (jf ((al ds k).map (aZ ms)))) /\ Hid (Blk wz gq 76 #[.int .i64 (S : Int), ov]) /\ Hid (MapL Try.prog 3 wz gm (gl ds)) /\ Hid (Blk wz (w.heap.size + 1) 76 #[.int .i64 0, .slice none 0 0]) /\ Hid (Ext w wz))
   case atStart => exact ⟨0, .slice none 0 0, rfl, by omega, rfl, hid (World.ownsRow_nil _ _ _ _), HQ, HM, HR, HX⟩
   case round =>
    clear HQ HM HR HX;obtain ⟨k, ov, rfl, hk, rfl, HO, HQ, HM, HR, HX⟩ := hrel;obtain ⟨Ao, co, rfl⟩ := ak HO.out
    by_cases hkn : k < n
    .
     have q2 : decide (k < n) = true := decide_eq_true hkn;obtain ⟨gp, op, ⟨a, b, x, y, z, dd, ww⟩, rfl, hm, hmem, x0, x1, x2, x3, x4, x5, x6⟩ := (H.out.ext HX.out).get hkn;simp only at x0 x1 x2 x3 x4 x5 x6;have HMK : Hid (aZ ms k = ⟨a, b, x, y, z, dd, ww⟩) := hid (by unfold aZ; rw [hm]; rfl);have HKM := hid (gM ms ds k);have HKL := hid (dW ds k);clear hm hmem
     go_upto_region 15 with (fail)
     have hXa : Ext wr (wr.alloc (.cells #[.int .i64 a, .int .i64 b, .int .i64 x, .int .i64 y, .int .i64 z, .int .i64 dd, .int .i64 ww] 90)) := (Ext.refl _).alloc _;have kB := Blk.new wr 90 #[.int .i64 a, .int .i64 b, .int .i64 x, .int .i64 y, .int .i64 z, .int .i64 dd, .int .i64 ww];have hql := HQ.out.lt;replace HX := hid (HX.out.trans hXa);replace HO := hid (World.ownsRow.ext' HO.out hXa);replace HQ := hid (HQ.out.ext hXa);replace HR := hid (HR.out.ext hXa);replace HM := hid (HM.out.ext hXa);clear hXa x0 x1 x2 x3 x4 x5 x6;generalize wr.heap.size = gx at kB hql |-;generalize wr.alloc _ = w5 at kB HX HO HQ HR HM |-;have HBX := hid kB;clear kB;have q := HM.out.run_at (t := 223) eQ fX (pD _) (eP ij (x := (k : Int)) (by omega));rw [lJ] at q;obtain ⟨cb, hcb⟩ : ∃ cb, ds.contains (k : Int) = cb := ⟨_, rfl⟩;rw [hcb] at q HKM HKL;clear hcb
     by_cases hc : cb = true
     .
      subst hc;have HK1 : Hid ((al ds (k + 1)).map (aZ ms) = (al ds k).map (aZ ms)) := hid (by rw [HKM.out]; simp);have HK2 : Hid ((al ds (k + 1)).length = (al ds k).length) := hid (by rw [HKL.out]; simp);clear HKM HKL;go_wp2;go_roundg (n - (k + 1))
      case rel =>
       refine ⟨k + 1, _, rfl, by omega, by go_num, hid ?_, HQ, HM, HR, HX⟩;rw [HK1.out, HK2.out];exact HO.out
      case measure => omega
     .
      obtain rfl : cb = false := by simpa using hc
      clear hc
      go_upto_region 16 with (fail)
      clear q;have HK1 : Hid ((al ds (k + 1)).map (aZ ms) = (al ds k).map (aZ ms) ++ [⟨a, b, x, y, z, dd, ww⟩]) := hid (by rw [HKM.out, HMK.out]; rfl);have HK2 : Hid ((al ds (k + 1)).length = (al ds k).length + 1) := hid (by rw [HKL.out]; simp);obtain ⟨lk, hlk⟩ : ∃ lk, (al ds k).length = lk := ⟨_, rfl⟩;have hlk64 : lk <= 64 := by have := jK ds k; omega
      have HLK := hid hlk;rw [hlk] at HO HQ HK2;clear HKM HKL hlk;have y0 := HBX.out.cell 0;have y1 := HBX.out.cell 1;have y2 := HBX.out.cell 2;have y3 := HBX.out.cell 3;have y4 := HBX.out.cell 4;have y5 := HBX.out.cell 5;have y6 := HBX.out.cell 6;simp only [List.getElem?_toArray, List.getElem?_cons_zero, List.getElem?_cons_succ] at y0 y1 y2 y3 y4 y5 y6;have o1 := HQ.out.cell 1;have hgxw := HBX.out.lt;simp only [List.getElem?_toArray, List.getElem?_cons_zero, List.getElem?_cons_succ] at o1
      go_wp2_with (at_builtin; refine ao _ rY rfl _ _ rfl (gq + 1) (.slice Ao lk co) lk _ rfl (HO.out.alloc _) _ 1 1 [.int .i64 a, .int .i64 b, .int .i64 x, .int .i64 y, .int .i64 z, .int .i64 dd, .int .i64 ww] rfl rfl (At.new' _ [_, _, _, _, _, _, _] _ rfl) (by simp [Value.oneCell']) (by omega) (by unfold maxLen; omega) (by simp; omega) ?_; intro v8 w8 hown8 hgr8 _; have HG8 := hid hgr8; have HO8 := hid hown8; have hB8 := (HQ.out.alloc _).grown hgr8 (fun e => aQ HO.out HQ.out (by decide) e.symm); have o0' := hB8.cell 1; have o1' := hB8.free 1; have HB8 := hid hB8; simp only [List.getElem?_toArray, List.getElem?_cons_zero, List.getElem?_cons_succ] at o0'; obtain ⟨Ao8, co8, rfl⟩ := ak hown8; clear hgr8 hown8 hB8)
      go_roundg (n - (k + 1))
      case rel =>
       have hkw : Keeps [gq] w8 (w8.setCell ⟨gq, 1, none⟩ (.slice Ao8 (lk + 1) co8)) := (Keeps.refl [gq] w8).setCell (.inl (by simp)) _;have hgl : ∀ g, (Value.slice Ao lk co).ownBlock = some g -> gq < g := fun g hg => by have := (HO.out.lt g hg).1; omega
       refine ⟨k + 1, .slice Ao8 (lk + 1) co8, rfl, by omega, by go_num, hid ?_, hid ?_, hid (((HM.out.ext ((Ext.refl _).alloc _)).kept HG8.out (fun e => by have := hgl _ e.symm; omega)).setCell (by simp only; omega) _), hid (((HR.out.alloc _).grown HG8.out (fun e => by have := hgl _ e.symm; omega)).far (by simp only; omega) _), hid (((HX.out.alloc _).grown HG8.out (fun b hb => by have := hgl _ hb; omega)).setCell (by simp only; omega) _)⟩
       .
        rw [HK1.out, HK2.out, jg];exact ag HO8.out hkw (fun g hg hl => by simp at hl; subst hl; exact aQ HO8.out HB8.out (by decide) hg)
       .
        have := HB8.out.set 1 (.slice Ao8 (lk + 1) co8)
        simpa using this
      case measure => omega
    .
     obtain rfl : n = k := by omega
     have q2 : decide (n < n) = false := by simp
     have HWO : Hid ((al ds n).map (aZ ms) = a9 ms ds /\ (al ds n).length = (a9 ms ds).length) := hid (by unfold a9; rw [H.out.1, List.length_map]; exact ⟨rfl, rfl⟩);rw [HWO.out.1, HWO.out.2] at HO;obtain ⟨lk, hlk⟩ : ∃ lk, (a9 ms ds).length = lk := ⟨_, rfl⟩;rw [hlk] at HO;rw [HWO.out.2, hlk] at HQ;clear HWO;have HLK := hid hlk;clear hlk;have r0 := HR.out.cell 0;have r1 := HR.out.cell 1;have f0 := HR.out.free 0;have f1 := HR.out.free 1;simp only [List.getElem?_toArray, List.getElem?_cons_zero, List.getElem?_cons_succ] at r0 r1;have o0 := HQ.out.cell 0;have o1 := HQ.out.cell 1;simp only [List.getElem?_toArray, List.getElem?_cons_zero, List.getElem?_cons_succ] at o0 o1;go_wp2;refine bodyPost_ret (v := .tuple #[.agg #[.int .i64 (S : Int), .slice Ao lk co], .int .i64 0]) (by simp [results, Try.results51, go_sem, *]) rfl ?_;refine ⟨.slice Ao lk co, rfl, ?_, (HX.out.setCell (p := ⟨w.heap.size + 1, 0, none⟩) (by simp only; omega) _).setCell (p := ⟨w.heap.size + 1, 1, none⟩) (by simp only; omega) _⟩;have hkw : Keeps [w.heap.size + 1] wr ((wr.setCell ⟨w.heap.size + 1, 0, none⟩ (.int .i64 (S : Int))).setCell ⟨w.heap.size + 1, 1, none⟩ (.slice Ao lk co)) := ((Keeps.refl [w.heap.size + 1] wr).setCell (.inl (by simp)) _).setCell (.inl (by simp)) _;rw [HLK.out];exact ag (World.ownsRow.mono' HO.out (show w.heap.size <= gq + 1 by omega)) hkw (fun g hg hl => by have := (HO.out.lt g hg).1; simp at hl; omega)
theorem Keeps.cell {L : List Nat} {w W : World} {q : Addr} {v : Value} (hk : Keeps L w W) (h : w.cell? q = some v) (hn : q.block ∉ L) : W.cell? q = some v := by
 rw [<- h];exact World.cell?_of_block (w := w) (hk.block _ (World.block_lt_of_cell? w _ h) hn)
theorem nm {base g n : Nat} {w : World} {f : Nat -> Bool} (h : BoolR base w (.slice (some ⟨g, 0, none⟩) n n) n f) {j : Nat} (b : Bool) : BoolR base (w.setCell ⟨g, j, none⟩ (.bool b)) (.slice (some ⟨g, 0, none⟩) n n) n (fun i => if i = j then b else f i) := by
 have h' := bx (i := j) (u := .bool b) h
 have e : ((List.range n).map fun i => Value.bool (f i)).set j (.bool b) = (List.range n).map fun i => Value.bool (if i = j then b else f i) := by
  apply List.ext_getElem
  .
   simp
  .
   intro i h1 h2;rw [List.getElem_set];simp only [List.getElem_map, List.getElem_range]
   by_cases e : j = i
   .
    rw [if_pos e, if_pos e.symm]
   .
    rw [if_neg e, if_neg (Ne.symm e)]
 unfold BoolR;rw [<- e];exact h'
theorem fY {base g n : Nat} {w : World} {f : Nat -> Bool} (h : BoolR base w (.slice (some ⟨g, 0, none⟩) n n) n f) {j : Nat} (hj : j < n) : w.cell? ⟨g, j, none⟩ = some (.bool (f j)) :=
 af h (by rw [List.getElem?_map, List.getElem?_range hj]; rfl)
theorem kE {base g n : Nat} {w : World} {f : Nat -> Bool} (h : BoolR base w (.slice (some ⟨g, 0, none⟩) n n) n f) (j : Nat) : w.frozen? ⟨g, j, none⟩ = false := aN h j
theorem jL {base n : Nat} {w : World} {v : Value} {f h : Nat -> Bool} (k : BoolR base w v n f) (e : ∀ j, j < n -> f j = h j) : BoolR base w v n h := by
 unfold BoolR at k |-;rw [show ((List.range n).map fun j => Value.bool (h j)) = (List.range n).map fun j => Value.bool (f j) from List.map_congr_left (fun j hj => by rw [e j (List.mem_range.1 hj)])];exact k
theorem rN (base gq gp gm om nn cc kk lk co : Nat) (Ao : Option Addr) (xs : List Value) (ma mb mx my mz md mw : Int) (w : World) (hown : w.ownsRow base 90 7 (.slice Ao lk co) lk xs) (qv : w.cell? ⟨gq, 1, none⟩ = some (.slice Ao lk co)) (pv : w.cell? ⟨gp, 1, none⟩ = some (.slice (some ⟨gm, om, none⟩) nn cc)) (v0 : w.cell? ⟨gm, om + kk * 7, none⟩ = some (.int .i64 (ma))) (v1 : w.cell? ⟨gm, om + kk * 7 + 1, none⟩ = some (.int .i64 (mb))) (v2 : w.cell? ⟨gm, om + kk * 7 + 2, none⟩ = some (.int .i64 (mx))) (v3 : w.cell? ⟨gm, om + kk * 7 + 3, none⟩ = some (.int .i64 (my))) (v4 : w.cell? ⟨gm, om + kk * 7 + 4, none⟩ = some (.int .i64 (mz))) (v5 : w.cell? ⟨gm, om + kk * 7 + 5, none⟩ = some (.int .i64 (md))) (v6 : w.cell? ⟨gm, om + kk * 7 + 6, none⟩ = some (.int .i64 (mw))) (hq1 : gq ∉ (Value.slice Ao lk co).ownBlock.toList) (hp1 : gp ∉ (Value.slice Ao lk co).ownBlock.toList) (hm1 : gm ∉ (Value.slice Ao lk co).ownBlock.toList) (_hkn : kk < nn) (_hlk : lk <= 200) (_hbase : base <= w.heap.size) (a : Act) (Q : Exit -> Act -> World -> Prop) (hsize : 75 <= a.tmps.size)
  (s2 : a.tmps[2]? = some (.pointer (some ⟨gp, 0, none⟩)))
  (s8 : a.tmps[8]? = some (.pointer (some ⟨gq, 0, none⟩)))
  (s9 : a.tmps[9]? = some (.int .i64 (kk : Int)))
  (hend : ∀ (xv0 xv1 xv2 xv3 xv4 xv5 xv6 xv7 xv8 xv9 : Value) (W : World), (xv0 = .pointer (some ⟨gq, 1, none⟩)) -> (xv1 = .slice Ao lk co) -> (xv2 = .pointer (some ⟨gp, 1, none⟩)) -> (xv3 = .slice (some ⟨gm, om, none⟩) nn cc) -> (xv4 = .int .i64 (kk : Int)) -> (xv5 = .pointer (some ⟨gm, om + kk * 7, none⟩)) -> (xv6 = .agg #[.int .i64 (ma), .int .i64 (mb), .int .i64 (mx), .int .i64 (my), .int .i64 (mz), .int .i64 (md), .int .i64 (mw)]) -> ((W.ownsRow base 90 7 (xv8) (lk + 1) (xs ++ [.int .i64 (ma), .int .i64 (mb), .int .i64 (mx), .int .i64 (my), .int .i64 (mz), .int .i64 (md), .int .i64 (mw)]) /\ ((xv8).ownBlock = (Value.slice Ao lk co).ownBlock \/ ∃ g, (xv8).ownBlock = some g /\ w.heap.size <= g))) -> (xv9 = .pointer (some ⟨gq, 1, none⟩)) -> Keeps ((Value.slice Ao lk co).ownBlock.toList) w W -> wpList Try.prog (ae Try.f52 13).toArray Q ((ae Try.f52 13).drop 10) ((((((((((a.put (some 65) xv0).put (some 66) xv1).put (some 67) xv2).put (some 68) xv3).put (some 69) xv4).put (some 70) xv5).put (some 71) xv6).put (some 72) xv7).put (some 73) xv8).put (some 74) xv9) W) :
  (Code.region 13 (ae Try.f52 13).toArray true).wp Try.prog Q a w := by
 have hsz : ∀ d, some d ∈ ([some 65, some 66, some 67, some 68, some 69, some 70, some 71, some 72, some 73, some 74] : List (Option Tmp)) -> d < a.tmps.size := bE (by decide) hsize;refine dx 10 [some 65, some 66, some 67, some 68, some 69, some 70, some 71, some 72, some 73, some 74] [[], [0], [], [2], [], [3, 4], [5], [6], [1, 7], []] [[], [], [], [], [], [], [], [], [], []] (fun (done : Nat -> Prop) (us : Nat -> Value) (W : World) => Keeps ((Value.slice Ao lk co).ownBlock.toList) w W /\ (¬ done 8 -> Ext w W) /\ (done 0 -> us 0 = .pointer (some ⟨gq, 1, none⟩)) /\ (done 1 -> us 1 = .slice Ao lk co) /\ (done 2 -> us 2 = .pointer (some ⟨gp, 1, none⟩)) /\ (done 3 -> us 3 = .slice (some ⟨gm, om, none⟩) nn cc) /\ (done 4 -> us 4 = .int .i64 (kk : Int)) /\ (done 5 -> us 5 = .pointer (some ⟨gm, om + kk * 7, none⟩)) /\ (done 6 -> us 6 = .agg #[.int .i64 (ma), .int .i64 (mb), .int .i64 (mx), .int .i64 (my), .int .i64 (mz), .int .i64 (md), .int .i64 (mw)]) /\ (done 7 -> ¬ done 8 -> ∃ g, us 7 = .slice (some ⟨g, 0, none⟩) 1 1 /\ w.heap.size <= g /\ Blk W g 90 #[.int .i64 (ma), .int .i64 (mb), .int .i64 (mx), .int .i64 (my), .int .i64 (mz), .int .i64 (md), .int .i64 (mw)]) /\ (done 8 -> (W.ownsRow base 90 7 (us 8) (lk + 1) (xs ++ [.int .i64 (ma), .int .i64 (mb), .int .i64 (mx), .int .i64 (my), .int .i64 (mz), .int .i64 (md), .int .i64 (mw)]) /\ ((us 8).ownBlock = (Value.slice Ao lk co).ownBlock \/ ∃ g, (us 8).ownBlock = some g /\ w.heap.size <= g))) /\ (done 9 -> us 9 = .pointer (some ⟨gq, 1, none⟩))) (by kernel_rfl) (by kernel_rfl) hsz (fun p q us W h => by have e : p = q := funext fun k => propext (h k); rw [e]; exact id) (fun us => ⟨(Keeps.refl _ w).drew, fun _ => (Ext.refl w).drew, fun h => h.elim, fun h => h.elim, fun h => h.elim, fun h => h.elim, fun h => h.elim, fun h => h.elim, fun h => h.elim, fun h => h.elim, fun h => h.elim, fun h => h.elim⟩) ?_ ?_
 .
  clear hend;simp only [ae, Try.f52, ab, Option.bind_some, Nat.reduceBEq, if_true, if_false, Bool.false_eq_true, Option.getD_some];simp only [List.take_succ_cons, List.take_zero];refine ⟨?_, ?_, ?_, ?_, ?_, ?_, ?_, ?_, ?_, ?_, trivial⟩
  .
   intro done us W hJ hdep haft hnot b hb hb' K hK Q';obtain ⟨hX0, hE0, cc0, cc1, cc2, cc3, cc4, cc5, cc6, cc7, cc8, cc9⟩ := hJ;have e8 := (hb' 8 (by simp)).trans s8;clear hb hb';have hfin := hK (.pointer (some ⟨gq, 1, none⟩)) _ ⟨hX0, fun h => hE0 (fun d => h (.inl d)), fun _ => rfl, fun h => cc1 (h.resolve_right (by decide)), fun h => cc2 (h.resolve_right (by decide)), fun h => cc3 (h.resolve_right (by decide)), fun h => cc4 (h.resolve_right (by decide)), fun h => cc5 (h.resolve_right (by decide)), fun h => cc6 (h.resolve_right (by decide)), fun h h8 => (cc7 (h.resolve_right (by decide)) (fun d => h8 (.inl d))), fun h => (cc8 (h.resolve_right (by decide))), fun h => cc9 (h.resolve_right (by decide))⟩;clear hK hE0 cc0 cc1 cc2 cc3 cc4 cc5 cc6 cc7 cc8 cc9;go_simp;exact hfin
  .
   intro done us W hJ hdep haft hnot b hb hb' K hK Q';obtain ⟨hX0, hE0, cc0, cc1, cc2, cc3, cc4, cc5, cc6, cc7, cc8, cc9⟩ := hJ;simp only [List.getD_cons_succ, List.getD_cons_zero, List.mem_cons, List.not_mem_nil, or_false, forall_eq] at hdep;have e65 := hb 0 65 rfl;rw [cc0 hdep] at e65;clear hb hb';have z0 := hX0.cell qv hq1;have hfin := hK (.slice Ao lk co) _ ⟨hX0, fun h => hE0 (fun d => h (.inl d)), fun h => cc0 (h.resolve_right (by decide)), fun _ => rfl, fun h => cc2 (h.resolve_right (by decide)), fun h => cc3 (h.resolve_right (by decide)), fun h => cc4 (h.resolve_right (by decide)), fun h => cc5 (h.resolve_right (by decide)), fun h => cc6 (h.resolve_right (by decide)), fun h h8 => (cc7 (h.resolve_right (by decide)) (fun d => h8 (.inl d))), fun h => (cc8 (h.resolve_right (by decide))), fun h => cc9 (h.resolve_right (by decide))⟩;clear hK hE0 cc0 cc1 cc2 cc3 cc4 cc5 cc6 cc7 cc8 cc9;go_simp;exact hfin
  .
   intro done us W hJ hdep haft hnot b hb hb' K hK Q';obtain ⟨hX0, hE0, cc0, cc1, cc2, cc3, cc4, cc5, cc6, cc7, cc8, cc9⟩ := hJ;have e2 := (hb' 2 (by simp)).trans s2;clear hb hb';have hfin := hK (.pointer (some ⟨gp, 1, none⟩)) _ ⟨hX0, fun h => hE0 (fun d => h (.inl d)), fun h => cc0 (h.resolve_right (by decide)), fun h => cc1 (h.resolve_right (by decide)), fun _ => rfl, fun h => cc3 (h.resolve_right (by decide)), fun h => cc4 (h.resolve_right (by decide)), fun h => cc5 (h.resolve_right (by decide)), fun h => cc6 (h.resolve_right (by decide)), fun h h8 => (cc7 (h.resolve_right (by decide)) (fun d => h8 (.inl d))), fun h => (cc8 (h.resolve_right (by decide))), fun h => cc9 (h.resolve_right (by decide))⟩;clear hK hE0 cc0 cc1 cc2 cc3 cc4 cc5 cc6 cc7 cc8 cc9;go_simp;exact hfin
  .
   intro done us W hJ hdep haft hnot b hb hb' K hK Q';obtain ⟨hX0, hE0, cc0, cc1, cc2, cc3, cc4, cc5, cc6, cc7, cc8, cc9⟩ := hJ;simp only [List.getD_cons_succ, List.getD_cons_zero, List.mem_cons, List.not_mem_nil, or_false, forall_eq] at hdep;have e67 := hb 2 67 rfl;rw [cc2 hdep] at e67;clear hb hb';have z0 := hX0.cell pv hp1;have hfin := hK (.slice (some ⟨gm, om, none⟩) nn cc) _ ⟨hX0, fun h => hE0 (fun d => h (.inl d)), fun h => cc0 (h.resolve_right (by decide)), fun h => cc1 (h.resolve_right (by decide)), fun h => cc2 (h.resolve_right (by decide)), fun _ => rfl, fun h => cc4 (h.resolve_right (by decide)), fun h => cc5 (h.resolve_right (by decide)), fun h => cc6 (h.resolve_right (by decide)), fun h h8 => (cc7 (h.resolve_right (by decide)) (fun d => h8 (.inl d))), fun h => (cc8 (h.resolve_right (by decide))), fun h => cc9 (h.resolve_right (by decide))⟩;clear hK hE0 cc0 cc1 cc2 cc3 cc4 cc5 cc6 cc7 cc8 cc9;go_simp;exact hfin
  .
   intro done us W hJ hdep haft hnot b hb hb' K hK Q';obtain ⟨hX0, hE0, cc0, cc1, cc2, cc3, cc4, cc5, cc6, cc7, cc8, cc9⟩ := hJ;have e9 := (hb' 9 (by simp)).trans s9;clear hb hb';have hfin := hK (.int .i64 (kk : Int)) _ ⟨hX0, fun h => hE0 (fun d => h (.inl d)), fun h => cc0 (h.resolve_right (by decide)), fun h => cc1 (h.resolve_right (by decide)), fun h => cc2 (h.resolve_right (by decide)), fun h => cc3 (h.resolve_right (by decide)), fun _ => rfl, fun h => cc5 (h.resolve_right (by decide)), fun h => cc6 (h.resolve_right (by decide)), fun h h8 => (cc7 (h.resolve_right (by decide)) (fun d => h8 (.inl d))), fun h => (cc8 (h.resolve_right (by decide))), fun h => cc9 (h.resolve_right (by decide))⟩;clear hK hE0 cc0 cc1 cc2 cc3 cc4 cc5 cc6 cc7 cc8 cc9;go_simp;exact hfin
  .
   intro done us W hJ hdep haft hnot b hb hb' K hK Q';obtain ⟨hX0, hE0, cc0, cc1, cc2, cc3, cc4, cc5, cc6, cc7, cc8, cc9⟩ := hJ;simp only [List.getD_cons_succ, List.getD_cons_zero, List.mem_cons, List.not_mem_nil, or_false, forall_eq_or_imp, forall_eq] at hdep;have e68 := hb 3 68 rfl;rw [cc3 hdep.1] at e68;have e69 := hb 4 69 rfl;rw [cc4 hdep.2] at e69;clear hb hb';have hfin := hK (.pointer (some ⟨gm, om + kk * 7, none⟩)) _ ⟨hX0, fun h => hE0 (fun d => h (.inl d)), fun h => cc0 (h.resolve_right (by decide)), fun h => cc1 (h.resolve_right (by decide)), fun h => cc2 (h.resolve_right (by decide)), fun h => cc3 (h.resolve_right (by decide)), fun h => cc4 (h.resolve_right (by decide)), fun _ => rfl, fun h => cc6 (h.resolve_right (by decide)), fun h h8 => (cc7 (h.resolve_right (by decide)) (fun d => h8 (.inl d))), fun h => (cc8 (h.resolve_right (by decide))), fun h => cc9 (h.resolve_right (by decide))⟩;clear hK hE0 cc0 cc1 cc2 cc3 cc4 cc5 cc6 cc7 cc8 cc9;go_simp;exact hfin
  .
   intro done us W hJ hdep haft hnot b hb hb' K hK Q';obtain ⟨hX0, hE0, cc0, cc1, cc2, cc3, cc4, cc5, cc6, cc7, cc8, cc9⟩ := hJ;simp only [List.getD_cons_succ, List.getD_cons_zero, List.mem_cons, List.not_mem_nil, or_false, forall_eq] at hdep;have e70 := hb 5 70 rfl;rw [cc5 hdep] at e70;clear hb hb';have z0 := hX0.cell v0 hm1;have z1 := hX0.cell v1 hm1;have z2 := hX0.cell v2 hm1;have z3 := hX0.cell v3 hm1;have z4 := hX0.cell v4 hm1;have z5 := hX0.cell v5 hm1;have z6 := hX0.cell v6 hm1;have hfin := hK (.agg #[.int .i64 (ma), .int .i64 (mb), .int .i64 (mx), .int .i64 (my), .int .i64 (mz), .int .i64 (md), .int .i64 (mw)]) _ ⟨hX0, fun h => hE0 (fun d => h (.inl d)), fun h => cc0 (h.resolve_right (by decide)), fun h => cc1 (h.resolve_right (by decide)), fun h => cc2 (h.resolve_right (by decide)), fun h => cc3 (h.resolve_right (by decide)), fun h => cc4 (h.resolve_right (by decide)), fun h => cc5 (h.resolve_right (by decide)), fun _ => rfl, fun h h8 => (cc7 (h.resolve_right (by decide)) (fun d => h8 (.inl d))), fun h => (cc8 (h.resolve_right (by decide))), fun h => cc9 (h.resolve_right (by decide))⟩;clear hK hE0 cc0 cc1 cc2 cc3 cc4 cc5 cc6 cc7 cc8 cc9;go_simp;exact hfin
  .
   intro done us W hJ hdep haft hnot b hb hb' K hK Q';obtain ⟨hX0, hE0, cc0, cc1, cc2, cc3, cc4, cc5, cc6, cc7, cc8, cc9⟩ := hJ;simp only [List.getD_cons_succ, List.getD_cons_zero, List.mem_cons, List.not_mem_nil, or_false, forall_eq] at hdep;have e71 := hb 6 71 rfl;rw [cc6 hdep] at e71;clear hb hb';have hX := (Ext.refl W).alloc (.cells #[.int .i64 (ma), .int .i64 (mb), .int .i64 (mx), .int .i64 (my), .int .i64 (mz), .int .i64 (md), .int .i64 (mw)] 90);have hn := Blk.new W 90 #[.int .i64 (ma), .int .i64 (mb), .int .i64 (mx), .int .i64 (my), .int .i64 (mz), .int .i64 (md), .int .i64 (mw)];have hlo := hX0.size;go_simp;exact hK _ _ ⟨hX0.trans (.of_ext hX _), fun h => (hE0 (fun d => h (.inl d))).trans hX, fun h => cc0 (h.resolve_right (by decide)), fun h => cc1 (h.resolve_right (by decide)), fun h => cc2 (h.resolve_right (by decide)), fun h => cc3 (h.resolve_right (by decide)), fun h => cc4 (h.resolve_right (by decide)), fun h => cc5 (h.resolve_right (by decide)), fun h => cc6 (h.resolve_right (by decide)), fun _ _ => ⟨_, rfl, hlo, hn⟩, fun h => ⟨World.ownsRow.ext' (cc8 (h.resolve_right (by decide))).1 hX, (cc8 (h.resolve_right (by decide))).2⟩, fun h => cc9 (h.resolve_right (by decide))⟩
  .
   intro done us W hJ hdep haft hnot b hb hb' K hK Q';obtain ⟨hX0, hE0, cc0, cc1, cc2, cc3, cc4, cc5, cc6, cc7, cc8, cc9⟩ := hJ;simp only [List.getD_cons_succ, List.getD_cons_zero, List.mem_cons, List.not_mem_nil, or_false, forall_eq_or_imp, forall_eq] at hdep;have e66 := hb 1 66 rfl;rw [cc1 hdep.1] at e66;have e72 := hb 7 72 rfl;clear hb hb';obtain ⟨g', e', hg', hb1⟩ := cc7 hdep.2 hnot;rw [e'] at e72;have hlow := hX0.size;obtain ⟨v', W', q, ho, hG, hv⟩ := kK (P := Try.prog) W rY 74 base (Value.slice Ao lk co) lk xs (World.ownsRow.ext' hown (hE0 hnot)) (some ⟨g', 0, none⟩) 1 1 [.int .i64 (ma), .int .i64 (mb), .int .i64 (mx), .int .i64 (my), .int .i64 (mz), .int .i64 (md), .int .i64 (mw)] rfl (fun _ => ⟨g', 0, rfl, fun j y hy => by rw [Nat.zero_add]; exact (hb1.cell j).trans (by rw [List.getElem?_toArray]; exact hy)⟩) (by simp [Value.oneCell']) (by omega) (by unfold maxLen; omega) (by omega);have hk := aG hG;have hv2 : v'.ownBlock = (Value.slice Ao lk co).ownBlock \/ ∃ g, v'.ownBlock = some g /\ w.heap.size <= g := hv.imp_right fun e => ⟨_, e, hlow⟩
   exact ig rfl rfl e66 e72 q (hK _ _ ⟨hX0.trans hk, fun h => absurd (.inr rfl) h, fun h => cc0 (h.resolve_right (by decide)), fun h => cc1 (h.resolve_right (by decide)), fun h => cc2 (h.resolve_right (by decide)), fun h => cc3 (h.resolve_right (by decide)), fun h => cc4 (h.resolve_right (by decide)), fun h => cc5 (h.resolve_right (by decide)), fun h => cc6 (h.resolve_right (by decide)), fun _ h => absurd (.inr rfl) h, fun _ => ⟨ho, hv2⟩, fun h => cc9 (h.resolve_right (by decide))⟩)
  .
   intro done us W hJ hdep haft hnot b hb hb' K hK Q';obtain ⟨hX0, hE0, cc0, cc1, cc2, cc3, cc4, cc5, cc6, cc7, cc8, cc9⟩ := hJ;have e8 := (hb' 8 (by simp)).trans s8;clear hb hb';have hfin := hK (.pointer (some ⟨gq, 1, none⟩)) _ ⟨hX0, fun h => hE0 (fun d => h (.inl d)), fun h => cc0 (h.resolve_right (by decide)), fun h => cc1 (h.resolve_right (by decide)), fun h => cc2 (h.resolve_right (by decide)), fun h => cc3 (h.resolve_right (by decide)), fun h => cc4 (h.resolve_right (by decide)), fun h => cc5 (h.resolve_right (by decide)), fun h => cc6 (h.resolve_right (by decide)), fun h h8 => (cc7 (h.resolve_right (by decide)) (fun d => h8 (.inl d))), fun h => (cc8 (h.resolve_right (by decide))), fun _ => rfl⟩;clear hK hE0 cc0 cc1 cc2 cc3 cc4 cc5 cc6 cc7 cc8 cc9;go_simp;exact hfin
 .
  intro us W hJ;obtain ⟨hX0, hE0, cc0, cc1, cc2, cc3, cc4, cc5, cc6, cc7, cc8, cc9⟩ := hJ;exact hend (us 0) (us 1) (us 2) (us 3) (us 4) (us 5) (us 6) (us 7) (us 8) (us 9) W (cc0 (show 0 < 10 by decide)) (cc1 (show 1 < 10 by decide)) (cc2 (show 2 < 10 by decide)) (cc3 (show 3 < 10 by decide)) (cc4 (show 4 < 10 by decide)) (cc5 (show 5 < 10 by decide)) (cc6 (show 6 < 10 by decide)) (cc8 (show 8 < 10 by decide)) (cc9 (show 9 < 10 by decide)) hX0
theorem im (S : Int) (A : Option Addr) (n c : Nat) (ms : List Mt) (Ad : Option Addr) (nd cd : Nat) (ds : List Int) (w : World) (h : MsAt w A n ms) (hn : ds.length = nd) (hI : Ints .i64 w Ad nd ds) (_hnd : nd <= 1000) (_hn2 : n <= 200) :
  Calls Try.prog 52 #[.agg #[.int .i64 S, .slice A n c], .slice Ad nd cd] w (fun e w' => (DropOk n ds -> ∃ v, e = .returned (.tuple #[.agg #[.int .i64 S, v], .bool true]) /\ w'.ownsRow w.heap.size 90 7 v (a9 ms ds).length (jf (a9 ms ds))) /\ (¬ DropOk n ds -> e = .returned (.tuple #[.agg #[.int .i64 0, .slice none 0 0], .bool false])) /\ Ext w w') := by
 have H := hid h;have HI := hid hI;have HLD := hid hn;have hXe : Ext w ((w.alloc (.cells #[.int .i64 S, .slice A n c] 76)).alloc (.cells #[.int .i64 0, .slice none 0 0] 76)) := ((Ext.refl w).alloc _).alloc _;have kP : Blk ((w.alloc (.cells #[.int .i64 S, .slice A n c] 76)).alloc (.cells #[.int .i64 0, .slice none 0 0] 76)) w.heap.size 76 #[.int .i64 S, .slice A n c] := Blk.alloc (Blk.new w _ _) _;have kR : Blk ((w.alloc (.cells #[.int .i64 S, .slice A n c] 76)).alloc (.cells #[.int .i64 0, .slice none 0 0] 76)) (w.heap.size + 1) 76 #[.int .i64 0, .slice none 0 0] := Blk.at_ (by simp);clear h hI hn;go_enter Try.func52, Try.ntmps52
 go_upto_region 1 with (fail)
 generalize (w.alloc _).alloc _ = w1 at hXe kP kR |-;have HX := hid hXe;have HP := hid kP;have HR := hid kR;clear hXe kP kR;have p0 := HP.out.cell 0;have p1 := HP.out.cell 1;simp only [List.getElem?_toArray, List.getElem?_cons_zero, List.getElem?_cons_succ] at p0 p1;have hxs := HX.out.size;have hrl := HR.out.lt
 go_upto_region 2 with (at_make; refine au w1 tG rfl rfl _ _ rfl w.heap.size _ _ _ _ n n rfl rfl (by first | rfl | omega) (by first | rfl | omega) (Nat.le_refl _) (by omega) (by unfold maxLen; omega) hxs ?_; intro w3 hown hext hsz)
 have hrow : BoolR w.heap.size w3 (.slice (some ⟨w1.heap.size, 0, none⟩) n n) n (fun i => ([] : List Int).contains (i : Int)) := by
  unfold BoolR
  rw [show ((List.range n).map fun j => Value.bool (([] : List Int).contains ((j : Nat) : Int))) = List.replicate n (Value.bool false) from by
   apply List.ext_getElem
   .
    simp
   .
    intro i h1 h2; simp]
  exact hown
 replace HX := hid (HX.out.trans hext);replace HP := hid (HP.out.ext hext);replace HR := hid (HR.out.ext hext);generalize w1.heap.size = gb at hrow hrl hxs |-;have HG := hid hrow;clear hrow hown hext p0 p1 hsz
 go_wp2_with fail
 go_loopg [7] nd (fun fu iv wr => ∃ j : Nat, fu = nd - j /\ j <= nd /\ iv = .int .i64 (j : Int) /\ Hid (DropOk n (ds.take j)) /\ Hid (BoolR w.heap.size wr (.slice (some ⟨gb, 0, none⟩) n n) n (fun i => (ds.take j).contains (i : Int))) /\ Hid (Blk wr w.heap.size 76 #[.int .i64 S, .slice A n c]) /\ Hid (Blk wr (w.heap.size + 1) 76 #[.int .i64 0, .slice none 0 0]) /\ Hid (Ext w wr))
 case atStart => exact ⟨0, rfl, by omega, rfl, hid (DropOk.nil n), HG, HP, HR, HX⟩
 case round =>
  clear HG HP HR HX;obtain ⟨j, rfl, hj, rfl, HOK, HG, HP, HR, HX⟩ := hrel
  by_cases hlt : j < nd
  .
   have q1 : decide (j < nd) = true := decide_eq_true hlt;obtain ⟨gd, od, d, hAd, hd, hwf, x0⟩ := (HI.out.ext HX.out).get hlt;subst hAd;have HSN := hid (eV (n := n) hd);have HD := hid hd;clear hd hwf
   by_cases h1 : d < 0
   .
    have q2 : decide (d < 0) = true := decide_eq_true h1;have HN : Hid (¬ DropOk n ds) := hid (fun h => by have := (HSN.out.1 (bM h (j + 1))).2.1; omega);clear h1;have r0 := HR.out.cell 0;have r1 := HR.out.cell 1;have f0 := HR.out.free 0;have f1 := HR.out.free 1;simp only [List.getElem?_toArray, List.getElem?_cons_zero, List.getElem?_cons_succ] at r0 r1;go_wp2;refine bodyPost_ret (v := .tuple #[.agg #[.int .i64 0, .slice none 0 0], .bool false]) (by simp [results, Try.results52, go_sem, *]) rfl ?_;exact ⟨fun h => absurd h HN.out, fun _ => rfl, (HX.out.setCell (p := ⟨w.heap.size + 1, 0, none⟩) (by simp only; omega) _).setCell (p := ⟨w.heap.size + 1, 1, none⟩) (by simp only; omega) _⟩
   .
    have q2 : decide (d < 0) = false := decide_eq_false h1;obtain ⟨dn, rfl⟩ : ∃ dn : Nat, d = dn := ⟨d.toNat, by omega⟩;clear h1
    by_cases h2 : n <= dn
    .
     have q3 : decide ((n : Int) <= (dn : Int)) = true := decide_eq_true (by omega);have q3b : decide (n <= dn) = true := decide_eq_true h2;have HN : Hid (¬ DropOk n ds) := hid (fun h => by have := (HSN.out.1 (bM h (j + 1))).2.2.1; omega);clear h2;have r0 := HR.out.cell 0;have r1 := HR.out.cell 1;have f0 := HR.out.free 0;have f1 := HR.out.free 1;simp only [List.getElem?_toArray, List.getElem?_cons_zero, List.getElem?_cons_succ] at r0 r1;go_wp2;refine bodyPost_ret (v := .tuple #[.agg #[.int .i64 0, .slice none 0 0], .bool false]) (by simp [results, Try.results52, go_sem, *]) rfl ?_;exact ⟨fun h => absurd h HN.out, fun _ => rfl, (HX.out.setCell (p := ⟨w.heap.size + 1, 0, none⟩) (by simp only; omega) _).setCell (p := ⟨w.heap.size + 1, 1, none⟩) (by simp only; omega) _⟩
    .
     have q3 : decide ((n : Int) <= (dn : Int)) = false := decide_eq_false (by omega);have q3b : decide (n <= dn) = false := decide_eq_false h2;have hdn : dn < n := by omega
     have g0 := fY HG.out hdn;obtain ⟨cb, hcb⟩ : ∃ cb, (ds.take j).contains (dn : Int) = cb := ⟨_, rfl⟩;rw [hcb] at g0;have HCB := hid hcb;clear hcb
     by_cases h3 : cb = true
     .
      subst h3;have HN : Hid (¬ DropOk n ds) := hid (fun h => (HSN.out.1 (bM h (j + 1))).2.2.2 (by have := HCB.out; simpa using this));have r0 := HR.out.cell 0;have r1 := HR.out.cell 1;have f0 := HR.out.free 0;have f1 := HR.out.free 1;simp only [List.getElem?_toArray, List.getElem?_cons_zero, List.getElem?_cons_succ] at r0 r1;go_wp2;refine bodyPost_ret (v := .tuple #[.agg #[.int .i64 0, .slice none 0 0], .bool false]) (by simp [results, Try.results52, go_sem, *]) rfl ?_;exact ⟨fun h => absurd h HN.out, fun _ => rfl, (HX.out.setCell (p := ⟨w.heap.size + 1, 0, none⟩) (by simp only; omega) _).setCell (p := ⟨w.heap.size + 1, 1, none⟩) (by simp only; omega) _⟩
     .
      obtain rfl : cb = false := by simpa using h3
      have HO2 : Hid (DropOk n (ds.take (j + 1))) := hid (HSN.out.2 ⟨HOK.out, by omega, by omega, by have := HCB.out; simpa using this⟩);have gf := kE HG.out dn;have HPUT := hid (nm HG.out (j := dn) true);have hgl : w.heap.size + 1 < gb /\ gb < wr.heap.size := ⟨hrl, (HG.out.lt gb (by simp [Value.ownBlock])).2⟩;clear h2 h3;go_wp2;go_roundg (nd - (j + 1))
      case rel =>
       refine ⟨j + 1, rfl, by omega, by go_num, HO2, hid (jL HPUT.out (fun i _ => ?_)), hid (HP.out.far (by simp only; omega) _), hid (HR.out.far (by simp only; omega) _), hid (HX.out.setCell (by simp only; omega) _)⟩;rw [show ds.take (j + 1) = ds.take j ++ [(dn : Int)] by rw [List.take_add_one, HD.out]; rfl]
       by_cases e : i = dn
       .
        subst e; rw [if_pos rfl]; simp
       .
        rw [if_neg e];have : (i : Int) ≠ (dn : Int) := by omega
        rw [Bool.eq_iff_iff];simp [this]
      case measure => omega
  .
   obtain rfl : nd = j := by omega
   have q1 : decide (nd < nd) = false := by simp
   have HDT : Hid (ds.take nd = ds) := hid (List.take_of_length_le (by have := HLD.out; omega));rw [HDT.out] at HG HOK;clear HDT;have pl := HP.out;have p0 := pl.cell 0;have p1 := pl.cell 1;simp only [List.getElem?_toArray, List.getElem?_cons_zero, List.getElem?_cons_succ] at p0 p1;clear pl
   go_upto_region 9 with (fail)
   have hXa : Ext wr (wr.alloc (.cells #[.int .i64 S, .slice none 0 0] 76)) := (Ext.refl _).alloc _;have kQ := Blk.new wr 76 #[.int .i64 S, .slice none 0 0];have hgl : gb < wr.heap.size := (HG.out.lt gb (by simp [Value.ownBlock])).2;replace HX := hid (HX.out.trans hXa);replace HP := hid (HP.out.ext hXa);replace HR := hid (HR.out.ext hXa);replace HG := hid (BoolR.ext HG.out hXa);clear hXa p0 p1;generalize wr.heap.size = gq at kQ hgl |-;generalize wr.alloc _ = w4 at kQ HX HP HR HG |-;have HQ := hid kQ;clear kQ
   go_wp2_with fail
   go_loopg [9] n (fun fu iv wz => ∃ (k : Nat) (ov : Value), fu = n - k /\ k <= n /\ iv = .int .i64 (k : Int) /\ Hid (wz.ownsRow (gq + 1) 90 7 ov (al ds k).length (jf ((al ds k).map (aZ ms)))) /\ Hid (Blk wz gq 76 #[.int .i64 S, ov]) /\ Hid (BoolR w.heap.size wz (.slice (some ⟨gb, 0, none⟩) n n) n (fun i => (ds).contains (i : Int))) /\ Hid (Blk wz w.heap.size 76 #[.int .i64 S, .slice A n c]) /\ Hid (Blk wz (w.heap.size + 1) 76 #[.int .i64 0, .slice none 0 0]) /\ Hid (Ext w wz))
   case atStart => exact ⟨0, .slice none 0 0, rfl, by omega, rfl, hid (World.ownsRow_nil _ _ _ _), HQ, HG, HP, HR, HX⟩
   case round =>
    clear HQ HG HP HR HX;obtain ⟨k, ov, rfl, hk, rfl, HO, HQ, HG, HP, HR, HX⟩ := hrel;obtain ⟨Ao, co, rfl⟩ := ak HO.out;have pl := HP.out;have p0 := pl.cell 0;have p1 := pl.cell 1;simp only [List.getElem?_toArray, List.getElem?_cons_zero, List.getElem?_cons_succ] at p0 p1;clear pl
    by_cases hkn : k < n
    .
     have q2 : decide (k < n) = true := decide_eq_true hkn;obtain ⟨gm, om, ⟨a, b, x, y, z, dd, ww⟩, rfl, hm, hmem, x0, x1, x2, x3, x4, x5, x6⟩ := (H.out.ext HX.out).get hkn;simp only at x0 x1 x2 x3 x4 x5 x6;have HMK : Hid (aZ ms k = ⟨a, b, x, y, z, dd, ww⟩) := hid (by unfold aZ; rw [hm]; rfl);have HKM := hid (gM ms ds k);have HKL := hid (dW ds k)
     have hgmw : gm < w.heap.size := by
      obtain ⟨_, _, _, hA2, _, _, y0, _⟩ := H.out.get hkn;injection hA2 with hA2;injection hA2 with hA2 _;subst hA2;exact World.block_lt_of_cell? w _ y0
     have g0 := fY HG.out hkn;obtain ⟨cb, hcb⟩ : ∃ cb, ds.contains (k : Int) = cb := ⟨_, rfl⟩;rw [hcb] at g0 HKM HKL;clear hcb hm hmem
     by_cases hc : cb = true
     .
      subst hc;have HK1 : Hid ((al ds (k + 1)).map (aZ ms) = (al ds k).map (aZ ms)) := hid (by rw [HKM.out]; simp);have HK2 : Hid ((al ds (k + 1)).length = (al ds k).length) := hid (by rw [HKL.out]; simp);clear HKM HKL;go_wp2;go_roundg (n - (k + 1))
      case rel =>
       refine ⟨k + 1, _, rfl, by omega, by go_num, hid ?_, HQ, HG, HP, HR, HX⟩;rw [HK1.out, HK2.out];exact HO.out
      case measure => omega
     .
      obtain rfl : cb = false := by simpa using hc
      clear hc;have HK1 : Hid ((al ds (k + 1)).map (aZ ms) = (al ds k).map (aZ ms) ++ [⟨a, b, x, y, z, dd, ww⟩]) := hid (by rw [HKM.out, HMK.out]; rfl);have HK2 : Hid ((al ds (k + 1)).length = (al ds k).length + 1) := hid (by rw [HKL.out]; simp);obtain ⟨lk, hlk⟩ : ∃ lk, (al ds k).length = lk := ⟨_, rfl⟩;have hlk64 : lk <= 200 := by have := jK ds k; omega
      rw [hlk] at HO HQ HK2;clear HKM HKL hlk
      have hol : ∀ g ∈ (Value.slice Ao lk co).ownBlock.toList, gq < g /\ g < wr.heap.size := fun g hg => by
       have := HO.out.lt g (by simpa using hg);omega
      have HOL := hid hol;clear hol;have hqs : gq + 1 <= wr.heap.size := HQ.out.lt
      go_upto_region 13 with (fail)
      refine rN (gq + 1) gq w.heap.size gm om n c k lk co Ao _ a b x y z dd ww wr HO.out (HQ.out.cell 1) p1 x0 x1 x2 x3 x4 x5 x6 (fun h => by have := HOL.out _ h; omega) (fun h => by have := HOL.out _ h; omega) (fun h => by have := HOL.out _ h; omega) hkn hlk64 hqs _ _ (by simp) rfl rfl rfl ?_;intro xv0 xv1 xv2 xv3 xv4 xv5 xv6 xv7 xv8 xv9 W e0 e1 e2 e3 e4 e5 e6 hrow e9 hk9;subst e0 e1 e2 e3 e4 e5 e6 e9;obtain ⟨ho8, hb8⟩ := hrow;obtain ⟨A8, c8, rfl⟩ := ak ho8;simp only [ae, Try.f52, ab, Option.bind_some, Nat.reduceBEq, if_true, if_false, Bool.false_eq_true, Option.getD_some, List.drop_succ_cons, List.drop_zero];simp only [Act.put, List.setIfInBounds_toArray, List.set_cons_succ, List.set_cons_zero];have HO8 := hid ho8;have HB8 := hid hb8;have HK9 := hid hk9;have HQ9 := hid (HQ.out.keeps hk9 (fun h => by have := HOL.out _ h; omega));have HP9 := hid (HP.out.keeps hk9 (fun h => by have := HOL.out _ h; omega));have HR9 := hid (HR.out.keeps hk9 (fun h => by have := HOL.out _ h; omega));have HG9 : Hid (BoolR w.heap.size W (.slice (some ⟨gb, 0, none⟩) n n) n (fun i => (ds).contains (i : Int))) := hid (ag HG.out hk9 (fun g hg h => by have := HOL.out _ h; simp [Value.ownBlock] at hg; omega));have HX9 := hid (hk9.ext HX.out (fun g hg => by have := HOL.out _ hg; omega));clear ho8 hb8 hk9 x0 x1 x2 x3 x4 x5 x6 p0 p1 g0;have o1 := HQ9.out.cell 1;have o1f := HQ9.out.free 1;simp only [List.getElem?_toArray, List.getElem?_cons_zero, List.getElem?_cons_succ] at o1;go_wp2;go_roundg (n - (k + 1))
      case rel =>
       have hkw : Keeps [gq] W (W.setCell ⟨gq, 1, none⟩ (.slice A8 (lk + 1) c8)) := (Keeps.refl [gq] W).setCell (.inl (by simp)) _;refine ⟨k + 1, .slice A8 (lk + 1) c8, rfl, by omega, by go_num, hid ?_, hid ?_, hid (ag HG9.out hkw (fun g hg h => by simp [Value.ownBlock] at hg; simp at h; omega)), hid (HP9.out.far (by simp only; omega) _), hid (HR9.out.far (by simp only; omega) _), hid (HX9.out.setCell (by simp only; omega) _)⟩
       .
        rw [HK1.out, HK2.out, jg];exact ag HO8.out hkw (fun g hg hl => by have := (HO8.out.lt g hg).1; simp at hl; omega)
       .
        have := HQ9.out.set 1 (.slice A8 (lk + 1) c8)
        simpa using this
      case measure => omega
    .
     obtain rfl : n = k := by omega
     have q2 : decide (n < n) = false := by simp
     have HWO : Hid ((al ds n).map (aZ ms) = a9 ms ds /\ (al ds n).length = (a9 ms ds).length) := hid (by unfold a9; rw [H.out.1, List.length_map]; exact ⟨rfl, rfl⟩);rw [HWO.out.1, HWO.out.2] at HO;obtain ⟨lk, hlk⟩ : ∃ lk, (a9 ms ds).length = lk := ⟨_, rfl⟩;rw [hlk] at HO;rw [HWO.out.2, hlk] at HQ;clear HWO;have HLK := hid hlk;clear hlk;have r0 := HR.out.cell 0;have r1 := HR.out.cell 1;have f0 := HR.out.free 0;have f1 := HR.out.free 1;simp only [List.getElem?_toArray, List.getElem?_cons_zero, List.getElem?_cons_succ] at r0 r1;have o0 := HQ.out.cell 0;have o1 := HQ.out.cell 1;simp only [List.getElem?_toArray, List.getElem?_cons_zero, List.getElem?_cons_succ] at o0 o1;go_wp2;refine bodyPost_ret (v := .tuple #[.agg #[.int .i64 S, .slice Ao lk co], .bool true]) (by simp [results, Try.results52, go_sem, *]) rfl ?_;refine ⟨fun _ => ⟨.slice Ao lk co, rfl, ?_⟩, fun h => absurd HOK.out h, (HX.out.setCell (p := ⟨w.heap.size + 1, 0, none⟩) (by simp only; omega) _).setCell (p := ⟨w.heap.size + 1, 1, none⟩) (by simp only; omega) _⟩;have hkw : Keeps [w.heap.size + 1] wr ((wr.setCell ⟨w.heap.size + 1, 0, none⟩ (.int .i64 S)).setCell ⟨w.heap.size + 1, 1, none⟩ (.slice Ao lk co)) := ((Keeps.refl [w.heap.size + 1] wr).setCell (.inl (by simp)) _).setCell (.inl (by simp)) _;rw [HLK.out];exact ag (World.ownsRow.mono' HO.out (show w.heap.size <= gq + 1 by omega)) hkw (fun g hg hl => by have := (HO.out.lt g hg).1; simp at hl; omega)
theorem np (x : Int) {n : Int} (_hn : 1 <= n) : ax (decide (x < 0)) x.natAbs n.toNat = (x : Rat) / (n : Rat) := by
 unfold ax;rw [em, Rat.mkRat_eq_div, <- Rat.intCast_natCast, show ((n.toNat : Nat) : Int) = n by omega]
end Go.Proofs.Ytikhlcgnlbinfaa
