/- Lemmas of the proof that follows (Spans, part 10): walks of functions by contract, and plain lemmas. Conditions: none. -/
import Derived.Test.YteoijnaljkagfaaSpansI
namespace Go.Proofs.Yteoijnaljkagfaa
open Go.RowKit

/-- The block of a row holds no integers. -/
def RowNI (w : World) (v : Value) : Prop := ∀ g, v.ownBlock = some g → NoInts w g
theorem zeroCells_mem {z : Array Value} {n : Nat} {u : Value} (hz : 0 < z.size) (h : u ∈ Builtin.zeroCells z n) : u ∈ z := by
  unfold Builtin.zeroCells at h
  simp only [Array.mem_map] at h
  obtain ⟨i, _, rfl⟩ := h
  have hi : i % z.size < z.size := Nat.mod_lt _ hz
  rw [getElem!_pos z (i % z.size) hi]
  exact Array.getElem_mem hi
section
variable {P : Program}
theorem run_app_ni (w : World) {t e : TypeId} {size bytes : Nat} {z : Value} (E : Elem P t e size bytes z) (ty : TypeId) (base : Nat) (v : Value) (n : Nat) (xs : List Value) (hown : w.ownsRow base e size v n xs) (hN : RowNI w v) (hzn : ∀ u ∈ z.cells, NoInt u)
    (ad : Addr) (m c : Nat) (news : List Value) (hl : news.length = m * size) (hat : At w (some ad) news) (h1 : ∀ u ∈ news, u.oneCell' = true) (hnn : ∀ u ∈ news, NoInt u) (hm : 0 < m)
    (hbytes : (n + m) * bytes ≤ 140737488355328) (h63 : n + m ≤ maxLen) (hbase : base ≤ w.heap.size) :
    ∃ v' w', (Builtin.append_ #[t, t] ty #[v, .slice (some ad) m c]).run P w = .ok v' w' ∧ w'.ownsRow base e size v' (n + m) (xs ++ news) ∧ w.grownBy w' v.ownBlock ∧ (v'.ownBlock = v.ownBlock ∨ v'.ownBlock = some w.heap.size) ∧ RowNI w' v' := by
  obtain ⟨i, hi, hz, hs, hb⟩ := E.info
  have hnews : ∀ j u, news[j]? = some u → w.cell? (ad.add j) = some u := hat.add ad rfl
  obtain ⟨v', w', hr, h2, h3, _, h5⟩ := run_append_own_at (P := P) w base t ty e i z size bytes E.und hi hz hs hb E.cells E.pos v n xs hown ad m c news hl hnews h1 h63 hbytes hbase
  refine ⟨v', w', hr, h2, h3, h5, ?_⟩
  have hzc : 0 < z.cells.size := by rw [E.cells]; exact E.pos
  have hmax : n + m ≤ 9223372036854775807 := by simp only [maxLen] at h63; omega
  have new : ∀ (ys : Array Value) (k : Nat), (∀ u ∈ ys, NoInt u) → v' = .slice (some ⟨w.heap.size, 0, none⟩) (n + m) k → w' = w.drew.alloc (.cells (ys ++ Builtin.zeroCells z.cells (k - (n + m))) e) → RowNI w' v' := by
    rintro ys k hys rfl rfl g hg
    obtain rfl : w.heap.size = g := by simpa [Value.ownBlock] using hg
    refine ⟨_, _, heap_alloc_new w.drew _, fun u hu => ?_⟩
    rcases Array.mem_append.1 hu with h | h
    · exact hys u h
    · exact hzn u (zeroCells_mem hzc h)
  rcases hown.2 with ⟨rfl, rfl⟩ | ⟨g0, cap, cur, rfl, hbg, hg, hnc, hcm, hcs, htake⟩
  · have hr' := run_append_nil (P := P) w t ty e i z E.und hi hz ad m c news (by rw [hs]; exact hl) hnews hm (by omega) (by rw [hb]; have hb' := hbytes; simp only [Nat.zero_add] at hb'; omega)
    rw [hr'] at hr
    injection hr with e1 e2
    refine new news.toArray (grownCap w m 0 e) (fun u hu => hnn u (by simpa using hu)) (by rw [← e1, Nat.zero_add]) (by rw [← e2, Nat.zero_add])
  · obtain ⟨t0, cs0, hB, hcs0⟩ := hN g0 rfl
    have hcur : ∀ u ∈ cur.toList, NoInt u := by
      have h : some (Obj.cells cur e (0, 0)) = some (Obj.cells cs0 t0 (0, 0)) := hg.symm.trans hB
      injection h with h
      injection h with e1 e2
      subst e1
      exact fun u hu => hcs0 u (by simpa using hu)
    have hxs : ∀ u ∈ xs, NoInt u := fun u hu => by
      rw [← htake] at hu
      exact hcur u (List.mem_of_mem_take hu)
    by_cases hroom : n + m ≤ cap
    · have hfit : n * i.size + news.length ≤ cur.size := by rw [hs, hl, hcs, ← Nat.add_mul]; exact Nat.mul_le_mul_right _ hroom
      have hr' := run_append_room (P := P) w t ty e i E.und hi g0 n cap cur hg ad m c news (by rw [hs]; exact hl) hnews h1 hroom hfit
      rw [hr'] at hr
      injection hr with e1 e2
      subst e1 e2
      intro g hgg
      obtain rfl : g0 = g := by simpa [Value.ownBlock] using hgg
      refine ⟨_, _, setRow_heap w g0 cur _ e _ hg, fun u hu => ?_⟩
      simp only [List.mem_toArray, List.mem_append] at hu
      rcases hu with (h | h) | h
      · exact hcur u (List.mem_of_mem_take h)
      · exact hnn u h
      · exact hcur u (List.mem_of_mem_drop h)
    · have hr' := run_append_grow (P := P) w t ty e i z E.und hi hz ⟨g0, 0, none⟩ n cap xs (by rw [hs]; exact hown.1) (hown.cells (g := g0) rfl) ad m c news (by rw [hs]; exact hl) hnews (by omega) (by omega) (by rw [hb]; exact growslice_fits (by omega) hbytes)
      rw [hr'] at hr
      injection hr with e1 e2
      refine new (xs.toArray ++ news.toArray) (grownCap w (n + m) cap e) (fun u hu => ?_) e1.symm e2.symm
      rcases Array.mem_append.1 hu with h | h
      · exact hxs u (by simpa using h)
      · exact hnn u (by simpa using h)

/-- 'append(s, x...)' onto such a row. -/
theorem wpList_appN (w : World) {t e : TypeId} {size bytes : Nat} {z : Value} (E : Elem P t e size bytes z) (hzn : ∀ u ∈ z.cells, NoInt u) {ops : Array Oper} {rest : List Oper} {o : Oper} {a : Act} {Q : Exit → Act → World → Prop}
    (hgd : o.guard = none) (s x : Operand) (ho : o.op = .call { callee := .builtin .append, args := #[s, x], argTypes := #[t, t] })
    (base : Nat) (v : Value) (n : Nat) (xs : List Value) (hs : a.eval s = v) (hown : w.ownsRow base e size v n xs) (hN : RowNI w v)
    (ad : Addr) (m c : Nat) (news : List Value) (hx : a.eval x = .slice (some ad) m c) (hl : news.length = m * size) (hat : At w (some ad) news) (h1 : ∀ u ∈ news, u.oneCell' = true) (hnn : ∀ u ∈ news, NoInt u) (hm : 0 < m)
    (hbytes : (n + m) * bytes ≤ 140737488355328) (h63 : n + m ≤ maxLen) (hbase : base ≤ w.heap.size)
    (h : ∀ v' w', w'.ownsRow base e size v' (n + m) (xs ++ news) → w.grownBy w' v.ownBlock → RowNI w' v' → wpList P ops Q rest (a.put o.dst v') w') :
    wpList P ops Q (o :: rest) a w :=
  wpList_plain hgd fun K hK => by
    obtain ⟨v', w', hrun, h2, h3, _, h4⟩ := run_app_ni (P := P) w E o.type base v n xs hown hN hzn ad m c news hl hat h1 hnn hm hbytes h63 hbase
    unfold Oper.wp execOp
    simp only [ho, resolve, invoke, builtin, Sem.run_bind, Sem.run_pure, Result.andThen_ok, List.map_toArray, List.map_cons, List.map_nil, hs, hx, hrun]
    exact hK _ _ (h v' w' h2 h3 h4)
end
/-- Integers' rows stay as they are while a row grows that holds none. -/
theorem Ints.grownNI {k : IntKind} {w w' : World} {A : Option Addr} {n : Nat} {xs : List Int} {v : Value} (h : Ints k w A n xs) (hN : RowNI w v) (hg : w.grownBy w' v.ownBlock) : Ints k w' A n xs := by
  refine ⟨h.1, h.2.1, fun hn => ?_⟩
  obtain ⟨b, off, hA, hc⟩ := h.2.2 hn
  refine ⟨b, off, hA, fun j u hj => ?_⟩
  have hcell := hc j u hj
  have hne : some b ≠ v.ownBlock := by
    intro e
    have hni := (hN b e.symm).cell (off + j) u hcell
    rw [List.getElem?_map] at hj
    rcases hxj : xs[j]? with _ | y
    · rw [hxj] at hj; cases hj
    · rw [hxj] at hj
      simp only [Option.map_some, Option.some.injEq] at hj
      exact hni k y hj.symm
  rw [← hcell]
  exact World.cell?_of_block (w := w) (hg.block b (World.block_lt_of_cell? w _ hcell) hne)
theorem NatV.grownNI {k : IntKind} {B : Int} {w w' : World} {x v : Value} {n : Nat} (h : NatV k B w x n) (hN : RowNI w v) (hg : w.grownBy w' v.ownBlock) : NatV k B w' x n := by
  obtain ⟨A, l, c, xs, h1, h2, h3⟩ := h
  exact ⟨A, l, c, xs, h1, h2.grownNI hN hg, h3⟩
theorem QZ.grownNI {w w' : World} {x v : Value} {q : Rat} (h : QZ w x q) (hN : RowNI w v) (hg : w.grownBy w' v.ownBlock) : QZ w' x q := by
  obtain ⟨b, A, l, c, B, m, k, h0, h1, h2, h3⟩ := h
  exact ⟨b, A, l, c, B, m, k, h0, h1, NatV.grownNI h2 hN hg, NatV.grownNI h3 hN hg⟩
theorem RowNI.ext {w w' : World} {v : Value} (h : RowNI w v) (he : Ext w w') : RowNI w' v := fun g hg => (h g hg).ext he
theorem RowNI.nil (w : World) : RowNI w (.slice none 0 0) := fun g hg => by simp [Value.ownBlock] at hg
theorem elQ : Elem Try.prog 125 42 3 56 (.agg #[.bool false, .slice none 0 0, .slice none 0 0]) := Elem.mk' (by kernel_rfl) (by kernel_rfl) rfl (by decide)
end Go.Proofs.Yteoijnaljkagfaa
namespace Go.Proofs.Yteoijnaljkagfaa
open Go.RowKit

theorem fitR_small {n : Int} (h0 : -9223372036854775808 ≤ n) (h1 : n ≤ 9223372036854775807) : FitR ((n : Int) : Rat) 4 := by
  have h := fitR_double (fitQ_small h0 h1)
  rw [show 2 * 2 = 4 from rfl] at h
  exact h
end Go.Proofs.Yteoijnaljkagfaa
namespace Go.Proofs.Yteoijnaljkagfaa
open Go.RowKit

set_option maxHeartbeats 1000000 in
theorem rvalid_any (x y : Int) (w : World) : Calls Try.prog 68 #[.agg #[.int .i64 x, .int .i64 y]] w fun e w' => e = .returned (.bool (okS x y)) ∧ Ext w w' := by
  have HX := Lib.hid ((Ext.refl w).alloc (.cells #[.int .i64 x, .int .i64 y] 62))
  rcases okS_cases x y with ⟨hb, b1, b2, b3⟩ | ⟨hb, b1 | ⟨b1, b2⟩ | ⟨b1, b2, b3⟩⟩
  all_goals
    rw [hb]
    clear hb
    go_enter Try.func68, Try.ntmps68
    go_wp2
    go_ret
    refine ⟨?_, HX.out⟩
    first
    | rfl
    | (show Ending.returned (.bool (decide (y ≤ 1152921504606846976))) = Ending.returned (.bool false); rw [decide_eq_false (by omega)])
theorem rvalid_is {x y : Int} {b : Bool} (h : okS x y = b) (w : World) : Calls Try.prog 68 #[.agg #[.int .i64 x, .int .i64 y]] w fun e w' => e = .returned (.bool b) ∧ Ext w w' := by
  rw [← h]; exact rvalid_any x y w
end Go.Proofs.Yteoijnaljkagfaa
namespace Go.Proofs.Yteoijnaljkagfaa
open Go.RowKit

/-- The cells of a row of rational numbers. -/
def QsL (W : World) (vs : List Value) (qs : List Rat) : Prop := ∀ j q, qs[j]? = some q → ∃ s A l c B m k, vs[j * 3]? = some (.bool s) ∧ vs[j * 3 + 1]? = some (.slice A l c) ∧ vs[j * 3 + 2]? = some (.slice B m k) ∧ QZ W (.agg #[.bool s, .slice A l c, .slice B m k]) q
theorem QsL.nil (W : World) : QsL W [] [] := fun j q h => by simp at h
theorem QsL.imp {W W' : World} {vs : List Value} {qs : List Rat} (h : QsL W vs qs) (hi : ∀ v q, QZ W v q → QZ W' v q) : QsL W' vs qs := fun j q hq => by
  obtain ⟨s, A, l, c, B, m, k, h1, h2, h3, h4⟩ := h j q hq
  exact ⟨s, A, l, c, B, m, k, h1, h2, h3, hi _ _ h4⟩
theorem QsL.snoc {W : World} {vs : List Value} {qs : List Rat} (h : QsL W vs qs) (hl : vs.length = qs.length * 3) {s : Bool} {A B : Option Addr} {l c m k : Nat} {q : Rat} (hq : QZ W (.agg #[.bool s, .slice A l c, .slice B m k]) q) : QsL W (vs ++ [.bool s, .slice A l c, .slice B m k]) (qs ++ [q]) := fun j r hr => by
  rcases Nat.lt_or_ge j qs.length with hj | hj
  · rw [List.getElem?_append_left hj] at hr
    obtain ⟨s, A, l, c, B, m, k, h1, h2, h3, h4⟩ := h j r hr
    exact ⟨s, A, l, c, B, m, k, by rw [List.getElem?_append_left (by omega)]; exact h1, by rw [List.getElem?_append_left (by omega)]; exact h2, by rw [List.getElem?_append_left (by omega)]; exact h3, h4⟩
  · rw [List.getElem?_append_right hj] at hr
    have hj0 : j - qs.length = 0 := by
      rcases Nat.eq_zero_or_pos (j - qs.length) with h | h
      · exact h
      · rw [List.getElem?_eq_none (by simp; omega)] at hr; cases hr
    rw [hj0] at hr
    obtain rfl : q = r := by simpa using hr
    have e : j = qs.length := by omega
    subst e
    refine ⟨s, A, l, c, B, m, k, ?_, ?_, ?_, hq⟩
    · rw [List.getElem?_append_right (by omega), show qs.length * 3 - vs.length = 0 by omega]; rfl
    · rw [List.getElem?_append_right (by omega), show qs.length * 3 + 1 - vs.length = 1 by omega]; rfl
    · rw [List.getElem?_append_right (by omega), show qs.length * 3 + 2 - vs.length = 2 by omega]; rfl
theorem QsL.at {W : World} {base : Nat} {e : TypeId} {A : Option Addr} {n c : Nat} {vs : List Value} {qs : List Rat} (h : QsL W vs qs) (ho : W.ownsRow base e 3 (.slice A n c) n vs) (hl : qs.length = n) : QsAt W A n qs := ⟨hl, fun j q hq => by
  obtain ⟨s, A', l, c', B, m, k, h1, h2, h3, h4⟩ := h j q hq
  obtain ⟨b, o, rfl, hc⟩ := (At.of_own ho) (by intro e; rw [e] at h1; simp at h1)
  exact ⟨b, o, s, A', l, c', B, m, k, rfl, hc _ _ h1, by have := hc _ _ h2; rw [← Nat.add_assoc] at this; exact this, by have := hc _ _ h3; rw [← Nat.add_assoc] at this; exact this, h4⟩⟩
/-- The four results. -/
def four (f : Rat → Rat → Rat) (a b c d : Int) : List Rat := [f a c, f a d, f b c, f b d]
theorem four_next {f : Rat → Rat → Rat} {a b c d x y : Int} {k j : Nat} (hx : [a, b][k]? = some x) (hy : [c, d][j]? = some y) : (four f a b c d).take (2 * k + (j + 1)) = (four f a b c d).take (2 * k + j) ++ [f x y] := by
  rcases (show k = 0 ∨ k = 1 ∨ 2 ≤ k by omega) with rfl | rfl | h
  · rcases (show j = 0 ∨ j = 1 ∨ 2 ≤ j by omega) with rfl | rfl | h
    · simp at hx hy; subst hx hy; rfl
    · simp at hx hy; subst hx hy; rfl
    · rw [List.getElem?_eq_none (by simpa using h)] at hy; cases hy
  · rcases (show j = 0 ∨ j = 1 ∨ 2 ≤ j by omega) with rfl | rfl | h
    · simp at hx hy; subst hx hy; rfl
    · simp at hx hy; subst hx hy; rfl
    · rw [List.getElem?_eq_none (by simpa using h)] at hy; cases hy
  · rw [List.getElem?_eq_none (by simpa using h)] at hx; cases hx
theorem ints_pair2 {w : World} {g : Nat} {t : TypeId} {a b : Int} (h : Blk w g t #[.int .i64 a, .int .i64 b]) (ha : (Lit.int .i64 a).wf = true) (hb : (Lit.int .i64 b).wf = true) : Ints .i64 w (some ⟨g, 0, none⟩) 2 [a, b] :=
  ⟨rfl, fun x hx => by simp at hx; rcases hx with rfl | rfl; exact ha; exact hb, h.at2⟩

theorem four_fit {f : Rat → Rat → Rat} {a b c d : Int} (hab : okS a b = true) (hcd : okS c d = true) (hf : ∀ {q r : Rat}, FitR q 4 → FitR r 4 → FitR (f q r) 9) {q : Rat} (hq : q ∈ four f a b c d) : FitR q 9 := by
  obtain ⟨a0, a1, a2⟩ := okS_in hab
  obtain ⟨b0, b1, b2⟩ := okS_in hcd
  have fa := fitR_small (n := a) (by omega) (by omega)
  have fb := fitR_small (n := b) (by omega) (by omega)
  have fc := fitR_small (n := c) (by omega) (by omega)
  have fd := fitR_small (n := d) (by omega) (by omega)
  simp only [four, List.mem_cons, List.not_mem_nil, or_false] at hq
  rcases hq with rfl | rfl | rfl | rfl
  · exact hf fa fc
  · exact hf fa fd
  · exact hf fb fc
  · exact hf fb fd
set_option maxRecDepth 100000 in
set_option maxHeartbeats 2000000 in
theorem operate_r3 (ga gb : Nat) (xa xb xc xd : Int) (w : World) (h0 : w.cell? ⟨ga, 0, none⟩ = some (.int .i64 xa)) (h1 : w.cell? ⟨ga, 1, none⟩ = some (.int .i64 xb)) (h2 : w.cell? ⟨gb, 0, none⟩ = some (.int .i64 xc)) (h3 : w.cell? ⟨gb, 1, none⟩ = some (.int .i64 xd)) (a : Act) (Q : Exit → Act → World → Prop) (hsize : 34 ≤ a.tmps.size)
    (s4 : a.tmps[4]? = some (.pointer (some ⟨ga, 0, none⟩)))
    (s5 : a.tmps[5]? = some (.pointer (some ⟨gb, 0, none⟩)))
    (hend : ∀ (xv0 xv1 xv2 xv3 xv4 xv5 xv6 xv7 xv8 xv9 xv10 xv11 : Value) (W : World), (xv0 = .pointer (some ⟨ga, 0, none⟩)) → (xv1 = .int .i64 xa) → (xv2 = .pointer (some ⟨ga, 1, none⟩)) → (xv3 = .int .i64 xb) → (∃ g, xv4 = .slice (some ⟨g, 0, none⟩) 2 2 ∧ w.heap.size ≤ g ∧ Blk W g 3 #[.int .i64 xa, .int .i64 xb]) → (xv5 = .pointer (some ⟨gb, 0, none⟩)) → (xv6 = .int .i64 xc) → (xv7 = .pointer (some ⟨gb, 1, none⟩)) → (xv8 = .int .i64 xd) → (∃ g, xv9 = .slice (some ⟨g, 0, none⟩) 2 2 ∧ w.heap.size ≤ g ∧ Blk W g 3 #[.int .i64 xc, .int .i64 xd]) → (∃ g, xv10 = .slice (some ⟨g, 0, none⟩) 2 2 ∧ w.heap.size ≤ g ∧ Blk W g 3 #[.int .i64 xa, .int .i64 xb]) → (∃ g, xv11 = .slice (some ⟨g, 0, none⟩) 2 2 ∧ w.heap.size ≤ g ∧ Blk W g 3 #[.int .i64 xc, .int .i64 xd]) → Ext w W → wpList Try.prog (rops Try.f67 3).toArray Q ((rops Try.f67 3).drop 12) ((((((((((((a.put (some 24) xv0).put (some 25) xv1).put (some 26) xv2).put (some 27) xv3).put (some 28) xv4).put (some 29) xv5).put (some 30) xv6).put (some 31) xv7).put (some 32) xv8).put (some 33) xv9).put (some 8) xv10).put (some 9) xv11) W) :
    (Code.region 3 (rops Try.f67 3).toArray true).wp Try.prog Q a w := by
  have hmono : ∀ (W W' : World) (j : Nat) (u : Value), Ext W W' → (fun (i : Nat) (v : Value) (W : World) => match i with
    | 0 => v = .pointer (some ⟨ga, 0, none⟩)
    | 1 => v = .int .i64 xa
    | 2 => v = .pointer (some ⟨ga, 1, none⟩)
    | 3 => v = .int .i64 xb
    | 4 => ∃ g, v = .slice (some ⟨g, 0, none⟩) 2 2 ∧ w.heap.size ≤ g ∧ Blk W g 3 #[.int .i64 xa, .int .i64 xb]
    | 5 => v = .pointer (some ⟨gb, 0, none⟩)
    | 6 => v = .int .i64 xc
    | 7 => v = .pointer (some ⟨gb, 1, none⟩)
    | 8 => v = .int .i64 xd
    | 9 => ∃ g, v = .slice (some ⟨g, 0, none⟩) 2 2 ∧ w.heap.size ≤ g ∧ Blk W g 3 #[.int .i64 xc, .int .i64 xd]
    | 10 => ∃ g, v = .slice (some ⟨g, 0, none⟩) 2 2 ∧ w.heap.size ≤ g ∧ Blk W g 3 #[.int .i64 xa, .int .i64 xb]
    | 11 => ∃ g, v = .slice (some ⟨g, 0, none⟩) 2 2 ∧ w.heap.size ≤ g ∧ Blk W g 3 #[.int .i64 xc, .int .i64 xd]
    | _ => True) j u W → (fun (i : Nat) (v : Value) (W : World) => match i with
    | 0 => v = .pointer (some ⟨ga, 0, none⟩)
    | 1 => v = .int .i64 xa
    | 2 => v = .pointer (some ⟨ga, 1, none⟩)
    | 3 => v = .int .i64 xb
    | 4 => ∃ g, v = .slice (some ⟨g, 0, none⟩) 2 2 ∧ w.heap.size ≤ g ∧ Blk W g 3 #[.int .i64 xa, .int .i64 xb]
    | 5 => v = .pointer (some ⟨gb, 0, none⟩)
    | 6 => v = .int .i64 xc
    | 7 => v = .pointer (some ⟨gb, 1, none⟩)
    | 8 => v = .int .i64 xd
    | 9 => ∃ g, v = .slice (some ⟨g, 0, none⟩) 2 2 ∧ w.heap.size ≤ g ∧ Blk W g 3 #[.int .i64 xc, .int .i64 xd]
    | 10 => ∃ g, v = .slice (some ⟨g, 0, none⟩) 2 2 ∧ w.heap.size ≤ g ∧ Blk W g 3 #[.int .i64 xa, .int .i64 xb]
    | 11 => ∃ g, v = .slice (some ⟨g, 0, none⟩) 2 2 ∧ w.heap.size ≤ g ∧ Blk W g 3 #[.int .i64 xc, .int .i64 xd]
    | _ => True) j u W' := by
    intro W W' j u hX h
    match j, h with
    | 0, h => exact h
    | 1, h => exact h
    | 2, h => exact h
    | 3, h => exact h
    | 4, h => obtain ⟨g, h1, h2, h3⟩ := h; exact ⟨g, h1, h2, h3.ext hX⟩
    | 5, h => exact h
    | 6, h => exact h
    | 7, h => exact h
    | 8, h => exact h
    | 9, h => obtain ⟨g, h1, h2, h3⟩ := h; exact ⟨g, h1, h2, h3.ext hX⟩
    | 10, h => obtain ⟨g, h1, h2, h3⟩ := h; exact ⟨g, h1, h2, h3.ext hX⟩
    | 11, h => obtain ⟨g, h1, h2, h3⟩ := h; exact ⟨g, h1, h2, h3.ext hX⟩
    | _ + 12, h => exact h
  have hsz : ∀ d, some d ∈ ([some 24, some 25, some 26, some 27, some 28, some 29, some 30, some 31, some 32, some 33, some 8, some 9] : List (Option Tmp)) → d < a.tmps.size := slots_lt (by decide) hsize
  refine wp_region_j 12 [some 24, some 25, some 26, some 27, some 28, some 29, some 30, some 31, some 32, some 33, some 8, some 9] [[], [0], [], [2], [1, 3], [], [5], [], [7], [6, 8], [4], [9]] [[], [], [], [], [], [], [], [], [], [], [], []] (fun (i : Nat) (v : Value) (W : World) => match i with
    | 0 => v = .pointer (some ⟨ga, 0, none⟩)
    | 1 => v = .int .i64 xa
    | 2 => v = .pointer (some ⟨ga, 1, none⟩)
    | 3 => v = .int .i64 xb
    | 4 => ∃ g, v = .slice (some ⟨g, 0, none⟩) 2 2 ∧ w.heap.size ≤ g ∧ Blk W g 3 #[.int .i64 xa, .int .i64 xb]
    | 5 => v = .pointer (some ⟨gb, 0, none⟩)
    | 6 => v = .int .i64 xc
    | 7 => v = .pointer (some ⟨gb, 1, none⟩)
    | 8 => v = .int .i64 xd
    | 9 => ∃ g, v = .slice (some ⟨g, 0, none⟩) 2 2 ∧ w.heap.size ≤ g ∧ Blk W g 3 #[.int .i64 xc, .int .i64 xd]
    | 10 => ∃ g, v = .slice (some ⟨g, 0, none⟩) 2 2 ∧ w.heap.size ≤ g ∧ Blk W g 3 #[.int .i64 xa, .int .i64 xb]
    | 11 => ∃ g, v = .slice (some ⟨g, 0, none⟩) 2 2 ∧ w.heap.size ≤ g ∧ Blk W g 3 #[.int .i64 xc, .int .i64 xd]
    | _ => True) (fun _ W => Ext w W) (by kernel_rfl) (by kernel_rfl) hsz (fun _ _ _ _ h => h) ((Ext.refl w).drew) ?_ ?_
  · clear hend
    simp only [rops, Try.f67, regOf, Option.bind_some, Nat.reduceBEq, if_true, if_false, Bool.false_eq_true, Option.getD_some]
    simp only [List.take_succ_cons, List.take_zero]
    refine ⟨?_, ?_, ?_, ?_, ?_, ?_, ?_, ?_, ?_, ?_, ?_, ?_, trivial⟩
    · intro done us W hJ hdep haft hnot b hb hb' K hK Q'
      have e4 := (hb' 4 (by simp)).trans s4
      clear hb hb'
      go_simp
      exact hK _ _ rfl (fun _ _ _ h => h) hJ
    · intro done us W hJ hdep haft hnot b hb hb' K hK Q'
      simp only [List.getD_cons_succ, List.getD_cons_zero, List.mem_cons, List.not_mem_nil, or_false, forall_eq_or_imp, forall_eq] at hdep
      have e24 := hb 0 24 rfl
      have d0 := hdep
      rw [d0.1] at e24
      clear hb hb' hdep d0
      have q := Ext.cell hJ h0
      go_simp
      exact hK _ _ rfl (fun _ _ _ h => h) hJ
    · intro done us W hJ hdep haft hnot b hb hb' K hK Q'
      have e4 := (hb' 4 (by simp)).trans s4
      clear hb hb'
      go_simp
      exact hK _ _ rfl (fun _ _ _ h => h) hJ
    · intro done us W hJ hdep haft hnot b hb hb' K hK Q'
      simp only [List.getD_cons_succ, List.getD_cons_zero, List.mem_cons, List.not_mem_nil, or_false, forall_eq_or_imp, forall_eq] at hdep
      have e26 := hb 2 26 rfl
      have d2 := hdep
      rw [d2.1] at e26
      clear hb hb' hdep d2
      have q := Ext.cell hJ h1
      go_simp
      exact hK _ _ rfl (fun _ _ _ h => h) hJ
    · intro done us W hJ hdep haft hnot b hb hb' K hK Q'
      simp only [List.getD_cons_succ, List.getD_cons_zero, List.mem_cons, List.not_mem_nil, or_false, forall_eq_or_imp, forall_eq] at hdep
      have e25 := hb 1 25 rfl
      have e27 := hb 3 27 rfl
      have d1 := hdep.1
      have d3 := hdep.2
      rw [d1.1] at e25
      rw [d3.1] at e27
      clear hb hb' hdep d1 d3
      have hX : Ext W (W.alloc (.cells #[.int .i64 xa, .int .i64 xb] 3)) := (Ext.refl W).alloc _
      go_simp
      exact hK _ _ ⟨_, rfl, Ext.size hJ, Blk.new _ _ _⟩ (fun j u _ h => hmono _ _ j u hX h) (Ext.trans hJ hX)
    · intro done us W hJ hdep haft hnot b hb hb' K hK Q'
      have e5 := (hb' 5 (by simp)).trans s5
      clear hb hb'
      go_simp
      exact hK _ _ rfl (fun _ _ _ h => h) hJ
    · intro done us W hJ hdep haft hnot b hb hb' K hK Q'
      simp only [List.getD_cons_succ, List.getD_cons_zero, List.mem_cons, List.not_mem_nil, or_false, forall_eq_or_imp, forall_eq] at hdep
      have e29 := hb 5 29 rfl
      have d5 := hdep
      rw [d5.1] at e29
      clear hb hb' hdep d5
      have q := Ext.cell hJ h2
      go_simp
      exact hK _ _ rfl (fun _ _ _ h => h) hJ
    · intro done us W hJ hdep haft hnot b hb hb' K hK Q'
      have e5 := (hb' 5 (by simp)).trans s5
      clear hb hb'
      go_simp
      exact hK _ _ rfl (fun _ _ _ h => h) hJ
    · intro done us W hJ hdep haft hnot b hb hb' K hK Q'
      simp only [List.getD_cons_succ, List.getD_cons_zero, List.mem_cons, List.not_mem_nil, or_false, forall_eq_or_imp, forall_eq] at hdep
      have e31 := hb 7 31 rfl
      have d7 := hdep
      rw [d7.1] at e31
      clear hb hb' hdep d7
      have q := Ext.cell hJ h3
      go_simp
      exact hK _ _ rfl (fun _ _ _ h => h) hJ
    · intro done us W hJ hdep haft hnot b hb hb' K hK Q'
      simp only [List.getD_cons_succ, List.getD_cons_zero, List.mem_cons, List.not_mem_nil, or_false, forall_eq_or_imp, forall_eq] at hdep
      have e30 := hb 6 30 rfl
      have e32 := hb 8 32 rfl
      have d6 := hdep.1
      have d8 := hdep.2
      rw [d6.1] at e30
      rw [d8.1] at e32
      clear hb hb' hdep d6 d8
      have hX : Ext W (W.alloc (.cells #[.int .i64 xc, .int .i64 xd] 3)) := (Ext.refl W).alloc _
      go_simp
      exact hK _ _ ⟨_, rfl, Ext.size hJ, Blk.new _ _ _⟩ (fun j u _ h => hmono _ _ j u hX h) (Ext.trans hJ hX)
    · intro done us W hJ hdep haft hnot b hb hb' K hK Q'
      simp only [List.getD_cons_succ, List.getD_cons_zero, List.mem_cons, List.not_mem_nil, or_false, forall_eq_or_imp, forall_eq] at hdep
      have e28 := hb 4 28 rfl
      have d4 := hdep
      clear hb hb' hdep 
      obtain ⟨g, hv9, hg9, hB9⟩ := d4.1
      rw [hv9] at e28
      clear hv9 d4
      go_simp
      exact hK _ _ ⟨g, rfl, hg9, hB9⟩ (fun _ _ _ h => h) hJ
    · intro done us W hJ hdep haft hnot b hb hb' K hK Q'
      simp only [List.getD_cons_succ, List.getD_cons_zero, List.mem_cons, List.not_mem_nil, or_false, forall_eq_or_imp, forall_eq] at hdep
      have e33 := hb 9 33 rfl
      have d9 := hdep
      clear hb hb' hdep 
      obtain ⟨g, hv9, hg9, hB9⟩ := d9.1
      rw [hv9] at e33
      clear hv9 d9
      go_simp
      exact hK _ _ ⟨g, rfl, hg9, hB9⟩ (fun _ _ _ h => h) hJ
  · intro us W hV hJ
    exact hend (us 0) (us 1) (us 2) (us 3) (us 4) (us 5) (us 6) (us 7) (us 8) (us 9) (us 10) (us 11) W (hV 0 (by omega)) (hV 1 (by omega)) (hV 2 (by omega)) (hV 3 (by omega)) (hV 4 (by omega)) (hV 5 (by omega)) (hV 6 (by omega)) (hV 7 (by omega)) (hV 8 (by omega)) (hV 9 (by omega)) (hV 10 (by omega)) (hV 11 (by omega)) hJ
set_option maxRecDepth 100000 in
set_option maxHeartbeats 2000000 in
theorem operate_r11 (gx gy ki kj : Nat) (xi yj : Int) (w : World) (hcx : w.cell? ⟨gx, ki, none⟩ = some (.int .i64 xi)) (hcy : w.cell? ⟨gy, kj, none⟩ = some (.int .i64 yj)) (hk0 : (0 : Int) ≤ (ki : Int)) (hk1 : (ki : Int) < 2) (hj0 : (0 : Int) ≤ (kj : Int)) (hj1 : (kj : Int) < 2) (hbxi0 : -9223372036854775808 ≤ xi) (hbxi1 : xi ≤ 9223372036854775807) (hbyj0 : -9223372036854775808 ≤ yj) (hbyj1 : yj ≤ 9223372036854775807) (a : Act) (Q : Exit → Act → World → Prop) (hsize : 52 ≤ a.tmps.size)
    (s8 : a.tmps[8]? = some (.slice (some ⟨gx, 0, none⟩) 2 2))
    (s9 : a.tmps[9]? = some (.slice (some ⟨gy, 0, none⟩) 2 2))
    (s11 : a.tmps[11]? = some (.int .i64 (ki : Int)))
    (s12 : a.tmps[12]? = some (.int .i64 (kj : Int)))
    (hend : ∀ (xv0 xv1 xv2 xv3 xv4 xv5 xv6 xv7 xv8 xv9 xv10 xv11 xv12 xv13 : Value) (W : World), (xv0 = .slice (some ⟨gx, 0, none⟩) 2 2) → (xv1 = .int .i64 (ki : Int)) → (xv2 = .pointer (some ⟨gx, ki, none⟩)) → (xv3 = .int .i64 xi) → (xv5 = .slice (some ⟨gy, 0, none⟩) 2 2) → (xv6 = .int .i64 (kj : Int)) → (xv7 = .pointer (some ⟨gy, kj, none⟩)) → (xv8 = .int .i64 yj) → (QZ W xv4 ((xi : Int) : Rat)) → (QZ W xv9 ((yj : Int) : Rat)) → (∃ g, xv10 = .pointer (some ⟨g, 0, none⟩) ∧ w.heap.size ≤ g ∧ Blk W g 42 (aggOf xv4)) → (∃ g, xv11 = .pointer (some ⟨g, 0, none⟩) ∧ w.heap.size ≤ g ∧ Blk W g 42 (aggOf xv9)) → (xv10 ≠ xv11) → Ext w W → wpList Try.prog (rops Try.f67 11).toArray Q [] ((((((((((((((a.put (some 42) xv0).put (some 43) xv1).put (some 44) xv2).put (some 45) xv3).put (some 46) xv4).put (some 47) xv5).put (some 48) xv6).put (some 49) xv7).put (some 50) xv8).put (some 51) xv9).put (some 13) xv10).put (some 14) xv11).put (none) xv12).put (none) xv13) W) :
    (Code.region 11 (rops Try.f67 11).toArray true).wp Try.prog Q a w := by
  have hsz : ∀ d, some d ∈ ([some 42, some 43, some 44, some 45, some 46, some 47, some 48, some 49, some 50, some 51, some 13, some 14, none, none] : List (Option Tmp)) → d < a.tmps.size := slots_lt (by decide) hsize
  refine wp_region_g 14 [some 42, some 43, some 44, some 45, some 46, some 47, some 48, some 49, some 50, some 51, some 13, some 14, none, none] [[], [], [0, 1], [2], [3], [], [], [5, 6], [7], [8], [], [], [4, 10], [9, 11]] [[], [], [], [], [12], [], [], [], [], [13], [12], [13], [], []] (fun (done : Nat → Prop) (us : Nat → Value) (W : World) => Ext w W ∧ (done 0 → us 0 = .slice (some ⟨gx, 0, none⟩) 2 2) ∧ (done 1 → us 1 = .int .i64 (ki : Int)) ∧ (done 2 → us 2 = .pointer (some ⟨gx, ki, none⟩)) ∧ (done 3 → us 3 = .int .i64 xi) ∧ (done 5 → us 5 = .slice (some ⟨gy, 0, none⟩) 2 2) ∧ (done 6 → us 6 = .int .i64 (kj : Int)) ∧ (done 7 → us 7 = .pointer (some ⟨gy, kj, none⟩)) ∧ (done 8 → us 8 = .int .i64 yj) ∧ (done 4 → QZ W (us 4) ((xi : Int) : Rat)) ∧ (done 9 → QZ W (us 9) ((yj : Int) : Rat)) ∧ Loc w W 42 #[.bool false, .slice none 0 0, .slice none 0 0] (aggOf (us 4)) (done 10) (done 12) (us 10) ∧ Loc w W 42 #[.bool false, .slice none 0 0, .slice none 0 0] (aggOf (us 9)) (done 11) (done 13) (us 11) ∧ Far (done 10) (done 11) (us 10) (us 11)) (by kernel_rfl) (by kernel_rfl) hsz (fun p q us W h => by have e : p = q := funext fun k => propext (h k); rw [e]; exact id) (fun us => ⟨(Ext.refl w).drew, fun h => h.elim, fun h => h.elim, fun h => h.elim, fun h => h.elim, fun h => h.elim, fun h => h.elim, fun h => h.elim, fun h => h.elim, fun h => h.elim, fun h => h.elim, Loc.unmade id, Loc.unmade id, fun h => h.elim⟩) ?_ ?_
  · clear hend
    simp only [rops, Try.f67, regOf, Option.bind_some, Nat.reduceBEq, if_true, if_false, Bool.false_eq_true, Option.getD_some]
    simp only [List.take_succ_cons, List.take_zero]
    refine ⟨?_, ?_, ?_, ?_, ?_, ?_, ?_, ?_, ?_, ?_, ?_, ?_, ?_, ?_, trivial⟩
    · intro done us W hJ hdep haft hnot b hb hb' K hK Q'
      obtain ⟨hX0, cc0, cc1, cc2, cc3, cc5, cc6, cc7, cc8, pp4, pp9, ll10, ll11, f10_11⟩ := hJ
      have e8 := (hb' 8 (by simp)).trans s8
      clear hb hb'
      have hfin := hK (.slice (some ⟨gx, 0, none⟩) 2 2) _ ⟨hX0, fun _ => rfl, fun h => cc1 (h.resolve_right (by decide)), fun h => cc2 (h.resolve_right (by decide)), fun h => cc3 (h.resolve_right (by decide)), fun h => cc5 (h.resolve_right (by decide)), fun h => cc6 (h.resolve_right (by decide)), fun h => cc7 (h.resolve_right (by decide)), fun h => cc8 (h.resolve_right (by decide)), fun h => pp4 (h.resolve_right (by decide)), fun h => pp9 (h.resolve_right (by decide)), Loc.same ll10 ⟨fun h => h.resolve_right (by decide), .inl⟩ ⟨fun h => h.resolve_right (by decide), .inl⟩, Loc.same ll11 ⟨fun h => h.resolve_right (by decide), .inl⟩ ⟨fun h => h.resolve_right (by decide), .inl⟩, fun h h' => f10_11 (h.resolve_right (by decide)) (h'.resolve_right (by decide))⟩
      clear hK cc0 cc1 cc2 cc3 cc5 cc6 cc7 cc8 pp4 pp9 ll10 ll11 f10_11
      go_simp
      exact hfin
    · intro done us W hJ hdep haft hnot b hb hb' K hK Q'
      obtain ⟨hX0, cc0, cc1, cc2, cc3, cc5, cc6, cc7, cc8, pp4, pp9, ll10, ll11, f10_11⟩ := hJ
      have e11 := (hb' 11 (by simp)).trans s11
      clear hb hb'
      have hfin := hK (.int .i64 (ki : Int)) _ ⟨hX0, fun h => cc0 (h.resolve_right (by decide)), fun _ => rfl, fun h => cc2 (h.resolve_right (by decide)), fun h => cc3 (h.resolve_right (by decide)), fun h => cc5 (h.resolve_right (by decide)), fun h => cc6 (h.resolve_right (by decide)), fun h => cc7 (h.resolve_right (by decide)), fun h => cc8 (h.resolve_right (by decide)), fun h => pp4 (h.resolve_right (by decide)), fun h => pp9 (h.resolve_right (by decide)), Loc.same ll10 ⟨fun h => h.resolve_right (by decide), .inl⟩ ⟨fun h => h.resolve_right (by decide), .inl⟩, Loc.same ll11 ⟨fun h => h.resolve_right (by decide), .inl⟩ ⟨fun h => h.resolve_right (by decide), .inl⟩, fun h h' => f10_11 (h.resolve_right (by decide)) (h'.resolve_right (by decide))⟩
      clear hK cc0 cc1 cc2 cc3 cc5 cc6 cc7 cc8 pp4 pp9 ll10 ll11 f10_11
      go_simp
      exact hfin
    · intro done us W hJ hdep haft hnot b hb hb' K hK Q'
      obtain ⟨hX0, cc0, cc1, cc2, cc3, cc5, cc6, cc7, cc8, pp4, pp9, ll10, ll11, f10_11⟩ := hJ
      simp only [List.getD_cons_succ, List.getD_cons_zero, List.mem_cons, List.not_mem_nil, or_false, forall_eq_or_imp, forall_eq] at hdep
      have e42 := hb 0 42 rfl
      rw [cc0 hdep.1] at e42
      have e43 := hb 1 43 rfl
      rw [cc1 hdep.2] at e43
      clear hb hb'
      have hfin := hK (.pointer (some ⟨gx, ki, none⟩)) _ ⟨hX0, fun h => cc0 (h.resolve_right (by decide)), fun h => cc1 (h.resolve_right (by decide)), fun _ => rfl, fun h => cc3 (h.resolve_right (by decide)), fun h => cc5 (h.resolve_right (by decide)), fun h => cc6 (h.resolve_right (by decide)), fun h => cc7 (h.resolve_right (by decide)), fun h => cc8 (h.resolve_right (by decide)), fun h => pp4 (h.resolve_right (by decide)), fun h => pp9 (h.resolve_right (by decide)), Loc.same ll10 ⟨fun h => h.resolve_right (by decide), .inl⟩ ⟨fun h => h.resolve_right (by decide), .inl⟩, Loc.same ll11 ⟨fun h => h.resolve_right (by decide), .inl⟩ ⟨fun h => h.resolve_right (by decide), .inl⟩, fun h h' => f10_11 (h.resolve_right (by decide)) (h'.resolve_right (by decide))⟩
      clear hK cc0 cc1 cc2 cc3 cc5 cc6 cc7 cc8 pp4 pp9 ll10 ll11 f10_11
      go_simp
      exact hfin
    · intro done us W hJ hdep haft hnot b hb hb' K hK Q'
      obtain ⟨hX0, cc0, cc1, cc2, cc3, cc5, cc6, cc7, cc8, pp4, pp9, ll10, ll11, f10_11⟩ := hJ
      simp only [List.getD_cons_succ, List.getD_cons_zero, List.mem_cons, List.not_mem_nil, or_false, forall_eq_or_imp, forall_eq] at hdep
      have e44 := hb 2 44 rfl
      rw [cc2 hdep] at e44
      clear hb hb'
      have z0 := Ext.cell hX0 hcx
      have hfin := hK (.int .i64 xi) _ ⟨hX0, fun h => cc0 (h.resolve_right (by decide)), fun h => cc1 (h.resolve_right (by decide)), fun h => cc2 (h.resolve_right (by decide)), fun _ => rfl, fun h => cc5 (h.resolve_right (by decide)), fun h => cc6 (h.resolve_right (by decide)), fun h => cc7 (h.resolve_right (by decide)), fun h => cc8 (h.resolve_right (by decide)), fun h => pp4 (h.resolve_right (by decide)), fun h => pp9 (h.resolve_right (by decide)), Loc.same ll10 ⟨fun h => h.resolve_right (by decide), .inl⟩ ⟨fun h => h.resolve_right (by decide), .inl⟩, Loc.same ll11 ⟨fun h => h.resolve_right (by decide), .inl⟩ ⟨fun h => h.resolve_right (by decide), .inl⟩, fun h h' => f10_11 (h.resolve_right (by decide)) (h'.resolve_right (by decide))⟩
      clear hK cc0 cc1 cc2 cc3 cc5 cc6 cc7 cc8 pp4 pp9 ll10 ll11 f10_11
      go_simp
      exact hfin
    · intro done us W hJ hdep haft hnot b hb hb' K hK Q'
      obtain ⟨hX0, cc0, cc1, cc2, cc3, cc5, cc6, cc7, cc8, pp4, pp9, ll10, ll11, f10_11⟩ := hJ
      simp only [List.getD_cons_succ, List.getD_cons_zero, List.mem_cons, List.not_mem_nil, or_false, forall_eq_or_imp, forall_eq] at hdep
      simp only [List.getD_cons_succ, List.getD_cons_zero, List.mem_cons, List.not_mem_nil, or_false, forall_eq_or_imp, forall_eq] at haft
      have e45 := hb 3 45 rfl
      rw [cc3 hdep] at e45
      clear hb hb'
      go_simp
      refine (whole_any xi _ hbxi0 hbxi1).mono ?_
      rintro e w' ⟨v, rfl, hv, hX⟩
      exact hK _ _ ⟨Ext.trans hX0 hX, fun h => cc0 (h.resolve_right (by decide)), fun h => cc1 (h.resolve_right (by decide)), fun h => cc2 (h.resolve_right (by decide)), fun h => cc3 (h.resolve_right (by decide)), fun h => cc5 (h.resolve_right (by decide)), fun h => cc6 (h.resolve_right (by decide)), fun h => cc7 (h.resolve_right (by decide)), fun h => cc8 (h.resolve_right (by decide)), fun _ => hv, fun h => QZ.ext (pp9 (h.resolve_right (by decide))) hX, Loc.same (Loc.revs (ll10.ext hX) haft) ⟨fun h => h.resolve_right (by decide), .inl⟩ ⟨fun h => h.resolve_right (by decide), .inl⟩, Loc.same (ll11.ext hX) ⟨fun h => h.resolve_right (by decide), .inl⟩ ⟨fun h => h.resolve_right (by decide), .inl⟩, fun h h' => f10_11 (h.resolve_right (by decide)) (h'.resolve_right (by decide))⟩
    · intro done us W hJ hdep haft hnot b hb hb' K hK Q'
      obtain ⟨hX0, cc0, cc1, cc2, cc3, cc5, cc6, cc7, cc8, pp4, pp9, ll10, ll11, f10_11⟩ := hJ
      have e9 := (hb' 9 (by simp)).trans s9
      clear hb hb'
      have hfin := hK (.slice (some ⟨gy, 0, none⟩) 2 2) _ ⟨hX0, fun h => cc0 (h.resolve_right (by decide)), fun h => cc1 (h.resolve_right (by decide)), fun h => cc2 (h.resolve_right (by decide)), fun h => cc3 (h.resolve_right (by decide)), fun _ => rfl, fun h => cc6 (h.resolve_right (by decide)), fun h => cc7 (h.resolve_right (by decide)), fun h => cc8 (h.resolve_right (by decide)), fun h => pp4 (h.resolve_right (by decide)), fun h => pp9 (h.resolve_right (by decide)), Loc.same ll10 ⟨fun h => h.resolve_right (by decide), .inl⟩ ⟨fun h => h.resolve_right (by decide), .inl⟩, Loc.same ll11 ⟨fun h => h.resolve_right (by decide), .inl⟩ ⟨fun h => h.resolve_right (by decide), .inl⟩, fun h h' => f10_11 (h.resolve_right (by decide)) (h'.resolve_right (by decide))⟩
      clear hK cc0 cc1 cc2 cc3 cc5 cc6 cc7 cc8 pp4 pp9 ll10 ll11 f10_11
      go_simp
      exact hfin
    · intro done us W hJ hdep haft hnot b hb hb' K hK Q'
      obtain ⟨hX0, cc0, cc1, cc2, cc3, cc5, cc6, cc7, cc8, pp4, pp9, ll10, ll11, f10_11⟩ := hJ
      have e12 := (hb' 12 (by simp)).trans s12
      clear hb hb'
      have hfin := hK (.int .i64 (kj : Int)) _ ⟨hX0, fun h => cc0 (h.resolve_right (by decide)), fun h => cc1 (h.resolve_right (by decide)), fun h => cc2 (h.resolve_right (by decide)), fun h => cc3 (h.resolve_right (by decide)), fun h => cc5 (h.resolve_right (by decide)), fun _ => rfl, fun h => cc7 (h.resolve_right (by decide)), fun h => cc8 (h.resolve_right (by decide)), fun h => pp4 (h.resolve_right (by decide)), fun h => pp9 (h.resolve_right (by decide)), Loc.same ll10 ⟨fun h => h.resolve_right (by decide), .inl⟩ ⟨fun h => h.resolve_right (by decide), .inl⟩, Loc.same ll11 ⟨fun h => h.resolve_right (by decide), .inl⟩ ⟨fun h => h.resolve_right (by decide), .inl⟩, fun h h' => f10_11 (h.resolve_right (by decide)) (h'.resolve_right (by decide))⟩
      clear hK cc0 cc1 cc2 cc3 cc5 cc6 cc7 cc8 pp4 pp9 ll10 ll11 f10_11
      go_simp
      exact hfin
    · intro done us W hJ hdep haft hnot b hb hb' K hK Q'
      obtain ⟨hX0, cc0, cc1, cc2, cc3, cc5, cc6, cc7, cc8, pp4, pp9, ll10, ll11, f10_11⟩ := hJ
      simp only [List.getD_cons_succ, List.getD_cons_zero, List.mem_cons, List.not_mem_nil, or_false, forall_eq_or_imp, forall_eq] at hdep
      have e47 := hb 5 47 rfl
      rw [cc5 hdep.1] at e47
      have e48 := hb 6 48 rfl
      rw [cc6 hdep.2] at e48
      clear hb hb'
      have hfin := hK (.pointer (some ⟨gy, kj, none⟩)) _ ⟨hX0, fun h => cc0 (h.resolve_right (by decide)), fun h => cc1 (h.resolve_right (by decide)), fun h => cc2 (h.resolve_right (by decide)), fun h => cc3 (h.resolve_right (by decide)), fun h => cc5 (h.resolve_right (by decide)), fun h => cc6 (h.resolve_right (by decide)), fun _ => rfl, fun h => cc8 (h.resolve_right (by decide)), fun h => pp4 (h.resolve_right (by decide)), fun h => pp9 (h.resolve_right (by decide)), Loc.same ll10 ⟨fun h => h.resolve_right (by decide), .inl⟩ ⟨fun h => h.resolve_right (by decide), .inl⟩, Loc.same ll11 ⟨fun h => h.resolve_right (by decide), .inl⟩ ⟨fun h => h.resolve_right (by decide), .inl⟩, fun h h' => f10_11 (h.resolve_right (by decide)) (h'.resolve_right (by decide))⟩
      clear hK cc0 cc1 cc2 cc3 cc5 cc6 cc7 cc8 pp4 pp9 ll10 ll11 f10_11
      go_simp
      exact hfin
    · intro done us W hJ hdep haft hnot b hb hb' K hK Q'
      obtain ⟨hX0, cc0, cc1, cc2, cc3, cc5, cc6, cc7, cc8, pp4, pp9, ll10, ll11, f10_11⟩ := hJ
      simp only [List.getD_cons_succ, List.getD_cons_zero, List.mem_cons, List.not_mem_nil, or_false, forall_eq_or_imp, forall_eq] at hdep
      have e49 := hb 7 49 rfl
      rw [cc7 hdep] at e49
      clear hb hb'
      have z0 := Ext.cell hX0 hcy
      have hfin := hK (.int .i64 yj) _ ⟨hX0, fun h => cc0 (h.resolve_right (by decide)), fun h => cc1 (h.resolve_right (by decide)), fun h => cc2 (h.resolve_right (by decide)), fun h => cc3 (h.resolve_right (by decide)), fun h => cc5 (h.resolve_right (by decide)), fun h => cc6 (h.resolve_right (by decide)), fun h => cc7 (h.resolve_right (by decide)), fun _ => rfl, fun h => pp4 (h.resolve_right (by decide)), fun h => pp9 (h.resolve_right (by decide)), Loc.same ll10 ⟨fun h => h.resolve_right (by decide), .inl⟩ ⟨fun h => h.resolve_right (by decide), .inl⟩, Loc.same ll11 ⟨fun h => h.resolve_right (by decide), .inl⟩ ⟨fun h => h.resolve_right (by decide), .inl⟩, fun h h' => f10_11 (h.resolve_right (by decide)) (h'.resolve_right (by decide))⟩
      clear hK cc0 cc1 cc2 cc3 cc5 cc6 cc7 cc8 pp4 pp9 ll10 ll11 f10_11
      go_simp
      exact hfin
    · intro done us W hJ hdep haft hnot b hb hb' K hK Q'
      obtain ⟨hX0, cc0, cc1, cc2, cc3, cc5, cc6, cc7, cc8, pp4, pp9, ll10, ll11, f10_11⟩ := hJ
      simp only [List.getD_cons_succ, List.getD_cons_zero, List.mem_cons, List.not_mem_nil, or_false, forall_eq_or_imp, forall_eq] at hdep
      simp only [List.getD_cons_succ, List.getD_cons_zero, List.mem_cons, List.not_mem_nil, or_false, forall_eq_or_imp, forall_eq] at haft
      have e50 := hb 8 50 rfl
      rw [cc8 hdep] at e50
      clear hb hb'
      go_simp
      refine (whole_any yj _ hbyj0 hbyj1).mono ?_
      rintro e w' ⟨v, rfl, hv, hX⟩
      exact hK _ _ ⟨Ext.trans hX0 hX, fun h => cc0 (h.resolve_right (by decide)), fun h => cc1 (h.resolve_right (by decide)), fun h => cc2 (h.resolve_right (by decide)), fun h => cc3 (h.resolve_right (by decide)), fun h => cc5 (h.resolve_right (by decide)), fun h => cc6 (h.resolve_right (by decide)), fun h => cc7 (h.resolve_right (by decide)), fun h => cc8 (h.resolve_right (by decide)), fun h => QZ.ext (pp4 (h.resolve_right (by decide))) hX, fun _ => hv, Loc.same (ll10.ext hX) ⟨fun h => h.resolve_right (by decide), .inl⟩ ⟨fun h => h.resolve_right (by decide), .inl⟩, Loc.same (Loc.revs (ll11.ext hX) haft) ⟨fun h => h.resolve_right (by decide), .inl⟩ ⟨fun h => h.resolve_right (by decide), .inl⟩, fun h h' => f10_11 (h.resolve_right (by decide)) (h'.resolve_right (by decide))⟩
    · intro done us W hJ hdep haft hnot b hb hb' K hK Q'
      obtain ⟨hX0, cc0, cc1, cc2, cc3, cc5, cc6, cc7, cc8, pp4, pp9, ll10, ll11, f10_11⟩ := hJ
      simp only [List.getD_cons_succ, List.getD_cons_zero, List.mem_cons, List.not_mem_nil, or_false, forall_eq_or_imp, forall_eq] at haft
      clear hb hb'
      have hfin := hK _ _ ⟨hX0.alloc _, fun h => cc0 (h.resolve_right (by decide)), fun h => cc1 (h.resolve_right (by decide)), fun h => cc2 (h.resolve_right (by decide)), fun h => cc3 (h.resolve_right (by decide)), fun h => cc5 (h.resolve_right (by decide)), fun h => cc6 (h.resolve_right (by decide)), fun h => cc7 (h.resolve_right (by decide)), fun h => cc8 (h.resolve_right (by decide)), fun h => QZ.ext (pp4 (h.resolve_right (by decide))) ((Ext.refl _).alloc _), fun h => QZ.ext (pp9 (h.resolve_right (by decide))) ((Ext.refl _).alloc _), Loc.new w W hX0 (fun h => h.elim haft (by decide)) (Ext.refl _), Loc.same (ll11.ext ((Ext.refl _).alloc _)) ⟨fun h => h.resolve_right (by decide), .inl⟩ ⟨fun h => h.resolve_right (by decide), .inl⟩, fun _ h => Ne.symm (ll11.far_new (h.resolve_right (by decide)))⟩
      clear hK hX0 cc0 cc1 cc2 cc3 cc5 cc6 cc7 cc8 pp4 pp9 ll10 ll11 f10_11
      go_simp
      exact hfin
    · intro done us W hJ hdep haft hnot b hb hb' K hK Q'
      obtain ⟨hX0, cc0, cc1, cc2, cc3, cc5, cc6, cc7, cc8, pp4, pp9, ll10, ll11, f10_11⟩ := hJ
      simp only [List.getD_cons_succ, List.getD_cons_zero, List.mem_cons, List.not_mem_nil, or_false, forall_eq_or_imp, forall_eq] at haft
      clear hb hb'
      have hfin := hK _ _ ⟨hX0.alloc _, fun h => cc0 (h.resolve_right (by decide)), fun h => cc1 (h.resolve_right (by decide)), fun h => cc2 (h.resolve_right (by decide)), fun h => cc3 (h.resolve_right (by decide)), fun h => cc5 (h.resolve_right (by decide)), fun h => cc6 (h.resolve_right (by decide)), fun h => cc7 (h.resolve_right (by decide)), fun h => cc8 (h.resolve_right (by decide)), fun h => QZ.ext (pp4 (h.resolve_right (by decide))) ((Ext.refl _).alloc _), fun h => QZ.ext (pp9 (h.resolve_right (by decide))) ((Ext.refl _).alloc _), Loc.same (ll10.ext ((Ext.refl _).alloc _)) ⟨fun h => h.resolve_right (by decide), .inl⟩ ⟨fun h => h.resolve_right (by decide), .inl⟩, Loc.new w W hX0 (fun h => h.elim haft (by decide)) (Ext.refl _), fun h _ => ll10.far_new (h.resolve_right (by decide))⟩
      clear hK hX0 cc0 cc1 cc2 cc3 cc5 cc6 cc7 cc8 pp4 pp9 ll10 ll11 f10_11
      go_simp
      exact hfin
    · intro done us W hJ hdep haft hnot b hb hb' K hK Q'
      obtain ⟨hX0, cc0, cc1, cc2, cc3, cc5, cc6, cc7, cc8, pp4, pp9, ll10, ll11, f10_11⟩ := hJ
      simp only [List.getD_cons_succ, List.getD_cons_zero, List.mem_cons, List.not_mem_nil, or_false, forall_eq_or_imp, forall_eq] at hdep
      have e13 := hb 10 13 rfl
      have e46 := hb 4 46 rfl
      obtain ⟨g, eg, hg, hB⟩ := ll10.stored hdep.2 hnot
      rw [eg] at e13
      have q0 : W.cell? ⟨g, 0, none⟩ = some (.bool false) := hB.cell 0
      have z0 : W.frozen? ⟨g, 0, none⟩ = false := hB.free 0
      have q1 : W.cell? ⟨g, 1, none⟩ = some (.slice none 0 0) := hB.cell 1
      have z1 : W.frozen? ⟨g, 1, none⟩ = false := hB.free 1
      have q2 : W.cell? ⟨g, 2, none⟩ = some (.slice none 0 0) := hB.cell 2
      have z2 : W.frozen? ⟨g, 2, none⟩ = false := hB.free 2
      clear hb hb'
      obtain ⟨s9, A9, l9, c9, B9, m9, k9, hu⟩ := QZ.open (pp4 hdep.1)
      rw [hu] at e46
      have hN := NoInts.three hB
      have hfin := hK undef _ ⟨(((hX0.setCell hg _).setCell hg _).setCell hg _), fun h => cc0 (h.resolve_right (by decide)), fun h => cc1 (h.resolve_right (by decide)), fun h => cc2 (h.resolve_right (by decide)), fun h => cc3 (h.resolve_right (by decide)), fun h => cc5 (h.resolve_right (by decide)), fun h => cc6 (h.resolve_right (by decide)), fun h => cc7 (h.resolve_right (by decide)), fun h => cc8 (h.resolve_right (by decide)), fun h => QZ.past' (pp4 (h.resolve_right (by decide))) hN, fun h => QZ.past' (pp9 (h.resolve_right (by decide))) hN, ⟨fun _ => ⟨g, eg, hg, fun _ => (Blk.put3 hB hu), fun h => absurd (.inr rfl) h⟩⟩, Loc.same (Loc.keep (Loc.keep (Loc.keep ll11 (f := (fun h k => Ne.symm (f10_11 k h))) hdep.2 eg) (f := (fun h k => Ne.symm (f10_11 k h))) hdep.2 eg) (f := (fun h k => Ne.symm (f10_11 k h))) hdep.2 eg) ⟨fun h => h.resolve_right (by decide), .inl⟩ ⟨fun h => h.resolve_right (by decide), .inl⟩, fun h h' => f10_11 (h.resolve_right (by decide)) (h'.resolve_right (by decide))⟩
      clear hK hX0 cc0 cc1 cc2 cc3 cc5 cc6 cc7 cc8 pp4 pp9 ll10 ll11 f10_11
      go_simp
      exact hfin
    · intro done us W hJ hdep haft hnot b hb hb' K hK Q'
      obtain ⟨hX0, cc0, cc1, cc2, cc3, cc5, cc6, cc7, cc8, pp4, pp9, ll10, ll11, f10_11⟩ := hJ
      simp only [List.getD_cons_succ, List.getD_cons_zero, List.mem_cons, List.not_mem_nil, or_false, forall_eq_or_imp, forall_eq] at hdep
      have e14 := hb 11 14 rfl
      have e51 := hb 9 51 rfl
      obtain ⟨g, eg, hg, hB⟩ := ll11.stored hdep.2 hnot
      rw [eg] at e14
      have q0 : W.cell? ⟨g, 0, none⟩ = some (.bool false) := hB.cell 0
      have z0 : W.frozen? ⟨g, 0, none⟩ = false := hB.free 0
      have q1 : W.cell? ⟨g, 1, none⟩ = some (.slice none 0 0) := hB.cell 1
      have z1 : W.frozen? ⟨g, 1, none⟩ = false := hB.free 1
      have q2 : W.cell? ⟨g, 2, none⟩ = some (.slice none 0 0) := hB.cell 2
      have z2 : W.frozen? ⟨g, 2, none⟩ = false := hB.free 2
      clear hb hb'
      obtain ⟨s9, A9, l9, c9, B9, m9, k9, hu⟩ := QZ.open (pp9 hdep.1)
      rw [hu] at e51
      have hN := NoInts.three hB
      have hfin := hK undef _ ⟨(((hX0.setCell hg _).setCell hg _).setCell hg _), fun h => cc0 (h.resolve_right (by decide)), fun h => cc1 (h.resolve_right (by decide)), fun h => cc2 (h.resolve_right (by decide)), fun h => cc3 (h.resolve_right (by decide)), fun h => cc5 (h.resolve_right (by decide)), fun h => cc6 (h.resolve_right (by decide)), fun h => cc7 (h.resolve_right (by decide)), fun h => cc8 (h.resolve_right (by decide)), fun h => QZ.past' (pp4 (h.resolve_right (by decide))) hN, fun h => QZ.past' (pp9 (h.resolve_right (by decide))) hN, Loc.same (Loc.keep (Loc.keep (Loc.keep ll10 (f := f10_11) hdep.2 eg) (f := f10_11) hdep.2 eg) (f := f10_11) hdep.2 eg) ⟨fun h => h.resolve_right (by decide), .inl⟩ ⟨fun h => h.resolve_right (by decide), .inl⟩, ⟨fun _ => ⟨g, eg, hg, fun _ => (Blk.put3 hB hu), fun h => absurd (.inr rfl) h⟩⟩, fun h h' => f10_11 (h.resolve_right (by decide)) (h'.resolve_right (by decide))⟩
      clear hK hX0 cc0 cc1 cc2 cc3 cc5 cc6 cc7 cc8 pp4 pp9 ll10 ll11 f10_11
      go_simp
      exact hfin
  · intro us W hJ
    obtain ⟨hX0, cc0, cc1, cc2, cc3, cc5, cc6, cc7, cc8, pp4, pp9, ll10, ll11, f10_11⟩ := hJ
    rw [show (rops Try.f67 11).drop 14 = [] by kernel_rfl]
    exact hend (us 0) (us 1) (us 2) (us 3) (us 4) (us 5) (us 6) (us 7) (us 8) (us 9) (us 10) (us 11) (us 12) (us 13) W (cc0 (show 0 < 14 by decide)) (cc1 (show 1 < 14 by decide)) (cc2 (show 2 < 14 by decide)) (cc3 (show 3 < 14 by decide)) (cc5 (show 5 < 14 by decide)) (cc6 (show 6 < 14 by decide)) (cc7 (show 7 < 14 by decide)) (cc8 (show 8 < 14 by decide)) (pp4 (show 4 < 14 by decide)) (pp9 (show 9 < 14 by decide)) (ll10.done (show 10 < 14 by decide) (show 12 < 14 by decide)) (ll11.done (show 11 < 14 by decide) (show 13 < 14 by decide)) (f10_11 (show 10 < 14 by decide) (show 11 < 14 by decide)) hX0
set_option maxRecDepth 100000 in
set_option maxHeartbeats 4000000 in
theorem operate_add (xa xb xc xd : Int) (w : World) (hab : okS xa xb = true) (hcd : okS xc xd = true) :
    Calls Try.prog 67 #[.int .i64 0, .agg #[.int .i64 xa, .int .i64 xb], .agg #[.int .i64 xc, .int .i64 xd]] w (RetSp w (lowN (four (fun q r => q + r) xa xb xc xd) 3).floor (-(-(highN (four (fun q r => q + r) xa xb xc xd) 3)).floor)) := by
  obtain ⟨a0, a1, a2⟩ := okS_in hab
  obtain ⟨b0, b1, b2⟩ := okS_in hcd
  have HAB := Lib.hid hab
  have HCD := Lib.hid hcd
  clear hab hcd
  obtain ⟨qs, hqs⟩ : ∃ qs, four (fun q r => q + r) xa xb xc xd = qs := ⟨_, rfl⟩
  rw [hqs]
  have HQS := Lib.hid hqs
  have HQL : Hid (qs.length = 4) := by rw [← hqs]; rfl
  clear hqs
  unfold RetSp
  obtain ⟨n1, hn1⟩ : ∃ z, spA (lowN qs 3).floor (-(-(highN qs 3)).floor) = z := ⟨_, rfl⟩
  rw [hn1]
  have Hn1 := Lib.hid hn1
  clear hn1
  obtain ⟨n2, hn2⟩ : ∃ z, spB (lowN qs 3).floor (-(-(highN qs 3)).floor) = z := ⟨_, rfl⟩
  rw [hn2]
  have Hn2 := Lib.hid hn2
  clear hn2
  obtain ⟨n3, hn3⟩ : ∃ z, spC (lowN qs 3).floor (-(-(highN qs 3)).floor) = z := ⟨_, rfl⟩
  rw [hn3]
  have Hn3 := Lib.hid hn3
  clear hn3
  have hXe : Ext w (((w.alloc (.cells #[.int .i64 xa, .int .i64 xb] 62)).alloc (.cells #[.int .i64 xc, .int .i64 xd] 62)).alloc (.cells #[.int .i64 0, .int .i64 0] 62)) := ((((Ext.refl w).alloc _).alloc _).alloc _)
  have kA : Blk (((w.alloc (.cells #[.int .i64 xa, .int .i64 xb] 62)).alloc (.cells #[.int .i64 xc, .int .i64 xd] 62)).alloc (.cells #[.int .i64 0, .int .i64 0] 62)) w.heap.size 62 #[.int .i64 xa, .int .i64 xb] := Blk.alloc (Blk.alloc (Blk.at_ (by simp)) _) _
  have kB : Blk (((w.alloc (.cells #[.int .i64 xa, .int .i64 xb] 62)).alloc (.cells #[.int .i64 xc, .int .i64 xd] 62)).alloc (.cells #[.int .i64 0, .int .i64 0] 62)) (w.heap.size + 1) 62 #[.int .i64 xc, .int .i64 xd] := Blk.alloc (Blk.at_ (by simp)) _
  have kR : Blk (((w.alloc (.cells #[.int .i64 xa, .int .i64 xb] 62)).alloc (.cells #[.int .i64 xc, .int .i64 xd] 62)).alloc (.cells #[.int .i64 0, .int .i64 0] 62)) (w.heap.size + 2) 62 #[.int .i64 0, .int .i64 0] := Blk.at_ (by simp)
  go_enter Try.func67, Try.ntmps67
  go_wp2_with fail
  generalize (((w.alloc (.cells #[.int .i64 xa, .int .i64 xb] 62)).alloc (.cells #[.int .i64 xc, .int .i64 xd] 62)).alloc (.cells #[.int .i64 0, .int .i64 0] 62)) = w1 at hXe kA kB kR ⊢
  have HX := Lib.hid hXe
  clear hXe
  have KA := Lib.hid kA
  clear kA
  have KB := Lib.hid kB
  clear kB
  have KR := Lib.hid kR
  clear kR
  have cA0 : w1.cell? ⟨w.heap.size, 0, none⟩ = some (.int .i64 xa) := KA.out.cell 0
  have cA1 : w1.cell? ⟨w.heap.size, 1, none⟩ = some (.int .i64 xb) := KA.out.cell 1
  have cB0 : w1.cell? ⟨(w.heap.size + 1), 0, none⟩ = some (.int .i64 xc) := KB.out.cell 0
  have cB1 : w1.cell? ⟨(w.heap.size + 1), 1, none⟩ = some (.int .i64 xd) := KB.out.cell 1
  go_wp2_with fail
  clear cA0 cA1 cB0 cB1
  refine (rvalid_is HAB.out _).mono ?_
  rintro e w2 ⟨rfl, hX⟩
  replace hX : Ext w1 w2 := by with_reducible exact hX
  replace HX := Lib.hid (HX.out.trans hX)
  replace KA := Lib.hid (KA.out.ext hX)
  replace KB := Lib.hid (KB.out.ext hX)
  replace KR := Lib.hid (KR.out.ext hX)
  clear hX
  have cA0 : w2.cell? ⟨w.heap.size, 0, none⟩ = some (.int .i64 xa) := KA.out.cell 0
  have cA1 : w2.cell? ⟨w.heap.size, 1, none⟩ = some (.int .i64 xb) := KA.out.cell 1
  have cB0 : w2.cell? ⟨(w.heap.size + 1), 0, none⟩ = some (.int .i64 xc) := KB.out.cell 0
  have cB1 : w2.cell? ⟨(w.heap.size + 1), 1, none⟩ = some (.int .i64 xd) := KB.out.cell 1
  go_wp2_with fail
  clear cA0 cA1 cB0 cB1
  refine (rvalid_is HCD.out _).mono ?_
  rintro e w3 ⟨rfl, hX⟩
  replace hX : Ext w2 w3 := by with_reducible exact hX
  replace HX := Lib.hid (HX.out.trans hX)
  replace KA := Lib.hid (KA.out.ext hX)
  replace KB := Lib.hid (KB.out.ext hX)
  replace KR := Lib.hid (KR.out.ext hX)
  clear hX
  go_upto_region 3 with (fail)
  refine operate_r3 w.heap.size (w.heap.size + 1) xa xb xc xd w3 (KA.out.cell 0) (KA.out.cell 1) (KB.out.cell 0) (KB.out.cell 1) _ _ (by simp) rfl rfl ?_
  rintro xv0 xv1 xv2 xv3 xv4 xv5 xv6 xv7 xv8 xv9 xv10 xv11 w4 rfl rfl rfl rfl _ rfl rfl rfl rfl _ ⟨gx, rfl, hgx, hBx⟩ ⟨gy, rfl, hgy, hBy⟩ hXW
  simp only [rops, Try.f67, regOf, Option.bind_some, Nat.reduceBEq, if_true, if_false, Bool.false_eq_true, Option.getD_some, List.drop_succ_cons, List.drop_zero]
  simp only [Act.put, List.setIfInBounds_toArray, List.set_cons_succ, List.set_cons_zero]
  replace HX := Lib.hid (HX.out.trans hXW)
  replace KA := Lib.hid (KA.out.ext hXW)
  replace KB := Lib.hid (KB.out.ext hXW)
  replace KR := Lib.hid (KR.out.ext hXW)
  clear hXW
  clear KA
  clear KB
  have IX := Lib.hid (ints_pair2 hBx (WalkArith.wf_i64 (by omega)) (WalkArith.wf_i64 (by omega)))
  have IY := Lib.hid (ints_pair2 hBy (WalkArith.wf_i64 (by omega)) (WalkArith.wf_i64 (by omega)))
  clear hBx hBy hgx hgy
  obtain ⟨w0, hw0⟩ : ∃ x : World, x = w4 := ⟨_, rfl⟩
  rw [← hw0] at HX KR IX IY ⊢
  clear hw0
  go_wp2_with fail
  go_loopg [10, 11] 2 (fun g' s10 s11 wr => ∃ (k : Nat) (vs : List Value), g' = 2 - k ∧ k ≤ 2 ∧ s11 = .int .i64 (k : Int) ∧ Hid (wr.ownsRow w0.heap.size 42 3 s10 (2 * k) vs) ∧ Hid (RowNI wr s10) ∧ Hid (QsL wr vs (qs.take (2 * k))) ∧ Hid (Ext w0 wr))
  case atStart => exact ⟨0, [], rfl, by omega, rfl, World.ownsRow_nil _ _ _ _, RowNI.nil _, by rw [Nat.mul_zero, List.take_zero]; exact QsL.nil _, Ext.refl _⟩
  case round =>
    obtain ⟨k, vs, rfl, hk, rfl, HO, HNI, HQ, HE⟩ := hrel
    by_cases hlt : k < 2
    · have hkI : (k : Int) < 2 := by omega
      have hk0 : (0 : Int) ≤ (k : Int) := by omega
      go_wp2_with fail
      obtain ⟨wo, rfl⟩ : ∃ x : World, x = wr := ⟨_, rfl⟩
      go_loopg [10, 12] 2 (fun g' s10 s12 wr => ∃ (j : Nat) (vs : List Value), g' = 2 - j ∧ j ≤ 2 ∧ s12 = .int .i64 (j : Int) ∧ Hid (wr.ownsRow w0.heap.size 42 3 s10 (2 * k + j) vs) ∧ Hid (RowNI wr s10) ∧ Hid (QsL wr vs (qs.take (2 * k + j))) ∧ Hid (Ext w0 wr))
      case atStart => exact ⟨0, vs, rfl, by omega, rfl, HO.out, HNI.out, HQ.out, HE.out⟩
      case round =>
        clear HO HNI HQ HE
        obtain ⟨j, vs, rfl, hj, rfl, HO, HNI, HQ, HE⟩ := hrel
        by_cases hlj : j < 2
        · have hjI : (j : Int) < 2 := by omega
          have hj0 : (0 : Int) ≤ (j : Int) := by omega
          obtain ⟨b1', o1', x, hA1, hx, hwx, hcx⟩ := (IX.out.ext HE.out).get hlt
          injection hA1 with hA1
          injection hA1 with e1 e2
          subst e1 e2
          obtain ⟨b2', o2', y, hA2, hy, hwy, hcy⟩ := (IY.out.ext HE.out).get hlj
          injection hA2 with hA2
          injection hA2 with e1 e2
          subst e1 e2
          rw [Nat.zero_add] at hcx hcy
          obtain ⟨x0, x1⟩ := i64_bounds hwx
          obtain ⟨y0, y1⟩ := i64_bounds hwy
          have hnx := four_next (f := (fun q r => q + r)) hx hy
          rw [HQS.out] at hnx
          have HNX := Lib.hid hnx
          have hlen : Hid (vs.length = (qs.take (2 * k + j)).length * 3) := by
            have h := HO.out.1
            have h2 := HQL.out
            show _ = _
            rw [h, List.length_take, h2]
            omega
          clear hx hy hwx hwy hnx
          go_upto_region 11 with (fail)
          refine operate_r11 gx gy k j x y wr hcx hcy hk0 hkI hj0 hjI x0 x1 y0 y1 _ _ (by simp) rfl rfl rfl rfl ?_
          rintro xv0 xv1 xv2 xv3 xv4 xv5 xv6 xv7 xv8 xv9 xv10 xv11 xv12 xv13 w1 rfl rfl rfl rfl rfl rfl rfl rfl h4 h9 ⟨gp, rfl, hgp, hBp⟩ ⟨gq, rfl, hgq, hBq⟩ hne hXW
          simp only [rops, Try.f67, regOf, Option.bind_some, Nat.reduceBEq, if_true, if_false, Bool.false_eq_true, Option.getD_some, List.drop_succ_cons, List.drop_zero]
          simp only [Act.put, List.setIfInBounds_toArray, List.set_cons_succ, List.set_cons_zero]
          obtain ⟨s2, A2, l2, c2, B2, m2, k2, rfl⟩ := QZ.open h4
          obtain ⟨s3, A3, l3, c3, B3, m3, k3, rfl⟩ := QZ.open h9
          have KP : Hid (Blk w1 gp 42 #[.bool s2, .slice A2 l2 c2, .slice B2 m2 k2]) := hBp
          have KQ : Hid (Blk w1 gq 42 #[.bool s3, .slice A3 l3 c3, .slice B3 m3 k3]) := hBq
          have H4 := Lib.hid h4
          have H9 := Lib.hid h9
          replace HE := Lib.hid (HE.out.trans hXW)
          replace HO := Lib.hid (World.ownsRow.ext' HO.out hXW)
          replace HNI := Lib.hid (HNI.out.ext hXW)
          replace HQ := Lib.hid (HQ.out.imp fun _ _ h => h.ext hXW)
          clear h4 h9 hBp hBq hne hgp hgq hXW hcx hcy
          have cP0 : w1.cell? ⟨gp, 0, none⟩ = some (.bool s2) := KP.out.cell 0
          have cP1 : w1.cell? ⟨gp, 1, none⟩ = some (.slice A2 l2 c2) := KP.out.cell 1
          have cP2 : w1.cell? ⟨gp, 2, none⟩ = some (.slice B2 m2 k2) := KP.out.cell 2
          have cQ0 : w1.cell? ⟨gq, 0, none⟩ = some (.bool s3) := KQ.out.cell 0
          have cQ1 : w1.cell? ⟨gq, 1, none⟩ = some (.slice A3 l3 c3) := KQ.out.cell 1
          have cQ2 : w1.cell? ⟨gq, 2, none⟩ = some (.slice B3 m3 k3) := KQ.out.cell 2
          go_wp2_with fail
          clear cP0 cP1 cP2 cQ0 cQ1 cQ2
          refine (qadd_any _ _ (x : Rat) (y : Rat) 4 4 _ H4.out H9.out (fitR_small x0 x1) (fitR_small y0 y1) (by omega)).mono ?_
          rintro e w2 ⟨v5, rfl, hv, hX⟩
          obtain ⟨s5, A5, l5, c5, B5, m5, k5, rfl⟩ := QZ.open hv
          replace HE := Lib.hid (HE.out.trans hX)
          replace HO := Lib.hid (World.ownsRow.ext' HO.out hX)
          replace HNI := Lib.hid (HNI.out.ext hX)
          replace HQ := Lib.hid (HQ.out.imp fun _ _ h => h.ext hX)
          have HV := Lib.hid hv
          clear hX hv H4 H9 KP KQ
          have hown := HO.out
          have hA1 : Ext w2 (w2.alloc (.cells #[.bool s5, .slice A5 l5 c5, .slice B5 m5 k5] 42)) := (Ext.refl w2).alloc _
          have HA1 := Lib.hid hA1
          clear hA1
          go_wp2_with (at_builtin; refine wpList_appN _ elQ (by simp [Value.cells, NoInt]) rfl _ _ rfl w0.heap.size _ (2 * k + j) _ rfl (hown.alloc _) (HNI.out.ext HA1.out) _ 1 1 [.bool s5, .slice A5 l5 c5, .slice B5 m5 k5] rfl rfl (At.new _ [_, _, _] _) (by simp [Value.oneCell']) (by simp [NoInt]) (by omega) (by omega) (by unfold maxLen; omega) (by have := HE.out.size; simp; omega) ?_; intro v6 w3 hown1 hgr1 hni1; have HO1 := Lib.hid hown1; have HN1 := Lib.hid hni1; have HQ1 := Lib.hid (HQ.out.imp fun _ _ h => (h.ext HA1.out).grownNI (HNI.out.ext HA1.out) hgr1); have HV1 := Lib.hid ((HV.out.ext HA1.out).grownNI (HNI.out.ext HA1.out) hgr1); have HE1 := Lib.hid (Ext.push HE.out HO.out hgr1); clear hown1 hgr1 hni1 hown)
          go_roundg (2 - (j + 1))
          case rel => exact ⟨j + 1, _, rfl, by omega, by go_num, HO1.out, HN1.out, by rw [HNX.out]; exact HQ1.out.snoc hlen.out HV1.out, HE1.out⟩
          case measure => omega
        · obtain rfl : j = 2 := by omega
          go_wp2
          go_roundg (2 - (k + 1))
          case rel => exact ⟨k + 1, vs, rfl, by omega, by go_num, HO.out, HNI.out, HQ.out, HE.out⟩
          case measure => omega
    · obtain rfl : k = 2 := by omega
      obtain ⟨Al, cl, rfl⟩ := own_slice HO.out
      have hQA : QsAt wr Al 4 qs := by
        have h := HQ.out
        rw [List.take_of_length_le (by rw [HQL.out]; omega)] at h
        exact h.at HO.out HQL.out
      have HQA := Lib.hid hQA
      replace HX := Lib.hid (HX.out.trans HE.out)
      replace KR := Lib.hid (KR.out.ext HE.out)
      clear hQA HO HNI HQ
      go_wp2_with fail
      refine (around_any Al 3 cl 9 qs _ HQA.out (by omega) (fun q hq => four_fit HAB.out HCD.out (fun h k => (fitR_add h k).mono (by omega)) (by rw [HQS.out]; exact hq)) (by omega)).mono ?_
      unfold RetSp
      rw [Hn1.out, Hn2.out, Hn3.out]
      rintro e w21 ⟨rfl, hX⟩
      replace hX : Ext wr w21 := by with_reducible exact hX
      replace HX := Lib.hid (HX.out.trans hX)
      replace HQA := Lib.hid (HQA.out.ext hX)
      replace KR := Lib.hid (KR.out.ext hX)
      clear hX
      have cR0 : w21.cell? ⟨(w.heap.size + 2), 0, none⟩ = some (.int .i64 0) := KR.out.cell 0
      have fR0 : w21.frozen? ⟨(w.heap.size + 2), 0, none⟩ = false := KR.out.free 0
      have cR1 : w21.cell? ⟨(w.heap.size + 2), 1, none⟩ = some (.int .i64 0) := KR.out.cell 1
      have fR1 : w21.frozen? ⟨(w.heap.size + 2), 1, none⟩ = false := KR.out.free 1
      go_wp2
      refine bodyPost_ret (v := .tuple #[.agg #[.int .i64 n1, .int .i64 n2], .int .i64 n3]) (by simp [results, Try.results67, go_sem, *]) rfl ?_
      exact ⟨rfl, HX.out.two (by omega) _ _⟩

set_option maxRecDepth 100000 in
set_option maxHeartbeats 4000000 in
theorem operate_sub (xa xb xc xd : Int) (w : World) (hab : okS xa xb = true) (hcd : okS xc xd = true) :
    Calls Try.prog 67 #[.int .i64 1, .agg #[.int .i64 xa, .int .i64 xb], .agg #[.int .i64 xc, .int .i64 xd]] w (RetSp w (lowN (four (fun q r => q - r) xa xb xc xd) 3).floor (-(-(highN (four (fun q r => q - r) xa xb xc xd) 3)).floor)) := by
  obtain ⟨a0, a1, a2⟩ := okS_in hab
  obtain ⟨b0, b1, b2⟩ := okS_in hcd
  have HAB := Lib.hid hab
  have HCD := Lib.hid hcd
  clear hab hcd
  obtain ⟨qs, hqs⟩ : ∃ qs, four (fun q r => q - r) xa xb xc xd = qs := ⟨_, rfl⟩
  rw [hqs]
  have HQS := Lib.hid hqs
  have HQL : Hid (qs.length = 4) := by rw [← hqs]; rfl
  clear hqs
  unfold RetSp
  obtain ⟨n1, hn1⟩ : ∃ z, spA (lowN qs 3).floor (-(-(highN qs 3)).floor) = z := ⟨_, rfl⟩
  rw [hn1]
  have Hn1 := Lib.hid hn1
  clear hn1
  obtain ⟨n2, hn2⟩ : ∃ z, spB (lowN qs 3).floor (-(-(highN qs 3)).floor) = z := ⟨_, rfl⟩
  rw [hn2]
  have Hn2 := Lib.hid hn2
  clear hn2
  obtain ⟨n3, hn3⟩ : ∃ z, spC (lowN qs 3).floor (-(-(highN qs 3)).floor) = z := ⟨_, rfl⟩
  rw [hn3]
  have Hn3 := Lib.hid hn3
  clear hn3
  have hXe : Ext w (((w.alloc (.cells #[.int .i64 xa, .int .i64 xb] 62)).alloc (.cells #[.int .i64 xc, .int .i64 xd] 62)).alloc (.cells #[.int .i64 0, .int .i64 0] 62)) := ((((Ext.refl w).alloc _).alloc _).alloc _)
  have kA : Blk (((w.alloc (.cells #[.int .i64 xa, .int .i64 xb] 62)).alloc (.cells #[.int .i64 xc, .int .i64 xd] 62)).alloc (.cells #[.int .i64 0, .int .i64 0] 62)) w.heap.size 62 #[.int .i64 xa, .int .i64 xb] := Blk.alloc (Blk.alloc (Blk.at_ (by simp)) _) _
  have kB : Blk (((w.alloc (.cells #[.int .i64 xa, .int .i64 xb] 62)).alloc (.cells #[.int .i64 xc, .int .i64 xd] 62)).alloc (.cells #[.int .i64 0, .int .i64 0] 62)) (w.heap.size + 1) 62 #[.int .i64 xc, .int .i64 xd] := Blk.alloc (Blk.at_ (by simp)) _
  have kR : Blk (((w.alloc (.cells #[.int .i64 xa, .int .i64 xb] 62)).alloc (.cells #[.int .i64 xc, .int .i64 xd] 62)).alloc (.cells #[.int .i64 0, .int .i64 0] 62)) (w.heap.size + 2) 62 #[.int .i64 0, .int .i64 0] := Blk.at_ (by simp)
  go_enter Try.func67, Try.ntmps67
  go_wp2_with fail
  generalize (((w.alloc (.cells #[.int .i64 xa, .int .i64 xb] 62)).alloc (.cells #[.int .i64 xc, .int .i64 xd] 62)).alloc (.cells #[.int .i64 0, .int .i64 0] 62)) = w1 at hXe kA kB kR ⊢
  have HX := Lib.hid hXe
  clear hXe
  have KA := Lib.hid kA
  clear kA
  have KB := Lib.hid kB
  clear kB
  have KR := Lib.hid kR
  clear kR
  have cA0 : w1.cell? ⟨w.heap.size, 0, none⟩ = some (.int .i64 xa) := KA.out.cell 0
  have cA1 : w1.cell? ⟨w.heap.size, 1, none⟩ = some (.int .i64 xb) := KA.out.cell 1
  have cB0 : w1.cell? ⟨(w.heap.size + 1), 0, none⟩ = some (.int .i64 xc) := KB.out.cell 0
  have cB1 : w1.cell? ⟨(w.heap.size + 1), 1, none⟩ = some (.int .i64 xd) := KB.out.cell 1
  go_wp2_with fail
  clear cA0 cA1 cB0 cB1
  refine (rvalid_is HAB.out _).mono ?_
  rintro e w2 ⟨rfl, hX⟩
  replace hX : Ext w1 w2 := by with_reducible exact hX
  replace HX := Lib.hid (HX.out.trans hX)
  replace KA := Lib.hid (KA.out.ext hX)
  replace KB := Lib.hid (KB.out.ext hX)
  replace KR := Lib.hid (KR.out.ext hX)
  clear hX
  have cA0 : w2.cell? ⟨w.heap.size, 0, none⟩ = some (.int .i64 xa) := KA.out.cell 0
  have cA1 : w2.cell? ⟨w.heap.size, 1, none⟩ = some (.int .i64 xb) := KA.out.cell 1
  have cB0 : w2.cell? ⟨(w.heap.size + 1), 0, none⟩ = some (.int .i64 xc) := KB.out.cell 0
  have cB1 : w2.cell? ⟨(w.heap.size + 1), 1, none⟩ = some (.int .i64 xd) := KB.out.cell 1
  go_wp2_with fail
  clear cA0 cA1 cB0 cB1
  refine (rvalid_is HCD.out _).mono ?_
  rintro e w3 ⟨rfl, hX⟩
  replace hX : Ext w2 w3 := by with_reducible exact hX
  replace HX := Lib.hid (HX.out.trans hX)
  replace KA := Lib.hid (KA.out.ext hX)
  replace KB := Lib.hid (KB.out.ext hX)
  replace KR := Lib.hid (KR.out.ext hX)
  clear hX
  go_upto_region 3 with (fail)
  refine operate_r3 w.heap.size (w.heap.size + 1) xa xb xc xd w3 (KA.out.cell 0) (KA.out.cell 1) (KB.out.cell 0) (KB.out.cell 1) _ _ (by simp) rfl rfl ?_
  rintro xv0 xv1 xv2 xv3 xv4 xv5 xv6 xv7 xv8 xv9 xv10 xv11 w4 rfl rfl rfl rfl _ rfl rfl rfl rfl _ ⟨gx, rfl, hgx, hBx⟩ ⟨gy, rfl, hgy, hBy⟩ hXW
  simp only [rops, Try.f67, regOf, Option.bind_some, Nat.reduceBEq, if_true, if_false, Bool.false_eq_true, Option.getD_some, List.drop_succ_cons, List.drop_zero]
  simp only [Act.put, List.setIfInBounds_toArray, List.set_cons_succ, List.set_cons_zero]
  replace HX := Lib.hid (HX.out.trans hXW)
  replace KA := Lib.hid (KA.out.ext hXW)
  replace KB := Lib.hid (KB.out.ext hXW)
  replace KR := Lib.hid (KR.out.ext hXW)
  clear hXW
  clear KA
  clear KB
  have IX := Lib.hid (ints_pair2 hBx (WalkArith.wf_i64 (by omega)) (WalkArith.wf_i64 (by omega)))
  have IY := Lib.hid (ints_pair2 hBy (WalkArith.wf_i64 (by omega)) (WalkArith.wf_i64 (by omega)))
  clear hBx hBy hgx hgy
  obtain ⟨w0, hw0⟩ : ∃ x : World, x = w4 := ⟨_, rfl⟩
  rw [← hw0] at HX KR IX IY ⊢
  clear hw0
  go_wp2_with fail
  go_loopg [10, 11] 2 (fun g' s10 s11 wr => ∃ (k : Nat) (vs : List Value), g' = 2 - k ∧ k ≤ 2 ∧ s11 = .int .i64 (k : Int) ∧ Hid (wr.ownsRow w0.heap.size 42 3 s10 (2 * k) vs) ∧ Hid (RowNI wr s10) ∧ Hid (QsL wr vs (qs.take (2 * k))) ∧ Hid (Ext w0 wr))
  case atStart => exact ⟨0, [], rfl, by omega, rfl, World.ownsRow_nil _ _ _ _, RowNI.nil _, by rw [Nat.mul_zero, List.take_zero]; exact QsL.nil _, Ext.refl _⟩
  case round =>
    obtain ⟨k, vs, rfl, hk, rfl, HO, HNI, HQ, HE⟩ := hrel
    by_cases hlt : k < 2
    · have hkI : (k : Int) < 2 := by omega
      have hk0 : (0 : Int) ≤ (k : Int) := by omega
      go_wp2_with fail
      obtain ⟨wo, rfl⟩ : ∃ x : World, x = wr := ⟨_, rfl⟩
      go_loopg [10, 12] 2 (fun g' s10 s12 wr => ∃ (j : Nat) (vs : List Value), g' = 2 - j ∧ j ≤ 2 ∧ s12 = .int .i64 (j : Int) ∧ Hid (wr.ownsRow w0.heap.size 42 3 s10 (2 * k + j) vs) ∧ Hid (RowNI wr s10) ∧ Hid (QsL wr vs (qs.take (2 * k + j))) ∧ Hid (Ext w0 wr))
      case atStart => exact ⟨0, vs, rfl, by omega, rfl, HO.out, HNI.out, HQ.out, HE.out⟩
      case round =>
        clear HO HNI HQ HE
        obtain ⟨j, vs, rfl, hj, rfl, HO, HNI, HQ, HE⟩ := hrel
        by_cases hlj : j < 2
        · have hjI : (j : Int) < 2 := by omega
          have hj0 : (0 : Int) ≤ (j : Int) := by omega
          obtain ⟨b1', o1', x, hA1, hx, hwx, hcx⟩ := (IX.out.ext HE.out).get hlt
          injection hA1 with hA1
          injection hA1 with e1 e2
          subst e1 e2
          obtain ⟨b2', o2', y, hA2, hy, hwy, hcy⟩ := (IY.out.ext HE.out).get hlj
          injection hA2 with hA2
          injection hA2 with e1 e2
          subst e1 e2
          rw [Nat.zero_add] at hcx hcy
          obtain ⟨x0, x1⟩ := i64_bounds hwx
          obtain ⟨y0, y1⟩ := i64_bounds hwy
          have hnx := four_next (f := (fun q r => q - r)) hx hy
          rw [HQS.out] at hnx
          have HNX := Lib.hid hnx
          have hlen : Hid (vs.length = (qs.take (2 * k + j)).length * 3) := by
            have h := HO.out.1
            have h2 := HQL.out
            show _ = _
            rw [h, List.length_take, h2]
            omega
          clear hx hy hwx hwy hnx
          go_upto_region 11 with (fail)
          refine operate_r11 gx gy k j x y wr hcx hcy hk0 hkI hj0 hjI x0 x1 y0 y1 _ _ (by simp) rfl rfl rfl rfl ?_
          rintro xv0 xv1 xv2 xv3 xv4 xv5 xv6 xv7 xv8 xv9 xv10 xv11 xv12 xv13 w1 rfl rfl rfl rfl rfl rfl rfl rfl h4 h9 ⟨gp, rfl, hgp, hBp⟩ ⟨gq, rfl, hgq, hBq⟩ hne hXW
          simp only [rops, Try.f67, regOf, Option.bind_some, Nat.reduceBEq, if_true, if_false, Bool.false_eq_true, Option.getD_some, List.drop_succ_cons, List.drop_zero]
          simp only [Act.put, List.setIfInBounds_toArray, List.set_cons_succ, List.set_cons_zero]
          obtain ⟨s2, A2, l2, c2, B2, m2, k2, rfl⟩ := QZ.open h4
          obtain ⟨s3, A3, l3, c3, B3, m3, k3, rfl⟩ := QZ.open h9
          have KP : Hid (Blk w1 gp 42 #[.bool s2, .slice A2 l2 c2, .slice B2 m2 k2]) := hBp
          have KQ : Hid (Blk w1 gq 42 #[.bool s3, .slice A3 l3 c3, .slice B3 m3 k3]) := hBq
          have H4 := Lib.hid h4
          have H9 := Lib.hid h9
          replace HE := Lib.hid (HE.out.trans hXW)
          replace HO := Lib.hid (World.ownsRow.ext' HO.out hXW)
          replace HNI := Lib.hid (HNI.out.ext hXW)
          replace HQ := Lib.hid (HQ.out.imp fun _ _ h => h.ext hXW)
          clear h4 h9 hBp hBq hne hgp hgq hXW hcx hcy
          have cP0 : w1.cell? ⟨gp, 0, none⟩ = some (.bool s2) := KP.out.cell 0
          have cP1 : w1.cell? ⟨gp, 1, none⟩ = some (.slice A2 l2 c2) := KP.out.cell 1
          have cP2 : w1.cell? ⟨gp, 2, none⟩ = some (.slice B2 m2 k2) := KP.out.cell 2
          have cQ0 : w1.cell? ⟨gq, 0, none⟩ = some (.bool s3) := KQ.out.cell 0
          have cQ1 : w1.cell? ⟨gq, 1, none⟩ = some (.slice A3 l3 c3) := KQ.out.cell 1
          have cQ2 : w1.cell? ⟨gq, 2, none⟩ = some (.slice B3 m3 k3) := KQ.out.cell 2
          go_wp2_with fail
          clear cP0 cP1 cP2 cQ0 cQ1 cQ2
          refine (qsub_any _ _ (x : Rat) (y : Rat) 4 4 _ H4.out H9.out (fitR_small x0 x1) (fitR_small y0 y1) (by omega)).mono ?_
          rintro e w2 ⟨v5, rfl, hv, hX⟩
          obtain ⟨s5, A5, l5, c5, B5, m5, k5, rfl⟩ := QZ.open hv
          replace HE := Lib.hid (HE.out.trans hX)
          replace HO := Lib.hid (World.ownsRow.ext' HO.out hX)
          replace HNI := Lib.hid (HNI.out.ext hX)
          replace HQ := Lib.hid (HQ.out.imp fun _ _ h => h.ext hX)
          have HV := Lib.hid hv
          clear hX hv H4 H9 KP KQ
          have hown := HO.out
          have hA1 : Ext w2 (w2.alloc (.cells #[.bool s5, .slice A5 l5 c5, .slice B5 m5 k5] 42)) := (Ext.refl w2).alloc _
          have HA1 := Lib.hid hA1
          clear hA1
          go_wp2_with (at_builtin; refine wpList_appN _ elQ (by simp [Value.cells, NoInt]) rfl _ _ rfl w0.heap.size _ (2 * k + j) _ rfl (hown.alloc _) (HNI.out.ext HA1.out) _ 1 1 [.bool s5, .slice A5 l5 c5, .slice B5 m5 k5] rfl rfl (At.new _ [_, _, _] _) (by simp [Value.oneCell']) (by simp [NoInt]) (by omega) (by omega) (by unfold maxLen; omega) (by have := HE.out.size; simp; omega) ?_; intro v6 w3 hown1 hgr1 hni1; have HO1 := Lib.hid hown1; have HN1 := Lib.hid hni1; have HQ1 := Lib.hid (HQ.out.imp fun _ _ h => (h.ext HA1.out).grownNI (HNI.out.ext HA1.out) hgr1); have HV1 := Lib.hid ((HV.out.ext HA1.out).grownNI (HNI.out.ext HA1.out) hgr1); have HE1 := Lib.hid (Ext.push HE.out HO.out hgr1); clear hown1 hgr1 hni1 hown)
          go_roundg (2 - (j + 1))
          case rel => exact ⟨j + 1, _, rfl, by omega, by go_num, HO1.out, HN1.out, by rw [HNX.out]; exact HQ1.out.snoc hlen.out HV1.out, HE1.out⟩
          case measure => omega
        · obtain rfl : j = 2 := by omega
          go_wp2
          go_roundg (2 - (k + 1))
          case rel => exact ⟨k + 1, vs, rfl, by omega, by go_num, HO.out, HNI.out, HQ.out, HE.out⟩
          case measure => omega
    · obtain rfl : k = 2 := by omega
      obtain ⟨Al, cl, rfl⟩ := own_slice HO.out
      have hQA : QsAt wr Al 4 qs := by
        have h := HQ.out
        rw [List.take_of_length_le (by rw [HQL.out]; omega)] at h
        exact h.at HO.out HQL.out
      have HQA := Lib.hid hQA
      replace HX := Lib.hid (HX.out.trans HE.out)
      replace KR := Lib.hid (KR.out.ext HE.out)
      clear hQA HO HNI HQ
      go_wp2_with fail
      refine (around_any Al 3 cl 9 qs _ HQA.out (by omega) (fun q hq => four_fit HAB.out HCD.out (fun h k => (fitR_sub h k).mono (by omega)) (by rw [HQS.out]; exact hq)) (by omega)).mono ?_
      unfold RetSp
      rw [Hn1.out, Hn2.out, Hn3.out]
      rintro e w21 ⟨rfl, hX⟩
      replace hX : Ext wr w21 := by with_reducible exact hX
      replace HX := Lib.hid (HX.out.trans hX)
      replace HQA := Lib.hid (HQA.out.ext hX)
      replace KR := Lib.hid (KR.out.ext hX)
      clear hX
      have cR0 : w21.cell? ⟨(w.heap.size + 2), 0, none⟩ = some (.int .i64 0) := KR.out.cell 0
      have fR0 : w21.frozen? ⟨(w.heap.size + 2), 0, none⟩ = false := KR.out.free 0
      have cR1 : w21.cell? ⟨(w.heap.size + 2), 1, none⟩ = some (.int .i64 0) := KR.out.cell 1
      have fR1 : w21.frozen? ⟨(w.heap.size + 2), 1, none⟩ = false := KR.out.free 1
      go_wp2
      refine bodyPost_ret (v := .tuple #[.agg #[.int .i64 n1, .int .i64 n2], .int .i64 n3]) (by simp [results, Try.results67, go_sem, *]) rfl ?_
      exact ⟨rfl, HX.out.two (by omega) _ _⟩

set_option maxRecDepth 100000 in
set_option maxHeartbeats 4000000 in
theorem operate_mul (xa xb xc xd : Int) (w : World) (hab : okS xa xb = true) (hcd : okS xc xd = true) :
    Calls Try.prog 67 #[.int .i64 2, .agg #[.int .i64 xa, .int .i64 xb], .agg #[.int .i64 xc, .int .i64 xd]] w (RetSp w (lowN (four (fun q r => q * r) xa xb xc xd) 3).floor (-(-(highN (four (fun q r => q * r) xa xb xc xd) 3)).floor)) := by
  obtain ⟨a0, a1, a2⟩ := okS_in hab
  obtain ⟨b0, b1, b2⟩ := okS_in hcd
  have HAB := Lib.hid hab
  have HCD := Lib.hid hcd
  clear hab hcd
  obtain ⟨qs, hqs⟩ : ∃ qs, four (fun q r => q * r) xa xb xc xd = qs := ⟨_, rfl⟩
  rw [hqs]
  have HQS := Lib.hid hqs
  have HQL : Hid (qs.length = 4) := by rw [← hqs]; rfl
  clear hqs
  unfold RetSp
  obtain ⟨n1, hn1⟩ : ∃ z, spA (lowN qs 3).floor (-(-(highN qs 3)).floor) = z := ⟨_, rfl⟩
  rw [hn1]
  have Hn1 := Lib.hid hn1
  clear hn1
  obtain ⟨n2, hn2⟩ : ∃ z, spB (lowN qs 3).floor (-(-(highN qs 3)).floor) = z := ⟨_, rfl⟩
  rw [hn2]
  have Hn2 := Lib.hid hn2
  clear hn2
  obtain ⟨n3, hn3⟩ : ∃ z, spC (lowN qs 3).floor (-(-(highN qs 3)).floor) = z := ⟨_, rfl⟩
  rw [hn3]
  have Hn3 := Lib.hid hn3
  clear hn3
  have hXe : Ext w (((w.alloc (.cells #[.int .i64 xa, .int .i64 xb] 62)).alloc (.cells #[.int .i64 xc, .int .i64 xd] 62)).alloc (.cells #[.int .i64 0, .int .i64 0] 62)) := ((((Ext.refl w).alloc _).alloc _).alloc _)
  have kA : Blk (((w.alloc (.cells #[.int .i64 xa, .int .i64 xb] 62)).alloc (.cells #[.int .i64 xc, .int .i64 xd] 62)).alloc (.cells #[.int .i64 0, .int .i64 0] 62)) w.heap.size 62 #[.int .i64 xa, .int .i64 xb] := Blk.alloc (Blk.alloc (Blk.at_ (by simp)) _) _
  have kB : Blk (((w.alloc (.cells #[.int .i64 xa, .int .i64 xb] 62)).alloc (.cells #[.int .i64 xc, .int .i64 xd] 62)).alloc (.cells #[.int .i64 0, .int .i64 0] 62)) (w.heap.size + 1) 62 #[.int .i64 xc, .int .i64 xd] := Blk.alloc (Blk.at_ (by simp)) _
  have kR : Blk (((w.alloc (.cells #[.int .i64 xa, .int .i64 xb] 62)).alloc (.cells #[.int .i64 xc, .int .i64 xd] 62)).alloc (.cells #[.int .i64 0, .int .i64 0] 62)) (w.heap.size + 2) 62 #[.int .i64 0, .int .i64 0] := Blk.at_ (by simp)
  go_enter Try.func67, Try.ntmps67
  go_wp2_with fail
  generalize (((w.alloc (.cells #[.int .i64 xa, .int .i64 xb] 62)).alloc (.cells #[.int .i64 xc, .int .i64 xd] 62)).alloc (.cells #[.int .i64 0, .int .i64 0] 62)) = w1 at hXe kA kB kR ⊢
  have HX := Lib.hid hXe
  clear hXe
  have KA := Lib.hid kA
  clear kA
  have KB := Lib.hid kB
  clear kB
  have KR := Lib.hid kR
  clear kR
  have cA0 : w1.cell? ⟨w.heap.size, 0, none⟩ = some (.int .i64 xa) := KA.out.cell 0
  have cA1 : w1.cell? ⟨w.heap.size, 1, none⟩ = some (.int .i64 xb) := KA.out.cell 1
  have cB0 : w1.cell? ⟨(w.heap.size + 1), 0, none⟩ = some (.int .i64 xc) := KB.out.cell 0
  have cB1 : w1.cell? ⟨(w.heap.size + 1), 1, none⟩ = some (.int .i64 xd) := KB.out.cell 1
  go_wp2_with fail
  clear cA0 cA1 cB0 cB1
  refine (rvalid_is HAB.out _).mono ?_
  rintro e w2 ⟨rfl, hX⟩
  replace hX : Ext w1 w2 := by with_reducible exact hX
  replace HX := Lib.hid (HX.out.trans hX)
  replace KA := Lib.hid (KA.out.ext hX)
  replace KB := Lib.hid (KB.out.ext hX)
  replace KR := Lib.hid (KR.out.ext hX)
  clear hX
  have cA0 : w2.cell? ⟨w.heap.size, 0, none⟩ = some (.int .i64 xa) := KA.out.cell 0
  have cA1 : w2.cell? ⟨w.heap.size, 1, none⟩ = some (.int .i64 xb) := KA.out.cell 1
  have cB0 : w2.cell? ⟨(w.heap.size + 1), 0, none⟩ = some (.int .i64 xc) := KB.out.cell 0
  have cB1 : w2.cell? ⟨(w.heap.size + 1), 1, none⟩ = some (.int .i64 xd) := KB.out.cell 1
  go_wp2_with fail
  clear cA0 cA1 cB0 cB1
  refine (rvalid_is HCD.out _).mono ?_
  rintro e w3 ⟨rfl, hX⟩
  replace hX : Ext w2 w3 := by with_reducible exact hX
  replace HX := Lib.hid (HX.out.trans hX)
  replace KA := Lib.hid (KA.out.ext hX)
  replace KB := Lib.hid (KB.out.ext hX)
  replace KR := Lib.hid (KR.out.ext hX)
  clear hX
  go_upto_region 3 with (fail)
  refine operate_r3 w.heap.size (w.heap.size + 1) xa xb xc xd w3 (KA.out.cell 0) (KA.out.cell 1) (KB.out.cell 0) (KB.out.cell 1) _ _ (by simp) rfl rfl ?_
  rintro xv0 xv1 xv2 xv3 xv4 xv5 xv6 xv7 xv8 xv9 xv10 xv11 w4 rfl rfl rfl rfl _ rfl rfl rfl rfl _ ⟨gx, rfl, hgx, hBx⟩ ⟨gy, rfl, hgy, hBy⟩ hXW
  simp only [rops, Try.f67, regOf, Option.bind_some, Nat.reduceBEq, if_true, if_false, Bool.false_eq_true, Option.getD_some, List.drop_succ_cons, List.drop_zero]
  simp only [Act.put, List.setIfInBounds_toArray, List.set_cons_succ, List.set_cons_zero]
  replace HX := Lib.hid (HX.out.trans hXW)
  replace KA := Lib.hid (KA.out.ext hXW)
  replace KB := Lib.hid (KB.out.ext hXW)
  replace KR := Lib.hid (KR.out.ext hXW)
  clear hXW
  clear KA
  clear KB
  have IX := Lib.hid (ints_pair2 hBx (WalkArith.wf_i64 (by omega)) (WalkArith.wf_i64 (by omega)))
  have IY := Lib.hid (ints_pair2 hBy (WalkArith.wf_i64 (by omega)) (WalkArith.wf_i64 (by omega)))
  clear hBx hBy hgx hgy
  obtain ⟨w0, hw0⟩ : ∃ x : World, x = w4 := ⟨_, rfl⟩
  rw [← hw0] at HX KR IX IY ⊢
  clear hw0
  go_wp2_with fail
  go_loopg [10, 11] 2 (fun g' s10 s11 wr => ∃ (k : Nat) (vs : List Value), g' = 2 - k ∧ k ≤ 2 ∧ s11 = .int .i64 (k : Int) ∧ Hid (wr.ownsRow w0.heap.size 42 3 s10 (2 * k) vs) ∧ Hid (RowNI wr s10) ∧ Hid (QsL wr vs (qs.take (2 * k))) ∧ Hid (Ext w0 wr))
  case atStart => exact ⟨0, [], rfl, by omega, rfl, World.ownsRow_nil _ _ _ _, RowNI.nil _, by rw [Nat.mul_zero, List.take_zero]; exact QsL.nil _, Ext.refl _⟩
  case round =>
    obtain ⟨k, vs, rfl, hk, rfl, HO, HNI, HQ, HE⟩ := hrel
    by_cases hlt : k < 2
    · have hkI : (k : Int) < 2 := by omega
      have hk0 : (0 : Int) ≤ (k : Int) := by omega
      go_wp2_with fail
      obtain ⟨wo, rfl⟩ : ∃ x : World, x = wr := ⟨_, rfl⟩
      go_loopg [10, 12] 2 (fun g' s10 s12 wr => ∃ (j : Nat) (vs : List Value), g' = 2 - j ∧ j ≤ 2 ∧ s12 = .int .i64 (j : Int) ∧ Hid (wr.ownsRow w0.heap.size 42 3 s10 (2 * k + j) vs) ∧ Hid (RowNI wr s10) ∧ Hid (QsL wr vs (qs.take (2 * k + j))) ∧ Hid (Ext w0 wr))
      case atStart => exact ⟨0, vs, rfl, by omega, rfl, HO.out, HNI.out, HQ.out, HE.out⟩
      case round =>
        clear HO HNI HQ HE
        obtain ⟨j, vs, rfl, hj, rfl, HO, HNI, HQ, HE⟩ := hrel
        by_cases hlj : j < 2
        · have hjI : (j : Int) < 2 := by omega
          have hj0 : (0 : Int) ≤ (j : Int) := by omega
          obtain ⟨b1', o1', x, hA1, hx, hwx, hcx⟩ := (IX.out.ext HE.out).get hlt
          injection hA1 with hA1
          injection hA1 with e1 e2
          subst e1 e2
          obtain ⟨b2', o2', y, hA2, hy, hwy, hcy⟩ := (IY.out.ext HE.out).get hlj
          injection hA2 with hA2
          injection hA2 with e1 e2
          subst e1 e2
          rw [Nat.zero_add] at hcx hcy
          obtain ⟨x0, x1⟩ := i64_bounds hwx
          obtain ⟨y0, y1⟩ := i64_bounds hwy
          have hnx := four_next (f := (fun q r => q * r)) hx hy
          rw [HQS.out] at hnx
          have HNX := Lib.hid hnx
          have hlen : Hid (vs.length = (qs.take (2 * k + j)).length * 3) := by
            have h := HO.out.1
            have h2 := HQL.out
            show _ = _
            rw [h, List.length_take, h2]
            omega
          clear hx hy hwx hwy hnx
          go_upto_region 11 with (fail)
          refine operate_r11 gx gy k j x y wr hcx hcy hk0 hkI hj0 hjI x0 x1 y0 y1 _ _ (by simp) rfl rfl rfl rfl ?_
          rintro xv0 xv1 xv2 xv3 xv4 xv5 xv6 xv7 xv8 xv9 xv10 xv11 xv12 xv13 w1 rfl rfl rfl rfl rfl rfl rfl rfl h4 h9 ⟨gp, rfl, hgp, hBp⟩ ⟨gq, rfl, hgq, hBq⟩ hne hXW
          simp only [rops, Try.f67, regOf, Option.bind_some, Nat.reduceBEq, if_true, if_false, Bool.false_eq_true, Option.getD_some, List.drop_succ_cons, List.drop_zero]
          simp only [Act.put, List.setIfInBounds_toArray, List.set_cons_succ, List.set_cons_zero]
          obtain ⟨s2, A2, l2, c2, B2, m2, k2, rfl⟩ := QZ.open h4
          obtain ⟨s3, A3, l3, c3, B3, m3, k3, rfl⟩ := QZ.open h9
          have KP : Hid (Blk w1 gp 42 #[.bool s2, .slice A2 l2 c2, .slice B2 m2 k2]) := hBp
          have KQ : Hid (Blk w1 gq 42 #[.bool s3, .slice A3 l3 c3, .slice B3 m3 k3]) := hBq
          have H4 := Lib.hid h4
          have H9 := Lib.hid h9
          replace HE := Lib.hid (HE.out.trans hXW)
          replace HO := Lib.hid (World.ownsRow.ext' HO.out hXW)
          replace HNI := Lib.hid (HNI.out.ext hXW)
          replace HQ := Lib.hid (HQ.out.imp fun _ _ h => h.ext hXW)
          clear h4 h9 hBp hBq hne hgp hgq hXW hcx hcy
          have cP0 : w1.cell? ⟨gp, 0, none⟩ = some (.bool s2) := KP.out.cell 0
          have cP1 : w1.cell? ⟨gp, 1, none⟩ = some (.slice A2 l2 c2) := KP.out.cell 1
          have cP2 : w1.cell? ⟨gp, 2, none⟩ = some (.slice B2 m2 k2) := KP.out.cell 2
          have cQ0 : w1.cell? ⟨gq, 0, none⟩ = some (.bool s3) := KQ.out.cell 0
          have cQ1 : w1.cell? ⟨gq, 1, none⟩ = some (.slice A3 l3 c3) := KQ.out.cell 1
          have cQ2 : w1.cell? ⟨gq, 2, none⟩ = some (.slice B3 m3 k3) := KQ.out.cell 2
          go_wp2_with fail
          clear cP0 cP1 cP2 cQ0 cQ1 cQ2
          refine (qmul_any _ _ (x : Rat) (y : Rat) 4 4 _ H4.out H9.out (fitR_small x0 x1) (fitR_small y0 y1) (by omega)).mono ?_
          rintro e w2 ⟨v5, rfl, hv, hX⟩
          obtain ⟨s5, A5, l5, c5, B5, m5, k5, rfl⟩ := QZ.open hv
          replace HE := Lib.hid (HE.out.trans hX)
          replace HO := Lib.hid (World.ownsRow.ext' HO.out hX)
          replace HNI := Lib.hid (HNI.out.ext hX)
          replace HQ := Lib.hid (HQ.out.imp fun _ _ h => h.ext hX)
          have HV := Lib.hid hv
          clear hX hv H4 H9 KP KQ
          have hown := HO.out
          have hA1 : Ext w2 (w2.alloc (.cells #[.bool s5, .slice A5 l5 c5, .slice B5 m5 k5] 42)) := (Ext.refl w2).alloc _
          have HA1 := Lib.hid hA1
          clear hA1
          go_wp2_with (at_builtin; refine wpList_appN _ elQ (by simp [Value.cells, NoInt]) rfl _ _ rfl w0.heap.size _ (2 * k + j) _ rfl (hown.alloc _) (HNI.out.ext HA1.out) _ 1 1 [.bool s5, .slice A5 l5 c5, .slice B5 m5 k5] rfl rfl (At.new _ [_, _, _] _) (by simp [Value.oneCell']) (by simp [NoInt]) (by omega) (by omega) (by unfold maxLen; omega) (by have := HE.out.size; simp; omega) ?_; intro v6 w3 hown1 hgr1 hni1; have HO1 := Lib.hid hown1; have HN1 := Lib.hid hni1; have HQ1 := Lib.hid (HQ.out.imp fun _ _ h => (h.ext HA1.out).grownNI (HNI.out.ext HA1.out) hgr1); have HV1 := Lib.hid ((HV.out.ext HA1.out).grownNI (HNI.out.ext HA1.out) hgr1); have HE1 := Lib.hid (Ext.push HE.out HO.out hgr1); clear hown1 hgr1 hni1 hown)
          go_roundg (2 - (j + 1))
          case rel => exact ⟨j + 1, _, rfl, by omega, by go_num, HO1.out, HN1.out, by rw [HNX.out]; exact HQ1.out.snoc hlen.out HV1.out, HE1.out⟩
          case measure => omega
        · obtain rfl : j = 2 := by omega
          go_wp2
          go_roundg (2 - (k + 1))
          case rel => exact ⟨k + 1, vs, rfl, by omega, by go_num, HO.out, HNI.out, HQ.out, HE.out⟩
          case measure => omega
    · obtain rfl : k = 2 := by omega
      obtain ⟨Al, cl, rfl⟩ := own_slice HO.out
      have hQA : QsAt wr Al 4 qs := by
        have h := HQ.out
        rw [List.take_of_length_le (by rw [HQL.out]; omega)] at h
        exact h.at HO.out HQL.out
      have HQA := Lib.hid hQA
      replace HX := Lib.hid (HX.out.trans HE.out)
      replace KR := Lib.hid (KR.out.ext HE.out)
      clear hQA HO HNI HQ
      go_wp2_with fail
      refine (around_any Al 3 cl 9 qs _ HQA.out (by omega) (fun q hq => four_fit HAB.out HCD.out (fun h k => (fitR_mul h k).mono (by omega)) (by rw [HQS.out]; exact hq)) (by omega)).mono ?_
      unfold RetSp
      rw [Hn1.out, Hn2.out, Hn3.out]
      rintro e w21 ⟨rfl, hX⟩
      replace hX : Ext wr w21 := by with_reducible exact hX
      replace HX := Lib.hid (HX.out.trans hX)
      replace HQA := Lib.hid (HQA.out.ext hX)
      replace KR := Lib.hid (KR.out.ext hX)
      clear hX
      have cR0 : w21.cell? ⟨(w.heap.size + 2), 0, none⟩ = some (.int .i64 0) := KR.out.cell 0
      have fR0 : w21.frozen? ⟨(w.heap.size + 2), 0, none⟩ = false := KR.out.free 0
      have cR1 : w21.cell? ⟨(w.heap.size + 2), 1, none⟩ = some (.int .i64 0) := KR.out.cell 1
      have fR1 : w21.frozen? ⟨(w.heap.size + 2), 1, none⟩ = false := KR.out.free 1
      go_wp2
      refine bodyPost_ret (v := .tuple #[.agg #[.int .i64 n1, .int .i64 n2], .int .i64 n3]) (by simp [results, Try.results67, go_sem, *]) rfl ?_
      exact ⟨rfl, HX.out.two (by omega) _ _⟩

end Go.Proofs.Yteoijnaljkagfaa
namespace Go.Proofs.Yteoijnaljkagfaa
open Go.RowKit

theorem sgnQ_int (n : Int) : sgnQ ((n : Int) : Rat) = sgI n := by
  unfold sgnQ sgI
  simp only [Rat.num_intCast]
  by_cases h : n < 0
  · simp [h]
  · by_cases h2 : n = 0
    · simp [h2]
    · have : 0 < n := by omega
      simp [h, h2, this]
end Go.Proofs.Yteoijnaljkagfaa
