/- Lemmas of the proof that follows (TopTransfer, part 7): walks of functions by contract, and plain lemmas. Conditions: none. -/
import Derived.Test.YtekhmfliaojabaaTopTransferF
namespace Go.Proofs.Ytekhmfliaojabaa
open Go.RowKit

/-- Two values do not share a row. -/
def RowNe (u v : Value) : Prop := ∀ k, u.ownBlock = some k → v.ownBlock ≠ some k
section
variable {base rb : Nat} {w w' : World} {v u : Value} {ds : List Dlv} {L : List Nat} {g : Nat} {st wn n : Int} {h : List Dlv}
theorem RowNe.symm (h : RowNe u v) : RowNe v u := fun k hk hu => h k hu hk
theorem RowNe.list (h : RowNe u v) : ∀ k, v.ownBlock = some k → k ∉ u.ownBlock.toList := fun k hk hl => h k (Option.mem_toList.1 hl) hk
theorem DlL.lt (h : DlL rb base w v ds) : ∀ k, v.ownBlock = some k → rb ≤ k ∧ k < w.heap.size := by obtain ⟨vs, h1, _⟩ := h; exact fun k hk => h1.lt k hk
theorem DlL.noRow (h : DlL rb base w v ds) (t : TypeId) (ht : 72 ≠ t) : ∀ k ∈ v.ownBlock.toList, NoRow t w k := by
  obtain ⟨vs, h1, _⟩ := h
  exact fun k hk => NoRow.of_own h1 (Option.mem_toList.1 hk) ht
theorem DlL.keepsA (h : DlL rb base w v ds) (hk : Keeps L w w') (hv : ∀ k, v.ownBlock = some k → k ∉ L) (n2 : ∀ k ∈ L, NoRow 5 w k) : DlL rb base w' v ds := by
  obtain ⟨vs, h1, h2⟩ := h
  exact ⟨vs, ownsRow_keeps h1 hk hv, h2.imp fun _ _ h => h.keeps hk n2⟩
theorem RecQ.keepsA (hq : RecQ base w g v st wn n h) (hk : Keeps L w w') (hg : g ∉ L) (hv : ∀ k, v.ownBlock = some k → k ∉ L) (n2 : ∀ k ∈ L, NoRow 5 w k) : RecQ base w' g v st wn n h :=
  ⟨hq.blk.keeps hk hg, hq.row.keepsA hk hv n2, hq.lo⟩
theorem RecQ.g_ne (hq : RecQ base w g v st wn n h) (hu : DlL rb base w u ds) : g ∉ u.ownBlock.toList := fun hl => hu.noRow _ (show 72 ≠ 126 by decide) g hl _ _ hq.blk
end

/-- Between the rounds: what is held, what is out. -/
structure KeepSt (base : Nat) (w0 : World) (L0 : List Nat) (w : World) (g : Nat) (v out : Value) (st wn n : Int) (h pre : List Dlv) : Prop where
  q : RecQ base w g v st wn n h
  outL : DlL w0.heap.size base w out pre
  ne : RowNe out v
  keeps : Keeps L0 w0 w
  vb : ∀ k, v.ownBlock = some k → k ∈ L0 ∨ w0.heap.size ≤ k
section
variable {base : Nat} {w0 w w' : World} {L0 : List Nat} {g : Nat} {v out left : Value} {st wn n : Int} {h pre ls : List Dlv}
theorem KeepSt.ext (k : KeepSt base w0 L0 w g v out st wn n h pre) (he : Ext w w') : KeepSt base w0 L0 w' g v out st wn n h pre := ⟨k.q.ext he, k.outL.ext he, k.ne, k.keeps.trans (Keeps.of_ext he _), k.vb⟩
/-- A delivery goes out. -/
theorem KeepSt.app (k : KeepSt base w0 L0 w g v out st wn n h pre) (d : Dlv) {vs : List Value} {v2 : Value} {A : Option Addr} {m c : Nat} (hown : w.ownsRow w0.heap.size 72 3 out pre.length vs) (hc : CsR (DlO base w) vs pre) (hO : OwnS .u8 5 base w A m c d.body)
    (hown2 : w'.ownsRow w0.heap.size 72 3 v2 (pre.length + 1) (vs ++ [.int .i64 d.seq, .slice A m c, .bool d.lost])) (hgr : w.grownBy w' out.ownBlock) (hdj : v2.ownBlock = out.ownBlock ∨ v2.ownBlock = some w.heap.size) :
    KeepSt base w0 L0 w' g v v2 st wn n h (pre ++ [d]) := by
  have hk : Keeps out.ownBlock.toList w w' := Keeps.of_grown hgr fun k hk => by rw [hk]; simp
  have hN := k.outL.noRow 5 (by decide)
  refine ⟨k.q.keepsA hk (k.q.g_ne k.outL) (k.ne.list) hN, DlL.snoc hc hown hO hown2 hgr, fun j hj hv => ?_, k.keeps.grown hgr fun j hj => .inr (k.outL.lt j hj).1, k.vb⟩
  rcases hdj with e | e
  · exact k.ne j (e ▸ hj) hv
  · rw [e] at hj
    injection hj with hj
    subst hj
    have := (k.q.row.lt _ hv).2
    omega
end
/-- In the middle of a round: what is left besides. -/
structure KeepSl (base : Nat) (w0 : World) (L0 : List Nat) (w : World) (g : Nat) (v out left : Value) (st wn n : Int) (h pre ls : List Dlv) : Prop where
  k : KeepSt base w0 L0 w g v out st wn n h pre
  leftL : DlL w0.heap.size base w left ls
  ne1 : RowNe left v
  ne2 : RowNe left out
section
variable {base : Nat} {w0 w w' : World} {L0 : List Nat} {g : Nat} {v out left : Value} {st wn n : Int} {h pre ls : List Dlv}
theorem KeepSl.ext (k : KeepSl base w0 L0 w g v out left st wn n h pre ls) (he : Ext w w') : KeepSl base w0 L0 w' g v out left st wn n h pre ls := ⟨k.k.ext he, k.leftL.ext he, k.ne1, k.ne2⟩
theorem KeepSt.start (k : KeepSt base w0 L0 w g v out st wn n h pre) : KeepSl base w0 L0 w g v out (.slice none 0 0) st wn n h pre [] := ⟨k, DlL.nil _ _ _, fun j hj => by simp [Value.ownBlock] at hj, fun j hj => by simp [Value.ownBlock] at hj⟩
theorem KeepSl.app (k : KeepSl base w0 L0 w g v out left st wn n h pre ls) (d : Dlv) {vs : List Value} {v2 : Value} {A : Option Addr} {m c : Nat} (hown : w.ownsRow w0.heap.size 72 3 left ls.length vs) (hc : CsR (DlO base w) vs ls) (hO : OwnS .u8 5 base w A m c d.body)
    (hown2 : w'.ownsRow w0.heap.size 72 3 v2 (ls.length + 1) (vs ++ [.int .i64 d.seq, .slice A m c, .bool d.lost])) (hgr : w.grownBy w' left.ownBlock) (hdj : v2.ownBlock = left.ownBlock ∨ v2.ownBlock = some w.heap.size) :
    KeepSl base w0 L0 w' g v out v2 st wn n h pre (ls ++ [d]) := by
  have hk : Keeps left.ownBlock.toList w w' := Keeps.of_grown hgr fun k hk => by rw [hk]; simp
  have hN := k.leftL.noRow 5 (by decide)
  refine ⟨⟨k.k.q.keepsA hk (k.k.q.g_ne k.leftL) (k.ne1.list) hN, k.k.outL.keepsA hk k.ne2.list hN, k.k.ne, k.k.keeps.grown hgr fun j hj => .inr (k.leftL.lt j hj).1, k.k.vb⟩, DlL.snoc hc hown hO hown2 hgr, fun j hj hv => ?_, fun j hj hv => ?_⟩
  · rcases hdj with e | e
    · exact k.ne1 j (e ▸ hj) hv
    · rw [e] at hj
      injection hj with hj
      subst hj
      have := (k.k.q.row.lt _ hv).2
      omega
  · rcases hdj with e | e
    · exact k.ne2 j (e ▸ hj) hv
    · rw [e] at hj
      injection hj with hj
      subst hj
      have := (k.k.outL.lt _ hv).2
      omega
/-- The round's end: what is left is held, the next number is one greater. -/
theorem KeepSl.stored (k : KeepSl base w0 L0 w g v out left st wn n h pre ls) (hg : g ∈ L0) (hb : base ≤ w0.heap.size) : KeepSt base w0 L0 ((w.setCell ⟨g, 3, none⟩ left).setCell ⟨g, 2, none⟩ (.int .i64 (n + 1))) g left out st wn (n + 1) ls pre := by
  have hB := k.k.q.blk
  have hK : Keeps [g] w ((w.setCell ⟨g, 3, none⟩ left).setCell ⟨g, 2, none⟩ (.int .i64 (n + 1))) := ((Keeps.refl _ _).setCell (.inl (by simp)) _).setCell (.inl (by simp)) _
  have hN : ∀ t, 126 ≠ t → ∀ j ∈ [g], NoRow t w j := by intro t ht j hj; simp at hj; subst hj; exact NoRow.of_blk hB ht
  refine ⟨⟨?_, ?_, k.k.q.lo⟩, ?_, k.ne2.symm, ?_, fun j hj => .inr (k.leftL.lt j hj).1⟩
  · have := (hB.set 3 left).set 2 (.int .i64 (n + 1))
    simpa using this
  · have := k.leftL.keeps hK (hN _ (by decide)) (hN _ (by decide))
    exact this.mono hb
  · exact k.k.outL.keeps hK (hN _ (by decide)) (hN _ (by decide))
  · exact (k.k.keeps.setCell (.inl hg) _).setCell (.inl hg) _
/-- A delivery is held. -/
theorem RecQ.grow {v' : Value} {d : Dlv} (hB : Blk w g 126 #[.int .i64 st, .int .i64 wn, .int .i64 n, v]) (hR : DlL base base w v' (h ++ [d])) (lo : base ≤ g) : RecQ base (w.setCell ⟨g, 3, none⟩ v') g v' st wn n (h ++ [d]) := by
  have hK : Keeps [g] w (w.setCell ⟨g, 3, none⟩ v') := (Keeps.refl _ _).setCell (.inl (by simp)) _
  have hN : ∀ t, 126 ≠ t → ∀ j ∈ [g], NoRow t w j := by intro t ht j hj; simp at hj; subst hj; exact NoRow.of_blk hB ht
  exact ⟨by simpa using hB.set 3 v', hR.keeps hK (hN _ (by decide)) (hN _ (by decide)), lo⟩
end
theorem wipe_snoc_yes {l : List Dlv} {d : Dlv} {n : Int} (h : d.seq = n) : wipe (l ++ [d]) n = wipe l n := by unfold wipe; rw [List.filter_append]; simp [h]
theorem wipe_snoc_no {l : List Dlv} {d : Dlv} {n : Int} (h : d.seq ≠ n) : wipe (l ++ [d]) n = wipe l n ++ [d] := by unfold wipe; rw [List.filter_append]; simp [h]
theorem seq_inj {l : List Dlv} (hn : (l.map Dlv.seq).Nodup) {i j : Nat} {d e : Dlv} (hi : l[i]? = some d) (hj : l[j]? = some e) (h : d.seq = e.seq) : i = j := by
  have h1 : (l.map Dlv.seq)[i]? = some d.seq := by rw [List.getElem?_map, hi]; rfl
  have h2 : (l.map Dlv.seq)[j]? = some e.seq := by rw [List.getElem?_map, hj]; rfl
  obtain ⟨a, ha⟩ := List.getElem?_eq_some_iff.1 h1
  obtain ⟨b, hb⟩ := List.getElem?_eq_some_iff.1 h2
  exact (List.getElem_inj (h₀ := a) (h₁ := b) hn).1 (by rw [ha, hb, h])
end Go.Proofs.Ytekhmfliaojabaa
namespace Go.Proofs.Ytekhmfliaojabaa
open Go.RowKit

/-- The delivery of record k. -/
def wantD (bs : List (List Int)) (k : Nat) : Dlv := ⟨5 + (k : Int), bs.getD k [], false⟩
def wantL (bs : List (List Int)) (n : Nat) : List Dlv := (List.range n).map (wantD bs)
theorem wantL_succ (bs : List (List Int)) (n : Nat) : wantL bs (n + 1) = wantL bs n ++ [wantD bs n] := by simp [wantL, List.range_succ]
theorem wantL_more (bs : List (List Int)) (n : Nat) (ds : List Dlv) (h : ∀ (j : Nat) (d : Dlv), ds[j]? = some d → d = wantD bs (n + j)) : wantL bs n ++ ds = wantL bs (n + ds.length) := by
  induction ds generalizing n with
  | nil => simp
  | cons d ds ih =>
    have h0 := h 0 d rfl
    rw [Nat.add_zero] at h0
    subst h0
    have := ih (n + 1) fun j e he => by rw [h (j + 1) e (by simpa using he)]; congr 1; omega
    rw [wantL_succ] at this
    rw [List.length_cons, show n + (ds.length + 1) = n + 1 + ds.length by omega, ← this]
    simp
/-- Record k has been accepted. -/
def Acc (r : Rcv) (k : Nat) : Prop := 5 + (k : Int) < r.next ∨ ∃ d ∈ r.held, d.seq = 5 + (k : Int)
structure OrdI (bs : List (List Int)) (r : Rcv) (ds : List Dlv) (m : Nat) : Prop where
  next : r.next = 5 + (ds.length : Int)
  le : ds.length ≤ bs.length
  got : ds = wantL bs ds.length
  held : ∀ d ∈ r.held, ∃ k < bs.length, d = wantD bs k
  acc : ∀ k < m, Acc r k
  win : r.window = 64
  st : r.stream = 7
theorem OrdI.start (bs : List (List Int)) : OrdI bs ⟨7, 64, 5, []⟩ [] 0 := ⟨by simp, by simp, rfl, by simp, by simp, rfl, rfl⟩
theorem OrdI.take {bs : List (List Int)} {r : Rcv} {ds : List Dlv} {m : Nat} (h : OrdI bs r ds m) (hl : bs.length ≤ 64) (hb : ∀ b ∈ bs, b.length ≤ 64) {k : Nat} (hk : k < bs.length) {r' : Rcv} {ds' : List Dlv} {er : Int} (e : takeR r ⟨7, 5 + (k : Int), bs.getD k []⟩ = (r', ds', er)) :
    OrdI bs r' (ds ++ ds') m ∧ Acc r' k := by
  have hbk : (bs.getD k []).length ≤ 64 := hb _ (by simp [List.getD, List.getElem?_eq_getElem hk])
  have hok : FrOk ⟨7, 5 + (k : Int), bs.getD k []⟩ := ⟨by simp, by simp, by simp only; omega, by simp only; omega, by simp only; omega⟩
  have hn := h.next
  have hw := h.win
  unfold takeR at e
  rw [if_neg (fun hc => hc hok), if_neg (by rw [h.st]; simp)] at e
  unfold keepR at e
  by_cases hr : refuse r (5 + (k : Int)) = 0
  · rw [if_neg (show ¬ refuse r (⟨5 + (k : Int), bs.getD k [], false⟩ : Dlv).seq ≠ 0 from fun hc => hc hr)] at e
    injection e with e1 e2
    injection e2 with e2 e3
    have ek : kept r ⟨5 + (k : Int), bs.getD k [], false⟩ = deliv (r.held.length + 1) r.next (r.held ++ [wantD bs k]) := rfl
    rw [ek] at e1 e2
    obtain ⟨H, hH⟩ : ∃ H, H = r.held ++ [wantD bs k] := ⟨_, rfl⟩
    rw [← hH] at e1 e2
    have hHk : ∀ d ∈ H, ∃ k < bs.length, d = wantD bs k := by
      intro d hd
      rw [hH] at hd
      rcases List.mem_append.1 hd with hd | hd
      · exact h.held d hd
      · simp at hd; exact ⟨k, hk, hd⟩
    have hmono := deliv_mono (r.held.length + 1) r.next H
    have hnx := deliv_next (r.held.length + 1) r.next H
    have hacc : ∀ j, Acc r j ∨ wantD bs j ∈ H → Acc r' j := by
      rintro j (hj | hj)
      · rcases hj with hj | ⟨d, hd, hj⟩
        · left; rw [← e1]; simp only; omega
        · rcases deliv_rest (r.held.length + 1) r.next H d (by rw [hH]; exact List.mem_append.2 (.inl hd)) with h5 | h5
          · left; rw [← e1]; simp only; omega
          · right; rw [← e1]; exact ⟨d, h5, hj⟩
      · rcases deliv_rest (r.held.length + 1) r.next H _ hj with h5 | h5
        · left; rw [← e1]; exact h5
        · right; rw [← e1]; exact ⟨_, h5, rfl⟩
    have hds : ∀ (j : Nat) (d : Dlv), ds'[j]? = some d → d = wantD bs (ds.length + j) ∧ ds.length + j < bs.length := by
      intro j d hd
      rw [← e2] at hd
      obtain ⟨h6, h7⟩ := deliv_consec _ _ _ j d hd
      obtain ⟨k', hk', rfl⟩ := hHk d h7
      have : (wantD bs k').seq = 5 + (k' : Int) := rfl
      rw [this] at h6
      have : k' = ds.length + j := by omega
      subst this
      exact ⟨rfl, hk'⟩
    have hgot : ds ++ ds' = wantL bs (ds.length + ds'.length) := by
      have := wantL_more bs ds.length ds' fun j d hd => (hds j d hd).1
      rw [← h.got] at this
      exact this
    refine ⟨⟨?_, ?_, by rw [List.length_append]; exact hgot, fun d hd => ?_, fun j hj => hacc j (.inl (h.acc j hj)), by rw [← e1]; exact hw, by rw [← e1]; exact h.st⟩, hacc k (.inr (by rw [hH]; simp))⟩
    · rw [← e1, List.length_append]
      simp only
      rw [hnx, e2, hn]
      omega
    · rw [List.length_append]
      rcases Nat.eq_zero_or_pos ds'.length with h0 | h0
      · have := h.le; omega
      · have := (hds (ds'.length - 1) _ (List.getElem?_eq_getElem (by omega))).2
        omega
    · rw [← e1] at hd
      exact hHk d (deliv_sub _ _ _ d hd)
  · rw [if_pos (show refuse r (⟨5 + (k : Int), bs.getD k [], false⟩ : Dlv).seq ≠ 0 from hr)] at e
    injection e with e1 e2
    injection e2 with e2 e3
    subst e1 e2
    rw [List.append_nil]
    refine ⟨h, ?_⟩
    unfold refuse at hr
    split at hr
    · left; assumption
    · split at hr
      · rename_i hs
        obtain ⟨d, hd⟩ := Option.isSome_iff_exists.1 hs
        right
        exact ⟨d, (findD_mem hd).1, (findD_mem hd).2⟩
      · split at hr
        · exfalso; omega
        · exact absurd rfl hr
theorem OrdI.more {bs : List (List Int)} {r : Rcv} {ds : List Dlv} {m : Nat} (h : OrdI bs r ds m) (ha : Acc r m) : OrdI bs r ds (m + 1) :=
  ⟨h.next, h.le, h.got, h.held, fun k hk => by rcases Nat.lt_or_ge k m with h1 | h1; exact h.acc k h1; obtain rfl : k = m := by omega
                                               exact ha, h.win, h.st⟩
end Go.Proofs.Ytekhmfliaojabaa
namespace Go.Proofs.Ytekhmfliaojabaa
open Go.RowKit

/-- What has answers. -/
def HasI (h : List Dlv) (s z : Int) : Prop := (findD h s = none ∧ z = -1) ∨ ∃ (i : Nat) (d : Dlv), z = i ∧ h[i]? = some d ∧ findD h s = some d
theorem findD_step {h : List Dlv} {k : Nat} {d : Dlv} {s : Int} (h0 : findD (h.take k) s = none) (hd : h[k]? = some d) (hs : d.seq ≠ s) : findD (h.take (k + 1)) s = none := by
  rw [findD_none] at h0 ⊢
  intro x hx
  rw [List.take_add_one, hd] at hx
  rcases List.mem_append.1 hx with hx | hx
  · exact h0 x hx
  · simp at hx; subst hx; exact hs
theorem findD_at {h : List Dlv} {k : Nat} {d : Dlv} {s : Int} (h0 : findD (h.take k) s = none) (hd : h[k]? = some d) (hs : d.seq = s) : findD h s = some d := by
  have e : h = h.take k ++ d :: h.drop (k + 1) := by
    obtain ⟨hk, rfl⟩ := List.getElem?_eq_some_iff.1 hd
    rw [List.getElem_cons_drop, List.take_append_drop]
  rw [e]
  unfold findD at h0 ⊢
  rw [List.find?_append, h0]
  simp [hs]


set_option maxRecDepth 100000 in
set_option maxHeartbeats 2000000 in
theorem hasR_any (base g : Nat) (v : Value) (st wn n : Int) (h : List Dlv) (s : Int) (w : World) (hq : RecQ base w g v st wn n h) (hl : h.length ≤ 1000) :
    Calls Try.prog 90 #[.pointer (some ⟨g, 0, none⟩), .int .i64 s] w (fun e w' => ∃ z : Int, e = .returned (.int .i64 z) ∧ w = w' ∧ HasI h s z) := by
  have HQ := Lib.hid hq
  have f3 := hq.blk.cell 3
  obtain ⟨A0, c0, rfl⟩ := hq.row.slice
  clear hq
  go_enter Try.func90, Try.ntmps90
  go_wp2_with fail
  go_loopg [11] h.length (fun f i wr => ∃ k : Nat, f = h.length - k ∧ k ≤ h.length ∧ i = .int .i64 (k : Int) ∧ Hid (findD (h.take k) s = none) ∧ w = wr)
  case atStart => exact ⟨0, rfl, by omega, rfl, Lib.hid rfl, rfl⟩
  case round =>
    obtain ⟨k, rfl, hk, rfl, HN, rfl⟩ := hrel
    by_cases hlt : k < h.length
    · obtain ⟨gb, c, d, A, m, cc, e, hd, hc0, hc1, hc2, hO⟩ := HQ.out.row.get hlt
      injection e with e1 e2 e3
      subst e1 e3
      have HD := Lib.hid hd
      clear hd hO hc1 hc2
      by_cases hs : d.seq = s
      · have q1 : (d.seq == s) = true := by simpa using hs
        have HS := Lib.hid hs
        clear hs
        go_wp2
        go_ret
        exact ⟨k, rfl, rfl, .inr ⟨k, d, rfl, HD.out, findD_at HN.out HD.out HS.out⟩⟩
      · have q1 : (d.seq == s) = false := by simpa using hs
        have HS := Lib.hid hs
        clear hs
        go_wp2
        go_roundg (h.length - (k + 1))
        case rel => exact ⟨k + 1, rfl, by omega, by go_num, Lib.hid (findD_step HN.out HD.out HS.out), rfl⟩
        case measure => omega
    · go_wp2
      go_ret
      refine ⟨-1, rfl, rfl, .inl ⟨?_, rfl⟩⟩
      have := HN.out
      rwa [List.take_of_length_le (by omega)] at this

set_option maxRecDepth 100000 in
set_option maxHeartbeats 2000000 in
theorem keep_r1 (g gd : Nat) (sq nx : Int) (fb : Bool) (w : World) (y0 : w.cell? ⟨gd, 0, none⟩ = some (.int .i64 sq)) (f2 : w.cell? ⟨g, 2, none⟩ = some (.int .i64 nx)) (hfb : Hid (decide (sq < nx) = fb)) (a : Act) (Q : Exit → Act → World → Prop) (hsize : 17 ≤ a.tmps.size)
    (s0 : a.tmps[0]? = some (.pointer (some ⟨g, 0, none⟩)))
    (s3 : a.tmps[3]? = some (.pointer (some ⟨gd, 0, none⟩)))
    (hend : ∀ (xv0 xv1 xv2 xv3 xv4 xv5 xv6 : Value) (W : World), (xv0 = .pointer (some ⟨gd, 0, none⟩)) → (xv1 = .int .i64 sq) → (xv2 = .pointer (some ⟨g, 0, none⟩)) → (xv3 = .pointer (some ⟨g, 0, none⟩)) → (xv4 = .pointer (some ⟨g, 2, none⟩)) → (xv5 = .int .i64 nx) → (xv6 = .bool fb) → Ext w W → wpList Try.prog (rops Try.f83 1).toArray Q ((rops Try.f83 1).drop 7) (((((((a.put (some 10) xv0).put (some 11) xv1).put (some 12) xv2).put (some 13) xv3).put (some 14) xv4).put (some 15) xv5).put (some 16) xv6) W) :
    (Code.region 1 (rops Try.f83 1).toArray true).wp Try.prog Q a w := by
  have hmono : ∀ (W W' : World) (j : Nat) (u : Value), Ext W W' → (fun (i : Nat) (v : Value) (W : World) => match i with
    | 0 => v = .pointer (some ⟨gd, 0, none⟩)
    | 1 => v = .int .i64 sq
    | 2 => v = .pointer (some ⟨g, 0, none⟩)
    | 3 => v = .pointer (some ⟨g, 0, none⟩)
    | 4 => v = .pointer (some ⟨g, 2, none⟩)
    | 5 => v = .int .i64 nx
    | 6 => v = .bool fb
    | _ => True) j u W → (fun (i : Nat) (v : Value) (W : World) => match i with
    | 0 => v = .pointer (some ⟨gd, 0, none⟩)
    | 1 => v = .int .i64 sq
    | 2 => v = .pointer (some ⟨g, 0, none⟩)
    | 3 => v = .pointer (some ⟨g, 0, none⟩)
    | 4 => v = .pointer (some ⟨g, 2, none⟩)
    | 5 => v = .int .i64 nx
    | 6 => v = .bool fb
    | _ => True) j u W' := by
    intro W W' j u hX h
    match j, h with
    | 0, h => exact h
    | 1, h => exact h
    | 2, h => exact h
    | 3, h => exact h
    | 4, h => exact h
    | 5, h => exact h
    | 6, h => exact h
    | _ + 7, h => exact h
  have hsz : ∀ d, some d ∈ ([some 10, some 11, some 12, some 13, some 14, some 15, some 16] : List (Option Tmp)) → d < a.tmps.size := slots_lt (by decide) hsize
  refine wp_region_j 7 [some 10, some 11, some 12, some 13, some 14, some 15, some 16] [[], [0], [], [2], [3], [4], [1, 5]] [[], [], [], [], [], [], []] (fun (i : Nat) (v : Value) (W : World) => match i with
    | 0 => v = .pointer (some ⟨gd, 0, none⟩)
    | 1 => v = .int .i64 sq
    | 2 => v = .pointer (some ⟨g, 0, none⟩)
    | 3 => v = .pointer (some ⟨g, 0, none⟩)
    | 4 => v = .pointer (some ⟨g, 2, none⟩)
    | 5 => v = .int .i64 nx
    | 6 => v = .bool fb
    | _ => True) (fun _ W => Ext w W) (by kernel_rfl) (by kernel_rfl) hsz (fun _ _ _ _ h => h) ((Ext.refl w).drew) ?_ ?_
  · clear hend
    simp only [rops, Try.f83, regOf, Option.bind_some, Nat.reduceBEq, if_true, if_false, Bool.false_eq_true, Option.getD_some]
    simp only [List.take_succ_cons, List.take_zero]
    refine ⟨?_, ?_, ?_, ?_, ?_, ?_, ?_, trivial⟩
    · intro done us W hJ hdep haft hnot b hb hb' K hK Q'
      have e3 := (hb' 3 (by simp)).trans s3
      clear hb hb'
      go_simp
      exact hK _ _ rfl (fun _ _ _ h => h) hJ
    · intro done us W hJ hdep haft hnot b hb hb' K hK Q'
      simp only [List.getD_cons_succ, List.getD_cons_zero, List.mem_cons, List.not_mem_nil, or_false, forall_eq_or_imp, forall_eq] at hdep
      have e10 := hb 0 10 rfl
      have d0 := hdep
      rw [d0.1] at e10
      clear hb hb' hdep d0
      have q := Ext.cell hJ y0
      go_simp
      exact hK _ _ rfl (fun _ _ _ h => h) hJ
    · intro done us W hJ hdep haft hnot b hb hb' K hK Q'
      have e0 := (hb' 0 (by simp)).trans s0
      clear hb hb'
      go_simp
      exact hK _ _ rfl (fun _ _ _ h => h) hJ
    · intro done us W hJ hdep haft hnot b hb hb' K hK Q'
      simp only [List.getD_cons_succ, List.getD_cons_zero, List.mem_cons, List.not_mem_nil, or_false, forall_eq_or_imp, forall_eq] at hdep
      have e12 := hb 2 12 rfl
      have d2 := hdep
      rw [d2.1] at e12
      clear hb hb' hdep d2
      go_simp
      exact hK _ _ rfl (fun _ _ _ h => h) hJ
    · intro done us W hJ hdep haft hnot b hb hb' K hK Q'
      simp only [List.getD_cons_succ, List.getD_cons_zero, List.mem_cons, List.not_mem_nil, or_false, forall_eq_or_imp, forall_eq] at hdep
      have e13 := hb 3 13 rfl
      have d3 := hdep
      rw [d3.1] at e13
      clear hb hb' hdep d3
      go_simp
      exact hK _ _ rfl (fun _ _ _ h => h) hJ
    · intro done us W hJ hdep haft hnot b hb hb' K hK Q'
      simp only [List.getD_cons_succ, List.getD_cons_zero, List.mem_cons, List.not_mem_nil, or_false, forall_eq_or_imp, forall_eq] at hdep
      have e14 := hb 4 14 rfl
      have d4 := hdep
      rw [d4.1] at e14
      clear hb hb' hdep d4
      have q := Ext.cell hJ f2
      go_simp
      exact hK _ _ rfl (fun _ _ _ h => h) hJ
    · intro done us W hJ hdep haft hnot b hb hb' K hK Q'
      simp only [List.getD_cons_succ, List.getD_cons_zero, List.mem_cons, List.not_mem_nil, or_false, forall_eq_or_imp, forall_eq] at hdep
      have e11 := hb 1 11 rfl
      have e15 := hb 5 15 rfl
      have d1 := hdep.1
      have d5 := hdep.2
      rw [d1.1] at e11
      rw [d5.1] at e15
      clear hb hb' hdep d1 d5
      go_simp
      exact hK _ _ (by first | rfl | exact congrArg Value.bool hfb.out | (congr 1; exact hfb.out)) (fun _ _ _ h => h) hJ
  · intro us W hV hJ
    exact hend (us 0) (us 1) (us 2) (us 3) (us 4) (us 5) (us 6) W (hV 0 (by omega)) (hV 1 (by omega)) (hV 2 (by omega)) (hV 3 (by omega)) (hV 4 (by omega)) (hV 5 (by omega)) (hV 6 (by omega)) hJ
set_option maxRecDepth 100000 in
set_option maxHeartbeats 2000000 in
theorem keep_r5 (g gd : Nat) (sq nx wn : Int) (fb : Bool) (w : World) (y0 : w.cell? ⟨gd, 0, none⟩ = some (.int .i64 sq)) (f2 : w.cell? ⟨g, 2, none⟩ = some (.int .i64 nx)) (f1 : w.cell? ⟨g, 1, none⟩ = some (.int .i64 wn)) (h1 : 0 ≤ nx) (h2 : nx ≤ sq) (h3 : sq ≤ 4294967295) (hfb : Hid (decide (wn ≤ sq - nx) = fb)) (a : Act) (Q : Exit → Act → World → Prop) (hsize : 34 ≤ a.tmps.size)
    (s0 : a.tmps[0]? = some (.pointer (some ⟨g, 0, none⟩)))
    (s3 : a.tmps[3]? = some (.pointer (some ⟨gd, 0, none⟩)))
    (hend : ∀ (xv0 xv1 xv2 xv3 xv4 xv5 xv6 xv7 xv8 xv9 xv10 xv11 : Value) (W : World), (xv0 = .pointer (some ⟨gd, 0, none⟩)) → (xv1 = .int .i64 sq) → (xv2 = .pointer (some ⟨g, 0, none⟩)) → (xv3 = .pointer (some ⟨g, 0, none⟩)) → (xv4 = .pointer (some ⟨g, 2, none⟩)) → (xv5 = .int .i64 nx) → (xv6 = .int .i64 (sq - nx)) → (xv7 = .pointer (some ⟨g, 0, none⟩)) → (xv8 = .pointer (some ⟨g, 0, none⟩)) → (xv9 = .pointer (some ⟨g, 1, none⟩)) → (xv10 = .int .i64 wn) → (xv11 = .bool fb) → Ext w W → wpList Try.prog (rops Try.f83 5).toArray Q ((rops Try.f83 5).drop 12) ((((((((((((a.put (some 22) xv0).put (some 23) xv1).put (some 24) xv2).put (some 25) xv3).put (some 26) xv4).put (some 27) xv5).put (some 28) xv6).put (some 29) xv7).put (some 30) xv8).put (some 31) xv9).put (some 32) xv10).put (some 33) xv11) W) :
    (Code.region 5 (rops Try.f83 5).toArray true).wp Try.prog Q a w := by
  have hmono : ∀ (W W' : World) (j : Nat) (u : Value), Ext W W' → (fun (i : Nat) (v : Value) (W : World) => match i with
    | 0 => v = .pointer (some ⟨gd, 0, none⟩)
    | 1 => v = .int .i64 sq
    | 2 => v = .pointer (some ⟨g, 0, none⟩)
    | 3 => v = .pointer (some ⟨g, 0, none⟩)
    | 4 => v = .pointer (some ⟨g, 2, none⟩)
    | 5 => v = .int .i64 nx
    | 6 => v = .int .i64 (sq - nx)
    | 7 => v = .pointer (some ⟨g, 0, none⟩)
    | 8 => v = .pointer (some ⟨g, 0, none⟩)
    | 9 => v = .pointer (some ⟨g, 1, none⟩)
    | 10 => v = .int .i64 wn
    | 11 => v = .bool fb
    | _ => True) j u W → (fun (i : Nat) (v : Value) (W : World) => match i with
    | 0 => v = .pointer (some ⟨gd, 0, none⟩)
    | 1 => v = .int .i64 sq
    | 2 => v = .pointer (some ⟨g, 0, none⟩)
    | 3 => v = .pointer (some ⟨g, 0, none⟩)
    | 4 => v = .pointer (some ⟨g, 2, none⟩)
    | 5 => v = .int .i64 nx
    | 6 => v = .int .i64 (sq - nx)
    | 7 => v = .pointer (some ⟨g, 0, none⟩)
    | 8 => v = .pointer (some ⟨g, 0, none⟩)
    | 9 => v = .pointer (some ⟨g, 1, none⟩)
    | 10 => v = .int .i64 wn
    | 11 => v = .bool fb
    | _ => True) j u W' := by
    intro W W' j u hX h
    match j, h with
    | 0, h => exact h
    | 1, h => exact h
    | 2, h => exact h
    | 3, h => exact h
    | 4, h => exact h
    | 5, h => exact h
    | 6, h => exact h
    | 7, h => exact h
    | 8, h => exact h
    | 9, h => exact h
    | 10, h => exact h
    | 11, h => exact h
    | _ + 12, h => exact h
  have hsz : ∀ d, some d ∈ ([some 22, some 23, some 24, some 25, some 26, some 27, some 28, some 29, some 30, some 31, some 32, some 33] : List (Option Tmp)) → d < a.tmps.size := slots_lt (by decide) hsize
  refine wp_region_j 12 [some 22, some 23, some 24, some 25, some 26, some 27, some 28, some 29, some 30, some 31, some 32, some 33] [[], [0], [], [2], [3], [4], [1, 5], [], [7], [8], [9], [6, 10]] [[], [], [], [], [], [], [], [], [], [], [], []] (fun (i : Nat) (v : Value) (W : World) => match i with
    | 0 => v = .pointer (some ⟨gd, 0, none⟩)
    | 1 => v = .int .i64 sq
    | 2 => v = .pointer (some ⟨g, 0, none⟩)
    | 3 => v = .pointer (some ⟨g, 0, none⟩)
    | 4 => v = .pointer (some ⟨g, 2, none⟩)
    | 5 => v = .int .i64 nx
    | 6 => v = .int .i64 (sq - nx)
    | 7 => v = .pointer (some ⟨g, 0, none⟩)
    | 8 => v = .pointer (some ⟨g, 0, none⟩)
    | 9 => v = .pointer (some ⟨g, 1, none⟩)
    | 10 => v = .int .i64 wn
    | 11 => v = .bool fb
    | _ => True) (fun _ W => Ext w W) (by kernel_rfl) (by kernel_rfl) hsz (fun _ _ _ _ h => h) ((Ext.refl w).drew) ?_ ?_
  · clear hend
    simp only [rops, Try.f83, regOf, Option.bind_some, Nat.reduceBEq, if_true, if_false, Bool.false_eq_true, Option.getD_some]
    simp only [List.take_succ_cons, List.take_zero]
    refine ⟨?_, ?_, ?_, ?_, ?_, ?_, ?_, ?_, ?_, ?_, ?_, ?_, trivial⟩
    · intro done us W hJ hdep haft hnot b hb hb' K hK Q'
      have e3 := (hb' 3 (by simp)).trans s3
      clear hb hb'
      go_simp
      exact hK _ _ rfl (fun _ _ _ h => h) hJ
    · intro done us W hJ hdep haft hnot b hb hb' K hK Q'
      simp only [List.getD_cons_succ, List.getD_cons_zero, List.mem_cons, List.not_mem_nil, or_false, forall_eq_or_imp, forall_eq] at hdep
      have e22 := hb 0 22 rfl
      have d0 := hdep
      rw [d0.1] at e22
      clear hb hb' hdep d0
      have q := Ext.cell hJ y0
      go_simp
      exact hK _ _ rfl (fun _ _ _ h => h) hJ
    · intro done us W hJ hdep haft hnot b hb hb' K hK Q'
      have e0 := (hb' 0 (by simp)).trans s0
      clear hb hb'
      go_simp
      exact hK _ _ rfl (fun _ _ _ h => h) hJ
    · intro done us W hJ hdep haft hnot b hb hb' K hK Q'
      simp only [List.getD_cons_succ, List.getD_cons_zero, List.mem_cons, List.not_mem_nil, or_false, forall_eq_or_imp, forall_eq] at hdep
      have e24 := hb 2 24 rfl
      have d2 := hdep
      rw [d2.1] at e24
      clear hb hb' hdep d2
      go_simp
      exact hK _ _ rfl (fun _ _ _ h => h) hJ
    · intro done us W hJ hdep haft hnot b hb hb' K hK Q'
      simp only [List.getD_cons_succ, List.getD_cons_zero, List.mem_cons, List.not_mem_nil, or_false, forall_eq_or_imp, forall_eq] at hdep
      have e25 := hb 3 25 rfl
      have d3 := hdep
      rw [d3.1] at e25
      clear hb hb' hdep d3
      go_simp
      exact hK _ _ rfl (fun _ _ _ h => h) hJ
    · intro done us W hJ hdep haft hnot b hb hb' K hK Q'
      simp only [List.getD_cons_succ, List.getD_cons_zero, List.mem_cons, List.not_mem_nil, or_false, forall_eq_or_imp, forall_eq] at hdep
      have e26 := hb 4 26 rfl
      have d4 := hdep
      rw [d4.1] at e26
      clear hb hb' hdep d4
      have q := Ext.cell hJ f2
      go_simp
      exact hK _ _ rfl (fun _ _ _ h => h) hJ
    · intro done us W hJ hdep haft hnot b hb hb' K hK Q'
      simp only [List.getD_cons_succ, List.getD_cons_zero, List.mem_cons, List.not_mem_nil, or_false, forall_eq_or_imp, forall_eq] at hdep
      have e23 := hb 1 23 rfl
      have e27 := hb 5 27 rfl
      have d1 := hdep.1
      have d5 := hdep.2
      rw [d1.1] at e23
      rw [d5.1] at e27
      clear hb hb' hdep d1 d5
      have qw : IntKind.i64.wrap (sq - nx) = sq - nx := IntWalk.i64_in _ (by omega)
      go_simp
      exact hK _ _ rfl (fun _ _ _ h => h) hJ
    · intro done us W hJ hdep haft hnot b hb hb' K hK Q'
      have e0 := (hb' 0 (by simp)).trans s0
      clear hb hb'
      go_simp
      exact hK _ _ rfl (fun _ _ _ h => h) hJ
    · intro done us W hJ hdep haft hnot b hb hb' K hK Q'
      simp only [List.getD_cons_succ, List.getD_cons_zero, List.mem_cons, List.not_mem_nil, or_false, forall_eq_or_imp, forall_eq] at hdep
      have e29 := hb 7 29 rfl
      have d7 := hdep
      rw [d7.1] at e29
      clear hb hb' hdep d7
      go_simp
      exact hK _ _ rfl (fun _ _ _ h => h) hJ
    · intro done us W hJ hdep haft hnot b hb hb' K hK Q'
      simp only [List.getD_cons_succ, List.getD_cons_zero, List.mem_cons, List.not_mem_nil, or_false, forall_eq_or_imp, forall_eq] at hdep
      have e30 := hb 8 30 rfl
      have d8 := hdep
      rw [d8.1] at e30
      clear hb hb' hdep d8
      go_simp
      exact hK _ _ rfl (fun _ _ _ h => h) hJ
    · intro done us W hJ hdep haft hnot b hb hb' K hK Q'
      simp only [List.getD_cons_succ, List.getD_cons_zero, List.mem_cons, List.not_mem_nil, or_false, forall_eq_or_imp, forall_eq] at hdep
      have e31 := hb 9 31 rfl
      have d9 := hdep
      rw [d9.1] at e31
      clear hb hb' hdep d9
      have q := Ext.cell hJ f1
      go_simp
      exact hK _ _ rfl (fun _ _ _ h => h) hJ
    · intro done us W hJ hdep haft hnot b hb hb' K hK Q'
      simp only [List.getD_cons_succ, List.getD_cons_zero, List.mem_cons, List.not_mem_nil, or_false, forall_eq_or_imp, forall_eq] at hdep
      have e28 := hb 6 28 rfl
      have e32 := hb 10 32 rfl
      have d6 := hdep.1
      have d10 := hdep.2
      rw [d6.1] at e28
      rw [d10.1] at e32
      clear hb hb' hdep d6 d10
      go_simp
      exact hK _ _ (by first | rfl | exact congrArg Value.bool hfb.out | (congr 1; exact hfb.out)) (fun _ _ _ h => h) hJ
  · intro us W hV hJ
    exact hend (us 0) (us 1) (us 2) (us 3) (us 4) (us 5) (us 6) (us 7) (us 8) (us 9) (us 10) (us 11) W (hV 0 (by omega)) (hV 1 (by omega)) (hV 2 (by omega)) (hV 3 (by omega)) (hV 4 (by omega)) (hV 5 (by omega)) (hV 6 (by omega)) (hV 7 (by omega)) (hV 8 (by omega)) (hV 9 (by omega)) (hV 10 (by omega)) (hV 11 (by omega)) hJ
set_option maxRecDepth 100000 in
set_option maxHeartbeats 2000000 in
theorem keep_r7 (base g gd nl : Nat) (A0 : Option Addr) (c0 : Nat) (sq : Int) (Ab : Option Addr) (n c : Nat) (lo : Bool) (xs : List Int) (hh : List Dlv) (vs : List Value) (w : World) (f3 : w.cell? ⟨g, 3, none⟩ = some (.slice A0 nl c0)) (hD : Blk w gd 72 #[.int .i64 sq, .slice Ab n c, .bool lo]) (hgd : gd ∉ (Value.slice A0 nl c0).ownBlock.toList) (hO : OwnS .u8 5 base w Ab n c xs) (hnl2 : nl ≤ 1000) (hnl : hh.length = nl) (hown : w.ownsRow base 72 3 (.slice A0 nl c0) nl vs) (hcs : CsR (DlO base w) vs hh) (hb : base ≤ w.heap.size) (hLb : ∀ k ∈ (Value.slice A0 nl c0).ownBlock.toList, k < w.heap.size) (a : Act) (Q : Exit → Act → World → Prop) (hsize : 44 ≤ a.tmps.size)
    (s0 : a.tmps[0]? = some (.pointer (some ⟨g, 0, none⟩)))
    (s3 : a.tmps[3]? = some (.pointer (some ⟨gd, 0, none⟩)))
    (hend : ∀ (xv0 xv1 xv2 xv3 xv4 xv5 xv6 xv7 xv8 xv9 : Value) (W : World), (xv0 = .pointer (some ⟨g, 0, none⟩)) → (xv1 = .pointer (some ⟨g, 0, none⟩)) → (xv2 = .pointer (some ⟨g, 0, none⟩)) → (xv3 = .pointer (some ⟨g, 3, none⟩)) → (xv4 = .slice A0 nl c0) → (xv5 = .agg #[.int .i64 sq, .slice Ab n c, .bool lo]) → (∃ g', xv6 = .slice (some ⟨g', 0, none⟩) 1 1 ∧ w.heap.size ≤ g' ∧ Blk W g' 72 #[.int .i64 sq, .slice Ab n c, .bool lo]) → (DlL base base W xv7 (hh ++ [⟨sq, xs, lo⟩]) ∧ (∀ k, xv7.ownBlock = some k → k ∈ (Value.slice A0 nl c0).ownBlock.toList ∨ w.heap.size ≤ k)) → (xv8 = .pointer (some ⟨g, 0, none⟩)) → (xv9 = .pointer (some ⟨g, 3, none⟩)) → Keeps ((Value.slice A0 nl c0).ownBlock.toList) w W → wpList Try.prog (rops Try.f83 7).toArray Q ((rops Try.f83 7).drop 10) ((((((((((a.put (some 34) xv0).put (some 35) xv1).put (some 36) xv2).put (some 37) xv3).put (some 38) xv4).put (some 39) xv5).put (some 40) xv6).put (some 41) xv7).put (some 42) xv8).put (some 43) xv9) W) :
    (Code.region 7 (rops Try.f83 7).toArray true).wp Try.prog Q a w := by
  have hmono : ∀ (W W' : World) (j : Nat) (u : Value), Ext W W' → (fun (i : Nat) (v : Value) (W : World) => match i with
    | 0 => v = .pointer (some ⟨g, 0, none⟩)
    | 1 => v = .pointer (some ⟨g, 0, none⟩)
    | 2 => v = .pointer (some ⟨g, 0, none⟩)
    | 3 => v = .pointer (some ⟨g, 3, none⟩)
    | 4 => v = .slice A0 nl c0
    | 5 => v = .agg #[.int .i64 sq, .slice Ab n c, .bool lo]
    | 6 => ∃ g', v = .slice (some ⟨g', 0, none⟩) 1 1 ∧ w.heap.size ≤ g' ∧ Blk W g' 72 #[.int .i64 sq, .slice Ab n c, .bool lo]
    | 7 => DlL base base W v (hh ++ [⟨sq, xs, lo⟩]) ∧ (∀ k, v.ownBlock = some k → k ∈ (Value.slice A0 nl c0).ownBlock.toList ∨ w.heap.size ≤ k)
    | 8 => v = .pointer (some ⟨g, 0, none⟩)
    | 9 => v = .pointer (some ⟨g, 3, none⟩)
    | _ => True) j u W → (fun (i : Nat) (v : Value) (W : World) => match i with
    | 0 => v = .pointer (some ⟨g, 0, none⟩)
    | 1 => v = .pointer (some ⟨g, 0, none⟩)
    | 2 => v = .pointer (some ⟨g, 0, none⟩)
    | 3 => v = .pointer (some ⟨g, 3, none⟩)
    | 4 => v = .slice A0 nl c0
    | 5 => v = .agg #[.int .i64 sq, .slice Ab n c, .bool lo]
    | 6 => ∃ g', v = .slice (some ⟨g', 0, none⟩) 1 1 ∧ w.heap.size ≤ g' ∧ Blk W g' 72 #[.int .i64 sq, .slice Ab n c, .bool lo]
    | 7 => DlL base base W v (hh ++ [⟨sq, xs, lo⟩]) ∧ (∀ k, v.ownBlock = some k → k ∈ (Value.slice A0 nl c0).ownBlock.toList ∨ w.heap.size ≤ k)
    | 8 => v = .pointer (some ⟨g, 0, none⟩)
    | 9 => v = .pointer (some ⟨g, 3, none⟩)
    | _ => True) j u W' := by
    intro W W' j u hX h
    match j, h with
    | 0, h => exact h
    | 1, h => exact h
    | 2, h => exact h
    | 3, h => exact h
    | 4, h => exact h
    | 5, h => exact h
    | 6, h => obtain ⟨g', h1, h2, h3⟩ := h; exact ⟨g', h1, h2, h3.ext hX⟩
    | 7, h => exact ⟨DlL.ext h.1 hX, h.2⟩
    | 8, h => exact h
    | 9, h => exact h
    | _ + 10, h => exact h
  have hmonoK : ∀ (W W' : World) (j : Nat) (u : Value), Keeps ((Value.slice A0 nl c0).ownBlock.toList) W W' → (∀ k ∈ ((Value.slice A0 nl c0).ownBlock.toList), NoRow 5 W k) → j ≠ 7 → (fun (i : Nat) (v : Value) (W : World) => match i with
    | 0 => v = .pointer (some ⟨g, 0, none⟩)
    | 1 => v = .pointer (some ⟨g, 0, none⟩)
    | 2 => v = .pointer (some ⟨g, 0, none⟩)
    | 3 => v = .pointer (some ⟨g, 3, none⟩)
    | 4 => v = .slice A0 nl c0
    | 5 => v = .agg #[.int .i64 sq, .slice Ab n c, .bool lo]
    | 6 => ∃ g', v = .slice (some ⟨g', 0, none⟩) 1 1 ∧ w.heap.size ≤ g' ∧ Blk W g' 72 #[.int .i64 sq, .slice Ab n c, .bool lo]
    | 7 => DlL base base W v (hh ++ [⟨sq, xs, lo⟩]) ∧ (∀ k, v.ownBlock = some k → k ∈ (Value.slice A0 nl c0).ownBlock.toList ∨ w.heap.size ≤ k)
    | 8 => v = .pointer (some ⟨g, 0, none⟩)
    | 9 => v = .pointer (some ⟨g, 3, none⟩)
    | _ => True) j u W → (fun (i : Nat) (v : Value) (W : World) => match i with
    | 0 => v = .pointer (some ⟨g, 0, none⟩)
    | 1 => v = .pointer (some ⟨g, 0, none⟩)
    | 2 => v = .pointer (some ⟨g, 0, none⟩)
    | 3 => v = .pointer (some ⟨g, 3, none⟩)
    | 4 => v = .slice A0 nl c0
    | 5 => v = .agg #[.int .i64 sq, .slice Ab n c, .bool lo]
    | 6 => ∃ g', v = .slice (some ⟨g', 0, none⟩) 1 1 ∧ w.heap.size ≤ g' ∧ Blk W g' 72 #[.int .i64 sq, .slice Ab n c, .bool lo]
    | 7 => DlL base base W v (hh ++ [⟨sq, xs, lo⟩]) ∧ (∀ k, v.ownBlock = some k → k ∈ (Value.slice A0 nl c0).ownBlock.toList ∨ w.heap.size ≤ k)
    | 8 => v = .pointer (some ⟨g, 0, none⟩)
    | 9 => v = .pointer (some ⟨g, 3, none⟩)
    | _ => True) j u W' := by
    intro W W' j u hk hN hne h
    match j, h with
    | 0, h => exact h
    | 1, h => exact h
    | 2, h => exact h
    | 3, h => exact h
    | 4, h => exact h
    | 5, h => exact h
    | 6, h => obtain ⟨g', h1, h2, h3⟩ := h; exact ⟨g', h1, h2, h3.keeps hk (fun hl => by have := hLb _ hl; omega)⟩
    | 7, h => exact absurd rfl hne
    | 8, h => exact h
    | 9, h => exact h
    | _ + 10, h => exact h
  have hsz : ∀ d, some d ∈ ([some 34, some 35, some 36, some 37, some 38, some 39, some 40, some 41, some 42, some 43] : List (Option Tmp)) → d < a.tmps.size := slots_lt (by decide) hsize
  refine wp_region_j 10 [some 34, some 35, some 36, some 37, some 38, some 39, some 40, some 41, some 42, some 43] [[], [], [1], [2], [3], [], [5], [4, 6], [0], [8]] [[], [], [], [], [7], [], [], [], [], []] (fun (i : Nat) (v : Value) (W : World) => match i with
    | 0 => v = .pointer (some ⟨g, 0, none⟩)
    | 1 => v = .pointer (some ⟨g, 0, none⟩)
    | 2 => v = .pointer (some ⟨g, 0, none⟩)
    | 3 => v = .pointer (some ⟨g, 3, none⟩)
    | 4 => v = .slice A0 nl c0
    | 5 => v = .agg #[.int .i64 sq, .slice Ab n c, .bool lo]
    | 6 => ∃ g', v = .slice (some ⟨g', 0, none⟩) 1 1 ∧ w.heap.size ≤ g' ∧ Blk W g' 72 #[.int .i64 sq, .slice Ab n c, .bool lo]
    | 7 => DlL base base W v (hh ++ [⟨sq, xs, lo⟩]) ∧ (∀ k, v.ownBlock = some k → k ∈ (Value.slice A0 nl c0).ownBlock.toList ∨ w.heap.size ≤ k)
    | 8 => v = .pointer (some ⟨g, 0, none⟩)
    | 9 => v = .pointer (some ⟨g, 3, none⟩)
    | _ => True) (fun done W => Keeps ((Value.slice A0 nl c0).ownBlock.toList) w W ∧ (¬ done 7 → Ext w W)) (by kernel_rfl) (by kernel_rfl) hsz (fun p q W h hj => ⟨hj.1, fun hn => hj.2 fun hp => hn ((h _).1 hp)⟩) ⟨Keeps.of_ext (Ext.refl w).drew _, fun _ => (Ext.refl w).drew⟩ ?_ ?_
  · clear hend
    simp only [rops, Try.f83, regOf, Option.bind_some, Nat.reduceBEq, if_true, if_false, Bool.false_eq_true, Option.getD_some]
    simp only [List.take_succ_cons, List.take_zero]
    refine ⟨?_, ?_, ?_, ?_, ?_, ?_, ?_, ?_, ?_, ?_, trivial⟩
    · intro done us W hJ hdep haft hnot b hb hb' K hK Q'
      have e0 := (hb' 0 (by simp)).trans s0
      clear hb hb'
      go_simp
      exact hK _ _ rfl (fun _ _ _ h => h) ⟨hJ.1, fun h => hJ.2 fun d => h (.inl d)⟩
    · intro done us W hJ hdep haft hnot b hb hb' K hK Q'
      have e0 := (hb' 0 (by simp)).trans s0
      clear hb hb'
      go_simp
      exact hK _ _ rfl (fun _ _ _ h => h) ⟨hJ.1, fun h => hJ.2 fun d => h (.inl d)⟩
    · intro done us W hJ hdep haft hnot b hb hb' K hK Q'
      simp only [List.getD_cons_succ, List.getD_cons_zero, List.mem_cons, List.not_mem_nil, or_false, forall_eq_or_imp, forall_eq] at hdep
      have e35 := hb 1 35 rfl
      have d1 := hdep
      rw [d1.1] at e35
      clear hb hb' hdep d1
      go_simp
      exact hK _ _ rfl (fun _ _ _ h => h) ⟨hJ.1, fun h => hJ.2 fun d => h (.inl d)⟩
    · intro done us W hJ hdep haft hnot b hb hb' K hK Q'
      simp only [List.getD_cons_succ, List.getD_cons_zero, List.mem_cons, List.not_mem_nil, or_false, forall_eq_or_imp, forall_eq] at hdep
      have e36 := hb 2 36 rfl
      have d2 := hdep
      rw [d2.1] at e36
      clear hb hb' hdep d2
      go_simp
      exact hK _ _ rfl (fun _ _ _ h => h) ⟨hJ.1, fun h => hJ.2 fun d => h (.inl d)⟩
    · intro done us W hJ hdep haft hnot b hb hb' K hK Q'
      simp only [List.getD_cons_succ, List.getD_cons_zero, List.mem_cons, List.not_mem_nil, or_false, forall_eq_or_imp, forall_eq] at hdep
      simp only [List.getD_cons_succ, List.getD_cons_zero, List.mem_cons, List.not_mem_nil, or_false, forall_eq_or_imp, forall_eq] at haft
      have e37 := hb 3 37 rfl
      have d3 := hdep
      rw [d3.1] at e37
      clear hb hb' hdep d3
      have hJE := hJ.2 haft
      have q := Ext.cell hJE f3
      go_simp
      exact hK _ _ rfl (fun _ _ _ h => h) ⟨hJ.1, fun h => hJ.2 fun d => h (.inl d)⟩
    · intro done us W hJ hdep haft hnot b hb hb' K hK Q'
      have e3 := (hb' 3 (by simp)).trans s3
      clear hb hb'
      have hT := hD.keeps hJ.1 hgd
      have q0 := hT.cell 0
      have q1 := hT.cell 1
      have q2 := hT.cell 2
      go_simp
      exact hK _ _ rfl (fun _ _ _ h => h) ⟨hJ.1, fun h => hJ.2 fun d => h (.inl d)⟩
    · intro done us W hJ hdep haft hnot b hb hb' K hK Q'
      simp only [List.getD_cons_succ, List.getD_cons_zero, List.mem_cons, List.not_mem_nil, or_false, forall_eq_or_imp, forall_eq] at hdep
      have e39 := hb 5 39 rfl
      have d5 := hdep
      rw [d5.1] at e39
      clear hb hb' hdep d5
      have hb1 := Blk.new W 72 #[.int .i64 sq, .slice Ab n c, .bool lo]
      have hX := (Ext.refl W).alloc (.cells #[.int .i64 sq, .slice Ab n c, .bool lo] 72)
      have hs := hJ.1.size
      go_simp
      exact hK _ _ (⟨_, rfl, hs, hb1⟩) (fun j u _ h => hmono _ _ j u hX h) ⟨hJ.1.trans (Keeps.of_ext hX _), fun h => (hJ.2 fun d => h (.inl d)).trans hX⟩
    · intro done us W hJ hdep haft hnot b hb hb' K hK Q'
      simp only [List.getD_cons_succ, List.getD_cons_zero, List.mem_cons, List.not_mem_nil, or_false, forall_eq_or_imp, forall_eq] at hdep
      have e38 := hb 4 38 rfl
      have e40 := hb 6 40 rfl
      have d4 := hdep.1
      have d6 := hdep.2
      rw [d4.1] at e38
      clear hb hb' hdep d4
      have hJE := hJ.2 hnot
      obtain ⟨g', e', hg', hb1⟩ := d6.1
      rw [e'] at e40
      have hoW := World.ownsRow.ext' hown hJE
      have hs := Ext.size hJE
      obtain ⟨v', W', q, ho, hG, hdj⟩ := run_app (P := Try.prog) W elD 67 base (.slice A0 nl c0) nl vs hoW (some ⟨g', 0, none⟩) 1 1 [.int .i64 sq, .slice Ab n c, .bool lo] rfl (fun _ => ⟨g', 0, rfl, fun j y hy => by match j with | 0 => (simp at hy; subst hy; exact hb1.cell 0) | 1 => (simp at hy; subst hy; exact hb1.cell 1) | 2 => (simp at hy; subst hy; exact hb1.cell 2) | j + 3 => simp at hy⟩) (by simp [Value.oneCell']) (by omega) (by unfold maxLen; omega) (by omega)
      have hk : Keeps ((Value.slice A0 nl c0).ownBlock.toList) W W' := Keeps.of_grown hG (fun k hk => by rw [hk]; simp)
      have hN : ∀ k ∈ ((Value.slice A0 nl c0).ownBlock.toList), NoRow 5 W k := fun k hk => NoRow.of_own hoW (by simpa using hk) (by decide)
      have hR := DlL.snoc (ds := hh) (s := sq) (lo := lo) (hcs.imp fun _ _ h => DlO.ext h hJE) (by rw [hnl]; exact hoW) (hO.ext hJE) (by rw [hnl]; exact ho) hG
      have hvb : ∀ k, v'.ownBlock = some k → k ∈ ((Value.slice A0 nl c0).ownBlock.toList) ∨ w.heap.size ≤ k := fun k hk' => by
        rcases hdj with h | h
        · left; rw [h] at hk'; rw [hk']; simp
        · right; rw [h] at hk'; injection hk' with hk'; omega
      exact jop_app rfl rfl e38 e40 q (hK _ _ ⟨hR, hvb⟩ (fun j u hd h => hmonoK _ _ j u hk hN (by intro e; subst e; exact hnot hd) h) ⟨hJ.1.trans hk, fun h => absurd (.inr rfl) h⟩)
    · intro done us W hJ hdep haft hnot b hb hb' K hK Q'
      simp only [List.getD_cons_succ, List.getD_cons_zero, List.mem_cons, List.not_mem_nil, or_false, forall_eq_or_imp, forall_eq] at hdep
      have e34 := hb 0 34 rfl
      have d0 := hdep
      rw [d0.1] at e34
      clear hb hb' hdep d0
      go_simp
      exact hK _ _ rfl (fun _ _ _ h => h) ⟨hJ.1, fun h => hJ.2 fun d => h (.inl d)⟩
    · intro done us W hJ hdep haft hnot b hb hb' K hK Q'
      simp only [List.getD_cons_succ, List.getD_cons_zero, List.mem_cons, List.not_mem_nil, or_false, forall_eq_or_imp, forall_eq] at hdep
      have e42 := hb 8 42 rfl
      have d8 := hdep
      rw [d8.1] at e42
      clear hb hb' hdep d8
      go_simp
      exact hK _ _ rfl (fun _ _ _ h => h) ⟨hJ.1, fun h => hJ.2 fun d => h (.inl d)⟩
  · intro us W hV hJ
    exact hend (us 0) (us 1) (us 2) (us 3) (us 4) (us 5) (us 6) (us 7) (us 8) (us 9) W (hV 0 (by omega)) (hV 1 (by omega)) (hV 2 (by omega)) (hV 3 (by omega)) (hV 4 (by omega)) (hV 5 (by omega)) (hV 6 (by omega)) (hV 7 (by omega)) (hV 8 (by omega)) (hV 9 (by omega)) (by simpa using hJ)
end Go.Proofs.Ytekhmfliaojabaa
namespace Go.Proofs.Ytekhmfliaojabaa
open Go.RowKit

/-- The row is one of the receiver's own, or new. -/
def NewRow (g : Nat) (v : Value) (w : World) (v' : Value) : Prop := ∀ k, v'.ownBlock = some k → k ∈ g :: v.ownBlock.toList ∨ w.heap.size ≤ k
theorem NewRow.same (g : Nat) (v : Value) (w : World) : NewRow g v w v := fun k hk => .inl (by simp [hk])
/-- What the reference's keep, Take and GiveUp leave. -/
def RetKe (base g : Nat) (v : Value) (w : World) (r : Rcv × List Dlv × Int) (e : Ending) (w' : World) : Prop :=
  ∃ u v', e = .returned (.tuple #[u, .int .i64 r.2.2]) ∧ DlL w.heap.size base w' u r.2.1 ∧ RecR base w' g v' r.1 ∧ Keeps (g :: v.ownBlock.toList) w w' ∧ NewRow g v w v'
theorem refuse_26 {r : Rcv} {s : Int} (h : s < r.next) : refuse r s = 26 := by unfold refuse; rw [if_pos h]
theorem refuse_27 {r : Rcv} {s : Int} {d : Dlv} (h : r.next ≤ s) (h2 : findD r.held s = some d) : refuse r s = 27 := by unfold refuse; rw [if_neg (by omega), h2]; rfl
theorem refuse_28 {r : Rcv} {s : Int} (h : r.next ≤ s) (h2 : findD r.held s = none) (h3 : r.next + r.window ≤ s) : refuse r s = 28 := by unfold refuse; rw [if_neg (by omega), h2, if_neg (by simp), if_pos h3]
theorem refuse_0 {r : Rcv} {s : Int} (h : r.next ≤ s) (h2 : findD r.held s = none) (h3 : s < r.next + r.window) : refuse r s = 0 := by unfold refuse; rw [if_neg (by omega), h2, if_neg (by simp), if_neg (by omega)]
theorem nodup_keep {r : Rcv} {d : Dlv} (h : RcvOk r) (hr : refuse r d.seq = 0) : ((r.held ++ [d]).map Dlv.seq).Nodup := by
  obtain ⟨_, h2, _⟩ := refuse_ok hr
  rw [List.map_append, List.nodup_append]
  refine ⟨h.apart, by simp, fun a ha b hb => ?_⟩
  simp at hb
  subst hb
  rintro rfl
  obtain ⟨x, hx, e⟩ := List.mem_map.1 ha
  exact findD_none.1 h2 x hx e
set_option maxRecDepth 100000 in
set_option maxHeartbeats 8000000 in
theorem keepE_any (base g : Nat) (v : Value) (r : Rcv) (d : Dlv) (Ab : Option Addr) (n c : Nat) (w : World) (h : RecR base w g v r) (hO : OwnS .u8 5 base w Ab n c d.body) (h1 : 0 ≤ d.seq) (h2 : d.seq ≤ 4294967295) (h3 : d.body.length ≤ 1024) :
    Calls Try.prog 83 #[.pointer (some ⟨g, 0, none⟩), .agg #[.int .i64 d.seq, .slice Ab n c, .bool d.lost]] w (RetKe base g v w (keepR r d)) := by
  obtain ⟨sq, xs, lo⟩ := d
  simp only at hO h1 h2 h3 ⊢
  obtain ⟨A0, c0, rfl⟩ := h.q.row.slice
  have HR := Lib.hid h
  have HO := Lib.hid hO
  have lb := h.q.base_le
  obtain ⟨lw0, lw1⟩ := h.ok.window
  obtain ⟨ln0, ln1⟩ := h.ok.next
  have lrm := h.ok.room
  have HLb : Hid (∀ k ∈ (Value.slice A0 r.held.length c0).ownBlock.toList, k < w.heap.size) := Lib.hid fun k hk => (h.q.row.lt k (Option.mem_toList.1 hk)).2
  have HG := Lib.hid h.q.ne
  clear h hO
  have hXe : Ext w (w.alloc (.cells #[.int .i64 sq, .slice Ab n c, .bool lo] 72)) := ((Ext.refl w).alloc _)
  have kd : Blk (w.alloc (.cells #[.int .i64 sq, .slice Ab n c, .bool lo] 72)) w.heap.size 72 #[.int .i64 sq, .slice Ab n c, .bool lo] := Blk.at_ (by simp)
  go_enter Try.func83, Try.ntmps83
  go_upto_region 1 with (fail)
  generalize (w.alloc (.cells #[.int .i64 sq, .slice Ab n c, .bool lo] 72)) = w1 at hXe kd ⊢
  have HX := Lib.hid hXe
  clear hXe
  have Kd := Lib.hid kd
  clear kd
  replace HR := Lib.hid (HR.out.ext HX.out)
  replace HO := Lib.hid (HO.out.ext HX.out)
  by_cases hc : sq < r.next
  · have HE : Hid (keepR r ⟨sq, xs, lo⟩ = (r, [], 26)) := Lib.hid (by have e : refuse r (⟨sq, xs, lo⟩ : Dlv).seq = 26 := refuse_26 hc; rw [keepR_no (by rw [e]; omega), e])
    go_wp2_with fail
    refine keep_r1 g w.heap.size sq r.next true _ (Kd.out.cell 0) (HR.out.q.blk.cell 2) (Lib.hid (decide_eq_true (by omega))) _ _ (by simp) rfl rfl ?_
    rintro xv0 xv1 xv2 xv3 xv4 xv5 xv6 w2 rfl rfl rfl rfl rfl rfl rfl hXW
    simp only [rops, Try.f83, regOf, Option.bind_some, Nat.reduceBEq, if_true, if_false, Bool.false_eq_true, Option.getD_some, List.drop_succ_cons, List.drop_zero]
    simp only [Act.put, List.setIfInBounds_toArray, List.set_cons_succ, List.set_cons_zero]
    replace HX := Lib.hid (HX.out.trans hXW)
    replace HR := Lib.hid (HR.out.ext hXW)
    replace HO := Lib.hid (HO.out.ext hXW)
    replace Kd := Lib.hid (Kd.out.ext hXW)
    clear hXW
    go_wp2
    go_ret2
    rw [HE.out]
    exact ⟨_, _, rfl, DlL.nil _ _ _, HR.out, Keeps.of_ext HX.out _, NewRow.same _ _ _⟩
  · have HC : Hid (¬ sq < r.next) := Lib.hid (by omega)
    go_wp2_with fail
    refine keep_r1 g w.heap.size sq r.next false _ (Kd.out.cell 0) (HR.out.q.blk.cell 2) (Lib.hid (decide_eq_false (by omega))) _ _ (by simp) rfl rfl ?_
    rintro xv0 xv1 xv2 xv3 xv4 xv5 xv6 w2 rfl rfl rfl rfl rfl rfl rfl hXW
    simp only [rops, Try.f83, regOf, Option.bind_some, Nat.reduceBEq, if_true, if_false, Bool.false_eq_true, Option.getD_some, List.drop_succ_cons, List.drop_zero]
    simp only [Act.put, List.setIfInBounds_toArray, List.set_cons_succ, List.set_cons_zero]
    replace HX := Lib.hid (HX.out.trans hXW)
    replace HR := Lib.hid (HR.out.ext hXW)
    replace HO := Lib.hid (HO.out.ext hXW)
    replace Kd := Lib.hid (Kd.out.ext hXW)
    clear hXW
    have hnx : r.next ≤ sq := by omega
    clear hc
    have cd0 : w2.cell? ⟨w.heap.size, 0, none⟩ = some (.int .i64 sq) := Kd.out.cell 0
    have cd1 : w2.cell? ⟨w.heap.size, 1, none⟩ = some (.slice Ab n c) := Kd.out.cell 1
    have cd2 : w2.cell? ⟨w.heap.size, 2, none⟩ = some (.bool lo) := Kd.out.cell 2
    go_wp2_with fail
    clear cd0 cd1 cd2
    refine (hasR_any base g _ r.stream r.window r.next r.held sq _ HR.out.q (by omega)).mono ?_
    rintro e _ ⟨zz, rfl, rfl, hz⟩
    rcases hz with ⟨hf, rfl⟩ | ⟨i, d', rfl, hi, hf⟩
    · have HF := Lib.hid hf
      clear hf
      go_upto_region 5 with (fail)
      by_cases hc : r.window ≤ sq - r.next
      · have HE : Hid (keepR r ⟨sq, xs, lo⟩ = (r, [], 28)) := Lib.hid (by have e : refuse r (⟨sq, xs, lo⟩ : Dlv).seq = 28 := refuse_28 hnx HF.out (show r.next + r.window ≤ sq by omega); rw [keepR_no (by rw [e]; omega), e])
        refine keep_r5 g w.heap.size sq r.next r.window true _ (Kd.out.cell 0) (HR.out.q.blk.cell 2) (HR.out.q.blk.cell 1) ln0 hnx h2 (Lib.hid (decide_eq_true (by omega))) _ _ (by simp) rfl rfl ?_
        rintro xv0 xv1 xv2 xv3 xv4 xv5 xv6 xv7 xv8 xv9 xv10 xv11 w3 rfl rfl rfl rfl rfl rfl rfl rfl rfl rfl rfl rfl hXW
        simp only [rops, Try.f83, regOf, Option.bind_some, Nat.reduceBEq, if_true, if_false, Bool.false_eq_true, Option.getD_some, List.drop_succ_cons, List.drop_zero]
        simp only [Act.put, List.setIfInBounds_toArray, List.set_cons_succ, List.set_cons_zero]
        replace HX := Lib.hid (HX.out.trans hXW)
        replace HR := Lib.hid (HR.out.ext hXW)
        replace HO := Lib.hid (HO.out.ext hXW)
        replace Kd := Lib.hid (Kd.out.ext hXW)
        clear hXW
        go_wp2
        go_ret2
        rw [HE.out]
        exact ⟨_, _, rfl, DlL.nil _ _ _, HR.out, Keeps.of_ext HX.out _, NewRow.same _ _ _⟩
      · have HRF : Hid (refuse r (⟨sq, xs, lo⟩ : Dlv).seq = 0) := Lib.hid (refuse_0 hnx HF.out (show sq < r.next + r.window by omega))
        refine keep_r5 g w.heap.size sq r.next r.window false _ (Kd.out.cell 0) (HR.out.q.blk.cell 2) (HR.out.q.blk.cell 1) ln0 hnx h2 (Lib.hid (decide_eq_false (by omega))) _ _ (by simp) rfl rfl ?_
        rintro xv0 xv1 xv2 xv3 xv4 xv5 xv6 xv7 xv8 xv9 xv10 xv11 w3 rfl rfl rfl rfl rfl rfl rfl rfl rfl rfl rfl rfl hXW
        simp only [rops, Try.f83, regOf, Option.bind_some, Nat.reduceBEq, if_true, if_false, Bool.false_eq_true, Option.getD_some, List.drop_succ_cons, List.drop_zero]
        simp only [Act.put, List.setIfInBounds_toArray, List.set_cons_succ, List.set_cons_zero]
        replace HX := Lib.hid (HX.out.trans hXW)
        replace HR := Lib.hid (HR.out.ext hXW)
        replace HO := Lib.hid (HO.out.ext hXW)
        replace Kd := Lib.hid (Kd.out.ext hXW)
        clear hXW
        clear hc
        go_upto_region 7 with (fail)
        obtain ⟨vs, hown, hcs⟩ := HR.out.q.row
        have hy := HX.out.size
        refine keep_r7 base g w.heap.size r.held.length A0 c0 sq Ab n c lo xs r.held vs w3 (HR.out.q.blk.cell 3) Kd.out (fun hl => by have := HLb.out _ hl; omega) HO.out (by omega) rfl hown hcs (by omega) (fun k hk => by have := HLb.out k hk; omega) _ _ (by simp) rfl rfl ?_
        rintro xv0 xv1 xv2 xv3 xv4 xv5 xv6 xv7 xv8 xv9 W4 rfl rfl rfl rfl rfl rfl _ ⟨hL4, hvb4⟩ rfl rfl hK4
        simp only [rops, Try.f83, regOf, Option.bind_some, Nat.reduceBEq, if_true, if_false, Bool.false_eq_true, Option.getD_some, List.drop_succ_cons, List.drop_zero]
        simp only [Act.put, List.setIfInBounds_toArray, List.set_cons_succ, List.set_cons_zero]
        obtain ⟨A1, c1, hx7⟩ : ∃ A c, xv7 = .slice A (r.held.length + 1) c := by simpa using hL4.slice
        subst hx7
        have hB4 := HR.out.q.blk.keeps hK4 (fun hl => HG.out (Option.mem_toList.1 hl).symm)
        have hK0 : Keeps (g :: (Value.slice A0 r.held.length c0).ownBlock.toList) w W4 := (Keeps.of_ext HX.out _).trans (hK4.mono fun k hk _ => by simp only [List.mem_cons]; exact .inr hk)
        have f3 := hB4.cell 3
        have z3 := hB4.free 3
        have HKO := Lib.hid (keepR_ok (d := ⟨sq, xs, lo⟩) HR.out.ok h2 h3)
        have HND := Lib.hid (nodup_keep HR.out.ok HRF.out)
        have hst : KeepSt base w (g :: (Value.slice A0 r.held.length c0).ownBlock.toList) (W4.setCell ⟨g, 3, none⟩ (.slice A1 (r.held.length + 1) c1)) g (.slice A1 (r.held.length + 1) c1) (.slice none 0 0) r.stream r.window r.next (r.held ++ [⟨sq, xs, lo⟩]) [] := ⟨RecQ.grow hB4 hL4 HR.out.q.lo, DlL.nil _ _ _, fun j hj => by simp [Value.ownBlock] at hj, hK0.setCell (.inl (by simp)) _, fun j hj => by
          rcases hvb4 j hj with h | h
          · exact .inl (by simp only [List.mem_cons]; exact .inr h)
          · exact .inr (by omega)⟩
        have HST := Lib.hid hst
        clear hst hB4 hK0 hL4 hK4 hown hcs HR HO HX Kd
        go_wp2_with fail
        clear f3 z3
        obtain ⟨H, hH⟩ : ∃ H, H = (r.held ++ [⟨sq, xs, lo⟩]) := ⟨_, rfl⟩
        rw [← hH] at HST HND
        have hHl : H.length ≤ 65 := by rw [hH]; simp; omega
        have HH := Lib.hid hH
        clear hH
        go_loopg [6] (H.length + 1) (fun f out wr => ∃ (n' : Int) (h' pre : List Dlv) (v' : Value), f = h'.length + 1 ∧ pre.length + h'.length = H.length ∧ r.next ≤ n' ∧ n' ≤ r.next + pre.length ∧ Hid (deliv H.length r.next H = (pre ++ (deliv h'.length n' h').1, (deliv h'.length n' h').2)) ∧ Hid (KeepSt base w (g :: (Value.slice A0 r.held.length c0).ownBlock.toList) wr g v' out r.stream r.window n' h' pre) ∧ Hid ((h'.map Dlv.seq).Nodup))
        case atStart => exact ⟨r.next, H, [], _, rfl, by simp, by omega, by simp, Lib.hid (by simp), HST, HND⟩
        case round =>
          clear HST HND
          obtain ⟨n', h', pre, v', rfl, hlen, hn0, hn1, HD, HK, HN⟩ := hrel
          obtain ⟨A7, c7, rfl⟩ := HK.out.q.row.slice
          obtain ⟨A9, c9, rfl⟩ := HK.out.outL.slice
          have f2 := HK.out.q.blk.cell 2
          go_wp2_with fail
          refine (hasR_any base g _ _ _ n' h' n' _ HK.out.q (by omega)).mono ?_
          rintro e _ ⟨zz, rfl, rfl, hz⟩
          rcases hz with ⟨hf, rfl⟩ | ⟨i, d', rfl, hi, hf⟩
          · have HD2 : Hid (deliv H.length r.next H = (pre, n', h')) := Lib.hid (by rw [HD.out, deliv_none hf]; simp)
            clear hf f2
            go_wp2
            go_ret2
            have hko := HKO.out
            rw [keepR_yes HRF.out, ← HH.out, HD2.out] at hko
            rw [keepR_yes HRF.out, ← HH.out, HD2.out]
            exact ⟨_, _, rfl, HK.out.outL, ⟨HK.out.q, hko⟩, HK.out.keeps, HK.out.vb⟩
          · have HF := Lib.hid hf
            clear hf hi
            have hi0 : decide ((0 : Int) ≤ (i : Int)) = true := decide_eq_true (by omega)
            go_wp2_with fail
            refine (hasR_any base g _ _ _ n' h' n' _ HK.out.q (by omega)).mono ?_
            rintro e _ ⟨zz, rfl, rfl, hz⟩
            rcases hz with ⟨hf, _⟩ | ⟨i2, d2, rfl, hi2, hf⟩
            · rw [HF.out] at hf; cases hf
            · have hdd : d2 = d' := by rw [HF.out] at hf; exact (Option.some.inj hf).symm
              have hwl := wipe_len HN.out hf
              have HWL := Lib.hid hwl
              have HD2 : Hid (deliv H.length r.next H = ((pre ++ [d2]) ++ (deliv (wipe h' n').length (n' + 1) (wipe h' n')).1, (deliv (wipe h' n').length (n' + 1) (wipe h' n')).2)) := Lib.hid (by rw [HD.out, ← hwl, deliv_some hf]; simp)
              have HSQ := Lib.hid (findD_mem hf).2
              have HI2 := Lib.hid hi2
              have hi2l : i2 < h'.length := (List.getElem?_eq_some_iff.1 hi2).1
              obtain ⟨gb, c7', d2', A8, n8, c8, e, hd2, hc0, hc1, hc2, hO8⟩ := HK.out.q.row.get hi2l
              injection e with e1 e2 e3
              subst e1 e3
              obtain rfl : d2' = d2 := by rw [hi2] at hd2; exact (Option.some.inj hd2).symm
              have HO8 := Lib.hid hO8
              have hsz := HK.out.keeps.size
              have f3 := HK.out.q.blk.cell 3
              obtain ⟨vs, hown, hcs⟩ := HK.out.outL
              have hpl : pre.length ≤ 65 := by omega
              clear hf hi2 hdd hwl hd2 hO8 f2 HF
              clear d'
              obtain ⟨d2, rfl⟩ : ∃ d, d = d2' := ⟨_, rfl⟩
              go_wp2_with (at_builtin; refine wpList_app _ elD rfl _ _ rfl w.heap.size (.slice A9 pre.length c9) pre.length vs rfl (hown.alloc _) _ 1 1 [.int .i64 d2.seq, .slice A8 n8 c8, .bool d2.lost] rfl rfl (At.new' _ [_, _, _] _ (by simp)) (by simp [Value.oneCell']) (by omega) (by unfold maxLen; omega) (by simp; omega) ?_; intro v4 w4 hown4 hgr4 hdj4; have HK4 := Lib.hid ((HK.out.ext ((Ext.refl _).alloc _)).app d2 (hown.alloc _) (hcs.imp fun _ _ h => h.ext ((Ext.refl _).alloc _)) (HO8.out.ext ((Ext.refl _).alloc _)) hown4 hgr4 hdj4); clear f3 hc0 hc1 hc2 hown hcs hown4 hgr4 hdj4; have f3 := HK4.out.q.blk.cell 3)
              obtain ⟨A4, c4, hA4⟩ : ∃ A c, v4 = .slice A (pre.length + 1) c := by simpa using HK4.out.outL.slice
              subst hA4
              clear f3 HK HO8
              go_loopg [8, 72] h'.length (fun f lv ix wr => ∃ (k : Nat) (ls : List Dlv), f = h'.length - k ∧ k ≤ h'.length ∧ ix = .int .i64 (k : Int) ∧ ls.length ≤ k ∧ Hid (ls = wipe (h'.take k) n') ∧ Hid (KeepSl base w (g :: (Value.slice A0 r.held.length c0).ownBlock.toList) wr g (.slice (some ⟨gb, 0, none⟩) h'.length c7) (.slice A4 (pre.length + 1) c4) lv r.stream r.window n' h' (pre ++ [d2]) ls))
              case atStart => exact ⟨0, [], rfl, by omega, rfl, by simp, Lib.hid rfl, Lib.hid HK4.out.start⟩
              case round =>
                clear HK4
                obtain ⟨k, ls, rfl, hk, rfl, hlk, HLS, HS⟩ := hrel
                obtain ⟨A6, c6, rfl⟩ := HS.out.leftL.slice
                by_cases hlt : k < h'.length
                · obtain ⟨gb', c7', d5, A5, n5, c5, e, hd5, hc0, hc1, hc2, hO5⟩ := HS.out.k.q.row.get hlt
                  injection e with e1 e2 e3
                  injection e1 with e1
                  injection e1 with e1
                  subst e1 e3
                  have HD5 := Lib.hid hd5
                  have HO5 := Lib.hid hO5
                  have hsz := HS.out.k.keeps.size
                  have f3 := HS.out.k.q.blk.cell 3
                  obtain ⟨vs, hown, hcs⟩ := HS.out.leftL
                  clear hd5 hO5
                  by_cases hki : k = i2
                  · have HKI := Lib.hid hki
                    have q1 : ((k : Int) != (i2 : Int)) = false := by simp [hki]
                    clear hki hc0 hc1 hc2 hown hcs f3
                    go_wp2
                    go_roundg (h'.length - (k + 1))
                    case rel =>
                      refine ⟨k + 1, ls, rfl, by omega, by go_num, by omega, Lib.hid ?_, HS⟩
                      have e5 : d5 = d2 := by have h1 := HD5.out; rw [HKI.out, HI2.out] at h1; exact (Option.some.inj h1).symm
                      rw [List.take_add_one, HD5.out]
                      rw [Option.toList_some, wipe_snoc_yes (by rw [e5]; exact HSQ.out)]
                      exact HLS.out
                    case measure => omega
                  · have q1 : ((k : Int) != (i2 : Int)) = true := by simp; omega
                    have HNE : Hid (d5.seq ≠ n') := Lib.hid fun e => hki (seq_inj HN.out HD5.out HI2.out (e.trans HSQ.out.symm))
                    clear hki
                    go_wp2_with (at_builtin; refine wpList_app _ elD rfl _ _ rfl w.heap.size (.slice A6 ls.length c6) ls.length vs rfl (hown.alloc _) _ 1 1 [.int .i64 d5.seq, .slice A5 n5 c5, .bool d5.lost] rfl rfl (At.new' _ [_, _, _] _ (by simp)) (by simp [Value.oneCell']) (by omega) (by unfold maxLen; omega) (by simp; omega) ?_; intro v6 w6 hown6 hgr6 hdj6; have HS6 := Lib.hid ((HS.out.ext ((Ext.refl _).alloc _)).app d5 (hown.alloc _) (hcs.imp fun _ _ h => h.ext ((Ext.refl _).alloc _)) (HO5.out.ext ((Ext.refl _).alloc _)) hown6 hgr6 hdj6); clear f3 hc0 hc1 hc2 hown hcs hown6 hgr6 hdj6)
                    go_roundg (h'.length - (k + 1))
                    case rel =>
                      refine ⟨k + 1, ls ++ [d5], rfl, by omega, by go_num, by simp; omega, Lib.hid ?_, HS6⟩
                      rw [List.take_add_one, HD5.out, Option.toList_some, wipe_snoc_no HNE.out, ← HLS.out]
                    case measure => omega
                · obtain rfl : k = h'.length := by omega
                  have hB := HS.out.k.q.blk
                  have f2 := hB.cell 2
                  have z2 := hB.free 2
                  have f3 := hB.cell 3
                  have z3 := hB.free 3
                  have HKE := Lib.hid (HS.out.stored (by simp) lb)
                  clear hB
                  go_wp2
                  go_roundg ((wipe h' n').length + 1)
                  case rel =>
                    have hls : ls = wipe h' n' := by rw [HLS.out, List.take_of_length_le (Nat.le_refl _)]
                    subst hls
                    exact ⟨n' + 1, wipe h' n', pre ++ [d2], _, rfl, by have := HWL.out; simp; omega, by omega, by simp; omega, HD2, HKE, Lib.hid (wipe_nodup HN.out)⟩
                  case measure => have := HWL.out; omega
        
    · have HE : Hid (keepR r ⟨sq, xs, lo⟩ = (r, [], 27)) := Lib.hid (by have e : refuse r (⟨sq, xs, lo⟩ : Dlv).seq = 27 := refuse_27 hnx hf; rw [keepR_no (by rw [e]; omega), e])
      have hi0 : decide ((0 : Int) ≤ (i : Int)) = true := decide_eq_true (by omega)
      clear hf hi
      go_wp2
      go_ret2
      rw [HE.out]
      exact ⟨_, _, rfl, DlL.nil _ _ _, HR.out, Keeps.of_ext HX.out _, NewRow.same _ _ _⟩

end Go.Proofs.Ytekhmfliaojabaa
namespace Go.Proofs.Ytekhmfliaojabaa
open Go.RowKit

set_option maxRecDepth 100000 in
set_option maxHeartbeats 2000000 in
theorem takeE_r3 (g gf : Nat) (fs st : Int) (fb : Bool) (w : World) (y0 : w.cell? ⟨gf, 0, none⟩ = some (.int .i64 fs)) (f0 : w.cell? ⟨g, 0, none⟩ = some (.int .i64 st)) (hfb : Hid ((fs != st) = fb)) (a : Act) (Q : Exit → Act → World → Prop) (hsize : 16 ≤ a.tmps.size)
    (s0 : a.tmps[0]? = some (.pointer (some ⟨g, 0, none⟩)))
    (s3 : a.tmps[3]? = some (.pointer (some ⟨gf, 0, none⟩)))
    (hend : ∀ (xv0 xv1 xv2 xv3 xv4 xv5 xv6 : Value) (W : World), (xv0 = .pointer (some ⟨gf, 0, none⟩)) → (xv1 = .int .i64 fs) → (xv2 = .pointer (some ⟨g, 0, none⟩)) → (xv3 = .pointer (some ⟨g, 0, none⟩)) → (xv4 = .pointer (some ⟨g, 0, none⟩)) → (xv5 = .int .i64 st) → (xv6 = .bool fb) → Ext w W → wpList Try.prog (rops Try.f57 3).toArray Q ((rops Try.f57 3).drop 7) (((((((a.put (some 9) xv0).put (some 10) xv1).put (some 11) xv2).put (some 12) xv3).put (some 13) xv4).put (some 14) xv5).put (some 15) xv6) W) :
    (Code.region 3 (rops Try.f57 3).toArray true).wp Try.prog Q a w := by
  have hmono : ∀ (W W' : World) (j : Nat) (u : Value), Ext W W' → (fun (i : Nat) (v : Value) (W : World) => match i with
    | 0 => v = .pointer (some ⟨gf, 0, none⟩)
    | 1 => v = .int .i64 fs
    | 2 => v = .pointer (some ⟨g, 0, none⟩)
    | 3 => v = .pointer (some ⟨g, 0, none⟩)
    | 4 => v = .pointer (some ⟨g, 0, none⟩)
    | 5 => v = .int .i64 st
    | 6 => v = .bool fb
    | _ => True) j u W → (fun (i : Nat) (v : Value) (W : World) => match i with
    | 0 => v = .pointer (some ⟨gf, 0, none⟩)
    | 1 => v = .int .i64 fs
    | 2 => v = .pointer (some ⟨g, 0, none⟩)
    | 3 => v = .pointer (some ⟨g, 0, none⟩)
    | 4 => v = .pointer (some ⟨g, 0, none⟩)
    | 5 => v = .int .i64 st
    | 6 => v = .bool fb
    | _ => True) j u W' := by
    intro W W' j u hX h
    match j, h with
    | 0, h => exact h
    | 1, h => exact h
    | 2, h => exact h
    | 3, h => exact h
    | 4, h => exact h
    | 5, h => exact h
    | 6, h => exact h
    | _ + 7, h => exact h
  have hsz : ∀ d, some d ∈ ([some 9, some 10, some 11, some 12, some 13, some 14, some 15] : List (Option Tmp)) → d < a.tmps.size := slots_lt (by decide) hsize
  refine wp_region_j 7 [some 9, some 10, some 11, some 12, some 13, some 14, some 15] [[], [0], [], [2], [3], [4], [1, 5]] [[], [], [], [], [], [], []] (fun (i : Nat) (v : Value) (W : World) => match i with
    | 0 => v = .pointer (some ⟨gf, 0, none⟩)
    | 1 => v = .int .i64 fs
    | 2 => v = .pointer (some ⟨g, 0, none⟩)
    | 3 => v = .pointer (some ⟨g, 0, none⟩)
    | 4 => v = .pointer (some ⟨g, 0, none⟩)
    | 5 => v = .int .i64 st
    | 6 => v = .bool fb
    | _ => True) (fun _ W => Ext w W) (by kernel_rfl) (by kernel_rfl) hsz (fun _ _ _ _ h => h) ((Ext.refl w).drew) ?_ ?_
  · clear hend
    simp only [rops, Try.f57, regOf, Option.bind_some, Nat.reduceBEq, if_true, if_false, Bool.false_eq_true, Option.getD_some]
    simp only [List.take_succ_cons, List.take_zero]
    refine ⟨?_, ?_, ?_, ?_, ?_, ?_, ?_, trivial⟩
    · intro done us W hJ hdep haft hnot b hb hb' K hK Q'
      have e3 := (hb' 3 (by simp)).trans s3
      clear hb hb'
      go_simp
      exact hK _ _ rfl (fun _ _ _ h => h) hJ
    · intro done us W hJ hdep haft hnot b hb hb' K hK Q'
      simp only [List.getD_cons_succ, List.getD_cons_zero, List.mem_cons, List.not_mem_nil, or_false, forall_eq_or_imp, forall_eq] at hdep
      have e9 := hb 0 9 rfl
      have d0 := hdep
      rw [d0.1] at e9
      clear hb hb' hdep d0
      have q := Ext.cell hJ y0
      go_simp
      exact hK _ _ rfl (fun _ _ _ h => h) hJ
    · intro done us W hJ hdep haft hnot b hb hb' K hK Q'
      have e0 := (hb' 0 (by simp)).trans s0
      clear hb hb'
      go_simp
      exact hK _ _ rfl (fun _ _ _ h => h) hJ
    · intro done us W hJ hdep haft hnot b hb hb' K hK Q'
      simp only [List.getD_cons_succ, List.getD_cons_zero, List.mem_cons, List.not_mem_nil, or_false, forall_eq_or_imp, forall_eq] at hdep
      have e11 := hb 2 11 rfl
      have d2 := hdep
      rw [d2.1] at e11
      clear hb hb' hdep d2
      go_simp
      exact hK _ _ rfl (fun _ _ _ h => h) hJ
    · intro done us W hJ hdep haft hnot b hb hb' K hK Q'
      simp only [List.getD_cons_succ, List.getD_cons_zero, List.mem_cons, List.not_mem_nil, or_false, forall_eq_or_imp, forall_eq] at hdep
      have e12 := hb 3 12 rfl
      have d3 := hdep
      rw [d3.1] at e12
      clear hb hb' hdep d3
      go_simp
      exact hK _ _ rfl (fun _ _ _ h => h) hJ
    · intro done us W hJ hdep haft hnot b hb hb' K hK Q'
      simp only [List.getD_cons_succ, List.getD_cons_zero, List.mem_cons, List.not_mem_nil, or_false, forall_eq_or_imp, forall_eq] at hdep
      have e13 := hb 4 13 rfl
      have d4 := hdep
      rw [d4.1] at e13
      clear hb hb' hdep d4
      have q := Ext.cell hJ f0
      go_simp
      exact hK _ _ rfl (fun _ _ _ h => h) hJ
    · intro done us W hJ hdep haft hnot b hb hb' K hK Q'
      simp only [List.getD_cons_succ, List.getD_cons_zero, List.mem_cons, List.not_mem_nil, or_false, forall_eq_or_imp, forall_eq] at hdep
      have e10 := hb 1 10 rfl
      have e14 := hb 5 14 rfl
      have d1 := hdep.1
      have d5 := hdep.2
      rw [d1.1] at e10
      rw [d5.1] at e14
      clear hb hb' hdep d1 d5
      go_simp
      exact hK _ _ (by first | rfl | exact congrArg Value.bool hfb.out | (congr 1; exact hfb.out)) (fun _ _ _ h => h) hJ
  · intro us W hV hJ
    exact hend (us 0) (us 1) (us 2) (us 3) (us 4) (us 5) (us 6) W (hV 0 (by omega)) (hV 1 (by omega)) (hV 2 (by omega)) (hV 3 (by omega)) (hV 4 (by omega)) (hV 5 (by omega)) (hV 6 (by omega)) hJ
set_option maxRecDepth 100000 in
set_option maxHeartbeats 2000000 in
theorem takeE_r5 (base g gf : Nat) (v0 : Value) (r : Rcv) (fs fq : Int) (Ab : Option Addr) (n c : Nat) (xs : List Int) (w : World) (hF : Blk w gf 38 #[.int .i64 fs, .int .i64 fq, .slice Ab n c]) (hgf : gf ∉ g :: v0.ownBlock.toList) (hI : Ints .u8 w Ab n xs) (hc1 : n ≤ c) (hc2 : c ≤ 9223372036854775807) (hn : n ≤ 1000000) (hR : RecR base w g v0 r) (hb : base ≤ w.heap.size) (hLb : ∀ k ∈ g :: v0.ownBlock.toList, k < w.heap.size) (h1 : 0 ≤ fq) (h2 : fq ≤ 4294967295) (h3 : xs.length ≤ 1024) (a : Act) (Q : Exit → Act → World → Prop) (hsize : 27 ≤ a.tmps.size)
    (s0 : a.tmps[0]? = some (.pointer (some ⟨g, 0, none⟩)))
    (s3 : a.tmps[3]? = some (.pointer (some ⟨gf, 0, none⟩)))
    (hend : ∀ (xv0 xv1 xv2 xv3 xv4 xv5 xv6 xv7 xv8 xv9 xv10 xv11 xv12 : Value) (W : World), (xv0 = .pointer (some ⟨g, 0, none⟩)) → (xv1 = .pointer (some ⟨gf, 1, none⟩)) → (xv2 = .int .i64 fq) → (xv3 = .pointer (some ⟨gf, 2, none⟩)) → (xv4 = .slice Ab n c) → (∃ g', xv5 = .slice (some ⟨g', 0, none⟩) 1 1 ∧ w.heap.size ≤ g' ∧ Blk W g' 22 #[.slice Ab n c]) → (BodyV w.heap.size W xv6 xs) → (∃ A' n' c', xv7 = .agg #[.int .i64 fq, .slice A' n' c', .bool false] ∧ OwnS .u8 5 w.heap.size W A' n' c' xs) → (∃ u xv8', xv8 = .tuple #[u, .int .i64 (keepR r ⟨fq, xs, false⟩).2.2] ∧ DlL w.heap.size base W u (keepR r ⟨fq, xs, false⟩).2.1 ∧ RecR base W g xv8' (keepR r ⟨fq, xs, false⟩).1 ∧ NewRow g v0 w xv8') → (DlL w.heap.size base W xv9 (keepR r ⟨fq, xs, false⟩).2.1 ∧ ∃ xv9', RecR base W g xv9' (keepR r ⟨fq, xs, false⟩).1 ∧ NewRow g v0 w xv9') → ((xv10 = .int .i64 (keepR r ⟨fq, xs, false⟩).2.2)) → (DlL w.heap.size base W xv11 (keepR r ⟨fq, xs, false⟩).2.1 ∧ ∃ xv11', RecR base W g xv11' (keepR r ⟨fq, xs, false⟩).1 ∧ NewRow g v0 w xv11') → (xv12 = .int .i64 (keepR r ⟨fq, xs, false⟩).2.2) → Keeps (g :: v0.ownBlock.toList) w W → wpList Try.prog (rops Try.f57 5).toArray Q ((rops Try.f57 5).drop 13) (((((((((((((a.put (some 16) xv0).put (some 17) xv1).put (some 18) xv2).put (some 19) xv3).put (some 20) xv4).put (some 21) xv5).put (some 22) xv6).put (some 23) xv7).put (some 24) xv8).put (some 25) xv9).put (some 26) xv10).put (some 4) xv11).put (some 5) xv12) W) :
    (Code.region 5 (rops Try.f57 5).toArray true).wp Try.prog Q a w := by
  have hmono : ∀ (W W' : World) (j : Nat) (u : Value), Ext W W' → (fun (i : Nat) (v : Value) (W : World) => match i with
    | 0 => v = .pointer (some ⟨g, 0, none⟩)
    | 1 => v = .pointer (some ⟨gf, 1, none⟩)
    | 2 => v = .int .i64 fq
    | 3 => v = .pointer (some ⟨gf, 2, none⟩)
    | 4 => v = .slice Ab n c
    | 5 => ∃ g', v = .slice (some ⟨g', 0, none⟩) 1 1 ∧ w.heap.size ≤ g' ∧ Blk W g' 22 #[.slice Ab n c]
    | 6 => BodyV w.heap.size W v xs
    | 7 => ∃ A' n' c', v = .agg #[.int .i64 fq, .slice A' n' c', .bool false] ∧ OwnS .u8 5 w.heap.size W A' n' c' xs
    | 8 => ∃ u v', v = .tuple #[u, .int .i64 (keepR r ⟨fq, xs, false⟩).2.2] ∧ DlL w.heap.size base W u (keepR r ⟨fq, xs, false⟩).2.1 ∧ RecR base W g v' (keepR r ⟨fq, xs, false⟩).1 ∧ NewRow g v0 w v'
    | 9 => DlL w.heap.size base W v (keepR r ⟨fq, xs, false⟩).2.1 ∧ ∃ v', RecR base W g v' (keepR r ⟨fq, xs, false⟩).1 ∧ NewRow g v0 w v'
    | 10 => (v = .int .i64 (keepR r ⟨fq, xs, false⟩).2.2)
    | 11 => DlL w.heap.size base W v (keepR r ⟨fq, xs, false⟩).2.1 ∧ ∃ v', RecR base W g v' (keepR r ⟨fq, xs, false⟩).1 ∧ NewRow g v0 w v'
    | 12 => v = .int .i64 (keepR r ⟨fq, xs, false⟩).2.2
    | _ => True) j u W → (fun (i : Nat) (v : Value) (W : World) => match i with
    | 0 => v = .pointer (some ⟨g, 0, none⟩)
    | 1 => v = .pointer (some ⟨gf, 1, none⟩)
    | 2 => v = .int .i64 fq
    | 3 => v = .pointer (some ⟨gf, 2, none⟩)
    | 4 => v = .slice Ab n c
    | 5 => ∃ g', v = .slice (some ⟨g', 0, none⟩) 1 1 ∧ w.heap.size ≤ g' ∧ Blk W g' 22 #[.slice Ab n c]
    | 6 => BodyV w.heap.size W v xs
    | 7 => ∃ A' n' c', v = .agg #[.int .i64 fq, .slice A' n' c', .bool false] ∧ OwnS .u8 5 w.heap.size W A' n' c' xs
    | 8 => ∃ u v', v = .tuple #[u, .int .i64 (keepR r ⟨fq, xs, false⟩).2.2] ∧ DlL w.heap.size base W u (keepR r ⟨fq, xs, false⟩).2.1 ∧ RecR base W g v' (keepR r ⟨fq, xs, false⟩).1 ∧ NewRow g v0 w v'
    | 9 => DlL w.heap.size base W v (keepR r ⟨fq, xs, false⟩).2.1 ∧ ∃ v', RecR base W g v' (keepR r ⟨fq, xs, false⟩).1 ∧ NewRow g v0 w v'
    | 10 => (v = .int .i64 (keepR r ⟨fq, xs, false⟩).2.2)
    | 11 => DlL w.heap.size base W v (keepR r ⟨fq, xs, false⟩).2.1 ∧ ∃ v', RecR base W g v' (keepR r ⟨fq, xs, false⟩).1 ∧ NewRow g v0 w v'
    | 12 => v = .int .i64 (keepR r ⟨fq, xs, false⟩).2.2
    | _ => True) j u W' := by
    intro W W' j u hX h
    match j, h with
    | 0, h => exact h
    | 1, h => exact h
    | 2, h => exact h
    | 3, h => exact h
    | 4, h => exact h
    | 5, h => obtain ⟨g', h1, h2, h3⟩ := h; exact ⟨g', h1, h2, h3.ext hX⟩
    | 6, h => exact BodyV.ext h hX
    | 7, h => obtain ⟨A', n', c', h1, h2⟩ := h; exact ⟨A', n', c', h1, h2.ext hX⟩
    | 8, h => obtain ⟨u, v', h1, h2, h3, h4⟩ := h; exact ⟨u, v', h1, h2.ext hX, h3.ext hX, h4⟩
    | 9, h => obtain ⟨h1, v', h2, h3⟩ := h; exact ⟨h1.ext hX, v', h2.ext hX, h3⟩
    | 10, h => exact h
    | 11, h => obtain ⟨h1, v', h2, h3⟩ := h; exact ⟨h1.ext hX, v', h2.ext hX, h3⟩
    | 12, h => exact h
    | _ + 13, h => exact h
  have hmonoK : ∀ (W W' : World) (j : Nat) (u : Value), Keeps (g :: v0.ownBlock.toList) W W' → (∀ k ∈ (g :: v0.ownBlock.toList), NoRow 5 W k) → j < 8 → (fun (i : Nat) (v : Value) (W : World) => match i with
    | 0 => v = .pointer (some ⟨g, 0, none⟩)
    | 1 => v = .pointer (some ⟨gf, 1, none⟩)
    | 2 => v = .int .i64 fq
    | 3 => v = .pointer (some ⟨gf, 2, none⟩)
    | 4 => v = .slice Ab n c
    | 5 => ∃ g', v = .slice (some ⟨g', 0, none⟩) 1 1 ∧ w.heap.size ≤ g' ∧ Blk W g' 22 #[.slice Ab n c]
    | 6 => BodyV w.heap.size W v xs
    | 7 => ∃ A' n' c', v = .agg #[.int .i64 fq, .slice A' n' c', .bool false] ∧ OwnS .u8 5 w.heap.size W A' n' c' xs
    | 8 => ∃ u v', v = .tuple #[u, .int .i64 (keepR r ⟨fq, xs, false⟩).2.2] ∧ DlL w.heap.size base W u (keepR r ⟨fq, xs, false⟩).2.1 ∧ RecR base W g v' (keepR r ⟨fq, xs, false⟩).1 ∧ NewRow g v0 w v'
    | 9 => DlL w.heap.size base W v (keepR r ⟨fq, xs, false⟩).2.1 ∧ ∃ v', RecR base W g v' (keepR r ⟨fq, xs, false⟩).1 ∧ NewRow g v0 w v'
    | 10 => (v = .int .i64 (keepR r ⟨fq, xs, false⟩).2.2)
    | 11 => DlL w.heap.size base W v (keepR r ⟨fq, xs, false⟩).2.1 ∧ ∃ v', RecR base W g v' (keepR r ⟨fq, xs, false⟩).1 ∧ NewRow g v0 w v'
    | 12 => v = .int .i64 (keepR r ⟨fq, xs, false⟩).2.2
    | _ => True) j u W → (fun (i : Nat) (v : Value) (W : World) => match i with
    | 0 => v = .pointer (some ⟨g, 0, none⟩)
    | 1 => v = .pointer (some ⟨gf, 1, none⟩)
    | 2 => v = .int .i64 fq
    | 3 => v = .pointer (some ⟨gf, 2, none⟩)
    | 4 => v = .slice Ab n c
    | 5 => ∃ g', v = .slice (some ⟨g', 0, none⟩) 1 1 ∧ w.heap.size ≤ g' ∧ Blk W g' 22 #[.slice Ab n c]
    | 6 => BodyV w.heap.size W v xs
    | 7 => ∃ A' n' c', v = .agg #[.int .i64 fq, .slice A' n' c', .bool false] ∧ OwnS .u8 5 w.heap.size W A' n' c' xs
    | 8 => ∃ u v', v = .tuple #[u, .int .i64 (keepR r ⟨fq, xs, false⟩).2.2] ∧ DlL w.heap.size base W u (keepR r ⟨fq, xs, false⟩).2.1 ∧ RecR base W g v' (keepR r ⟨fq, xs, false⟩).1 ∧ NewRow g v0 w v'
    | 9 => DlL w.heap.size base W v (keepR r ⟨fq, xs, false⟩).2.1 ∧ ∃ v', RecR base W g v' (keepR r ⟨fq, xs, false⟩).1 ∧ NewRow g v0 w v'
    | 10 => (v = .int .i64 (keepR r ⟨fq, xs, false⟩).2.2)
    | 11 => DlL w.heap.size base W v (keepR r ⟨fq, xs, false⟩).2.1 ∧ ∃ v', RecR base W g v' (keepR r ⟨fq, xs, false⟩).1 ∧ NewRow g v0 w v'
    | 12 => v = .int .i64 (keepR r ⟨fq, xs, false⟩).2.2
    | _ => True) j u W' := by
    intro W W' j u hk hN hne h
    match j, h with
    | 0, h => exact h
    | 1, h => exact h
    | 2, h => exact h
    | 3, h => exact h
    | 4, h => exact h
    | 5, h => obtain ⟨g', h1, h2, h3⟩ := h; exact ⟨g', h1, h2, h3.keeps hk (fun hl => by have := hLb _ hl; omega)⟩
    | 6, h => exact BodyV.keeps h hk hN
    | 7, h => obtain ⟨A', n', c', h1, h2⟩ := h; exact ⟨A', n', c', h1, h2.keeps hk hN⟩
    | 8, h => omega
    | 9, h => omega
    | 10, h => omega
    | 11, h => omega
    | 12, h => omega
    | _ + 13, h => exact h
  have hsz : ∀ d, some d ∈ ([some 16, some 17, some 18, some 19, some 20, some 21, some 22, some 23, some 24, some 25, some 26, some 4, some 5] : List (Option Tmp)) → d < a.tmps.size := slots_lt (by decide) hsize
  refine wp_region_j 13 [some 16, some 17, some 18, some 19, some 20, some 21, some 22, some 23, some 24, some 25, some 26, some 4, some 5] [[], [], [1], [], [3], [4], [5], [2, 6], [0, 7], [8], [8], [9], [10]] [[], [], [], [], [], [], [8], [8], [], [], [], [], []] (fun (i : Nat) (v : Value) (W : World) => match i with
    | 0 => v = .pointer (some ⟨g, 0, none⟩)
    | 1 => v = .pointer (some ⟨gf, 1, none⟩)
    | 2 => v = .int .i64 fq
    | 3 => v = .pointer (some ⟨gf, 2, none⟩)
    | 4 => v = .slice Ab n c
    | 5 => ∃ g', v = .slice (some ⟨g', 0, none⟩) 1 1 ∧ w.heap.size ≤ g' ∧ Blk W g' 22 #[.slice Ab n c]
    | 6 => BodyV w.heap.size W v xs
    | 7 => ∃ A' n' c', v = .agg #[.int .i64 fq, .slice A' n' c', .bool false] ∧ OwnS .u8 5 w.heap.size W A' n' c' xs
    | 8 => ∃ u v', v = .tuple #[u, .int .i64 (keepR r ⟨fq, xs, false⟩).2.2] ∧ DlL w.heap.size base W u (keepR r ⟨fq, xs, false⟩).2.1 ∧ RecR base W g v' (keepR r ⟨fq, xs, false⟩).1 ∧ NewRow g v0 w v'
    | 9 => DlL w.heap.size base W v (keepR r ⟨fq, xs, false⟩).2.1 ∧ ∃ v', RecR base W g v' (keepR r ⟨fq, xs, false⟩).1 ∧ NewRow g v0 w v'
    | 10 => (v = .int .i64 (keepR r ⟨fq, xs, false⟩).2.2)
    | 11 => DlL w.heap.size base W v (keepR r ⟨fq, xs, false⟩).2.1 ∧ ∃ v', RecR base W g v' (keepR r ⟨fq, xs, false⟩).1 ∧ NewRow g v0 w v'
    | 12 => v = .int .i64 (keepR r ⟨fq, xs, false⟩).2.2
    | _ => True) (fun done W => Keeps (g :: v0.ownBlock.toList) w W ∧ (¬ done 8 → Ext w W) ∧ (∀ j, 8 < j → done j → done 8)) (by kernel_rfl) (by kernel_rfl) hsz (fun p q W h hj => by have e : p = q := funext fun k => propext (h k); subst e; exact hj) ⟨Keeps.of_ext (Ext.refl w).drew _, fun _ => (Ext.refl w).drew, fun _ _ h => h⟩ ?_ ?_
  · clear hend
    simp only [rops, Try.f57, regOf, Option.bind_some, Nat.reduceBEq, if_true, if_false, Bool.false_eq_true, Option.getD_some]
    simp only [List.take_succ_cons, List.take_zero]
    refine ⟨?_, ?_, ?_, ?_, ?_, ?_, ?_, ?_, ?_, ?_, ?_, ?_, ?_, trivial⟩
    · intro done us W hJ hdep haft hnot b hb hb' K hK Q'
      have e0 := (hb' 0 (by simp)).trans s0
      clear hb hb'
      go_simp
      exact hK _ _ rfl (fun _ _ _ h => h) ⟨hJ.1, fun h => hJ.2.1 fun d => h (.inl d), fun j hj d => d.elim (fun d => .inl (hJ.2.2 j hj d)) (fun e => by omega)⟩
    · intro done us W hJ hdep haft hnot b hb hb' K hK Q'
      have e3 := (hb' 3 (by simp)).trans s3
      clear hb hb'
      go_simp
      exact hK _ _ rfl (fun _ _ _ h => h) ⟨hJ.1, fun h => hJ.2.1 fun d => h (.inl d), fun j hj d => d.elim (fun d => .inl (hJ.2.2 j hj d)) (fun e => by omega)⟩
    · intro done us W hJ hdep haft hnot b hb hb' K hK Q'
      simp only [List.getD_cons_succ, List.getD_cons_zero, List.mem_cons, List.not_mem_nil, or_false, forall_eq_or_imp, forall_eq] at hdep
      have e17 := hb 1 17 rfl
      have d1 := hdep
      rw [d1.1] at e17
      clear hb hb' hdep d1
      have q := (hF.keeps hJ.1 hgf).cell 1
      go_simp
      exact hK _ _ (rfl) (fun _ _ _ h => h) ⟨hJ.1, fun h => hJ.2.1 fun d => h (.inl d), fun j hj d => d.elim (fun d => .inl (hJ.2.2 j hj d)) (fun e => by omega)⟩
    · intro done us W hJ hdep haft hnot b hb hb' K hK Q'
      have e3 := (hb' 3 (by simp)).trans s3
      clear hb hb'
      go_simp
      exact hK _ _ rfl (fun _ _ _ h => h) ⟨hJ.1, fun h => hJ.2.1 fun d => h (.inl d), fun j hj d => d.elim (fun d => .inl (hJ.2.2 j hj d)) (fun e => by omega)⟩
    · intro done us W hJ hdep haft hnot b hb hb' K hK Q'
      simp only [List.getD_cons_succ, List.getD_cons_zero, List.mem_cons, List.not_mem_nil, or_false, forall_eq_or_imp, forall_eq] at hdep
      have e19 := hb 3 19 rfl
      have d3 := hdep
      rw [d3.1] at e19
      clear hb hb' hdep d3
      have q := (hF.keeps hJ.1 hgf).cell 2
      go_simp
      exact hK _ _ (rfl) (fun _ _ _ h => h) ⟨hJ.1, fun h => hJ.2.1 fun d => h (.inl d), fun j hj d => d.elim (fun d => .inl (hJ.2.2 j hj d)) (fun e => by omega)⟩
    · intro done us W hJ hdep haft hnot b hb hb' K hK Q'
      simp only [List.getD_cons_succ, List.getD_cons_zero, List.mem_cons, List.not_mem_nil, or_false, forall_eq_or_imp, forall_eq] at hdep
      have e20 := hb 4 20 rfl
      have d4 := hdep
      rw [d4.1] at e20
      clear hb hb' hdep d4
      have hb1 := Blk.new W 22 #[.slice Ab n c]
      have hX := (Ext.refl W).alloc (.cells #[.slice Ab n c] 22)
      have hs := hJ.1.size
      go_simp
      exact hK _ _ (⟨_, rfl, hs, hb1⟩) (fun j u _ h => hmono _ _ j u hX h) ⟨hJ.1.trans (Keeps.of_ext hX _), fun h => (hJ.2.1 fun d => h (.inl d)).trans hX, fun j hj d => d.elim (fun d => .inl (hJ.2.2 j hj d)) (fun e => by omega)⟩
    · intro done us W hJ hdep haft hnot b hb hb' K hK Q'
      simp only [List.getD_cons_succ, List.getD_cons_zero, List.mem_cons, List.not_mem_nil, or_false, forall_eq_or_imp, forall_eq] at hdep
      simp only [List.getD_cons_succ, List.getD_cons_zero, List.mem_cons, List.not_mem_nil, or_false, forall_eq_or_imp, forall_eq] at haft
      have e21 := hb 5 21 rfl
      have d5 := hdep
      clear hb hb' hdep 
      have hJE := hJ.2.1 haft
      obtain ⟨g', e', hg', hb1⟩ := d5.1
      rw [e'] at e21
      have hl : Lists .u8 W (some ⟨g', 0, none⟩) 1 [xs] := Lists.one (fun _ => ⟨g', 0, rfl, fun j u hu => by match j with | 0 => (simp at hu; subst hu; exact hb1.cell 0) | j + 1 => simp at hu⟩) ⟨Ab, n, c, rfl, hI.ext hJE, hc1, hc2⟩
      go_simp
      refine (joined_any _ 1 1 _ W hl (by omega) (by rw [flat_one, hI.1]; omega)).mono ?_
      rintro e w' ⟨A2, n2, c2, rfl, ho, hX⟩
      rw [flat_one] at ho
      exact hK _ _ (⟨A2, n2, c2, rfl, ho.mono (Ext.size hJE)⟩) (fun j u _ h => hmono _ _ j u hX h) ⟨hJ.1.trans (Keeps.of_ext hX _), fun h => (hJ.2.1 fun d => h (.inl d)).trans hX, fun j hj d => d.elim (fun d => .inl (hJ.2.2 j hj d)) (fun e => by omega)⟩
    · intro done us W hJ hdep haft hnot b hb hb' K hK Q'
      simp only [List.getD_cons_succ, List.getD_cons_zero, List.mem_cons, List.not_mem_nil, or_false, forall_eq_or_imp, forall_eq] at hdep
      simp only [List.getD_cons_succ, List.getD_cons_zero, List.mem_cons, List.not_mem_nil, or_false, forall_eq_or_imp, forall_eq] at haft
      have e18 := hb 2 18 rfl
      have e22 := hb 6 22 rfl
      have d2 := hdep.1
      have d6 := hdep.2
      rw [d2.1] at e18
      clear hb hb' hdep d2
      have hJE := hJ.2.1 haft
      obtain ⟨A', n', c', e', ho⟩ := d6.1
      rw [e'] at e22
      go_simp
      exact hK _ _ (⟨A', n', c', rfl, ho⟩) (fun _ _ _ h => h) ⟨hJ.1, fun h => hJ.2.1 fun d => h (.inl d), fun j hj d => d.elim (fun d => .inl (hJ.2.2 j hj d)) (fun e => by omega)⟩
    · intro done us W hJ hdep haft hnot b hb hb' K hK Q'
      simp only [List.getD_cons_succ, List.getD_cons_zero, List.mem_cons, List.not_mem_nil, or_false, forall_eq_or_imp, forall_eq] at hdep
      have e16 := hb 0 16 rfl
      have e23 := hb 7 23 rfl
      have d0 := hdep.1
      have d7 := hdep.2
      rw [d0.1] at e16
      clear hb hb' hdep d0
      have hJE := hJ.2.1 hnot
      have hlt : ∀ j, done j → j < 8 := fun j hd => by
        rcases Nat.lt_or_ge j 8 with h | h
        · exact h
        · rcases Nat.eq_or_lt_of_le h with h | h
          · subst h; exact absurd hd hnot
          · exact absurd (hJ.2.2 j h hd) hnot
      obtain ⟨A', n', c', e', ho⟩ := d7.1
      rw [e'] at e23
      have hR' := hR.ext hJE
      have hs := Ext.size hJE
      go_simp
      refine (keepE_any base g v0 r ⟨fq, xs, false⟩ A' n' c' W hR' (ho.mono (by omega)) h1 h2 h3).mono ?_
      rintro e w' ⟨u, v', rfl, hd', hr', hk, hnr⟩
      have hN : ∀ k ∈ (g :: v0.ownBlock.toList), NoRow 5 W k := hR'.q.far _ (by decide) (by decide)
      exact hK _ _ (⟨u, v', rfl, hd'.mono hs, hr', fun k hk => (hnr k hk).imp id (fun h => Nat.le_trans hs h)⟩) (fun j u hd h => hmonoK _ _ j u hk hN (hlt j hd) h) ⟨hJ.1.trans hk, fun h => absurd (.inr rfl) h, fun _ _ _ => .inr rfl⟩
    · intro done us W hJ hdep haft hnot b hb hb' K hK Q'
      simp only [List.getD_cons_succ, List.getD_cons_zero, List.mem_cons, List.not_mem_nil, or_false, forall_eq_or_imp, forall_eq] at hdep
      have e24 := hb 8 24 rfl
      have d8 := hdep
      clear hb hb' hdep 
      have hS : done 8 := d8.2
      obtain ⟨u, v', e', hd', hr', hnr⟩ := d8.1
      rw [e'] at e24
      go_simp
      exact hK _ _ (⟨hd', v', hr', hnr⟩) (fun _ _ _ h => h) ⟨hJ.1, fun h => absurd (.inl hS) h, fun j hj d => .inl hS⟩
    · intro done us W hJ hdep haft hnot b hb hb' K hK Q'
      simp only [List.getD_cons_succ, List.getD_cons_zero, List.mem_cons, List.not_mem_nil, or_false, forall_eq_or_imp, forall_eq] at hdep
      have e24 := hb 8 24 rfl
      have d8 := hdep
      clear hb hb' hdep 
      have hS : done 8 := d8.2
      obtain ⟨u, v', e', hd', hr', hnr⟩ := d8.1
      rw [e'] at e24
      go_simp
      exact hK _ _ (rfl) (fun _ _ _ h => h) ⟨hJ.1, fun h => absurd (.inl hS) h, fun j hj d => .inl hS⟩
    · intro done us W hJ hdep haft hnot b hb hb' K hK Q'
      simp only [List.getD_cons_succ, List.getD_cons_zero, List.mem_cons, List.not_mem_nil, or_false, forall_eq_or_imp, forall_eq] at hdep
      have e25 := hb 9 25 rfl
      have d9 := hdep
      clear hb hb' hdep 
      have hS : done 8 := hJ.2.2 9 (by decide) d9.2
      have hv := d9.1
      go_simp
      exact hK _ _ (hv) (fun _ _ _ h => h) ⟨hJ.1, fun h => absurd (.inl hS) h, fun j hj d => .inl hS⟩
    · intro done us W hJ hdep haft hnot b hb hb' K hK Q'
      simp only [List.getD_cons_succ, List.getD_cons_zero, List.mem_cons, List.not_mem_nil, or_false, forall_eq_or_imp, forall_eq] at hdep
      have e26 := hb 10 26 rfl
      have d10 := hdep
      clear hb hb' hdep 
      have hS : done 8 := hJ.2.2 10 (by decide) d10.2
      rw [d10.1] at e26
      go_simp
      exact hK _ _ (rfl) (fun _ _ _ h => h) ⟨hJ.1, fun h => absurd (.inl hS) h, fun j hj d => .inl hS⟩
  · intro us W hV hJ
    exact hend (us 0) (us 1) (us 2) (us 3) (us 4) (us 5) (us 6) (us 7) (us 8) (us 9) (us 10) (us 11) (us 12) W (hV 0 (by omega)) (hV 1 (by omega)) (hV 2 (by omega)) (hV 3 (by omega)) (hV 4 (by omega)) (hV 5 (by omega)) (hV 6 (by omega)) (hV 7 (by omega)) (hV 8 (by omega)) (hV 9 (by omega)) (hV 10 (by omega)) (hV 11 (by omega)) (hV 12 (by omega)) hJ.1
set_option maxRecDepth 100000 in
set_option maxHeartbeats 4000000 in
theorem takeE_any (base g : Nat) (v : Value) (r : Rcv) (f : Fr) (Ab : Option Addr) (n c : Nat) (w : World) (h : RecR base w g v r) (hI : Ints .u8 w Ab n f.body) (hc1 : n ≤ c) (hc2 : c ≤ 9223372036854775807) (hn : n ≤ 1000000) :
    Calls Try.prog 57 #[.pointer (some ⟨g, 0, none⟩), .agg #[.int .i64 f.stream, .int .i64 f.seq, .slice Ab n c]] w (RetKe base g v w (takeR r f)) := by
  have HR := Lib.hid h
  have HI := Lib.hid hI
  have hbl := hI.1
  have lb := h.q.base_le
  have HLb : Hid (∀ k ∈ g :: v.ownBlock.toList, k < w.heap.size) := Lib.hid fun k hk => by
    simp only [List.mem_cons, Option.mem_toList] at hk
    rcases hk with rfl | hk
    · exact h.q.lt
    · exact (h.q.row.lt k hk).2
  obtain ⟨A0, c0, rfl⟩ := h.q.row.slice
  obtain ⟨st, q, xs⟩ := f
  simp only at hI HI hbl ⊢
  have HBL := Lib.hid hbl
  clear h hI hbl
  have hXe : Ext w (w.alloc (.cells #[.int .i64 st, .int .i64 q, .slice Ab n c] 38)) := ((Ext.refl w).alloc _)
  have kf : Blk (w.alloc (.cells #[.int .i64 st, .int .i64 q, .slice Ab n c] 38)) w.heap.size 38 #[.int .i64 st, .int .i64 q, .slice Ab n c] := Blk.at_ (by simp)
  go_enter Try.func57, Try.ntmps57
  go_wp2_with fail
  generalize (w.alloc (.cells #[.int .i64 st, .int .i64 q, .slice Ab n c] 38)) = w1 at hXe kf ⊢
  have HX := Lib.hid hXe
  clear hXe
  have Kf := Lib.hid kf
  clear kf
  replace HR := Lib.hid (HR.out.ext HX.out)
  replace HI := Lib.hid (HI.out.ext HX.out)
  by_cases hok : FrOk ⟨st, q, xs⟩
  · obtain ⟨o1, o2, o3, o4, o5⟩ := hok
    simp only at o1 o2 o3 o4 o5
    have HE0 : Hid (takeR r ⟨st, q, xs⟩ = if st ≠ r.stream then (r, [], 25) else keepR r ⟨q, xs, false⟩) := Lib.hid (by unfold takeR; rw [if_neg (fun h => h ⟨o1, o2, o3, o4, o5⟩)])
    have hn5 : n ≤ 1024 := by have := HBL.out; omega
    refine (validR_yes st q Ab n c _ o1 o2 o3 o4 hn5).mono ?_
    rintro e w2 ⟨rfl, hX⟩
    replace hX : Ext w1 w2 := by with_reducible exact hX
    replace HX := Lib.hid (HX.out.trans hX)
    replace HR := Lib.hid (HR.out.ext hX)
    replace HI := Lib.hid (HI.out.ext hX)
    replace Kf := Lib.hid (Kf.out.ext hX)
    clear hX
    by_cases hst : st = r.stream
    · have hfb : Hid ((st != r.stream) = false) := Lib.hid (by simpa using hst)
      have HE1 : Hid (takeR r ⟨st, q, xs⟩ = keepR r ⟨q, xs, false⟩) := Lib.hid (by rw [HE0.out, if_neg (by simpa using hst)])
      clear hst
      go_upto_region 3 with (fail)
      refine takeE_r3 g w.heap.size st r.stream false _ (Kf.out.cell 0) (HR.out.q.blk.cell 0) hfb _ _ (by simp) rfl rfl ?_
      rintro xv0 xv1 xv2 xv3 xv4 xv5 xv6 w3 rfl rfl rfl rfl rfl rfl rfl hXW
      simp only [rops, Try.f57, regOf, Option.bind_some, Nat.reduceBEq, if_true, if_false, Bool.false_eq_true, Option.getD_some, List.drop_succ_cons, List.drop_zero]
      simp only [Act.put, List.setIfInBounds_toArray, List.set_cons_succ, List.set_cons_zero]
      replace HX := Lib.hid (HX.out.trans hXW)
      replace HR := Lib.hid (HR.out.ext hXW)
      replace HI := Lib.hid (HI.out.ext hXW)
      replace Kf := Lib.hid (Kf.out.ext hXW)
      clear hXW
      go_upto_region 5 with (fail)
      have hy := HX.out.size
      have hz4 := hy
      refine takeE_r5 base g w.heap.size _ r st q Ab n c xs w3 Kf.out (fun hl => by have := HLb.out _ hl; omega) HI.out hc1 hc2 (by omega) HR.out (by omega) (fun k hk => by have := HLb.out k hk; omega) o3 o4 (by have := HBL.out; omega) _ _ (by simp) rfl rfl ?_
      rintro xv0 xv1 xv2 xv3 xv4 xv5 xv6 xv7 xv8 xv9 xv10 xv11 xv12 W4 rfl rfl rfl rfl rfl _ _ _ _ _ _ ⟨hd, v', hr', hnr⟩ rfl hK4
      simp only [rops, Try.f57, regOf, Option.bind_some, Nat.reduceBEq, if_true, if_false, Bool.false_eq_true, Option.getD_some, List.drop_succ_cons, List.drop_zero]
      simp only [Act.put, List.setIfInBounds_toArray, List.set_cons_succ, List.set_cons_zero]
      have HD := Lib.hid (hd.mono hy)
      have HR' := Lib.hid hr'
      have HK := Lib.hid ((Keeps.of_ext HX.out _).trans hK4)
      have HNR : Hid (NewRow g (.slice A0 r.held.length c0) w v') := Lib.hid fun k hk => (hnr k hk).imp id (fun h => Nat.le_trans hy h)
      clear hd hr' hK4 hnr
      go_wp2
      go_ret2
      rw [HE1.out]
      exact ⟨_, _, rfl, HD.out, HR'.out, HK.out, HNR.out⟩
    · have hfb : Hid ((st != r.stream) = true) := Lib.hid (by simpa using hst)
      have HE : Hid (takeR r ⟨st, q, xs⟩ = (r, [], 25)) := Lib.hid (by rw [HE0.out, if_pos hst])
      clear hst
      go_upto_region 3 with (fail)
      refine takeE_r3 g w.heap.size st r.stream true _ (Kf.out.cell 0) (HR.out.q.blk.cell 0) hfb _ _ (by simp) rfl rfl ?_
      rintro xv0 xv1 xv2 xv3 xv4 xv5 xv6 w3 rfl rfl rfl rfl rfl rfl rfl hXW
      simp only [rops, Try.f57, regOf, Option.bind_some, Nat.reduceBEq, if_true, if_false, Bool.false_eq_true, Option.getD_some, List.drop_succ_cons, List.drop_zero]
      simp only [Act.put, List.setIfInBounds_toArray, List.set_cons_succ, List.set_cons_zero]
      replace HX := Lib.hid (HX.out.trans hXW)
      replace HR := Lib.hid (HR.out.ext hXW)
      replace HI := Lib.hid (HI.out.ext hXW)
      replace Kf := Lib.hid (Kf.out.ext hXW)
      clear hXW
      go_wp2
      go_ret2
      rw [HE.out]
      exact ⟨_, _, rfl, DlL.nil _ _ _, HR.out, Keeps.of_ext HX.out _, NewRow.same _ _ _⟩
  · have HE : Hid (takeR r ⟨st, q, xs⟩ = (r, [], 20)) := Lib.hid (by unfold takeR; rw [if_pos hok])
    have hok2 : ¬ (0 ≤ st ∧ st ≤ 255 ∧ 0 ≤ q ∧ q ≤ 4294967295 ∧ n ≤ 1024) := by rw [← HBL.out]; exact hok
    clear hok
    refine (validR_no st q Ab n c _ hok2).mono ?_
    rintro e w2 ⟨rfl, hX⟩
    replace hX : Ext w1 w2 := by with_reducible exact hX
    replace HX := Lib.hid (HX.out.trans hX)
    replace HR := Lib.hid (HR.out.ext hX)
    replace HI := Lib.hid (HI.out.ext hX)
    replace Kf := Lib.hid (Kf.out.ext hX)
    clear hX
    clear hok2
    go_wp2
    go_ret2
    rw [HE.out]
    exact ⟨_, _, rfl, DlL.nil _ _ _, HR.out, Keeps.of_ext HX.out _, NewRow.same _ _ _⟩


end Go.Proofs.Ytekhmfliaojabaa
namespace Go.Proofs.Ytekhmfliaojabaa
open Go.RowKit

/-- The first state of a receiver. -/
def rcv0 (st wn n : Int) : Rcv := ⟨st, wn, n, []⟩
def BadR (st wn n : Int) : Prop := st < 0 ∨ 255 < st ∨ wn < 1 ∨ 64 < wn ∨ n < 0 ∨ 4294967295 < n
theorem rcv0_ok {st wn n : Int} (h : ¬ BadR st wn n) : RcvOk (rcv0 st wn n) := by
  unfold BadR at h
  exact ⟨by simp only [rcv0]; omega, by simp only [rcv0]; omega, by simp only [rcv0]; omega, by simp [rcv0], by simp [rcv0], by simp [rcv0]⟩


set_option maxRecDepth 100000 in
set_option maxHeartbeats 1000000 in
theorem newQ_any (st wn n : Int) (w : World) (h : ¬ BadR st wn n) : Calls Try.prog 45 #[.int .i64 st, .int .i64 wn, .int .i64 n] w (fun e w' => ∃ g m, e = .returned (.tuple #[.pointer (some ⟨g, 0, none⟩), .int .i64 0]) ∧ RcvP w.heap.size w' g m (rcv0 st wn n) ∧ Ext w w') := by
  have HS := Lib.hid (rcv0_ok h)
  unfold BadR at h
  have q0 : decide (st < 0) = false := decide_eq_false (by omega)
  have q1 : decide (256 ≤ st) = false := decide_eq_false (by omega)
  have q2 : decide (wn < 1) = false := decide_eq_false (by omega)
  have q3 : decide (64 < wn) = false := decide_eq_false (by omega)
  have q4 : decide (n < 0) = false := decide_eq_false (by omega)
  have q5 : decide (4294967295 < n) = false := decide_eq_false (by omega)
  clear h
  have hmm := @run_makeMap Try.prog
  go_enter Try.func45, Try.ntmps45
  go_wp2
  go_ret2
  refine ⟨_, w.heap.size, rfl, ⟨⟨?_, ⟨[], ?_, trivial⟩, ⟨by simp, Nat.le_refl _⟩⟩, HS.out⟩, ((Ext.refl w).alloc _).alloc _⟩
  · exact Blk.at_ (by simp)
  · exact (MapL.made w Try.prog 3).ext ((Ext.refl _).alloc _)


set_option maxRecDepth 100000 in
set_option maxHeartbeats 1000000 in
theorem newE_any (st wn n : Int) (w : World) (h : ¬ BadR st wn n) : Calls Try.prog 56 #[.int .i64 st, .int .i64 wn, .int .i64 n] w (fun e w' => ∃ g v, e = .returned (.tuple #[.pointer (some ⟨g, 0, none⟩), .int .i64 0]) ∧ RecR w.heap.size w' g v (rcv0 st wn n) ∧ Ext w w') := by
  have HS := Lib.hid (rcv0_ok h)
  unfold BadR at h
  have q0 : decide (st < 0) = false := decide_eq_false (by omega)
  have q1 : decide (255 < st) = false := decide_eq_false (by omega)
  have q2 : decide (wn < 1) = false := decide_eq_false (by omega)
  have q3 : decide (64 < wn) = false := decide_eq_false (by omega)
  have q4 : decide (n < 0) = false := decide_eq_false (by omega)
  have q5 : decide (4294967295 < n) = false := decide_eq_false (by omega)
  clear h
  have hmm := @run_makeMap Try.prog
  go_enter Try.func56, Try.ntmps56
  go_wp2
  go_ret2
  refine ⟨_, .slice none 0 0, rfl, ⟨⟨?_, DlL.nil _ _ _, Nat.le_refl _⟩, HS.out⟩, (Ext.refl w).alloc _⟩
  exact Blk.new _ _ _


set_option maxRecDepth 100000 in
set_option maxHeartbeats 1000000 in
theorem nextP_any (base g m : Nat) (r : Rcv) (w : World) (h : RcvP base w g m r) : Calls Try.prog 47 #[.pointer (some ⟨g, 0, none⟩)] w (fun e w' => e = .returned (.int .i64 r.next) ∧ w = w') := by
  have f1 := h.q.blk.cell 1
  have f2 := h.q.blk.cell 2
  have f3 := h.q.blk.cell 3
  have hw := h.ok.window.1
  clear h
  go_enter Try.func47, Try.ntmps47
  go_wp2_with fail
  refine (noneQ_any g r.window _ f1 (by omega)).mono ?_
  rintro e _ ⟨rfl, rfl⟩
  go_wp2
  go_ret
  exact ⟨rfl, rfl⟩

end Go.Proofs.Ytekhmfliaojabaa
namespace Go.Proofs.Ytekhmfliaojabaa
open Go.RowKit

theorem str_any (w : World) {A : Option Addr} {n c : Nat} {xs : List Int} (h : Ints .u8 w A n xs) :
    (convert 22 9 (.slice A n c)).run Try.prog w = .ok (.string (strOfNums xs)) w := run_str w Try.underlying22 Try.underlying5 Try.underlying9 h

end Go.Proofs.Ytekhmfliaojabaa
namespace Go.Proofs.Ytekhmfliaojabaa
open Go.RowKit

/-- Three cells that hold a delivery. -/
def DlC (w : World) (cs : List Value) (d : Dlv) : Prop := ∃ A n c, cs = [.int .i64 d.seq, .slice A n c, .bool d.lost] ∧ Ints .u8 w A n d.body ∧ n ≤ c ∧ c ≤ 9223372036854775807
/-- A slice of deliveries reads as 'ds'. -/
def Dls (w : World) (A : Option Addr) (n : Nat) (ds : List Dlv) : Prop := ds.length = n ∧ ∃ vs, CsR (DlC w) vs ds ∧ At w A vs
section
variable {w w' : World} {cs : List Value} {d : Dlv} {A : Option Addr} {n : Nat} {ds : List Dlv}
theorem DlC.ext (h : DlC w cs d) (he : Ext w w') : DlC w' cs d := by obtain ⟨A, n, c, h1, h2, h3⟩ := h; exact ⟨A, n, c, h1, h2.ext he, h3⟩
theorem DlC.len (h : DlC w cs d) : cs.length = 3 := by obtain ⟨A, n, c, rfl, _⟩ := h; rfl
theorem Dls.ext (h : Dls w A n ds) (he : Ext w w') : Dls w' A n ds := by obtain ⟨h1, vs, h2, h3⟩ := h; exact ⟨h1, vs, h2.imp fun _ _ h => h.ext he, h3.ext he⟩
theorem Dls.get (h : Dls w A n ds) {j : Nat} (hj : j < n) : ∃ b off d A' n' c', A = some ⟨b, off, none⟩ ∧ ds[j]? = some d ∧ w.cell? ⟨b, off + j * 3, none⟩ = some (.int .i64 d.seq) ∧ w.cell? ⟨b, off + j * 3 + 1, none⟩ = some (.slice A' n' c') ∧ w.cell? ⟨b, off + j * 3 + 2, none⟩ = some (.bool d.lost) ∧ Ints .u8 w A' n' d.body ∧ n' ≤ c' ∧ c' ≤ 9223372036854775807 := by
  obtain ⟨h1, vs, h2, h3⟩ := h
  have hf : ds[j]? = some ds[j] := List.getElem?_eq_getElem (by omega)
  obtain ⟨cs, ⟨A', n', c', rfl, h4⟩, h5⟩ := h2.get (fun _ _ h => h.len) hf
  obtain ⟨b, off, hA, hc⟩ := h3 (by intro e; subst e; have := h5 0 _ rfl; simp at this)
  refine ⟨b, off, _, A', n', c', hA, hf, hc _ _ (h5 0 _ rfl), ?_, ?_, h4⟩
  · rw [Nat.add_assoc]; exact hc _ _ (h5 1 _ rfl)
  · rw [Nat.add_assoc]; exact hc _ _ (h5 2 _ rfl)
theorem DlL.dls {rb base : Nat} {v : Value} (h : DlL rb base w v ds) : ∃ A c, v = .slice A ds.length c ∧ Dls w A ds.length ds ∧ ds.length ≤ c ∧ c ≤ 9223372036854775807 := by
  obtain ⟨vs, h1, h2⟩ := h
  obtain ⟨A, c, rfl⟩ := own_slice h1
  exact ⟨A, c, rfl, ⟨rfl, vs, h2.imp fun _ _ h => by obtain ⟨A, n, c, e, hO⟩ := h; exact ⟨A, n, c, e, hO.ints, hO.cap⟩, At.of_own h1⟩, own_cap h1⟩
end

end Go.Proofs.Ytekhmfliaojabaa
namespace Go.Proofs.Ytekhmfliaojabaa
open Go.RowKit

/-- The receiver that was left for its copy, if there is one: it stands as it stood. -/
def LeftV (W : World) (ga ma : Nat) (lf nx hd : Value) : Prop := lf = .pointer none ∨ ∃ gl ml rl bl, lf = .pointer (some ⟨gl, 0, none⟩) ∧ nx = .int .i64 rl.next ∧ hd = .int .i64 (rl.held.length : Int) ∧ RcvP bl W gl ml rl ∧ gl ∉ [ga, ma] ∧ ml ∉ [ga, ma]
section
variable {W W' : World} {ga ma : Nat} {lf nx hd : Value}
theorem LeftV.ext (h : LeftV W ga ma lf nx hd) (he : Ext W W') : LeftV W' ga ma lf nx hd := by
  rcases h with h | ⟨gl, ml, rl, bl, h1, h2, h3, h4, h5⟩
  · exact .inl h
  · exact .inr ⟨gl, ml, rl, bl, h1, h2, h3, h4.ext he, h5⟩
theorem LeftV.keepR {base gb : Nat} {v : Value} {st wn n : Int} {l : List Dlv} (h : LeftV W ga ma lf nx hd) (hr : RecQ base W gb v st wn n l) (hk : Keeps (gb :: v.ownBlock.toList) W W') : LeftV W' ga ma lf nx hd := by
  rcases h with h | ⟨gl, ml, rl, bl, h1, h2, h3, h4, h5⟩
  · exact .inl h
  · exact .inr ⟨gl, ml, rl, bl, h1, h2, h3, ⟨h4.q.away hr hk, h4.ok⟩, h5⟩
end
theorem takeR_len (r : Rcv) (f : Fr) (h : RcvOk r) : (takeR r f).2.1.length ≤ 65 := by
  have key : ∀ d : Dlv, (keepR r d).2.1.length ≤ 65 := fun d => by
    unfold keepR
    split
    · simp
    · rename_i hr
      have hr0 : refuse r d.seq = 0 := by simpa using hr
      simp only
      have hd : ∀ (f : Nat) (n : Int) (l : List Dlv), (deliv f n l).1.length ≤ l.length := by
        intro f
        induction f with
        | zero => intro n l; simp [deliv]
        | succ f ih =>
          intro n l
          cases hf : findD l n with
          | none => rw [deliv_none hf]; simp
          | some d =>
            rw [deliv_some hf]
            have := ih (n + 1) (wipe l n)
            have := wipe_lt hf
            simp only [List.length_cons]; omega
      have := hd (r.held.length + 1) r.next (r.held ++ [d])
      have e : kept r d = deliv (r.held.length + 1) r.next (r.held ++ [d]) := rfl
      rw [e]
      have := h.room
      simp at *
      omega
  unfold takeR
  split
  · simp
  · split
    · simp
    · exact key _
theorem Dls.nil (w : World) (A : Option Addr) : Dls w A 0 [] := ⟨rfl, [], rfl, At.nil⟩


end Go.Proofs.Ytekhmfliaojabaa
namespace Go.Proofs.Ytekhmfliaojabaa
open Go.RowKit

theorem wrap_tdiv {n : Int} (h : -9223372036854775808 ≤ n ∧ n ≤ 9223372036854775807) : -9223372036854775808 ≤ n.tdiv 8 ∧ n.tdiv 8 ≤ 9223372036854775807 := by
  rcases Int.le_total 0 n with h0 | h0
  · rw [Int.tdiv_eq_ediv_of_nonneg h0]; omega
  · have e : n.tdiv 8 = -((-n).tdiv 8) := by rw [Int.neg_tdiv, Int.neg_neg]
    rw [e, Int.tdiv_eq_ediv_of_nonneg (by omega)]; omega

end Go.Proofs.Ytekhmfliaojabaa
