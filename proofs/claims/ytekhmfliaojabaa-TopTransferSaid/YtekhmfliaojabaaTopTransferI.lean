/- Lemmas of the proof that follows (TopTransfer, part 9): walks of functions by contract, and plain lemmas. Conditions: none. -/
import Derived.Test.YtekhmfliaojabaaTopTransferH
namespace Go.Proofs.Ytekhmfliaojabaa
open Go.RowKit

/-- A list of byte strings that is edited in place: its row and the rows of its byte strings are memory of the call's own. -/
structure Hand (base : Nat) (w : World) (A : Option Addr) (n c : Nat) (vs : List Value) (xss : List (List Int)) : Prop where
  own : w.ownsRow base 22 1 (.slice A n c) n vs
  deck : Deck 5 base w vs xss
section
variable {base : Nat} {w w' : World} {A : Option Addr} {n c : Nat} {vs : List Value} {xss : List (List Int)}
theorem Hand.ext (h : Hand base w A n c vs xss) (he : Ext w w') : Hand base w' A n c vs xss := ⟨World.ownsRow.ext' h.own he, h.deck.ext he⟩
theorem Hand.vlen (h : Hand base w A n c vs xss) : vs.length = n := by have := h.own.1; omega
theorem Hand.len (h : Hand base w A n c vs xss) : xss.length = n := by rw [← h.deck.len]; exact h.vlen
/-- The element i: the list's block, the element's slice, its row. -/
theorem Hand.get (h : Hand base w A n c vs xss) {i : Nat} {xs : List Int} (hi : i < n) (hx : xss[i]? = some xs) : ∃ g A5 c5, A = some ⟨g, 0, none⟩ ∧ base ≤ g ∧ vs[i]? = some (.slice A5 xs.length c5) ∧ OwnS .u8 5 base w A5 xs.length c5 xs ∧ w.cell? ⟨g, i, none⟩ = some (.slice A5 xs.length c5) ∧ w.frozen? ⟨g, i, none⟩ = false := by
  obtain ⟨g, rfl, hg, _⟩ := own_block h.own (by omega)
  have hd : xss.getD i [] = xs := by simp [List.getD, hx]
  obtain ⟨A5, c5, h1, h2⟩ := h.deck.get (j := i) (by rw [h.len]; exact hi)
  rw [hd] at h1 h2
  exact ⟨g, A5, c5, rfl, hg, h1, h2, (h.own.cellAt i (by omega)).trans h1, h.own.frozenAt i⟩
end
/-- A list of byte strings of the call's own is returned. -/
def RetHd (w0 : World) (r : List (List Int)) (e : Ending) (w' : World) : Prop :=
  ∃ A n c vs, e = .returned (.slice A n c) ∧ Hand w0.heap.size w' A n c vs r ∧ Ext w0 w'
theorem Blk.row {w w' : World} {g : Nat} {t te : TypeId} {cs : Array Value} {base size n : Nat} {v : Value} {vs : List Value} (h : Blk w g t cs) (h' : w.ownsRow base te size v n vs) (hne : t ≠ te) (hg : w.grownBy w' v.ownBlock) : Blk w' g t cs := by
  refine h.grown hg ?_
  rcases h'.2 with ⟨rfl, _⟩ | ⟨g', cap, cur, rfl, _, hb, _⟩
  · simp [Value.ownBlock]
  · intro e
    simp [Value.ownBlock] at e
    subst e
    rw [show w.heap[g]? = some (.cells cs t (0, 0)) from h] at hb
    injection hb with hb
    injection hb with _ hb
    exact hne hb
theorem own_blk {w : World} {base base' : Nat} {e : TypeId} {size n m c d : Nat} {A : Option Addr} {vs : List Value} (h : w.ownsRow base e size (.slice A n c) n vs) : ∀ k, (Value.slice A m d).ownBlock = some k → base ≤ k := by
  intro k hk
  rcases h.2 with ⟨hv, h0⟩ | ⟨g, cap, cur, hv, hb, hg, _⟩
  · injection hv with hA
    subst hA
    simp [Value.ownBlock] at hk
  · injection hv with hA
    subst hA
    simp [Value.ownBlock] at hk
    omega

set_option maxRecDepth 100000 in
set_option maxHeartbeats 2000000 in
theorem spoil_k1 (w0 : World) (A : Option Addr) (n c i : Nat) (num : Int) (vs : List Value) (xss : List (List Int)) (xs : List Int)  (w : World) (hX0 : Ext w0 w) (hH : Hand w0.heap.size w A n c vs xss) (hn : n ≤ 1000000) (hi : i < n) (hb : ∀ x ∈ xss, x.length ≤ 1000000) (hx : xss[i]? = some xs)  :
    Calls Try.prog 70 #[.slice A n c, .agg #[.int .i64 1, .int .i64 (i : Int), .int .i64 num]] w (RetHd w0 (dele xss i)) := by
  have H0 := Lib.hid hX0
  have HH := Lib.hid hH
  have hvl := hH.vlen
  have HVL := Lib.hid hvl
  have HXS := Lib.hid hx
  have hi0 : (i : Int) < (n : Int) := by omega
  have hi1 : (0 : Int) ≤ (i : Int) := by omega
  have h5 : xs.length ≤ 1000000 := hb xs (List.mem_of_getElem? hx)
  have HC := Lib.hid (own_cap hH.own)
  obtain ⟨gl, A5, c5, hA, hgl, hv5, hO5, hc5, hf5⟩ := hH.get hi hx
  have HA := Lib.hid hA
  have HV5 := Lib.hid hv5
  have HO5 := Lib.hid hO5
  have HC5 := Lib.hid hc5
  have HLN := Lib.hid hH.len
  clear hX0 hH hvl hx hb hv5 hO5 hc5 hf5
  subst hA
  clear HA
  obtain ⟨n5, hn5⟩ : ∃ n5, xs.length = n5 := ⟨_, rfl⟩
  have HN5 := Lib.hid hn5
  have hcap5 := HO5.out.cap
  rw [hn5] at h5 hcap5 HV5 HO5 HC5
  clear hn5
  obtain ⟨hcap5, hcap6⟩ := hcap5
  have hXe : Ext w (w.alloc (.cells #[.int .i64 1, .int .i64 (i : Int), .int .i64 num] 114)) := ((Ext.refl w).alloc _)
  have kF : Blk (w.alloc (.cells #[.int .i64 1, .int .i64 (i : Int), .int .i64 num] 114)) w.heap.size 114 #[.int .i64 1, .int .i64 (i : Int), .int .i64 num] := Blk.at_ (by simp)
  have hc := hXe.cell HC5.out
  go_enter Try.func70, Try.ntmps70
  go_wp2_with fail
  generalize (w.alloc (.cells #[.int .i64 1, .int .i64 (i : Int), .int .i64 num] 114)) = w1 at hXe hc kF ⊢
  have HX := Lib.hid hXe
  clear hXe
  have KF := Lib.hid kF
  clear kF
  replace HH := Lib.hid (HH.out.ext HX.out)
  replace HO5 := Lib.hid (HO5.out.ext HX.out)
  have cF0 : w1.cell? ⟨w.heap.size, 0, none⟩ = some (.int .i64 1) := KF.out.cell 0
  have cF1 : w1.cell? ⟨w.heap.size, 1, none⟩ = some (.int .i64 (i : Int)) := KF.out.cell 1
  have cF2 : w1.cell? ⟨w.heap.size, 2, none⟩ = some (.int .i64 num) := KF.out.cell 2
  obtain ⟨l, hl⟩ : ∃ l, l = i + 1 := ⟨_, rfl⟩
  have hln : l ≤ n := by omega
  have hnc := HC.out.1
  have HL : Hid (l = i + 1) := hl
  clear hl
  go_upto_region 3 with (fail)
  clear cF0 cF1 cF2
  refine spoil_r3 w.heap.size (some ⟨gl, 0, none⟩) n c i l num w1 (KF.out.cell 1) (KF.out.cell 2) hn hnc hln HL hi _ _ (by simp) rfl rfl ?_
  rintro xv0 xv1 xv2 xv3 xv4 xv5 xv6 xv7 xv8 w2 rfl rfl rfl rfl rfl rfl rfl rfl rfl hXW
  simp only [rops, Try.f70, regOf, Option.bind_some, Nat.reduceBEq, if_true, if_false, Bool.false_eq_true, Option.getD_some, List.drop_succ_cons, List.drop_zero]
  simp only [Act.put, List.setIfInBounds_toArray, List.set_cons_succ, List.set_cons_zero]
  replace HX := Lib.hid (HX.out.trans hXW)
  replace HH := Lib.hid (HH.out.ext hXW)
  replace HO5 := Lib.hid (HO5.out.ext hXW)
  replace KF := Lib.hid (KF.out.ext hXW)
  clear hXW
  refine wpList_app _ elL rfl _ _ rfl w0.heap.size (.slice (some ⟨gl, 0, none⟩) i c) i (vs.take i) rfl (own_front HH.out.own (by omega)) (cutA (some ⟨gl, 0, none⟩) c l 1) (n - l) (c - l) (vs.drop l) rfl (by rw [List.length_drop, HVL.out]; omega) (cut_at HH.out.own (by omega)) (fun u hu => HH.out.deck.one (List.mem_of_mem_drop hu)) (by omega) (by unfold maxLen; omega) (H0.out.trans HX.out).size ?_
  intro v2 w9 hown2 hgr2 _
  have HT := Lib.hid (own_front HH.out.own (show i ≤ n by omega))
  have e1 : vs.take i ++ vs.drop l = dele vs i := by rw [HL.out]; rfl
  rw [e1] at hown2
  obtain ⟨A2, m2, c2, hm2, rfl⟩ := own_slice' hown2
  rw [← hm2] at hown2
  have hd2 : Deck 5 w0.heap.size w9 (dele vs i) (dele xss i) := (HH.out.deck.dele i).kept HT.out (by decide) hgr2
  have hX2 : Ext w0 w9 := (H0.out.trans HX.out).grown hgr2 (own_blk (base' := 0) HT.out)
  have HH2 : Hid (Hand w0.heap.size w9 A2 m2 c2 (dele vs i) (dele xss i)) := ⟨hown2, hd2⟩
  have hm3 : m2 + 1 = n := by have := HL.out; omega
  have HM3 := Lib.hid hm3
  have HX2 := Lib.hid hX2
  clear hown2 hgr2 hd2 hX2 hm2 hm3
  go_wp2
  go_ret
  exact ⟨_, _, _, _, rfl, HH2.out, HX2.out⟩

set_option maxRecDepth 100000 in
set_option maxHeartbeats 2000000 in
theorem spoil_k3 (w0 : World) (A : Option Addr) (n c i : Nat) (num : Int) (vs : List Value) (xss : List (List Int)) (xs : List Int)  (w : World) (hX0 : Ext w0 w) (hH : Hand w0.heap.size w A n c vs xss) (hn : n ≤ 1000000) (hi : i < n) (hb : ∀ x ∈ xss, x.length ≤ 1000000) (hx : xss[i]? = some xs)  :
    Calls Try.prog 70 #[.slice A n c, .agg #[.int .i64 3, .int .i64 (i : Int), .int .i64 num]] w (RetHd w0 (inse (dele xss i) (held num (n - 1)) xs)) := by
  have H0 := Lib.hid hX0
  have HH := Lib.hid hH
  have hvl := hH.vlen
  have HVL := Lib.hid hvl
  have HXS := Lib.hid hx
  have hi0 : (i : Int) < (n : Int) := by omega
  have hi1 : (0 : Int) ≤ (i : Int) := by omega
  have h5 : xs.length ≤ 1000000 := hb xs (List.mem_of_getElem? hx)
  have HC := Lib.hid (own_cap hH.own)
  obtain ⟨gl, A5, c5, hA, hgl, hv5, hO5, hc5, hf5⟩ := hH.get hi hx
  have HA := Lib.hid hA
  have HV5 := Lib.hid hv5
  have HO5 := Lib.hid hO5
  have HC5 := Lib.hid hc5
  have HLN := Lib.hid hH.len
  clear hX0 hH hvl hx hb hv5 hO5 hc5 hf5
  subst hA
  clear HA
  obtain ⟨n5, hn5⟩ : ∃ n5, xs.length = n5 := ⟨_, rfl⟩
  have HN5 := Lib.hid hn5
  have hcap5 := HO5.out.cap
  rw [hn5] at h5 hcap5 HV5 HO5 HC5
  clear hn5
  obtain ⟨hcap5, hcap6⟩ := hcap5
  have hXe : Ext w (w.alloc (.cells #[.int .i64 3, .int .i64 (i : Int), .int .i64 num] 114)) := ((Ext.refl w).alloc _)
  have kF : Blk (w.alloc (.cells #[.int .i64 3, .int .i64 (i : Int), .int .i64 num] 114)) w.heap.size 114 #[.int .i64 3, .int .i64 (i : Int), .int .i64 num] := Blk.at_ (by simp)
  have hc := hXe.cell HC5.out
  go_enter Try.func70, Try.ntmps70
  go_wp2_with fail
  generalize (w.alloc (.cells #[.int .i64 3, .int .i64 (i : Int), .int .i64 num] 114)) = w1 at hXe hc kF ⊢
  have HX := Lib.hid hXe
  clear hXe
  have KF := Lib.hid kF
  clear kF
  replace HH := Lib.hid (HH.out.ext HX.out)
  replace HO5 := Lib.hid (HO5.out.ext HX.out)
  have cF0 : w1.cell? ⟨w.heap.size, 0, none⟩ = some (.int .i64 3) := KF.out.cell 0
  have cF1 : w1.cell? ⟨w.heap.size, 1, none⟩ = some (.int .i64 (i : Int)) := KF.out.cell 1
  have cF2 : w1.cell? ⟨w.heap.size, 2, none⟩ = some (.int .i64 num) := KF.out.cell 2
  obtain ⟨l, hl⟩ : ∃ l, l = i + 1 := ⟨_, rfl⟩
  have hln : l ≤ n := by omega
  have hnc := HC.out.1
  have HL : Hid (l = i + 1) := hl
  clear hl
  go_upto_region 9 with (fail)
  clear cF0 cF1 cF2
  refine spoil_r9 w.heap.size (some ⟨gl, 0, none⟩) n c i l num w1 (KF.out.cell 1) (KF.out.cell 2) hn hnc hln HL hi _ _ (by simp) rfl rfl ?_
  rintro xv0 xv1 xv2 xv3 xv4 xv5 xv6 xv7 xv8 w2 rfl rfl rfl rfl rfl rfl rfl rfl rfl hXW
  simp only [rops, Try.f70, regOf, Option.bind_some, Nat.reduceBEq, if_true, if_false, Bool.false_eq_true, Option.getD_some, List.drop_succ_cons, List.drop_zero]
  simp only [Act.put, List.setIfInBounds_toArray, List.set_cons_succ, List.set_cons_zero]
  replace HX := Lib.hid (HX.out.trans hXW)
  replace HH := Lib.hid (HH.out.ext hXW)
  replace HO5 := Lib.hid (HO5.out.ext hXW)
  replace KF := Lib.hid (KF.out.ext hXW)
  clear hXW
  refine wpList_app _ elL rfl _ _ rfl w0.heap.size (.slice (some ⟨gl, 0, none⟩) i c) i (vs.take i) rfl (own_front HH.out.own (by omega)) (cutA (some ⟨gl, 0, none⟩) c l 1) (n - l) (c - l) (vs.drop l) rfl (by rw [List.length_drop, HVL.out]; omega) (cut_at HH.out.own (by omega)) (fun u hu => HH.out.deck.one (List.mem_of_mem_drop hu)) (by omega) (by unfold maxLen; omega) (H0.out.trans HX.out).size ?_
  intro v2 w9 hown2 hgr2 _
  have HT := Lib.hid (own_front HH.out.own (show i ≤ n by omega))
  have e1 : vs.take i ++ vs.drop l = dele vs i := by rw [HL.out]; rfl
  rw [e1] at hown2
  obtain ⟨A2, m2, c2, hm2, rfl⟩ := own_slice' hown2
  rw [← hm2] at hown2
  have hd2 : Deck 5 w0.heap.size w9 (dele vs i) (dele xss i) := (HH.out.deck.dele i).kept HT.out (by decide) hgr2
  have hX2 : Ext w0 w9 := (H0.out.trans HX.out).grown hgr2 (own_blk (base' := 0) HT.out)
  have HH2 : Hid (Hand w0.heap.size w9 A2 m2 c2 (dele vs i) (dele xss i)) := ⟨hown2, hd2⟩
  have hm3 : m2 + 1 = n := by have := HL.out; omega
  have HM3 := Lib.hid hm3
  have HX2 := Lib.hid hX2
  have HO6 := Lib.hid (HO5.out.kept HT.out (by decide) hgr2)
  have HKF := Lib.hid (KF.out.row HT.out (by decide) hgr2)
  have kc2 := HKF.out.cell 2
  clear hgr2 hd2 hX2 hm2 hm3 hown2
  have hm4 : m2 ≤ 1000000 := by have := HM3.out; omega
  have hm0 : ¬ ((m2 : Int) < 0) := by omega
  have EM : Hid (n - 1 = m2) := by have := HM3.out; show n - 1 = m2; omega
  have hcase : num < 0 ∨ (¬ num < 0 ∧ ¬ (m2 : Int) < num) ∨ (¬ num < 0 ∧ (m2 : Int) < num) := by omega
  obtain ⟨h, hh⟩ : ∃ h, held num m2 = h := ⟨_, rfl⟩
  have HH0 := Lib.hid hh
  have hle : h ≤ m2 := by rw [← hh]; exact held_le _ _
  have hkk : min (max num 0) (m2 : Int) = (h : Int) := by rw [← hh]; exact held_eq num m2
  have HKK := Lib.hid hkk
  clear hh hkk
  rcases hcase with hc1 | ⟨hc1, hc2⟩ | ⟨hc1, hc2⟩
  · go_wp2_with fail
    refine (insert_any w0.heap.size A2 m2 c2 h _ (by have := HKK.out; omega) A5 n5 c5 _ w9 HH2.out.own HX2.out.size (fun v hv => HH2.out.deck.one hv) hm4 hle).mono ?_
    rintro e w10 ⟨A6, c6, rfl, hown6, hgr6⟩
    have hd6 := (HH2.out.deck.kept HH2.out.own (by decide) hgr6)
    have ho6 := HO6.out.kept HH2.out.own (by decide) hgr6
    have hX6 : Ext w0 w10 := HX2.out.grown hgr6 (own_blk (base' := 0) HH2.out.own)
    have hap : ∀ v ∈ dele vs i, Apart v (.slice A5 n5 c5) := by
      have hp := ((perm_dele HV5.out).pairwise_iff fun {a b} h => Apart.symm h).1 HH.out.deck.far
      exact fun v hv => ((List.pairwise_cons.1 hp).1 v hv).symm
    have hn5 := HN5.out
    have hd7 := hd6.inse (i := h) (A := A5) (c := c5) (xs := xs) (by rw [HH2.out.len]; exact hle) (by rw [hn5]; exact ho6) (by rw [hn5]; exact hap)
    rw [hn5] at hd7
    have HH6 : Hid (Hand w0.heap.size w10 A6 (m2 + 1) c6 (inse (dele vs i) h (.slice A5 n5 c5)) (inse (dele xss i) h xs)) := ⟨hown6, hd7⟩
    have HX6 := Lib.hid hX6
    clear hd6 ho6 hX6 hap hn5 hd7 hown6 hgr6
    go_wp2
    go_ret
    rw [EM.out, HH0.out]
    exact ⟨_, _, _, _, rfl, HH6.out, HX6.out⟩
  · go_wp2_with fail
    refine (insert_any w0.heap.size A2 m2 c2 h _ (by have := HKK.out; omega) A5 n5 c5 _ w9 HH2.out.own HX2.out.size (fun v hv => HH2.out.deck.one hv) hm4 hle).mono ?_
    rintro e w10 ⟨A6, c6, rfl, hown6, hgr6⟩
    have hd6 := (HH2.out.deck.kept HH2.out.own (by decide) hgr6)
    have ho6 := HO6.out.kept HH2.out.own (by decide) hgr6
    have hX6 : Ext w0 w10 := HX2.out.grown hgr6 (own_blk (base' := 0) HH2.out.own)
    have hap : ∀ v ∈ dele vs i, Apart v (.slice A5 n5 c5) := by
      have hp := ((perm_dele HV5.out).pairwise_iff fun {a b} h => Apart.symm h).1 HH.out.deck.far
      exact fun v hv => ((List.pairwise_cons.1 hp).1 v hv).symm
    have hn5 := HN5.out
    have hd7 := hd6.inse (i := h) (A := A5) (c := c5) (xs := xs) (by rw [HH2.out.len]; exact hle) (by rw [hn5]; exact ho6) (by rw [hn5]; exact hap)
    rw [hn5] at hd7
    have HH6 : Hid (Hand w0.heap.size w10 A6 (m2 + 1) c6 (inse (dele vs i) h (.slice A5 n5 c5)) (inse (dele xss i) h xs)) := ⟨hown6, hd7⟩
    have HX6 := Lib.hid hX6
    clear hd6 ho6 hX6 hap hn5 hd7 hown6 hgr6
    go_wp2
    go_ret
    rw [EM.out, HH0.out]
    exact ⟨_, _, _, _, rfl, HH6.out, HX6.out⟩
  · go_wp2_with fail
    refine (insert_any w0.heap.size A2 m2 c2 h _ (by have := HKK.out; omega) A5 n5 c5 _ w9 HH2.out.own HX2.out.size (fun v hv => HH2.out.deck.one hv) hm4 hle).mono ?_
    rintro e w10 ⟨A6, c6, rfl, hown6, hgr6⟩
    have hd6 := (HH2.out.deck.kept HH2.out.own (by decide) hgr6)
    have ho6 := HO6.out.kept HH2.out.own (by decide) hgr6
    have hX6 : Ext w0 w10 := HX2.out.grown hgr6 (own_blk (base' := 0) HH2.out.own)
    have hap : ∀ v ∈ dele vs i, Apart v (.slice A5 n5 c5) := by
      have hp := ((perm_dele HV5.out).pairwise_iff fun {a b} h => Apart.symm h).1 HH.out.deck.far
      exact fun v hv => ((List.pairwise_cons.1 hp).1 v hv).symm
    have hn5 := HN5.out
    have hd7 := hd6.inse (i := h) (A := A5) (c := c5) (xs := xs) (by rw [HH2.out.len]; exact hle) (by rw [hn5]; exact ho6) (by rw [hn5]; exact hap)
    rw [hn5] at hd7
    have HH6 : Hid (Hand w0.heap.size w10 A6 (m2 + 1) c6 (inse (dele vs i) h (.slice A5 n5 c5)) (inse (dele xss i) h xs)) := ⟨hown6, hd7⟩
    have HX6 := Lib.hid hX6
    clear hd6 ho6 hX6 hap hn5 hd7 hown6 hgr6
    go_wp2
    go_ret
    rw [EM.out, HH0.out]
    exact ⟨_, _, _, _, rfl, HH6.out, HX6.out⟩

set_option maxRecDepth 100000 in
set_option maxHeartbeats 2000000 in
theorem spoil_k2 (w0 : World) (A : Option Addr) (n c i : Nat) (num : Int) (vs : List Value) (xss : List (List Int)) (xs : List Int)  (w : World) (hX0 : Ext w0 w) (hH : Hand w0.heap.size w A n c vs xss) (hn : n ≤ 1000000) (hi : i < n) (hb : ∀ x ∈ xss, x.length ≤ 1000000) (hx : xss[i]? = some xs)  :
    Calls Try.prog 70 #[.slice A n c, .agg #[.int .i64 2, .int .i64 (i : Int), .int .i64 num]] w (RetHd w0 (inse xss (i + 1) xs)) := by
  have H0 := Lib.hid hX0
  have HH := Lib.hid hH
  have hvl := hH.vlen
  have HVL := Lib.hid hvl
  have HXS := Lib.hid hx
  have hi0 : (i : Int) < (n : Int) := by omega
  have hi1 : (0 : Int) ≤ (i : Int) := by omega
  have h5 : xs.length ≤ 1000000 := hb xs (List.mem_of_getElem? hx)
  have HC := Lib.hid (own_cap hH.own)
  obtain ⟨gl, A5, c5, hA, hgl, hv5, hO5, hc5, hf5⟩ := hH.get hi hx
  have HA := Lib.hid hA
  have HV5 := Lib.hid hv5
  have HO5 := Lib.hid hO5
  have HC5 := Lib.hid hc5
  have HLN := Lib.hid hH.len
  clear hX0 hH hvl hx hb hv5 hO5 hc5 hf5
  subst hA
  clear HA
  obtain ⟨n5, hn5⟩ : ∃ n5, xs.length = n5 := ⟨_, rfl⟩
  have HN5 := Lib.hid hn5
  have hcap5 := HO5.out.cap
  rw [hn5] at h5 hcap5 HV5 HO5 HC5
  clear hn5
  obtain ⟨hcap5, hcap6⟩ := hcap5
  have hXe : Ext w (w.alloc (.cells #[.int .i64 2, .int .i64 (i : Int), .int .i64 num] 114)) := ((Ext.refl w).alloc _)
  have kF : Blk (w.alloc (.cells #[.int .i64 2, .int .i64 (i : Int), .int .i64 num] 114)) w.heap.size 114 #[.int .i64 2, .int .i64 (i : Int), .int .i64 num] := Blk.at_ (by simp)
  have hc := hXe.cell HC5.out
  go_enter Try.func70, Try.ntmps70
  go_upto_region 5 with (fail)
  generalize (w.alloc (.cells #[.int .i64 2, .int .i64 (i : Int), .int .i64 num] 114)) = w1 at hXe hc kF ⊢
  have HX := Lib.hid hXe
  clear hXe
  have KF := Lib.hid kF
  clear kF
  replace HH := Lib.hid (HH.out.ext HX.out)
  replace HO5 := Lib.hid (HO5.out.ext HX.out)
  have cF0 : w1.cell? ⟨w.heap.size, 0, none⟩ = some (.int .i64 2) := KF.out.cell 0
  have cF1 : w1.cell? ⟨w.heap.size, 1, none⟩ = some (.int .i64 (i : Int)) := KF.out.cell 1
  have cF2 : w1.cell? ⟨w.heap.size, 2, none⟩ = some (.int .i64 num) := KF.out.cell 2
  have z1 := KF.out.lt
  have z2 : gl < w1.heap.size := World.block_lt_of_cell? _ _ hc
  go_wp2_with (at_builtin; go_loud (refine wpList_app _ elB rfl _ _ rfl w1.heap.size (.slice (some ⟨w1.heap.size, 0, none⟩) 0 0) 0 [] rfl (World.ownsRow_lit w1 #[] 0 (Nat.le_refl _) (by unfold maxLen; omega) rfl) A5 n5 c5 (xs.map (.int .u8)) rfl (by rw [List.length_map]; have := HN5.out; omega) (HO5.out.ints.ext ((Ext.refl w1).alloc _)).2.2 (ints_oneCell _ _) (by omega) (by unfold maxLen; omega) (by simp) ?_); intro v3 w3 hown3 hgr3 _; obtain ⟨A3, m3, c3, hm3, rfl⟩ := own_slice' hown3; rw [← hm3] at hown3; have HM3 := Lib.hid hm3; have HO3 := Lib.hid hown3; have HG3 := Lib.hid hgr3; have kf3 := KF.out.cell 0; clear hm3 hown3 hgr3 kf3; have HX3 : Hid (Ext w1 w3) := ((Ext.refl w1).alloc _).grown HG3.out (fun k hk => by simp [Value.ownBlock] at hk; omega); have cf1 := (KF.out.ext HX3.out).cell 1; have cf2 := (KF.out.ext HX3.out).cell 2)
  have hm5 : m3 = xs.length := by have := HM3.out; have := HN5.out; omega
  have ho3 : OwnS .u8 5 w1.heap.size w3 A3 m3 c3 xs := ⟨by simpa using HO3.out, hm5.symm, HO5.out.wf⟩
  have HO33 := Lib.hid ho3
  have HM5 := Lib.hid hm5
  have HH3 := Lib.hid (HH.out.ext HX3.out)
  have HX30 := Lib.hid ((H0.out.trans HX.out).trans HX3.out)
  clear hm5 ho3 cf1 cf2
  refine (insert_any w0.heap.size _ n c (i + 1) ((i : Int) + 1) (by omega) A3 m3 c3 vs w3 HH3.out.own HX30.out.size (fun v hv => HH3.out.deck.one hv) hn (by omega)).mono ?_
  rintro e w10 ⟨A6, c6, rfl, hown6, hgr6⟩
  have hd6 := (HH3.out.deck.kept HH3.out.own (by decide) hgr6)
  have ho6 := (HO33.out.mono (base' := w0.heap.size) (H0.out.trans HX.out).size).kept HH3.out.own (by decide) hgr6
  have hX6 : Ext w0 w10 := HX30.out.grown hgr6 (own_blk (base' := 0) HH3.out.own)
  have hap : ∀ v ∈ vs, Apart v (.slice A3 m3 c3) := HH.out.deck.fresh (k := 0) fun g hg => (HO33.out.own.lt g hg).1
  have hm5 := HM5.out
  rw [hm5] at ho6 hap
  have hd7 := hd6.inse (i := i + 1) (A := A3) (c := c3) (xs := xs) (by rw [HH3.out.len]; omega) ho6 hap
  rw [← hm5] at hd7
  have HH6 : Hid (Hand w0.heap.size w10 A6 (n + 1) c6 (inse vs (i + 1) (.slice A3 m3 c3)) (inse xss (i + 1) xs)) := ⟨hown6, hd7⟩
  have HX6 := Lib.hid hX6
  clear hd6 ho6 hX6 hap hm5 hd7 hown6 hgr6
  go_wp2
  go_ret
  exact ⟨_, _, _, _, rfl, HH6.out, HX6.out⟩

set_option maxRecDepth 100000 in
set_option maxHeartbeats 2000000 in
theorem spoil_k4a (w0 : World) (A : Option Addr) (n c i : Nat) (num : Int) (vs : List Value) (xss : List (List Int)) (xs : List Int)  (w : World) (hX0 : Ext w0 w) (hH : Hand w0.heap.size w A n c vs xss) (hn : n ≤ 1000000) (hi : i < n) (hb : ∀ x ∈ xss, x.length ≤ 1000000) (hx : xss[i]? = some xs) (hneg : num < 0) :
    Calls Try.prog 70 #[.slice A n c, .agg #[.int .i64 4, .int .i64 (i : Int), .int .i64 num]] w (RetHd w0 (xss)) := by
  have H0 := Lib.hid hX0
  have HH := Lib.hid hH
  have hvl := hH.vlen
  have HVL := Lib.hid hvl
  have HXS := Lib.hid hx
  have hi0 : (i : Int) < (n : Int) := by omega
  have hi1 : (0 : Int) ≤ (i : Int) := by omega
  have h5 : xs.length ≤ 1000000 := hb xs (List.mem_of_getElem? hx)
  have HC := Lib.hid (own_cap hH.own)
  obtain ⟨gl, A5, c5, hA, hgl, hv5, hO5, hc5, hf5⟩ := hH.get hi hx
  have HA := Lib.hid hA
  have HV5 := Lib.hid hv5
  have HO5 := Lib.hid hO5
  have HC5 := Lib.hid hc5
  have HLN := Lib.hid hH.len
  clear hX0 hH hvl hx hb hv5 hO5 hc5 hf5
  subst hA
  clear HA
  obtain ⟨n5, hn5⟩ : ∃ n5, xs.length = n5 := ⟨_, rfl⟩
  have HN5 := Lib.hid hn5
  have hcap5 := HO5.out.cap
  rw [hn5] at h5 hcap5 HV5 HO5 HC5
  clear hn5
  obtain ⟨hcap5, hcap6⟩ := hcap5
  have hXe : Ext w (w.alloc (.cells #[.int .i64 4, .int .i64 (i : Int), .int .i64 num] 114)) := ((Ext.refl w).alloc _)
  have kF : Blk (w.alloc (.cells #[.int .i64 4, .int .i64 (i : Int), .int .i64 num] 114)) w.heap.size 114 #[.int .i64 4, .int .i64 (i : Int), .int .i64 num] := Blk.at_ (by simp)
  have hc := hXe.cell HC5.out
  go_enter Try.func70, Try.ntmps70
  go_wp2_with fail
  generalize (w.alloc (.cells #[.int .i64 4, .int .i64 (i : Int), .int .i64 num] 114)) = w1 at hXe hc kF ⊢
  have HX := Lib.hid hXe
  clear hXe
  have KF := Lib.hid kF
  clear kF
  replace HH := Lib.hid (HH.out.ext HX.out)
  replace HO5 := Lib.hid (HO5.out.ext HX.out)
  have cF0 : w1.cell? ⟨w.heap.size, 0, none⟩ = some (.int .i64 4) := KF.out.cell 0
  have cF1 : w1.cell? ⟨w.heap.size, 1, none⟩ = some (.int .i64 (i : Int)) := KF.out.cell 1
  have cF2 : w1.cell? ⟨w.heap.size, 2, none⟩ = some (.int .i64 num) := KF.out.cell 2
  go_upto_region 12 with (fail)
  clear cF0 cF1 cF2
  refine spoil_r12n w.heap.size gl n c i num A5 n5 c5 w1 (KF.out.cell 1) (KF.out.cell 2) hc hi hn h5 hneg _ _ (by simp) rfl rfl ?_
  rintro xv0 xv1 xv2 xv3 xv4 xv5 xv6 xv7 xv8 xv9 xv10 xv11 xv12 xv13 xv14 w2 rfl rfl rfl rfl rfl rfl rfl rfl rfl rfl rfl rfl rfl rfl rfl hXW
  simp only [rops, Try.f70, regOf, Option.bind_some, Nat.reduceBEq, if_true, if_false, Bool.false_eq_true, Option.getD_some, List.drop_succ_cons, List.drop_zero]
  simp only [Act.put, List.setIfInBounds_toArray, List.set_cons_succ, List.set_cons_zero]
  replace HX := Lib.hid (HX.out.trans hXW)
  replace HH := Lib.hid (HH.out.ext hXW)
  replace HO5 := Lib.hid (HO5.out.ext hXW)
  replace KF := Lib.hid (KF.out.ext hXW)
  clear hXW
  go_wp2
  go_ret
  exact ⟨_, _, _, _, rfl, HH.out, H0.out.trans HX.out⟩

set_option maxRecDepth 100000 in
set_option maxHeartbeats 2000000 in
theorem spoil_k4b (w0 : World) (A : Option Addr) (n c i : Nat) (num : Int) (vs : List Value) (xss : List (List Int)) (xs : List Int) (q : Nat) (w : World) (hX0 : Ext w0 w) (hH : Hand w0.heap.size w A n c vs xss) (hn : n ≤ 1000000) (hi : i < n) (hb : ∀ x ∈ xss, x.length ≤ 1000000) (hx : xss[i]? = some xs) (hq : xs.length ≤ q / 8) (hqm : (q : Int) ≤ 9223372036854775807) :
    Calls Try.prog 70 #[.slice A n c, .agg #[.int .i64 4, .int .i64 (i : Int), .int .i64 (q : Int)]] w (RetHd w0 (xss)) := by
  have H0 := Lib.hid hX0
  have HH := Lib.hid hH
  have hvl := hH.vlen
  have HVL := Lib.hid hvl
  have HXS := Lib.hid hx
  have hi0 : (i : Int) < (n : Int) := by omega
  have hi1 : (0 : Int) ≤ (i : Int) := by omega
  have h5 : xs.length ≤ 1000000 := hb xs (List.mem_of_getElem? hx)
  have HC := Lib.hid (own_cap hH.own)
  obtain ⟨gl, A5, c5, hA, hgl, hv5, hO5, hc5, hf5⟩ := hH.get hi hx
  have HA := Lib.hid hA
  have HV5 := Lib.hid hv5
  have HO5 := Lib.hid hO5
  have HC5 := Lib.hid hc5
  have HLN := Lib.hid hH.len
  clear hX0 hH hvl hx hb hv5 hO5 hc5 hf5
  subst hA
  clear HA
  obtain ⟨n5, hn5⟩ : ∃ n5, xs.length = n5 := ⟨_, rfl⟩
  have HN5 := Lib.hid hn5
  have hcap5 := HO5.out.cap
  rw [hn5] at h5 hcap5 HV5 HO5 HC5
  clear hn5
  obtain ⟨hcap5, hcap6⟩ := hcap5
  have hq9 : ¬ ((q : Int) / 8 < (n5 : Int)) := by have := HN5.out; omega
  have hXe : Ext w (w.alloc (.cells #[.int .i64 4, .int .i64 (i : Int), .int .i64 (q : Int)] 114)) := ((Ext.refl w).alloc _)
  have kF : Blk (w.alloc (.cells #[.int .i64 4, .int .i64 (i : Int), .int .i64 (q : Int)] 114)) w.heap.size 114 #[.int .i64 4, .int .i64 (i : Int), .int .i64 (q : Int)] := Blk.at_ (by simp)
  have hc := hXe.cell HC5.out
  go_enter Try.func70, Try.ntmps70
  go_wp2_with fail
  generalize (w.alloc (.cells #[.int .i64 4, .int .i64 (i : Int), .int .i64 (q : Int)] 114)) = w1 at hXe hc kF ⊢
  have HX := Lib.hid hXe
  clear hXe
  have KF := Lib.hid kF
  clear kF
  replace HH := Lib.hid (HH.out.ext HX.out)
  replace HO5 := Lib.hid (HO5.out.ext HX.out)
  have cF0 : w1.cell? ⟨w.heap.size, 0, none⟩ = some (.int .i64 4) := KF.out.cell 0
  have cF1 : w1.cell? ⟨w.heap.size, 1, none⟩ = some (.int .i64 (i : Int)) := KF.out.cell 1
  have cF2 : w1.cell? ⟨w.heap.size, 2, none⟩ = some (.int .i64 (q : Int)) := KF.out.cell 2
  go_upto_region 12 with (fail)
  clear cF0 cF1 cF2
  refine spoil_r12f w.heap.size gl n c i q A5 n5 c5 w1 (KF.out.cell 1) (KF.out.cell 2) hc hi hn h5 (by omega) hqm _ _ (by simp) rfl rfl ?_
  rintro xv0 xv1 xv2 xv3 xv4 xv5 xv6 xv7 xv8 xv9 xv10 xv11 xv12 xv13 xv14 w2 rfl rfl rfl rfl rfl rfl rfl rfl rfl rfl rfl rfl rfl rfl rfl hXW
  simp only [rops, Try.f70, regOf, Option.bind_some, Nat.reduceBEq, if_true, if_false, Bool.false_eq_true, Option.getD_some, List.drop_succ_cons, List.drop_zero]
  simp only [Act.put, List.setIfInBounds_toArray, List.set_cons_succ, List.set_cons_zero]
  replace HX := Lib.hid (HX.out.trans hXW)
  replace HH := Lib.hid (HH.out.ext hXW)
  replace HO5 := Lib.hid (HO5.out.ext hXW)
  replace KF := Lib.hid (KF.out.ext hXW)
  clear hXW
  go_wp2
  go_ret
  exact ⟨_, _, _, _, rfl, HH.out, H0.out.trans HX.out⟩

set_option maxRecDepth 100000 in
set_option maxHeartbeats 2000000 in
theorem spoil_k4 (w0 : World) (A : Option Addr) (n c i : Nat) (num : Int) (vs : List Value) (xss : List (List Int)) (xs : List Int) (q : Nat) (w : World) (hX0 : Ext w0 w) (hH : Hand w0.heap.size w A n c vs xss) (hn : n ≤ 1000000) (hi : i < n) (hb : ∀ x ∈ xss, x.length ≤ 1000000) (hx : xss[i]? = some xs) (hq : q / 8 < xs.length) (hqm : (q : Int) ≤ 9223372036854775807) :
    Calls Try.prog 70 #[.slice A n c, .agg #[.int .i64 4, .int .i64 (i : Int), .int .i64 (q : Int)]] w (RetHd w0 (xss.set i (flipped xs q))) := by
  have H0 := Lib.hid hX0
  have HH := Lib.hid hH
  have hvl := hH.vlen
  have HVL := Lib.hid hvl
  have HXS := Lib.hid hx
  have hi0 : (i : Int) < (n : Int) := by omega
  have hi1 : (0 : Int) ≤ (i : Int) := by omega
  have h5 : xs.length ≤ 1000000 := hb xs (List.mem_of_getElem? hx)
  have HC := Lib.hid (own_cap hH.own)
  obtain ⟨gl, A5, c5, hA, hgl, hv5, hO5, hc5, hf5⟩ := hH.get hi hx
  have HA := Lib.hid hA
  have HV5 := Lib.hid hv5
  have HO5 := Lib.hid hO5
  have HC5 := Lib.hid hc5
  have HLN := Lib.hid hH.len
  clear hX0 hH hvl hx hb hv5 hO5 hc5 hf5
  subst hA
  clear HA
  obtain ⟨n5, hn5⟩ : ∃ n5, xs.length = n5 := ⟨_, rfl⟩
  have HN5 := Lib.hid hn5
  have hcap5 := HO5.out.cap
  rw [hn5] at h5 hcap5 HV5 HO5 HC5
  clear hn5
  obtain ⟨hcap5, hcap6⟩ := hcap5
  have hq9 : (q : Int) / 8 < (n5 : Int) := by have := HN5.out; omega
  obtain ⟨gy, hA5, hgy, hgy2⟩ := own_block HO5.out.own (by omega)
  subst hA5
  have hXe : Ext w (w.alloc (.cells #[.int .i64 4, .int .i64 (i : Int), .int .i64 (q : Int)] 114)) := ((Ext.refl w).alloc _)
  have kF : Blk (w.alloc (.cells #[.int .i64 4, .int .i64 (i : Int), .int .i64 (q : Int)] 114)) w.heap.size 114 #[.int .i64 4, .int .i64 (i : Int), .int .i64 (q : Int)] := Blk.at_ (by simp)
  have hc := hXe.cell HC5.out
  go_enter Try.func70, Try.ntmps70
  go_wp2_with fail
  generalize (w.alloc (.cells #[.int .i64 4, .int .i64 (i : Int), .int .i64 (q : Int)] 114)) = w1 at hXe hc kF ⊢
  have HX := Lib.hid hXe
  clear hXe
  have KF := Lib.hid kF
  clear kF
  replace HH := Lib.hid (HH.out.ext HX.out)
  replace HO5 := Lib.hid (HO5.out.ext HX.out)
  have cF0 : w1.cell? ⟨w.heap.size, 0, none⟩ = some (.int .i64 4) := KF.out.cell 0
  have cF1 : w1.cell? ⟨w.heap.size, 1, none⟩ = some (.int .i64 (i : Int)) := KF.out.cell 1
  have cF2 : w1.cell? ⟨w.heap.size, 2, none⟩ = some (.int .i64 (q : Int)) := KF.out.cell 2
  go_upto_region 12 with (fail)
  clear cF0 cF1 cF2
  refine spoil_r12y w.heap.size gl n c i q (some ⟨gy, 0, none⟩) n5 c5 w1 (KF.out.cell 1) (KF.out.cell 2) hc hi hn h5 hq9 hqm _ _ (by simp) rfl rfl ?_
  rintro xv0 xv1 xv2 xv3 xv4 xv5 xv6 xv7 xv8 xv9 xv10 xv11 xv12 xv13 xv14 w2 rfl rfl rfl rfl rfl rfl rfl rfl rfl rfl rfl rfl rfl rfl rfl hXW
  simp only [rops, Try.f70, regOf, Option.bind_some, Nat.reduceBEq, if_true, if_false, Bool.false_eq_true, Option.getD_some, List.drop_succ_cons, List.drop_zero]
  simp only [Act.put, List.setIfInBounds_toArray, List.set_cons_succ, List.set_cons_zero]
  replace HX := Lib.hid (HX.out.trans hXW)
  replace HH := Lib.hid (HH.out.ext hXW)
  replace HO5 := Lib.hid (HO5.out.ext hXW)
  replace KF := Lib.hid (KF.out.ext hXW)
  clear hXW
  obtain ⟨q8, hq8⟩ : ∃ q8, q / 8 = q8 := ⟨_, rfl⟩
  obtain ⟨r, hr8⟩ : ∃ r, q % 8 = r := ⟨_, rfl⟩
  obtain ⟨p2, hp2⟩ : ∃ p2 : Int, ((2 ^ r : Nat) : Int) = p2 := ⟨_, rfl⟩
  have hqn : q8 < n5 := by omega
  have hzz := flip_val HO5.out.wf (by rw [HN5.out]; exact hqn) hq8 hr8 hp2
  have hyb := getD_u8 HO5.out.wf (j := q8) (by rw [HN5.out]; exact hqn)
  obtain ⟨y, hy⟩ : ∃ y, xs.getD q8 0 = y := ⟨_, rfl⟩
  obtain ⟨zz, hz⟩ : ∃ zz, flipB xs q = zz := ⟨_, rfl⟩
  rw [hy] at hyb hzz
  rw [hz] at hzz
  have HQ8 := Lib.hid hq8
  have HR8 := Lib.hid hr8
  have HP2 := Lib.hid hp2
  have HZZ := Lib.hid hzz
  have HY := Lib.hid hy
  have HZ := Lib.hid hz
  clear hq8 hr8 hp2 hzz hy hz hq9 hq
  have hxc : w2.cell? ⟨gl, i, none⟩ = some (.slice (some ⟨gy, 0, none⟩) n5 c5) := (HH.out.own.cellAt i (by omega)).trans HV5.out
  go_upto_region 13 with (fail)
  refine spoil_r13 w.heap.size gl n c i n5 c5 gy q q8 r y p2 zz w2 (KF.out.cell 1) (KF.out.cell 2) hxc hi hn h5 hcap5 (by have := (HO5.out.cellB hqn).1; rw [HY.out] at this; exact this) hyb hqn HQ8 HR8 HP2 HZZ _ _ (by simp) rfl rfl ?_
  rintro xv0 xv1 xv2 xv3 xv4 xv5 xv6 xv7 xv8 xv9 xv10 xv11 xv12 xv13 xv14 xv15 xv16 w3 rfl rfl rfl rfl rfl rfl rfl rfl rfl rfl rfl rfl rfl rfl rfl rfl rfl hXW
  simp only [rops, Try.f70, regOf, Option.bind_some, Nat.reduceBEq, if_true, if_false, Bool.false_eq_true, Option.getD_some, List.drop_succ_cons, List.drop_zero]
  simp only [Act.put, List.setIfInBounds_toArray, List.set_cons_succ, List.set_cons_zero]
  replace HX := Lib.hid (HX.out.trans hXW)
  replace HH := Lib.hid (HH.out.ext hXW)
  replace HO5 := Lib.hid (HO5.out.ext hXW)
  replace KF := Lib.hid (KF.out.ext hXW)
  clear hXW
  have hcy : w3.cell? ⟨gy, q8, none⟩ = some (.int .u8 y) := by have := (HO5.out.cellB hqn).1; rw [HY.out] at this; exact this
  have hfy := (HO5.out.cellB hqn).2
  clear hxc
  go_wp2
  go_ret
  have hof := HO5.out.flip HQ8.out
  rw [HZ.out] at hof
  have hg := (HO5.out.own.stored q8 (.int .u8 zz)).2
  have hd : xss.getD i [] = xs := by simp [List.getD, HXS.out]
  have hw := HH.out.deck.write (i := i) (g := gy) (c := c5) (ys := flipped xs q) (by rw [HH.out.len]; exact hi) (by rw [hd, HN5.out]; exact HV5.out) (by rw [flipped_len, hd]) (by rw [flipped_len, HN5.out]; exact hof) hg
  have hX9 : Ext w0 (w3.setCell ⟨gy, q8, none⟩ (.int .u8 zz)) := (H0.out.trans HX.out).setCell hgy _
  have ho9 := HH.out.own.kept hg (own_ne HH.out.own HO5.out.own (by decide))
  exact ⟨_, _, _, _, rfl, ⟨ho9, hw⟩, hX9⟩

set_option maxRecDepth 100000 in
set_option maxHeartbeats 2000000 in
theorem spoil_k5 (w0 : World) (A : Option Addr) (n c i : Nat) (num : Int) (vs : List Value) (xss : List (List Int)) (xs : List Int)  (w : World) (hX0 : Ext w0 w) (hH : Hand w0.heap.size w A n c vs xss) (hn : n ≤ 1000000) (hi : i < n) (hb : ∀ x ∈ xss, x.length ≤ 1000000) (hx : xss[i]? = some xs) (hnum : -9223372036854775808 ≤ num ∧ num ≤ 9223372036854775807) :
    Calls Try.prog 70 #[.slice A n c, .agg #[.int .i64 5, .int .i64 (i : Int), .int .i64 num]] w (RetHd w0 (xss.set i (xs.take (held num xs.length)))) := by
  have H0 := Lib.hid hX0
  have HH := Lib.hid hH
  have hvl := hH.vlen
  have HVL := Lib.hid hvl
  have HXS := Lib.hid hx
  have hi0 : (i : Int) < (n : Int) := by omega
  have hi1 : (0 : Int) ≤ (i : Int) := by omega
  have h5 : xs.length ≤ 1000000 := hb xs (List.mem_of_getElem? hx)
  have HC := Lib.hid (own_cap hH.own)
  obtain ⟨gl, A5, c5, hA, hgl, hv5, hO5, hc5, hf5⟩ := hH.get hi hx
  have HA := Lib.hid hA
  have HV5 := Lib.hid hv5
  have HO5 := Lib.hid hO5
  have HC5 := Lib.hid hc5
  have HLN := Lib.hid hH.len
  clear hX0 hH hvl hx hb hv5 hO5 hc5 hf5
  subst hA
  clear HA
  obtain ⟨n5, hn5⟩ : ∃ n5, xs.length = n5 := ⟨_, rfl⟩
  have HN5 := Lib.hid hn5
  have hcap5 := HO5.out.cap
  rw [hn5] at h5 hcap5 HV5 HO5 HC5
  clear hn5
  obtain ⟨hcap5, hcap6⟩ := hcap5
  have hXe : Ext w (w.alloc (.cells #[.int .i64 5, .int .i64 (i : Int), .int .i64 num] 114)) := ((Ext.refl w).alloc _)
  have kF : Blk (w.alloc (.cells #[.int .i64 5, .int .i64 (i : Int), .int .i64 num] 114)) w.heap.size 114 #[.int .i64 5, .int .i64 (i : Int), .int .i64 num] := Blk.at_ (by simp)
  have hc := hXe.cell HC5.out
  go_enter Try.func70, Try.ntmps70
  go_wp2_with fail
  generalize (w.alloc (.cells #[.int .i64 5, .int .i64 (i : Int), .int .i64 num] 114)) = w1 at hXe hc kF ⊢
  have HX := Lib.hid hXe
  clear hXe
  have KF := Lib.hid kF
  clear kF
  replace HH := Lib.hid (HH.out.ext HX.out)
  replace HO5 := Lib.hid (HO5.out.ext HX.out)
  have cF0 : w1.cell? ⟨w.heap.size, 0, none⟩ = some (.int .i64 5) := KF.out.cell 0
  have cF1 : w1.cell? ⟨w.heap.size, 1, none⟩ = some (.int .i64 (i : Int)) := KF.out.cell 1
  have cF2 : w1.cell? ⟨w.heap.size, 2, none⟩ = some (.int .i64 num) := KF.out.cell 2
  go_upto_region 15 with (fail)
  clear cF0 cF1 cF2
  refine spoil_r15 w.heap.size gl n c i num A5 n5 c5 w1 (KF.out.cell 1) (KF.out.cell 2) hc hi hn h5 hcap5 hnum _ _ (by simp) rfl rfl ?_
  rintro xv0 xv1 xv2 xv3 xv4 xv5 xv6 xv7 xv8 xv9 xv10 xv11 xv12 xv13 xv14 xv15 xv16 xv17 xv18 xv19 w2 rfl rfl rfl rfl rfl rfl rfl rfl rfl rfl rfl rfl rfl rfl rfl rfl rfl rfl rfl rfl hXW
  simp only [rops, Try.f70, regOf, Option.bind_some, Nat.reduceBEq, if_true, if_false, Bool.false_eq_true, Option.getD_some, List.drop_succ_cons, List.drop_zero]
  simp only [Act.put, List.setIfInBounds_toArray, List.set_cons_succ, List.set_cons_zero]
  replace HX := Lib.hid (HX.out.trans hXW)
  replace HH := Lib.hid (HH.out.ext hXW)
  replace HO5 := Lib.hid (HO5.out.ext hXW)
  replace KF := Lib.hid (KF.out.ext hXW)
  clear hXW
  have hxc : ∃ u, w2.cell? ⟨gl, i, none⟩ = some u := ⟨_, (HH.out.own.cellAt i (by omega)).trans HV5.out⟩
  obtain ⟨u, hxc⟩ := hxc
  have hxf := HH.out.own.frozenAt i
  go_wp2
  go_ret
  have hs := HH.out.own.stored i (.slice A5 (held num n5) c5)
  have hle := held_le num n5
  have hlk : (xs.take (held num n5)).length = held num n5 := by rw [List.length_take, HN5.out]; omega
  have hof : OwnS .u8 5 w0.heap.size w2 A5 (xs.take (held num n5)).length c5 (xs.take (held num n5)) := ⟨by rw [hlk, List.map_take]; exact own_front HO5.out.own hle, rfl, fun x hx => HO5.out.wf x (List.mem_of_mem_take hx)⟩
  have hof2 := hof.kept HH.out.own (by decide) hs.2
  have hd2 := HH.out.deck.kept HH.out.own (by decide) hs.2
  have hw := hd2.set (i := i) (by rw [HH.out.len]; exact hi) hof2 (fun u hu => by rw [HV5.out] at hu; injection hu with hu; subst hu; cases A5 <;> rfl)
  rw [hlk] at hw
  have hX9 : Ext w0 (w2.setCell ⟨gl, i, none⟩ (.slice A5 (held num n5) c5)) := (H0.out.trans HX.out).setCell hgl _
  rw [HN5.out]
  exact ⟨_, _, _, _, rfl, ⟨hs.1, hw⟩, hX9⟩


set_option maxRecDepth 100000 in
set_option maxHeartbeats 1000000 in
theorem spoil_else (w0 : World) (A : Option Addr) (n c i : Nat) (kd num : Int) (vs : List Value) (xss : List (List Int)) (w : World) (hX0 : Ext w0 w) (hH : Hand w0.heap.size w A n c vs xss) (h1 : kd ≠ 1) (h2 : kd ≠ 2) (h3 : kd ≠ 3) (h4 : kd ≠ 4) (h5 : kd ≠ 5) :
    Calls Try.prog 70 #[.slice A n c, .agg #[.int .i64 kd, .int .i64 (i : Int), .int .i64 num]] w (RetHd w0 xss) := by
  have HH := Lib.hid hH
  have H0 := Lib.hid hX0
  have e1 : (kd == 1) = false := by simpa using h1
  have e2 : (kd == 2) = false := by simpa using h2
  have e3 : (kd == 3) = false := by simpa using h3
  have e4 : (kd == 4) = false := by simpa using h4
  have e5 : (kd == 5) = false := by simpa using h5
  clear hX0 hH h1 h2 h3 h4 h5
  go_enter Try.func70, Try.ntmps70
  go_wp2
  go_ret
  exact ⟨_, _, _, _, rfl, HH.out.ext ((Ext.refl w).alloc _), H0.out.alloc _⟩

theorem spoil_any (w0 : World) (A : Option Addr) (n c i : Nat) (f : Flt) (vs : List Value) (xss : List (List Int)) (w : World) (hX0 : Ext w0 w) (hH : Hand w0.heap.size w A n c vs xss) (hn : n ≤ 1000000) (hp : f.place = i) (hi : i < n) (hb : ∀ x ∈ xss, x.length ≤ 1000000) (hf : FltIn f) :
    Calls Try.prog 70 #[.slice A n c, .agg #[.int .i64 f.kind, .int .i64 f.place, .int .i64 f.num]] w (RetHd w0 (fault1 xss f)) := by
  obtain ⟨kd, pl, num⟩ := f
  obtain ⟨_, _, hnum⟩ := hf
  simp only at hnum hp ⊢
  subst hp
  have hlen := hH.len
  unfold fault1
  simp only
  rw [if_neg (by omega)]
  have hi2 : i < xss.length := by omega
  have hx : xss[i]? = some xss[i] := List.getElem?_eq_getElem hi2
  rw [show ((i : Int)).toNat = i from Int.toNat_natCast i]
  have hd : xss.getD i [] = xss[i] := by simp [List.getD, hx]
  rw [hd]
  generalize xss[i] = xs at hx
  unfold spoil1
  simp only
  by_cases k1 : kd = 1
  · subst k1; rw [if_pos rfl]; exact spoil_k1 w0 A n c i num vs xss xs w hX0 hH hn hi hb hx
  · rw [if_neg k1]
    by_cases k2 : kd = 2
    · subst k2; rw [if_pos rfl]; exact spoil_k2 w0 A n c i num vs xss xs w hX0 hH hn hi hb hx
    · rw [if_neg k2]
      by_cases k3 : kd = 3
      · subst k3; rw [if_pos rfl, hlen]; exact spoil_k3 w0 A n c i num vs xss xs w hX0 hH hn hi hb hx
      · rw [if_neg k3]
        by_cases k4 : kd = 4
        · subst k4
          rw [if_pos rfl]
          by_cases hk1 : num < 0
          · rw [if_pos (.inl hk1)]; exact spoil_k4a w0 A n c i num vs xss xs w hX0 hH hn hi hb hx hk1
          · obtain ⟨q, rfl⟩ := Int.eq_ofNat_of_zero_le (show 0 ≤ num by omega)
            have ht := Int.tdiv_eq_ediv_of_nonneg (a := (q : Int)) (b := 8) (by omega)
            by_cases hk : (xs.length : Int) ≤ (q : Int).tdiv 8
            · rw [if_pos (.inr hk)]; exact spoil_k4b w0 A n c i q vs xss xs q w hX0 hH hn hi hb hx (by omega) hnum.2
            · rw [if_neg (by omega), show ((q : Int)).toNat = q from Int.toNat_natCast q]
              exact spoil_k4 w0 A n c i q vs xss xs q w hX0 hH hn hi hb hx (by omega) hnum.2
        · rw [if_neg k4]
          by_cases k5 : kd = 5
          · subst k5; rw [if_pos rfl]; exact spoil_k5 w0 A n c i num vs xss xs w hX0 hH hn hi hb hx hnum
          · rw [if_neg k5]; exact spoil_else w0 A n c i kd num vs xss w hX0 hH k1 k2 k3 k4 k5

set_option maxRecDepth 100000 in
set_option maxHeartbeats 2000000 in
theorem carry_any (A : Option Addr) (n c : Nat) (F : Option Addr) (m d : Nat) (xss : List (List Int)) (fs : List Flt) (w : World) (hL : Lists .u8 w A n xss) (hn : n ≤ 100000) (hF : Flts w F m fs) (hm : m ≤ 100000) (hG : Grams n 1000000 xss) :
    Calls Try.prog 29 #[.slice A n c, .slice F m d] w (RetHd w (carry1 xss fs)) := by
  have H := Lib.hid hL
  have HF := Lib.hid hF
  have HG := Lib.hid hG
  clear hL hF hG
  go_enter Try.func29, Try.ntmps29
  go_wp2_with (at_make; refine wpList_mk _ elL rfl rfl _ _ rfl w.heap.size _ _ _ _ 0 n rfl rfl rfl rfl (Nat.zero_le _) (by omega) (by unfold maxLen; omega) (Nat.le_refl _) ?_; intro w1 hown1 hext1 hsz1)
  have HO1 := Lib.hid hown1
  have HX1 := Lib.hid hext1
  clear hown1 hext1
  go_loopg [5, 15] n (fun g v i' wr => ∃ (k : Nat) (A5 : Option Addr) (c5 : Nat) (vs : List Value), g = n - k ∧ k ≤ n ∧ i' = .int .i64 k ∧ v = .slice A5 k c5 ∧ Hand w.heap.size wr A5 k c5 vs (xss.take k) ∧ Ext w wr)
  case atStart => exact ⟨0, _, n, [], by omega, by omega, rfl, rfl, ⟨HO1.out, Deck.nil⟩, HX1.out⟩
  case round =>
    obtain ⟨k, A5, c5, vs, rfl, hk, rfl, rfl, hH, hext⟩ := hrel
    clear HO1 HX1
    have HX := Lib.hid hext
    have HH := Lib.hid hH
    clear hext hH
    by_cases hlt : k < n
    · obtain ⟨b, off, A', n', c', xs, rfl, hx, hc, hI, hc1, hc2⟩ := (H.out.ext HX.out).get hlt
      have h5 : n' ≤ 1000000 := by have := (HG.out.2 xs (List.mem_of_getElem? hx)).1; rw [hI.1] at this; exact this
      have HI := Lib.hid hI
      have HXS := Lib.hid hx
      have HR := Lib.hid hc
      clear hI hx
      go_wp2_with (at_builtin; first | (refine wpList_app _ elB rfl _ _ rfl wr.heap.size (.slice (some ⟨wr.heap.size, 0, none⟩) 0 0) 0 [] rfl (World.ownsRow_lit wr #[] 0 (Nat.le_refl _) (by unfold maxLen; omega) rfl) A' n' c' (xs.map (.int .u8)) rfl (by rw [List.length_map]; have := HI.out.1; omega) (HI.out.ext ((Ext.refl wr).alloc _)).2.2 (ints_oneCell _ _) (by omega) (by unfold maxLen; omega) (by simp) ?_; intro v3 w3 hown3 hgr3 _; obtain ⟨A3, m3, c3, hm3, rfl⟩ := own_slice' hown3; rw [← hm3] at hown3; have HM3 := Lib.hid hm3; have HO3 := Lib.hid hown3; have HG3 := Lib.hid hgr3; clear hm3 hown3 hgr3; have HX3 : Hid (Ext wr w3) := ((Ext.refl wr).alloc _).grown HG3.out (fun k hk => by simp [Value.ownBlock] at hk; omega); have HH3 := Lib.hid (HH.out.ext HX3.out)) | (refine wpList_app _ elL rfl _ _ rfl w.heap.size (.slice A5 k c5) k vs rfl (HH3.out.own.alloc _) _ 1 1 [.slice A3 m3 c3] rfl rfl (At.new' _ [_] _ rfl) (by simp [Value.oneCell']) (by omega) (by unfold maxLen; omega) (by have := HX.out.size; have := HX3.out.size; simp; omega) ?_; intro v2 w2 hown2 hgr2 _; obtain ⟨A2, m2, c2, hm2, rfl⟩ := own_slice' hown2; rw [← hm2] at hown2; have HM2 := Lib.hid hm2; have HO2 := Lib.hid hown2; have HG2 := Lib.hid hgr2; clear hm2 hown2 hgr2))
      go_roundg (n - (k + 1))
      case rel =>
        have hm2 := HM2.out
        have hm3 := HM3.out
        have ho2 := HO2.out
        have hg2 := HG2.out
        subst hm2
        have hXa : Ext w3 (w3.alloc (.cells #[.slice A3 m3 c3] 22)) := (Ext.refl w3).alloc _
        have hm5 : m3 = xs.length := by have := HI.out.1; omega
        have hHa := HH3.out.ext hXa
        have ho3 : OwnS .u8 5 w.heap.size w3 A3 xs.length c3 xs := ⟨by have := HO3.out; rw [← hm5]; exact (World.ownsRow.mono' (by simpa using this) HX.out.size), rfl, HI.out.2.1⟩
        have ho4 := (ho3.ext hXa).kept hHa.own (by decide) hg2
        have hd4 := hHa.deck.kept hHa.own (by decide) hg2
        have hap : ∀ v ∈ vs, Apart v (.slice A3 xs.length c3) := HH.out.deck.fresh (k := 0) fun g hg => by rw [← hm5] at hg; exact (HO3.out.lt g hg).1
        have htl : (xss.take k).length = k := by rw [List.length_take, H.out.1]; omega
        have hd5 := hd4.inse (i := (xss.take k).length) (A := A3) (c := c3) (xs := xs) (by omega) ho4 hap
        rw [inse_end, show (xss.take k).length = vs.length from hd4.len.symm, inse_end, ← hm5] at hd5
        refine ⟨k + 1, A2, c2, vs ++ [.slice A3 m3 c3], rfl, by omega, by go_num, rfl, ⟨ho2, ?_⟩, (HX.out.trans (HX3.out.trans hXa)).grown hg2 (own_blk (base' := 0) hHa.own)⟩
        rw [List.take_add_one, HXS.out]
        exact hd5
      case measure => omega
    · obtain rfl : k = n := by omega
      have hl1 : xss.take k = xss := List.take_of_length_le (by have := H.out.1; omega)
      rw [hl1] at HH
      go_wp2
      go_loopg [5, 28] m (fun g v i' wr => ∃ (j n5 : Nat) (A5 : Option Addr) (c5 : Nat) (vs : List Value), g = m - j ∧ j ≤ m ∧ i' = .int .i64 j ∧ v = .slice A5 n5 c5 ∧ Hand w.heap.size wr A5 n5 c5 vs (carry1 xss (fs.take j)) ∧ Ext w wr)
      case atStart => exact ⟨0, k, A5, c5, vs, by omega, by omega, rfl, rfl, by simpa [carry1] using HH.out, HX.out⟩
      case round =>
        clear HH HX hl1
        obtain ⟨j, n6, A6, c6, vs6, rfl, hj, rfl, rfl, hH, hext⟩ := hrel
        have HX := Lib.hid hext
        have HH := Lib.hid hH
        clear hext hH
        by_cases hlt : j < m
        · obtain ⟨b, off, f, rfl, hf, hfi, f0, f1, f2⟩ := (HF.out.ext HX.out).get hlt
          have hg := (HG.out.carry (fs.take j))
          have hl := HH.out.len
          have h1 : (fs.take j).length = j := by rw [List.length_take, HF.out.1]; omega
          have hn6 : n6 ≤ 1000000 := by rw [← hl]; have := hg.1; rw [h1] at this; omega
          have HG2 := Lib.hid hg.2
          have HFI := Lib.hid hfi
          have HFF := Lib.hid hf
          clear hg hl h1 hf hfi
          obtain ⟨kd, pl, num⟩ := f
          simp only at f0 f1 f2
          by_cases hin : 0 ≤ pl ∧ pl < (n6 : Int)
          · obtain ⟨p0, p1⟩ := hin
            have hb1 : (decide (0 ≤ pl)) = true := decide_eq_true p0
            go_wp2_with fail
            have hXa : Ext wr (wr.alloc (.cells #[.int .i64 kd, .int .i64 pl, .int .i64 num] 114)) := (Ext.refl wr).alloc _
            refine (spoil_any w A6 n6 c6 pl.toNat ⟨kd, pl, num⟩ vs6 _ _ (HX.out.trans hXa) (HH.out.ext hXa) hn6 (by simp only; omega) (by omega) (fun x hx => (HG2.out x hx).1) HFI.out).mono ?_
            rintro e w2 ⟨A7, n7, c7, vs7, rfl, hH7, hX7⟩
            have HH7 := Lib.hid hH7
            have HX7 := Lib.hid hX7
            clear hH7 hX7 hXa f0 f1 f2
            go_wp2
            go_roundg (m - (j + 1))
            case rel => exact ⟨j + 1, n7, A7, c7, vs7, rfl, by omega, by go_num, rfl, by rw [carry_snoc HFF.out]; exact HH7.out, HX7.out⟩
            case measure => omega
          · have HID : Hid (fault1 (carry1 xss (fs.take j)) ⟨kd, pl, num⟩ = carry1 xss (fs.take j)) := by
              show _ = _
              unfold fault1
              rw [if_pos (by simp only; have := HH.out.len; omega)]
            have HXa : Hid (Ext wr (wr.alloc (.cells #[.int .i64 kd, .int .i64 pl, .int .i64 num] 114))) := (Ext.refl wr).alloc _
            by_cases h7 : pl < 0
            · go_wp2
              go_roundg (m - (j + 1))
              case rel => exact ⟨j + 1, n6, A6, c6, vs6, rfl, by omega, by go_num, rfl, by rw [carry_snoc HFF.out, HID.out]; exact HH.out.ext HXa.out, HX.out.trans HXa.out⟩
              case measure => omega
            · have h8 : (n6 : Int) ≤ pl := by omega
              have h9 : 0 ≤ pl := by omega
              go_wp2
              go_roundg (m - (j + 1))
              case rel => exact ⟨j + 1, n6, A6, c6, vs6, rfl, by omega, by go_num, rfl, by rw [carry_snoc HFF.out, HID.out]; exact HH.out.ext HXa.out, HX.out.trans HXa.out⟩
              case measure => omega
        · go_wp2
          go_ret
          have e1 : fs.take j = fs := List.take_of_length_le (by have := HF.out.1; omega)
          have h9 := HH.out
          rw [e1] at h9
          exact ⟨_, _, _, _, rfl, h9, HX.out⟩

end Go.Proofs.Ytekhmfliaojabaa
namespace Go.Proofs.Ytekhmfliaojabaa
open Go.RowKit

/-- A list of deliveries is put behind another. -/
theorem DlL.append {rb base : Nat} {w w' : World} {v v' : Value} {ds es : List Dlv} {vs us : List Value} (hv : w.ownsRow rb 72 3 v ds.length vs) (hc : CsR (DlO base w) vs ds) (hu : CsR (DlO base w) us es)
    (hown : w'.ownsRow rb 72 3 v' (ds.length + es.length) (vs ++ us)) (hgr : w.grownBy w' v.ownBlock) : DlL rb base w' v' (ds ++ es) := by
  have hk : Keeps v.ownBlock.toList w w' := Keeps.of_grown hgr fun k hk => by rw [hk]; simp
  have hn : ∀ k ∈ v.ownBlock.toList, NoRow 5 w k := fun k hk => NoRow.of_own hv (by simpa using hk) (by decide)
  exact ⟨_, by rw [List.length_append]; exact hown, CsR.append (hc.imp fun _ _ h => h.keeps hk hn) (hu.imp fun _ _ h => h.keeps hk hn)⟩
end Go.Proofs.Ytekhmfliaojabaa
namespace Go.Proofs.Ytekhmfliaojabaa
open Go.RowKit

theorem scan_nil : scan [] = ([], 0, 0) := scan_short (by rw [unp_nil])
theorem scan_frame {f : Fr} (h : FrOk f) (rest : List Int) : scan (pck f ++ rest) = preS [f] 0 (scan rest) := by
  have hu := unp_pck h rest
  rw [scan_ok (by rw [hu]), hu]
  have hs : szN (pck f ++ rest) = f.body.length := by unfold pck; rw [List.append_assoc]; exact szN_heads _ h.2.2.2.2
  rw [hs, List.drop_left' (by rw [pck_len])]

end Go.Proofs.Ytekhmfliaojabaa
namespace Go.Proofs.Ytekhmfliaojabaa
open Go.RowKit

theorem ownsRow_away {w w' : World} {L : List Nat} {base size n : Nat} {e : TypeId} {v : Value} {vs : List Value} (h : w.ownsRow base e size v n vs) (hk : Keeps L w w') (hn : ∀ k ∈ L, NoRow e w k) : w'.ownsRow base e size v n vs :=
  ownsRow_keeps h hk fun k hv hl => by
    rcases h.2 with ⟨rfl, _⟩ | ⟨g', cap, cur, rfl, _, hg, _⟩
    · simp [Value.ownBlock] at hv
    · simp [Value.ownBlock] at hv
      subst hv
      exact hn _ hl _ _ hg
end Go.Proofs.Ytekhmfliaojabaa
namespace Go.Proofs.Ytekhmfliaojabaa
open Go.RowKit

/-- The program's transfer: block gt; the sender gs, ms; the receiver gr, mr; the records' slice; what is out. -/
structure TrP (w0 w : World) (gt gs ms gr mr : Nat) (A : Option Addr) (n c : Nat) (out : Value) (b1 b2 : Nat) (s : Snd) (r : Rcv) (ds : List Dlv) : Prop where
  blk : Blk w gt 132 #[.pointer (some ⟨gs, 0, none⟩), .pointer (some ⟨gr, 0, none⟩), .slice A n c, out]
  lo : w0.heap.size ≤ gt
  snd : SndP b1 w gs ms s
  rcv : RcvP b2 w gr mr r
  outL : DlL w0.heap.size b2 w out ds
  l1 : w0.heap.size ≤ b1
  l2 : w0.heap.size ≤ b2
  ne : ms ≠ mr
  ext : Ext w0 w
section
variable {w0 w w' : World} {gt gs ms gr mr : Nat} {A : Option Addr} {n c : Nat} {out : Value} {b1 b2 : Nat} {s s' : Snd} {r r' : Rcv} {ds : List Dlv} {L : List Nat}
theorem TrP.grow (h : TrP w0 w gt gs ms gr mr A n c out b1 b2 s r ds) (he : Ext w w') : TrP w0 w' gt gs ms gr mr A n c out b1 b2 s r ds :=
  ⟨h.blk.ext he, h.lo, h.snd.ext he, h.rcv.ext he, h.outL.ext he, h.l1, h.l2, h.ne, h.ext.trans he⟩
theorem TrP.ms_ne (h : TrP w0 w gt gs ms gr mr A n c out b1 b2 s r ds) : mr ∉ [gs, ms] ∧ ms ∉ [gr, mr] := by
  obtain ⟨l, hM, _⟩ := h.snd.map
  obtain ⟨l', hM', _⟩ := h.rcv.q.map
  have h1 : gs ≠ mr := hM'.ne_blk h.snd.blk
  have h2 : gr ≠ ms := hM.ne_blk h.rcv.q.blk
  have h3 := h.ne
  constructor
  · simp; exact ⟨fun e => h1 e.symm, fun e => h3 e.symm⟩
  · simp; exact ⟨fun e => h2 e.symm, h3⟩
/-- The sender has been written. -/
theorem TrP.sent (h : TrP w0 w gt gs ms gr mr A n c out b1 b2 s r ds) (hk : Keeps [gs, ms] w w') (hs : SndP b1 w' gs ms s') : TrP w0 w' gt gs ms gr mr A n c out b1 b2 s' r ds :=
  ⟨h.blk.away hk (h.snd.far _ (by decide)), h.lo, hs, ⟨h.rcv.q.keeps hk (h.snd.far _ (by decide)) h.ms_ne.1 (h.snd.far _ (by decide)), h.rcv.ok⟩, h.outL.keeps hk (h.snd.far _ (by decide)) (h.snd.far _ (by decide)), h.l1, h.l2, h.ne, hk.ext h.ext (h.snd.new h.l1)⟩
/-- The receiver has been written. -/
theorem TrP.took (h : TrP w0 w gt gs ms gr mr A n c out b1 b2 s r ds) (hk : Keeps [gr, mr] w w') (hr : RcvP b2 w' gr mr r') : TrP w0 w' gt gs ms gr mr A n c out b1 b2 s r' ds :=
  ⟨h.blk.away hk (h.rcv.q.far _ (by decide)), h.lo, h.snd.keeps hk (h.rcv.q.far _ (by decide)) h.ms_ne.2 (h.rcv.q.far _ (by decide)), hr, h.outL.keeps hk (h.rcv.q.far _ (by decide)) (h.rcv.q.far _ (by decide)), h.l1, h.l2, h.ne, hk.ext h.ext (h.rcv.q.new h.l2)⟩
/-- Other rows have been written. -/
theorem TrP.past (h : TrP w0 w gt gs ms gr mr A n c out b1 b2 s r ds) (hk : Keeps L w w') (n1 : ∀ k ∈ L, NoRow 132 w k) (n2 : ∀ k ∈ L, NoRow 98 w k) (n3 : ∀ k ∈ L, NoRow 102 w k) (n4 : ∀ k ∈ L, NoRow 72 w k) (n5 : ∀ k ∈ L, NoRow 5 w k) (n6 : ms ∉ L) (n7 : mr ∉ L) (hn : ∀ k ∈ L, w0.heap.size ≤ k) :
    TrP w0 w' gt gs ms gr mr A n c out b1 b2 s r ds :=
  ⟨h.blk.away hk n1, h.lo, h.snd.keeps hk n2 n6 n5, ⟨h.rcv.q.keeps hk n3 n7 n5, h.rcv.ok⟩, h.outL.keeps hk n4 n5, h.l1, h.l2, h.ne, hk.ext h.ext hn⟩
/-- A row of byte strings has been written. -/
theorem TrP.row {base size m : Nat} {v : Value} {vs : List Value} (h : TrP w0 w gt gs ms gr mr A n c out b1 b2 s r ds) (hv : w.ownsRow base 22 size v m vs) (hb : w0.heap.size ≤ base) (hg : w.grownBy w' v.ownBlock) : TrP w0 w' gt gs ms gr mr A n c out b1 b2 s r ds := by
  have hk : Keeps v.ownBlock.toList w w' := Keeps.of_grown hg fun k hk => by rw [hk]; simp
  have hn : ∀ t, 22 ≠ t → ∀ k ∈ v.ownBlock.toList, NoRow t w k := fun t ht k hk => NoRow.of_own hv (Option.mem_toList.1 hk) ht
  obtain ⟨l, hM, _⟩ := h.snd.map
  obtain ⟨l', hM', _⟩ := h.rcv.q.map
  exact h.past hk (hn _ (by decide)) (hn _ (by decide)) (hn _ (by decide)) (hn _ (by decide)) (hn _ (by decide)) (fun hl => hM.ne_row hv (Option.mem_toList.1 hl).symm) (fun hl => hM'.ne_row hv (Option.mem_toList.1 hl).symm) fun k hk => by
    have := (hv.lt k (Option.mem_toList.1 hk)).1
    omega
/-- A local frame has been written. -/
theorem TrP.put3 {t : Nat} {cs : Array Value} (h : TrP w0 w gt gs ms gr mr A n c out b1 b2 s r ds) (hT : Blk w t 38 cs) (ht : w0.heap.size ≤ t) (x y z : Value) : TrP w0 (((w.setCell ⟨t, 0, none⟩ x).setCell ⟨t, 1, none⟩ y).setCell ⟨t, 2, none⟩ z) gt gs ms gr mr A n c out b1 b2 s r ds := by
  obtain ⟨l, hM, _⟩ := h.snd.map
  obtain ⟨l', hM', _⟩ := h.rcv.q.map
  have hn : ∀ T, 38 ≠ T → ∀ k ∈ [t], NoRow T w k := by intro T hT' k hk; simp at hk; subst hk; exact NoRow.of_blk hT hT'
  exact h.past (Keeps.put3 [t] w (by simp) x y z) (hn _ (by decide)) (hn _ (by decide)) (hn _ (by decide)) (hn _ (by decide)) (hn _ (by decide)) (by simp; rintro rfl; exact hM.notRow _ _ _ hT) (by simp; rintro rfl; exact hM'.notRow _ _ _ hT) (by simp; exact ht)
/-- What was delivered is put behind what is out. -/
theorem TrP.more {v' : Value} {w1 : World} {es : List Dlv} {vs us : List Value} (h : TrP w0 w gt gs ms gr mr A n c out b1 b2 s r ds) (hv : w.ownsRow w0.heap.size 72 3 out ds.length vs) (hc : CsR (DlO b2 w) vs ds) (hu : CsR (DlO b2 w) us es)
    (hown : w1.ownsRow w0.heap.size 72 3 v' (ds.length + es.length) (vs ++ us)) (hgr : w.grownBy w1 out.ownBlock) : TrP w0 (w1.setCell ⟨gt, 3, none⟩ v') gt gs ms gr mr A n c v' b1 b2 s r (ds ++ es) := by
  have hk : Keeps out.ownBlock.toList w w1 := Keeps.of_grown hgr fun k hk => by rw [hk]; simp
  have hn : ∀ t, 72 ≠ t → ∀ k ∈ out.ownBlock.toList, NoRow t w k := fun t ht k hk => NoRow.of_own hv (Option.mem_toList.1 hk) ht
  obtain ⟨l, hM, _⟩ := h.snd.map
  obtain ⟨l', hM', _⟩ := h.rcv.q.map
  have hd := DlL.append hv hc hu hown hgr
  have hB := h.blk.away hk (hn _ (by decide))
  have hk2 : Keeps [gt] w1 (w1.setCell ⟨gt, 3, none⟩ v') := (Keeps.refl _ _).setCell (.inl (by simp)) _
  have hn2 : ∀ t, 132 ≠ t → ∀ k ∈ [gt], NoRow t w1 k := by intro t ht k hk; simp at hk; subst hk; exact NoRow.of_blk hB ht
  have hs := h.snd.keeps hk (hn _ (by decide)) (fun hl => hM.ne_row hv (Option.mem_toList.1 hl).symm) (hn _ (by decide))
  have hr : RcvP b2 w1 gr mr r := ⟨h.rcv.q.keeps hk (hn _ (by decide)) (fun hl => hM'.ne_row hv (Option.mem_toList.1 hl).symm) (hn _ (by decide)), h.rcv.ok⟩
  obtain ⟨l1, hM1, _⟩ := hs.map
  obtain ⟨l1', hM1', _⟩ := hr.q.map
  refine ⟨?_, h.lo, hs.keeps hk2 (hn2 _ (by decide)) (by simp; rintro rfl; exact hM1.notRow _ _ _ hB) (hn2 _ (by decide)), ⟨hr.q.keeps hk2 (hn2 _ (by decide)) (by simp; rintro rfl; exact hM1'.notRow _ _ _ hB) (hn2 _ (by decide)), hr.ok⟩, hd.keeps hk2 (hn2 _ (by decide)) (hn2 _ (by decide)), h.l1, h.l2, h.ne, ?_⟩
  · have := hB.set 3 v'
    simpa using this
  · refine (h.ext.grown hgr fun k hk => (hv.lt k hk).1).setCell h.lo _
end
end Go.Proofs.Ytekhmfliaojabaa
