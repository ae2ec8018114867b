/- Lemmas of the proof that follows (Groups, part 12): walks of functions by contract, and plain lemmas. Conditions: none. -/
import Derived.Test.YtikhlcgnlbinfaaGroupsK
namespace Go.Proofs.Ytikhlcgnlbinfaa
open Go.RowKit

theorem labs_append (l : Nat → Int) (a b : List Mt) : labs l (a ++ b) = labs (labs l a) b := by
  induction a generalizing l with
  | nil => rfl
  | cons m a ih => exact ih _
theorem labs_take {l : Nat → Int} {ms : List Mt} {k : Nat} {m : Mt} (h : ms[k]? = some m) : labs l (ms.take (k + 1)) = lab1 (labs l (ms.take k)) m := by
  rw [take_snoc h, labs_append]
  rfl
/-- What a round that has done k matches knows: nothing was changed, or something was. -/
def ChgB (l : Nat → Int) (ms : List Mt) (k : Nat) (c : Bool) : Prop := (c = false → labs l (ms.take k) = l) ∧ (c = true → ∃ i, labs l (ms.take k) i < l i)
theorem ChgB.zero (l : Nat → Int) (ms : List Mt) : ChgB l ms 0 false := ⟨fun _ => rfl, fun h => (by cases h)⟩
theorem ChgB.same {l : Nat → Int} {ms : List Mt} {k : Nat} {m : Mt} {c : Bool} (h : ChgB l ms k c) (hm : ms[k]? = some m) (e : lab1 (labs l (ms.take k)) m = labs l (ms.take k)) : ChgB l ms (k + 1) c := by
  unfold ChgB
  rw [labs_take hm, e]
  exact h
theorem ChgB.less {l : Nat → Int} {ms : List Mt} {k : Nat} {m : Mt} (h0 : ∀ m ∈ ms, 0 ≤ m.a) (hl : ∀ i, -1 ≤ l i) (hm : ms[k]? = some m) (e : ∃ i, lab1 (labs l (ms.take k)) m i < labs l (ms.take k) i) : ChgB l ms (k + 1) true := by
  refine ⟨fun h => (by cases h), fun _ => ?_⟩
  obtain ⟨i, hi⟩ := e
  rw [labs_take hm]
  have := (labs_le (ms := ms.take k) (fun m hm => h0 m (List.mem_of_mem_take hm)) hl i).1
  exact ⟨i, by omega⟩
theorem ChgB.keep {l : Nat → Int} {ms : List Mt} {k : Nat} {m : Mt} (h0 : ∀ m ∈ ms, 0 ≤ m.a) (hl : ∀ i, -1 ≤ l i) (h : ChgB l ms k true) (hm : ms[k]? = some m) : ChgB l ms (k + 1) true := by
  refine ⟨fun h => (by cases h), fun _ => ?_⟩
  obtain ⟨i, hi⟩ := h.2 rfl
  rw [labs_take hm]
  have hk := fun i => (labs_le (ms := ms.take k) (fun m hm => h0 m (List.mem_of_mem_take hm)) hl i).2
  have := (lab1_le hk (h0 m (List.mem_of_getElem? hm)) i).1
  exact ⟨i, by omega⟩
/-- Behind a round: the labels stay for good, or the rounds are not used up. -/
theorem ChgB.done {S : Nat} {ms : List Mt} (h0 : ∀ m ∈ ms, 0 ≤ m.a ∧ m.a < S ∧ m.b < S) {r : Nat} (hr : r ≤ S) {k : Nat} (hk : ms.take k = ms) {c : Bool} (h : ChgB (labR ms r) ms k c) : (c = false ∧ labR ms (r + 1) = labR ms S) ∨ (c = true ∧ r < S) := by
  unfold ChgB at h
  rw [hk] at h
  cases c with
  | false =>
    have e : labR ms (r + 1) = labR ms r := h.1 rfl
    have := labR_after e (S - r)
    rw [show r + (S - r) = S by omega] at this
    exact .inl ⟨rfl, e.trans this.symm⟩
  | true =>
    refine .inr ⟨rfl, ?_⟩
    rcases Nat.lt_or_ge r S with h1 | h1
    · exact h1
    · obtain rfl : r = S := by omega
      obtain ⟨i, hi⟩ := h.2 rfl
      have e : labR ms (r + 1) i = labR ms r i := by rw [labR_still h0]
      have : labs (labR ms r) ms i = labR ms r i := e
      omega
theorem lab1_two (l : Nat → Int) (an bn : Nat) (x y z d ww low : Int) (h : min (l an) (l bn) = low) : lab1 l ⟨(an : Int), (bn : Int), x, y, z, d, ww⟩ = fun i => if i = bn then low else if i = an then low else l i := by
  funext i
  unfold lab1
  simp only [Int.toNat_natCast, Int.ofNat_inj]
  rw [if_pos (show (0 : Int) ≤ (bn : Int) by omega), h]
  by_cases e : i = bn
  · rw [if_pos (.inr e), if_pos e]
  · rw [if_neg e]
    by_cases e2 : i = an
    · rw [if_pos (.inl e2), if_pos e2]
    · rw [if_neg (by omega), if_neg e2]
theorem lab1_one (l : Nat → Int) (an : Nat) (x y z d ww : Int) : lab1 l ⟨(an : Int), -1, x, y, z, d, ww⟩ = fun i => if i = an then -1 else l i := by
  funext i
  unfold lab1
  simp only
  rw [if_neg (show ¬ (0 : Int) ≤ -1 by omega)]
  by_cases e : i = an
  · rw [if_pos (.inl (by omega)), if_pos e]
  · rw [if_neg (by omega), if_neg e]
theorem lab1_two_same {l : Nat → Int} {an bn : Nat} {x y z d ww low : Int} (h : min (l an) (l bn) = low) (ha : l an = low) (hb : l bn = low) : lab1 l ⟨(an : Int), (bn : Int), x, y, z, d, ww⟩ = l := by
  rw [lab1_two l an bn x y z d ww low h]
  funext i
  by_cases e : i = bn
  · rw [if_pos e, e, hb]
  · rw [if_neg e]
    by_cases e2 : i = an
    · rw [if_pos e2, e2, ha]
    · rw [if_neg e2]
theorem lab1_one_same {l : Nat → Int} {an : Nat} {x y z d ww : Int} (ha : l an = -1) : lab1 l ⟨(an : Int), -1, x, y, z, d, ww⟩ = l := by
  rw [lab1_one]
  funext i
  by_cases e : i = an
  · rw [if_pos e, e, ha]
  · rw [if_neg e]
theorem lab1_two_less {l : Nat → Int} {an bn : Nat} {x y z d ww low : Int} (h : min (l an) (l bn) = low) (hd : l an ≠ low ∨ l bn ≠ low) : ∃ i, lab1 l ⟨(an : Int), (bn : Int), x, y, z, d, ww⟩ i < l i := by
  rw [lab1_two l an bn x y z d ww low h]
  rcases hd with hd | hd
  · refine ⟨an, ?_⟩
    simp only
    split
    · omega
    · rw [if_pos trivial]; omega
  · exact ⟨bn, by simp only [if_true]; omega⟩
theorem lab1_one_less {l : Nat → Int} {an : Nat} {x y z d ww : Int} (hl : -1 ≤ l an) (hd : l an ≠ -1) : ∃ i, lab1 l ⟨(an : Int), -1, x, y, z, d, ww⟩ i < l i := by
  rw [lab1_one]
  exact ⟨an, by simp only [if_true]; omega⟩
theorem labs_low {ms : List Mt} (h0 : ∀ m ∈ ms, 0 ≤ m.a) (r k i : Nat) : -1 ≤ labs (labR ms r) (ms.take k) i := (labs_le (ms := ms.take k) (fun m hm => h0 m (List.mem_of_mem_take hm)) (labR_low h0 r) i).2
end Go.Proofs.Ytikhlcgnlbinfaa
namespace Go.Proofs.Ytikhlcgnlbinfaa
open Go.RowKit

set_option maxRecDepth 100000 in
set_option maxHeartbeats 2000000 in
theorem grp_r17 (go gm S an bn : Nat) (la lb low : Int) (w : World) (v0 : w.cell? ⟨gm, 0, none⟩ = some (.int .i64 (an : Int))) (v1 : w.cell? ⟨gm, 1, none⟩ = some (.int .i64 (bn : Int))) (ca : w.cell? ⟨go, an, none⟩ = some (.int .i64 la)) (cb : w.cell? ⟨go, bn, none⟩ = some (.int .i64 lb)) (hlow : Hid (min la lb = low)) (han : an < S) (hbn : bn < S) (a : Act) (Q : Exit → Act → World → Prop) (hsize : 48 ≤ a.tmps.size)
    (s4 : a.tmps[4]? = some (.slice (some ⟨go, 0, none⟩) S S))
    (s8 : a.tmps[8]? = some (.pointer (some ⟨gm, 0, none⟩)))
    (hend : ∀ (xv0 xv1 xv2 xv3 xv4 xv5 xv6 xv7 xv8 xv9 xv10 : Value) (W : World), (xv0 = .slice (some ⟨go, 0, none⟩) S S) → (xv1 = .pointer (some ⟨gm, 0, none⟩)) → (xv2 = .int .i64 (an : Int)) → (xv3 = .pointer (some ⟨go, an, none⟩)) → (xv4 = .int .i64 (la)) → (xv5 = .slice (some ⟨go, 0, none⟩) S S) → (xv6 = .pointer (some ⟨gm, 1, none⟩)) → (xv7 = .int .i64 (bn : Int)) → (xv8 = .pointer (some ⟨go, bn, none⟩)) → (xv9 = .int .i64 (lb)) → (xv10 = .int .i64 low) → Ext w W → wpList Try.prog (rops Try.f72 17).toArray Q ((rops Try.f72 17).drop 11) (((((((((((a.put (some 37) xv0).put (some 38) xv1).put (some 39) xv2).put (some 40) xv3).put (some 41) xv4).put (some 42) xv5).put (some 43) xv6).put (some 44) xv7).put (some 45) xv8).put (some 46) xv9).put (some 47) xv10) W) :
    (Code.region 17 (rops Try.f72 17).toArray true).wp Try.prog Q a w := by
  have hmono : ∀ (W W' : World) (j : Nat) (u : Value), Ext W W' → (fun (i : Nat) (v : Value) (W : World) => match i with
    | 0 => v = .slice (some ⟨go, 0, none⟩) S S
    | 1 => v = .pointer (some ⟨gm, 0, none⟩)
    | 2 => v = .int .i64 (an : Int)
    | 3 => v = .pointer (some ⟨go, an, none⟩)
    | 4 => v = .int .i64 (la)
    | 5 => v = .slice (some ⟨go, 0, none⟩) S S
    | 6 => v = .pointer (some ⟨gm, 1, none⟩)
    | 7 => v = .int .i64 (bn : Int)
    | 8 => v = .pointer (some ⟨go, bn, none⟩)
    | 9 => v = .int .i64 (lb)
    | 10 => v = .int .i64 low
    | _ => True) j u W → (fun (i : Nat) (v : Value) (W : World) => match i with
    | 0 => v = .slice (some ⟨go, 0, none⟩) S S
    | 1 => v = .pointer (some ⟨gm, 0, none⟩)
    | 2 => v = .int .i64 (an : Int)
    | 3 => v = .pointer (some ⟨go, an, none⟩)
    | 4 => v = .int .i64 (la)
    | 5 => v = .slice (some ⟨go, 0, none⟩) S S
    | 6 => v = .pointer (some ⟨gm, 1, none⟩)
    | 7 => v = .int .i64 (bn : Int)
    | 8 => v = .pointer (some ⟨go, bn, none⟩)
    | 9 => v = .int .i64 (lb)
    | 10 => v = .int .i64 low
    | _ => True) j u W' := by
    intro W W' j u hX h
    match j, h with
    | 0, h => exact h
    | 1, h => exact h
    | 2, h => exact h
    | 3, h => exact h
    | 4, h => exact h
    | 5, h => exact h
    | 6, h => exact h
    | 7, h => exact h
    | 8, h => exact h
    | 9, h => exact h
    | 10, h => exact h
    | _ + 11, h => exact h
  have hsz : ∀ d, some d ∈ ([some 37, some 38, some 39, some 40, some 41, some 42, some 43, some 44, some 45, some 46, some 47] : List (Option Tmp)) → d < a.tmps.size := slots_lt (by decide) hsize
  refine wp_region_j 11 [some 37, some 38, some 39, some 40, some 41, some 42, some 43, some 44, some 45, some 46, some 47] [[], [], [1], [0, 2], [3], [], [], [6], [5, 7], [8], [4, 9]] [[], [], [], [], [], [], [], [], [], [], []] (fun (i : Nat) (v : Value) (W : World) => match i with
    | 0 => v = .slice (some ⟨go, 0, none⟩) S S
    | 1 => v = .pointer (some ⟨gm, 0, none⟩)
    | 2 => v = .int .i64 (an : Int)
    | 3 => v = .pointer (some ⟨go, an, none⟩)
    | 4 => v = .int .i64 (la)
    | 5 => v = .slice (some ⟨go, 0, none⟩) S S
    | 6 => v = .pointer (some ⟨gm, 1, none⟩)
    | 7 => v = .int .i64 (bn : Int)
    | 8 => v = .pointer (some ⟨go, bn, none⟩)
    | 9 => v = .int .i64 (lb)
    | 10 => v = .int .i64 low
    | _ => True) (fun _ W => Ext w W) (by kernel_rfl) (by kernel_rfl) hsz (fun _ _ _ _ h => h) ((Ext.refl w).drew) ?_ ?_
  · clear hend
    simp only [rops, Try.f72, regOf, Option.bind_some, Nat.reduceBEq, if_true, if_false, Bool.false_eq_true, Option.getD_some]
    simp only [List.take_succ_cons, List.take_zero]
    refine ⟨?_, ?_, ?_, ?_, ?_, ?_, ?_, ?_, ?_, ?_, ?_, trivial⟩
    · intro done us W hJ hdep haft hnot b hb hb' K hK Q'
      have e4 := (hb' 4 (by simp)).trans s4
      clear hb hb'
      go_simp
      exact hK _ _ rfl (fun _ _ _ h => h) hJ
    · intro done us W hJ hdep haft hnot b hb hb' K hK Q'
      have e8 := (hb' 8 (by simp)).trans s8
      clear hb hb'
      go_simp
      exact hK _ _ rfl (fun _ _ _ h => h) hJ
    · intro done us W hJ hdep haft hnot b hb hb' K hK Q'
      simp only [List.getD_cons_succ, List.getD_cons_zero, List.mem_cons, List.not_mem_nil, or_false, forall_eq] at hdep
      have e38 := hb 1 38 rfl
      have d1 := hdep
      rw [d1.1] at e38
      clear hb hb' hdep d1
      have q := Ext.cell hJ v0
      go_simp
      exact hK _ _ rfl (fun _ _ _ h => h) hJ
    · intro done us W hJ hdep haft hnot b hb hb' K hK Q'
      simp only [List.getD_cons_succ, List.getD_cons_zero, List.mem_cons, List.not_mem_nil, or_false, forall_eq_or_imp, forall_eq] at hdep
      have e37 := hb 0 37 rfl
      have e39 := hb 2 39 rfl
      have d0 := hdep.1
      have d2 := hdep.2
      rw [d0.1] at e37
      rw [d2.1] at e39
      clear hb hb' hdep d0 d2
      go_simp
      exact hK _ _ rfl (fun _ _ _ h => h) hJ
    · intro done us W hJ hdep haft hnot b hb hb' K hK Q'
      simp only [List.getD_cons_succ, List.getD_cons_zero, List.mem_cons, List.not_mem_nil, or_false, forall_eq] at hdep
      have e40 := hb 3 40 rfl
      have d3 := hdep
      rw [d3.1] at e40
      clear hb hb' hdep d3
      have q := Ext.cell hJ ca
      go_simp
      exact hK _ _ rfl (fun _ _ _ h => h) hJ
    · intro done us W hJ hdep haft hnot b hb hb' K hK Q'
      have e4 := (hb' 4 (by simp)).trans s4
      clear hb hb'
      go_simp
      exact hK _ _ rfl (fun _ _ _ h => h) hJ
    · intro done us W hJ hdep haft hnot b hb hb' K hK Q'
      have e8 := (hb' 8 (by simp)).trans s8
      clear hb hb'
      go_simp
      exact hK _ _ rfl (fun _ _ _ h => h) hJ
    · intro done us W hJ hdep haft hnot b hb hb' K hK Q'
      simp only [List.getD_cons_succ, List.getD_cons_zero, List.mem_cons, List.not_mem_nil, or_false, forall_eq] at hdep
      have e43 := hb 6 43 rfl
      have d6 := hdep
      rw [d6.1] at e43
      clear hb hb' hdep d6
      have q := Ext.cell hJ v1
      go_simp
      exact hK _ _ rfl (fun _ _ _ h => h) hJ
    · intro done us W hJ hdep haft hnot b hb hb' K hK Q'
      simp only [List.getD_cons_succ, List.getD_cons_zero, List.mem_cons, List.not_mem_nil, or_false, forall_eq_or_imp, forall_eq] at hdep
      have e42 := hb 5 42 rfl
      have e44 := hb 7 44 rfl
      have d5 := hdep.1
      have d7 := hdep.2
      rw [d5.1] at e42
      rw [d7.1] at e44
      clear hb hb' hdep d5 d7
      go_simp
      exact hK _ _ rfl (fun _ _ _ h => h) hJ
    · intro done us W hJ hdep haft hnot b hb hb' K hK Q'
      simp only [List.getD_cons_succ, List.getD_cons_zero, List.mem_cons, List.not_mem_nil, or_false, forall_eq] at hdep
      have e45 := hb 8 45 rfl
      have d8 := hdep
      rw [d8.1] at e45
      clear hb hb' hdep d8
      have q := Ext.cell hJ cb
      go_simp
      exact hK _ _ rfl (fun _ _ _ h => h) hJ
    · intro done us W hJ hdep haft hnot b hb hb' K hK Q'
      simp only [List.getD_cons_succ, List.getD_cons_zero, List.mem_cons, List.not_mem_nil, or_false, forall_eq_or_imp, forall_eq] at hdep
      have e41 := hb 4 41 rfl
      have e46 := hb 9 46 rfl
      have d4 := hdep.1
      have d9 := hdep.2
      rw [d4.1] at e41
      rw [d9.1] at e46
      clear hb hb' hdep d4 d9
      go_simp
      exact hK _ _ (congrArg (Value.int .i64) hlow.out) (fun _ _ _ h => h) hJ
  · intro us W hV hJ
    exact hend (us 0) (us 1) (us 2) (us 3) (us 4) (us 5) (us 6) (us 7) (us 8) (us 9) (us 10) W (hV 0 (by omega)) (hV 1 (by omega)) (hV 2 (by omega)) (hV 3 (by omega)) (hV 4 (by omega)) (hV 5 (by omega)) (hV 6 (by omega)) (hV 7 (by omega)) (hV 8 (by omega)) (hV 9 (by omega)) (hV 10 (by omega)) hJ
set_option maxRecDepth 100000 in
set_option maxHeartbeats 16000000 in
theorem groups_ok (S : Nat) (A : Option Addr) (n c : Nat) (ms : List Mt) (w : World) (h : MsAt w A n ms) (hv : VP (S : Int) ms) :
    Calls Try.prog 72 #[.agg #[.int .i64 (S : Int), .slice A n c]] w (fun e w' => ∃ go, e = .returned (.tuple #[.slice (some ⟨go, 0, none⟩) S S, .int .i64 0]) ∧ RowI w.heap.size w' go S S (labR ms S) ∧ Ext w w') := by
  have hS1 : 1 ≤ S := by have := hv.1; omega
  have hS8 : S ≤ 8 := by have := hv.2.1; omega
  have hn64 : n ≤ 64 := by have := hv.2.2.1; have := h.1; omega
  have H := Lib.hid h
  have HL := Lib.hid h.1
  have HVM := Lib.hid hv.2.2.2
  have H0 : Hid (∀ m ∈ ms, 0 ≤ m.a ∧ m.a < S ∧ m.b < S) := Lib.hid (fun m hm => ⟨(hv.2.2.2 m hm).a0, (hv.2.2.2 m hm).aS, (hv.2.2.2 m hm).bS⟩)
  have HR : Hid (vpB (S : Int) ms = true) := Lib.hid (vpB_iff.2 hv)
  have HX := Lib.hid ((Ext.refl w).alloc (.cells #[.int .i64 (S : Int), .slice A n c] 76))
  have HP := Lib.hid (Blk.new w 76 #[.int .i64 (S : Int), .slice A n c])
  clear h hv
  go_enter Try.func72, Try.ntmps72
  go_upto_region 1 with (fail)
  generalize w.alloc (.cells #[.int .i64 (S : Int), .slice A n c] 76) = w1 at HX HP ⊢
  have p0 := HP.out.cell 0
  have p1 := HP.out.cell 1
  simp only [List.getElem?_toArray, List.getElem?_cons_zero, List.getElem?_cons_succ] at p0 p1
  go_wp2_with fail
  refine (valid5_any (S : Int) A n c ms _ (H.out.ext HX.out)).mono ?_
  rw [HR.out]
  rintro e w2 ⟨rfl, hX⟩
  replace HX := Lib.hid (HX.out.trans hX)
  replace HP := Lib.hid (HP.out.ext hX)
  clear hX p0 p1
  have p0 := HP.out.cell 0
  have p1 := HP.out.cell 1
  simp only [List.getElem?_toArray, List.getElem?_cons_zero, List.getElem?_cons_succ] at p0 p1
  have hs2 := HX.out.size
  go_upto_region 4 with (at_make; refine wpList_mk w2 elI rfl rfl _ _ rfl w.heap.size _ _ _ _ S S rfl rfl (by first | rfl | omega) (by first | rfl | omega) (Nat.le_refl _) (by omega) (by unfold maxLen; omega) hs2 ?_; intro w3 hown hext hsz)
  have hrow : RowI w.heap.size w3 w2.heap.size S S (fun _ => 0) := RowI.zero hown
  have hpl := HP.out.lt
  replace HX := Lib.hid (HX.out.trans hext)
  replace HP := Lib.hid (HP.out.ext hext)
  generalize w2.heap.size = go at hrow hpl hsz hs2 ⊢
  have HQ := Lib.hid hrow
  clear hrow hown hext p0 p1 hsz
  go_wp2_with fail
  go_loopg [18] S (fun f iv wr => ∃ j : Nat, f = S - j ∧ j ≤ S ∧ iv = .int .i64 (j : Int) ∧ Hid (RowI w.heap.size wr go S S (fun u => if u < j then (u : Int) else 0)) ∧ Hid (Blk wr w.heap.size 76 #[.int .i64 (S : Int), .slice A n c]) ∧ Hid (Ext w wr))
  case atStart => exact ⟨0, by omega, by omega, rfl, Lib.hid (HQ.out.congr (fun u _ => by rw [if_neg (by omega)])), HP, HX⟩
  case round =>
    clear HQ HP HX
    obtain ⟨j, rfl, hj, rfl, HQ, HP, HX⟩ := hrel
    by_cases hlt : j < S
    · have q1 : decide (j < S) = true := decide_eq_true hlt
      have x0 := RowI.cell HQ.out hlt
      have f0 := RowI.free HQ.out j
      go_wp2
      clear x0 f0
      have hput := RowI.put HQ.out hlt (j : Int)
      go_roundg (S - (j + 1))
      case rel =>
        refine ⟨j + 1, rfl, by omega, by go_num, Lib.hid (hput.congr (fun u _ => ?_)), Lib.hid (HP.out.far (by simp only; omega) _), Lib.hid (HX.out.setCell (by simp only; omega) _)⟩
        by_cases e : u = j
        · rw [if_pos e, if_pos (by omega), e]
        · rw [if_neg e]
          by_cases h2 : u < j
          · rw [if_pos h2, if_pos (by omega)]
          · rw [if_neg h2, if_neg (by omega)]
      case measure => omega
    · obtain rfl : S = j := by omega
      have q1 : decide (S < S) = false := by simp
      go_wp2_with fail
      go_loopg [6] (S + 1) (fun fu cv wa => ∃ (r : Nat) (ch : Bool), r ≤ S ∧ cv = .bool ch ∧ fu = (if ch then S - r + 1 else 0) ∧ Hid (RowI w.heap.size wa go S S (labR ms r)) ∧ Hid (ch = false → labR ms r = labR ms S) ∧ Hid (Blk wa w.heap.size 76 #[.int .i64 (S : Int), .slice A n c]) ∧ Hid (Ext w wa))
      case atStart => exact ⟨0, true, by omega, rfl, by simp, Lib.hid (HQ.out.congr (fun u hu => by rw [if_pos hu]; rfl)), Lib.hid (fun h => by cases h), HP, HX⟩
      case round =>
        clear HQ HP HX
        obtain ⟨r, ch, hr, rfl, rfl, HQ, HE, HP, HX⟩ := hrel
        by_cases hch : ch = true
        · subst hch
          clear HE
          have p1 := HP.out.cell 1
          simp only [List.getElem?_toArray, List.getElem?_cons_zero, List.getElem?_cons_succ] at p1
          go_wp2_with fail
          clear p1
          go_loopg [6, 30] n (fun fu cv iv wz => ∃ (k : Nat) (ch : Bool), fu = n - k ∧ k ≤ n ∧ cv = .bool ch ∧ iv = .int .i64 (k : Int) ∧ Hid (RowI w.heap.size wz go S S (labs (labR ms r) (ms.take k))) ∧ Hid (ChgB (labR ms r) ms k ch) ∧ Hid (Blk wz w.heap.size 76 #[.int .i64 (S : Int), .slice A n c]) ∧ Hid (Ext w wz))
          case atStart => exact ⟨0, false, by omega, by omega, rfl, rfl, Lib.hid (HQ.out.congr (fun u _ => rfl)), Lib.hid (ChgB.zero _ _), HP, HX⟩
          case round =>
            clear HQ HP HX
            obtain ⟨k, ch, rfl, hk, rfl, rfl, HQ, HC, HP, HX⟩ := hrel
            by_cases hkn : k < n
            · have q2 : decide (k < n) = true := decide_eq_true hkn
              obtain ⟨gq, oq, ⟨a, b, x, y, z, d, ww⟩, rfl, hm, hmem, x0, x1, x2, x3, x4, x5, x6⟩ := (H.out.ext HX.out).get hkn
              simp only at x0 x1 x2 x3 x4 x5 x6
              have hVMm := HVM.out _ hmem
              have hma := hVMm.a0
              have hmaS := hVMm.aS
              have hmb := hVMm.b0
              have hmbS := hVMm.bS
              have hmne := hVMm.ne
              simp only at hma hmaS hmb hmbS hmne
              have HTM := Lib.hid hm
              clear hm hmem hVMm
              obtain ⟨an, rfl⟩ : ∃ an : Nat, a = an := ⟨a.toNat, by omega⟩
              have hanS : an < S := by omega
              clear hma hmaS
              go_upto_region 15 with (fail)
              by_cases hb0 : 0 ≤ b
              · obtain ⟨bn, rfl⟩ : ∃ bn : Nat, b = bn := ⟨b.toNat, by omega⟩
                have hbnS : bn < S := by omega
                have habn : an ≠ bn := by omega
                clear hmb hmbS hmne
                have q8 : decide ((0 : Int) ≤ (bn : Int)) = true := decide_eq_true hb0
                clear hb0
                have hXa : Ext wr (wr.alloc (.cells #[.int .i64 (an : Int), .int .i64 (bn : Int), .int .i64 (x), .int .i64 (y), .int .i64 (z), .int .i64 (d), .int .i64 (ww)] 90)) := (Ext.refl _).alloc _
                have kM := Blk.new wr 90 #[.int .i64 (an : Int), .int .i64 (bn : Int), .int .i64 (x), .int .i64 (y), .int .i64 (z), .int .i64 (d), .int .i64 (ww)]
                have hgl := (RowI.low HQ.out).2
                replace HX := Lib.hid (HX.out.trans hXa)
                replace HQ := Lib.hid (RowI.ext HQ.out hXa)
                replace HP := Lib.hid (HP.out.ext hXa)
                clear hXa x0 x1 x2 x3 x4 x5 x6
                generalize wr.heap.size = gm at kM hgl ⊢
                generalize wr.alloc (.cells #[.int .i64 (an : Int), .int .i64 (bn : Int), .int .i64 (x), .int .i64 (y), .int .i64 (z), .int .i64 (d), .int .i64 (ww)] 90) = w5 at kM HX HQ HP ⊢
                have HM := Lib.hid kM
                clear kM
                have v0 := HM.out.cell 0
                have v1 := HM.out.cell 1
                simp only [List.getElem?_toArray, List.getElem?_cons_zero, List.getElem?_cons_succ] at v0 v1
                obtain ⟨la, hla⟩ : ∃ la, (labs (labR ms r) (ms.take k)) an = la := ⟨_, rfl⟩
                have ca := RowI.cell HQ.out hanS
                rw [hla] at ca
                have HLA := Lib.hid hla
                have hlow0 := labs_low (ms := ms) (fun m hm => (H0.out m hm).1) r k an
                rw [hla] at hlow0
                clear hla
                obtain ⟨lb, hlb⟩ : ∃ lb, (labs (labR ms r) (ms.take k)) bn = lb := ⟨_, rfl⟩
                have cb := RowI.cell HQ.out hbnS
                rw [hlb] at cb
                have HLB := Lib.hid hlb
                clear hlb
                obtain ⟨low, hlow⟩ : ∃ low, min la lb = low := ⟨_, rfl⟩
                have hmin := hlow
                have HLO := Lib.hid hlow
                have HMIN : Hid (min ((labs (labR ms r) (ms.take k)) an) ((labs (labR ms r) (ms.take k)) bn) = low) := Lib.hid (by rw [HLA.out, HLB.out]; exact hmin)
                clear hlow hmin
                go_upto_region 17 with (fail)
                refine grp_r17 go gm S an bn la lb low w5 v0 v1 ca cb HLO hanS hbnS _ _ (by simp) rfl rfl ?_
                rintro xv0 xv1 xv2 xv3 xv4 xv5 xv6 xv7 xv8 xv9 xv10 W rfl rfl rfl rfl rfl rfl rfl rfl rfl rfl rfl hX
                simp only [rops, Try.f72, regOf, Option.bind_some, Nat.reduceBEq, if_true, if_false, Bool.false_eq_true, Option.getD_some, List.drop_succ_cons, List.drop_zero]
                simp only [Act.put, List.setIfInBounds_toArray, List.set_cons_succ, List.set_cons_zero]
                replace HX := Lib.hid (HX.out.trans hX)
                replace HQ := Lib.hid (RowI.ext HQ.out hX)
                replace HP := Lib.hid (HP.out.ext hX)
                replace HM := Lib.hid (HM.out.ext hX)
                clear hX v0 v1 ca cb
                have v0 := HM.out.cell 0
                have v1 := HM.out.cell 1
                simp only [List.getElem?_toArray, List.getElem?_cons_zero, List.getElem?_cons_succ] at v0 v1
                have ca := RowI.cell HQ.out hanS
                rw [HLA.out] at ca
                have cb := RowI.cell HQ.out hbnS
                rw [HLB.out] at cb
                have hea : la ≠ low ∨ la = low := by omega
                have heb : lb ≠ low ∨ lb = low := by omega
                have HEQ : Hid (la = low → lb = low → ChgB (labR ms r) ms (k + 1) ch) := Lib.hid (fun e1 e2 => HC.out.same HTM.out (lab1_two_same HMIN.out (HLA.out.trans e1) (HLB.out.trans e2)))
                have HNE : Hid (la ≠ low ∨ lb ≠ low → ChgB (labR ms r) ms (k + 1) true) := Lib.hid (fun hd => ChgB.less (fun m hm => (H0.out m hm).1) (labR_low (fun m hm => (H0.out m hm).1) r) HTM.out (lab1_two_less HMIN.out (by rw [HLA.out, HLB.out]; exact hd)))
                have HST : Hid (labs (labR ms r) (ms.take (k + 1)) = fun i => if i = bn then low else if i = an then low else (labs (labR ms r) (ms.take k)) i) := Lib.hid (by rw [labs_take HTM.out, lab1_two _ an bn x y z d ww low HMIN.out])
                have HSA : Hid (la = low → lb = low → labs (labR ms r) (ms.take (k + 1)) = (labs (labR ms r) (ms.take k))) := Lib.hid (fun e1 e2 => by rw [labs_take HTM.out]; exact lab1_two_same HMIN.out (HLA.out.trans e1) (HLB.out.trans e2))
                clear HMIN HLO HLA HLB HC
                by_cases ha : la = low
                · by_cases hb : lb = low
                  · have q5 : (la != low) = false := by simpa using ha
                    have q6 : (lb != low) = false := by simpa using hb
                    have HA := Lib.hid ha
                    have HB := Lib.hid hb
                    clear ha hb hea heb
                    go_wp2
                    go_roundg (n - (k + 1))
                    case rel => exact ⟨k + 1, ch, rfl, by omega, rfl, by go_num, Lib.hid (HQ.out.congr (fun u _ => by rw [HSA.out HA.out HB.out])), Lib.hid (HEQ.out HA.out HB.out), HP, HX⟩
                    case measure => omega
                  · have q5 : (la != low) = false := by simpa using ha
                    have q6 : (lb != low) = true := by simpa using hb
                    have HD : Hid (la ≠ low ∨ lb ≠ low) := Lib.hid (.inr hb)
                    clear ha hb hea heb
                    have f0 := RowI.free HQ.out an
                    have HPUT := Lib.hid (RowI.put HQ.out hanS low)
                    have HM2 := Lib.hid (HM.out.far (p := ⟨go, an, none⟩) (by simp only; omega) (.int .i64 low))
                    have HP2 := Lib.hid (HP.out.far (p := ⟨go, an, none⟩) (by simp only; omega) (.int .i64 low))
                    have HX2 := Lib.hid (HX.out.setCell (p := ⟨go, an, none⟩) (by simp only; omega) (.int .i64 low))
                    go_upto_region 20 with (fail)
                    clear v0 v1 ca cb f0 HM HP HX HQ
                    generalize W.setCell ⟨go, an, none⟩ (.int .i64 low) = wb at HPUT HM2 HP2 HX2 ⊢
                    have v1 := HM2.out.cell 1
                    simp only [List.getElem?_toArray, List.getElem?_cons_zero, List.getElem?_cons_succ] at v1
                    have cb := RowI.cell HPUT.out hbnS
                    have f1 := RowI.free HPUT.out bn
                    have HPUU := Lib.hid (RowI.put HPUT.out hbnS low)
                    go_wp2
                    go_roundg (n - (k + 1))
                    case rel => exact ⟨k + 1, true, rfl, by omega, rfl, by go_num, Lib.hid (HPUU.out.congr (fun u _ => by rw [HST.out])), Lib.hid (HNE.out HD.out), Lib.hid (HP2.out.far (by simp only; omega) _), Lib.hid (HX2.out.setCell (by simp only; omega) _)⟩
                    case measure => omega
                · have q5 : (la != low) = true := by simpa using ha
                  have HD : Hid (la ≠ low ∨ lb ≠ low) := Lib.hid (.inl ha)
                  clear ha hea heb
                  have f0 := RowI.free HQ.out an
                  have HPUT := Lib.hid (RowI.put HQ.out hanS low)
                  have HM2 := Lib.hid (HM.out.far (p := ⟨go, an, none⟩) (by simp only; omega) (.int .i64 low))
                  have HP2 := Lib.hid (HP.out.far (p := ⟨go, an, none⟩) (by simp only; omega) (.int .i64 low))
                  have HX2 := Lib.hid (HX.out.setCell (p := ⟨go, an, none⟩) (by simp only; omega) (.int .i64 low))
                  go_upto_region 20 with (fail)
                  clear v0 v1 ca cb f0 HM HP HX HQ
                  generalize W.setCell ⟨go, an, none⟩ (.int .i64 low) = wb at HPUT HM2 HP2 HX2 ⊢
                  have v1 := HM2.out.cell 1
                  simp only [List.getElem?_toArray, List.getElem?_cons_zero, List.getElem?_cons_succ] at v1
                  have cb := RowI.cell HPUT.out hbnS
                  have f1 := RowI.free HPUT.out bn
                  have HPUU := Lib.hid (RowI.put HPUT.out hbnS low)
                  go_wp2
                  go_roundg (n - (k + 1))
                  case rel => exact ⟨k + 1, true, rfl, by omega, rfl, by go_num, Lib.hid (HPUU.out.congr (fun u _ => by rw [HST.out])), Lib.hid (HNE.out HD.out), Lib.hid (HP2.out.far (by simp only; omega) _), Lib.hid (HX2.out.setCell (by simp only; omega) _)⟩
                  case measure => omega
              · obtain rfl : b = -1 := by omega
                clear hmb hmbS hmne hb0
                have hXa : Ext wr (wr.alloc (.cells #[.int .i64 (an : Int), .int .i64 (-1), .int .i64 (x), .int .i64 (y), .int .i64 (z), .int .i64 (d), .int .i64 (ww)] 90)) := (Ext.refl _).alloc _
                have kM := Blk.new wr 90 #[.int .i64 (an : Int), .int .i64 (-1), .int .i64 (x), .int .i64 (y), .int .i64 (z), .int .i64 (d), .int .i64 (ww)]
                have hgl := (RowI.low HQ.out).2
                replace HX := Lib.hid (HX.out.trans hXa)
                replace HQ := Lib.hid (RowI.ext HQ.out hXa)
                replace HP := Lib.hid (HP.out.ext hXa)
                clear hXa x0 x1 x2 x3 x4 x5 x6
                generalize wr.heap.size = gm at kM hgl ⊢
                generalize wr.alloc (.cells #[.int .i64 (an : Int), .int .i64 (-1), .int .i64 (x), .int .i64 (y), .int .i64 (z), .int .i64 (d), .int .i64 (ww)] 90) = w5 at kM HX HQ HP ⊢
                have HM := Lib.hid kM
                clear kM
                have v0 := HM.out.cell 0
                have v1 := HM.out.cell 1
                simp only [List.getElem?_toArray, List.getElem?_cons_zero, List.getElem?_cons_succ] at v0 v1
                obtain ⟨la, hla⟩ : ∃ la, (labs (labR ms r) (ms.take k)) an = la := ⟨_, rfl⟩
                have ca := RowI.cell HQ.out hanS
                rw [hla] at ca
                have HLA := Lib.hid hla
                have hlow0 := labs_low (ms := ms) (fun m hm => (H0.out m hm).1) r k an
                rw [hla] at hlow0
                clear hla
                have hea : la ≠ -1 ∨ la = -1 := by omega
                have HST : Hid (labs (labR ms r) (ms.take (k + 1)) = fun i => if i = an then -1 else (labs (labR ms r) (ms.take k)) i) := Lib.hid (by rw [labs_take HTM.out, lab1_one])
                by_cases ha : la = -1
                · have q5 : (la != -1) = false := by simpa using ha
                  have HA := Lib.hid ha
                  clear ha hea
                  go_wp2
                  go_roundg (n - (k + 1))
                  case rel => exact ⟨k + 1, ch, rfl, by omega, rfl, by go_num, Lib.hid (HQ.out.congr (fun u _ => by rw [labs_take HTM.out, lab1_one_same (HLA.out.trans HA.out)])), Lib.hid (HC.out.same HTM.out (lab1_one_same (HLA.out.trans HA.out))), HP, HX⟩
                  case measure => omega
                · have q5 : (la != -1) = true := by simpa using ha
                  have HD := Lib.hid ha
                  clear ha hea
                  have f0 := RowI.free HQ.out an
                  have hput := RowI.put HQ.out hanS (-1)
                  have HPUT := Lib.hid hput
                  have v1s : (w5.setCell ⟨go, an, none⟩ (.int .i64 (-1))).cell? ⟨gm, 1, none⟩ = some (.int .i64 (-1)) := by
                    have := (HM.out.far (p := ⟨go, an, none⟩) (by simp only; omega) (.int .i64 (-1))).cell 1
                    simpa using this
                  clear hput
                  go_wp2
                  go_roundg (n - (k + 1))
                  case rel =>
                    exact ⟨k + 1, true, rfl, by omega, rfl, by go_num, Lib.hid (HPUT.out.congr (fun u _ => by rw [HST.out])), Lib.hid (ChgB.less (fun m hm => (H0.out m hm).1) (labR_low (fun m hm => (H0.out m hm).1) r) HTM.out (lab1_one_less (by rw [HLA.out]; exact hlow0) (by rw [HLA.out]; exact HD.out))), Lib.hid (HP.out.far (by simp only; omega) _), Lib.hid (HX.out.setCell (by simp only; omega) _)⟩
                  case measure => omega
            · obtain rfl : n = k := by omega
              have q2 : decide (n < n) = false := by simp
              have HTK : Hid (ms.take n = ms) := Lib.hid (List.take_of_length_le (by have := HL.out; omega))
              have hd := HC.out.done H0.out hr HTK.out
              rw [HTK.out] at HQ
              by_cases hc2 : ch = true
              · subst hc2
                have hr2 : r < S := by rcases hd with ⟨h, _⟩ | ⟨_, h⟩; cases h; exact h
                clear hd
                go_wp2
                go_roundg (S - (r + 1) + 1)
                case rel => exact ⟨r + 1, true, by omega, rfl, by simp, HQ, Lib.hid (fun h => by cases h), HP, HX⟩
                case measure => simp; omega
              · obtain rfl : ch = false := by simpa using hc2
                have hE : labR ms (r + 1) = labR ms S := by rcases hd with ⟨_, h⟩ | ⟨h, _⟩; exact h; cases h
                have HE := Lib.hid hE
                clear hd hE hc2
                go_wp2
                go_roundg 0
                case rel => exact ⟨S, false, by omega, rfl, by simp, Lib.hid (HQ.out.congr (fun u _ => by rw [← HE.out]; rfl)), Lib.hid (fun _ => rfl), HP, HX⟩
                case measure => simp
        · obtain rfl : ch = false := by simpa using hch
          have HE2 := Lib.hid (HE.out rfl)
          clear hch HE
          go_wp2
          go_ret2
          exact ⟨go, rfl, HQ.out.congr (fun u _ => by rw [HE2.out]), HX.out⟩

end Go.Proofs.Ytikhlcgnlbinfaa
namespace Go.Proofs.Ytikhlcgnlbinfaa

theorem res_fit {S : Int} {m : Mt} (hm : VM S m) {n : Nat} (hn : n ≤ 24) {u : Nat → Rat} (ht : Tame n u) : FitQW (res n m u) := by
  obtain ⟨P, h1, h2, h3⟩ := ht
  exact FitQW.of4 ((tame_res hm hn h1 h2 h3 (Nat.le_refl n)).fit h1 h2) (by decide)
end Go.Proofs.Ytikhlcgnlbinfaa
namespace Go.Proofs.Ytikhlcgnlbinfaa
open Go.RowKit

theorem slope_take {n : Nat} {ms : List Mt} {u : Nat → Rat} {k : Nat} {m : Mt} (h : ms[k]? = some m) (i : Nat) : slope n (ms.take (k + 1)) u i = slope n (ms.take k) u i + ((m.w * cof m i : Int) : Rat) * res n m u := by
  unfold slope
  rw [take_snoc h, sumM_append]
  simp only [sumM]
  grind
/-- The slopes behind k matches and the first i unknowns of the next. -/
def slopeM (n : Nat) (ms : List Mt) (u : Nat → Rat) (k i : Nat) : Nat → Rat := fun j => if j < i then slope n (ms.take (k + 1)) u j else slope n (ms.take k) u j
theorem slopeM_zero (n : Nat) (ms : List Mt) (u : Nat → Rat) (k : Nat) : slopeM n ms u k 0 = slope n (ms.take k) u := by funext j; unfold slopeM; rw [if_neg (by omega)]
theorem slopeM_full {n : Nat} {ms : List Mt} {u : Nat → Rat} {k N : Nat} : ∀ j, j < N → slopeM n ms u k N j = slope n (ms.take (k + 1)) u j := fun j hj => by unfold slopeM; rw [if_pos hj]
theorem slopeM_skip {n : Nat} {ms : List Mt} {u : Nat → Rat} {k i : Nat} {m : Mt} (h : ms[k]? = some m) (hc : cof m i = 0) : slopeM n ms u k (i + 1) = slopeM n ms u k i := by
  funext j
  unfold slopeM
  by_cases e : j = i
  · subst e
    rw [if_pos (by omega), if_neg (by omega), slope_take h, hc, Int.mul_zero]
    grind
  · by_cases hj : j < i
    · rw [if_pos (by omega), if_pos hj]
    · rw [if_neg (by omega), if_neg hj]
theorem slopeM_add {n : Nat} {ms : List Mt} {u : Nat → Rat} {k i : Nat} {m : Mt} (h : ms[k]? = some m) : slopeM n ms u k (i + 1) = fun j => if j = i then slopeM n ms u k i i + ((cof m i : Int) : Rat) * (((m.w : Int) : Rat) * res n m u) else slopeM n ms u k i j := by
  funext j
  unfold slopeM
  by_cases e : j = i
  · subst e
    rw [if_pos (by omega), if_pos rfl, if_neg (by omega), slope_take h, Rat.intCast_mul]
    grind
  · rw [if_neg e]
    by_cases hj : j < i
    · rw [if_pos (by omega), if_pos hj]
    · rw [if_neg (by omega), if_neg hj]
theorem slope_none (n : Nat) (ms : List Mt) (u : Nat → Rat) : slope n (ms.take 0) u = fun _ => 0 := by funext j; rfl
theorem slope_fitL {S : Int} {ms : List Mt} (hm : ∀ m ∈ ms, VM S m) (hl : ms.length ≤ 64) {n : Nat} (hn : n ≤ 24) {u : Nat → Rat} (ht : Tame n u) (k i : Nat) : FitQ (slope n (ms.take k) u i) 57 := by
  obtain ⟨P, h1, h2, h3⟩ := ht
  have := (tame_slope (S := S) (ms := ms.take k) (fun m hm' => hm m (List.mem_of_mem_take hm')) (by rw [List.length_take]; omega) hn h1 h2 h3 i).fit h1 h2
  exact this
end Go.Proofs.Ytikhlcgnlbinfaa
namespace Go.Proofs.Ytikhlcgnlbinfaa
open Go.RowKit

section
variable {w : World} {va vb : Value} {q r : Rat}
theorem addG (h : RatG w va q) (k : RatG w vb r) (hf : FitQW (q + r)) : Calls Try.prog 78 #[va, vb] w (RetC w (q + r)) := by
  obtain ⟨s0, A0, l0, c0, B0, m0, k0, rfl⟩ := h.open
  obtain ⟨s1, A1, l1, c1, B1, m1, k1, rfl⟩ := k.open
  exact eadd_ok s0 s1 A0 B0 A1 B1 l0 c0 m0 k0 l1 c1 m1 k1 q r w h k hf
end
end Go.Proofs.Ytikhlcgnlbinfaa
namespace Go.Proofs.Ytikhlcgnlbinfaa
open Go.RowKit

def aggOf : Value → Array Value
  | .agg vs => vs
  | _ => #[]
theorem Blk.put3 {W : World} {g : Nat} {T : TypeId} {z0 z1 z2 x0 x1 x2 v : Value} (h : Blk W g T #[z0, z1, z2]) (hu : v = .agg #[x0, x1, x2]) : Blk (((W.setCell ⟨g, 0, none⟩ x0).setCell ⟨g, 1, none⟩ x1).setCell ⟨g, 2, none⟩ x2) g T (aggOf v) := by
  subst hu; exact ((h.set 0 _).set 1 _).set 2 _
theorem Loc.revs {w W : World} {T : TypeId} {zs vs vs' : Array Value} {da dst : Prop} {v : Value} (h : Loc w W T zs vs da dst v) (hn : ¬ dst) : Loc w W T zs vs' da dst v := ⟨fun hd => by
  obtain ⟨g, h1, h2, _, h4⟩ := h.ptr hd
  exact ⟨g, h1, h2, fun h => absurd h hn, h4⟩⟩
/-- A number and no error. -/
def TupG (w : World) (v : Value) (q : Rat) : Prop := ∃ x, v = .tuple #[x, .int .i64 0] ∧ RatG w x q
theorem TupG.ext {w w' : World} {v : Value} {q : Rat} (h : TupG w v q) (he : Ext w w') : TupG w' v q := by
  obtain ⟨x, rfl, h⟩ := h
  exact ⟨x, rfl, h.ext he⟩
theorem RatG.keepsNI {w w' : World} {v : Value} {q : Rat} {L : List Nat} (h : RatG w v q) (hk : Keeps L w w') (hN : ∀ g ∈ L, NoInts w g) : RatG w' v q := by
  obtain ⟨neg, xs, ys, ⟨A, l, c, B, m, k, h1, h2, h3, h4, h5, h6⟩, h7, h8⟩ := h
  exact ⟨neg, xs, ys, ⟨A, l, c, B, m, k, h1, h2.keepsNI hk hN, h3, h4, h5.keepsNI hk hN, h6⟩, h7, h8⟩
theorem RatG.past {w : World} {v : Value} {q : Rat} {g : Nat} (h : RatG w v q) (hN : NoInts w g) {b : Bool} {A1 A2 : Option Addr} {l1 c1 l2 c2 : Nat} : RatG (((w.setCell ⟨g, 0, none⟩ (.bool b)).setCell ⟨g, 1, none⟩ (.slice A1 l1 c1)).setCell ⟨g, 2, none⟩ (.slice A2 l2 c2)) v q :=
  h.keepsNI ((((Keeps.refl [g] w).setCell (.inl (by simp)) _).setCell (.inl (by simp)) _).setCell (.inl (by simp)) _) (fun k hk => by simp at hk; subst hk; exact hN)
theorem TupG.past {w : World} {v : Value} {q : Rat} {g : Nat} (h : TupG w v q) (hN : NoInts w g) {b : Bool} {A1 A2 : Option Addr} {l1 c1 l2 c2 : Nat} : TupG (((w.setCell ⟨g, 0, none⟩ (.bool b)).setCell ⟨g, 1, none⟩ (.slice A1 l1 c1)).setCell ⟨g, 2, none⟩ (.slice A2 l2 c2)) v q := by
  obtain ⟨x, rfl, h⟩ := h
  exact ⟨x, rfl, h.past hN⟩

end Go.Proofs.Ytikhlcgnlbinfaa
namespace Go.Proofs.Ytikhlcgnlbinfaa
open Go.RowKit

theorem RowN.make3 {P : World → Value → Rat → Prop} {te : TypeId} {base g n : Nat} {w : World} {us : List Value} (ho : w.ownsRow base te 3 (.slice (some ⟨g, 0, none⟩) n n) n us) (h1 : ∀ i, i < n * 3 → us[i]? = (Value.agg #[.bool false, .slice none 0 0, .slice none 0 0]).cells[i % 3]?) (h2 : ∀ u ∈ us, u ∈ (Value.agg #[.bool false, .slice none 0 0, .slice none 0 0]).cells) : RowN P te 3 base w g n n n (fun _ => none) :=
  RowN.zero rfl ho h1 h2 (fun u hu => by
    simp [Value.cells] at hu
    rcases hu with rfl | rfl
    all_goals first | exact noInt_bool _ | exact noInt_slice _ _ _) ⟨1, rfl⟩ (fun i hi => by
    match i, hi with
    | 0, _ => rfl
    | 1, _ => rfl
    | 2, _ => rfl
    | _ + 3, hi => omega) (by omega)
theorem NumX.past {w : World} {v : Value} {q : Rat} {K g : Nat} (h : NumX w v q K) (hN : NoInts w g) {b : Bool} {A1 A2 : Option Addr} {l1 c1 l2 c2 : Nat} : NumX (((w.setCell ⟨g, 0, none⟩ (.bool b)).setCell ⟨g, 1, none⟩ (.slice A1 l1 c1)).setCell ⟨g, 2, none⟩ (.slice A2 l2 c2)) v q K :=
  h.keepsNI ((((Keeps.refl [g] w).setCell (.inl (by simp)) _).setCell (.inl (by simp)) _).setCell (.inl (by simp)) _) (fun k hk => by simp at hk; subst hk; exact hN)

set_option maxRecDepth 100000 in
set_option maxHeartbeats 2000000 in
theorem slp_r10 (gm gt ot S ct : Nat) (ma mb mx my mz md mw : Int) (un : Nat → Rat) (w : World) (v0 : w.cell? ⟨gm, 0, none⟩ = some (.int .i64 (ma))) (v1 : w.cell? ⟨gm, 1, none⟩ = some (.int .i64 (mb))) (v2 : w.cell? ⟨gm, 2, none⟩ = some (.int .i64 (mx))) (v3 : w.cell? ⟨gm, 3, none⟩ = some (.int .i64 (my))) (v4 : w.cell? ⟨gm, 4, none⟩ = some (.int .i64 (mz))) (v5 : w.cell? ⟨gm, 5, none⟩ = some (.int .i64 (md))) (v6 : w.cell? ⟨gm, 6, none⟩ = some (.int .i64 (mw))) (hS : ShP (fun w v q => NumX w v q 256) w gt ot S un) (hm : VM S ⟨ma, mb, mx, my, mz, md, mw⟩) (hw1 : 1 ≤ mw) (hw2 : mw ≤ 1000) (a : Act) (Q : Exit → Act → World → Prop) (hsize : 40 ≤ a.tmps.size)
    (s0 : a.tmps[0]? = some (.slice (some ⟨gt, ot, none⟩) S ct))
    (s8 : a.tmps[8]? = some (.pointer (some ⟨gm, 0, none⟩)))
    (hend : ∀ (xv0 xv1 xv2 xv3 xv4 xv5 xv6 xv7 xv8 : Value) (W : World), (xv0 = .pointer (some ⟨gm, 6, none⟩)) → (xv1 = .int .i64 (mw)) → (xv3 = .slice (some ⟨gt, ot, none⟩) S ct) → (xv4 = .agg #[.int .i64 (ma), .int .i64 (mb), .int .i64 (mx), .int .i64 (my), .int .i64 (mz), .int .i64 (md), .int .i64 (mw)]) → (NumX W xv2 ((mw : Int) : Rat) 2) → (NumX W xv5 (res (3 * S) ⟨ma, mb, mx, my, mz, md, mw⟩ un) 1550) → (NumX W xv6 (((mw : Int) : Rat) * res (3 * S) ⟨ma, mb, mx, my, mz, md, mw⟩ un) 1552) → (∃ g, xv7 = .pointer (some ⟨g, 0, none⟩) ∧ w.heap.size ≤ g ∧ Blk W g 217 (aggOf xv6)) → Ext w W → wpList Try.prog (rops Try.f137 10).toArray Q [] (((((((((a.put (some 33) xv0).put (some 34) xv1).put (some 35) xv2).put (some 36) xv3).put (some 37) xv4).put (some 38) xv5).put (some 39) xv6).put (some 9) xv7).put (none) xv8) W) :
    (Code.region 10 (rops Try.f137 10).toArray true).wp Try.prog Q a w := by
  have hsz : ∀ d, some d ∈ ([some 33, some 34, some 35, some 36, some 37, some 38, some 39, some 9, none] : List (Option Tmp)) → d < a.tmps.size := slots_lt (by decide) hsize
  refine wp_region_g 9 [some 33, some 34, some 35, some 36, some 37, some 38, some 39, some 9, none] [[], [0], [1], [], [], [3, 4], [2, 5], [], [6, 7]] [[], [], [], [], [], [], [8], [8], []] (fun (done : Nat → Prop) (us : Nat → Value) (W : World) => Ext w W ∧ (done 0 → us 0 = .pointer (some ⟨gm, 6, none⟩)) ∧ (done 1 → us 1 = .int .i64 (mw)) ∧ (done 3 → us 3 = .slice (some ⟨gt, ot, none⟩) S ct) ∧ (done 4 → us 4 = .agg #[.int .i64 (ma), .int .i64 (mb), .int .i64 (mx), .int .i64 (my), .int .i64 (mz), .int .i64 (md), .int .i64 (mw)]) ∧ (done 2 → NumX W (us 2) ((mw : Int) : Rat) 2) ∧ (done 5 → NumX W (us 5) (res (3 * S) ⟨ma, mb, mx, my, mz, md, mw⟩ un) 1550) ∧ (done 6 → NumX W (us 6) (((mw : Int) : Rat) * res (3 * S) ⟨ma, mb, mx, my, mz, md, mw⟩ un) 1552) ∧ Loc w W 217 #[.bool false, .slice none 0 0, .slice none 0 0] (aggOf (us 6)) (done 7) (done 8) (us 7)) (by kernel_rfl) (by kernel_rfl) hsz (fun p q us W h => by have e : p = q := funext fun k => propext (h k); rw [e]; exact id) (fun us => ⟨(Ext.refl w).drew, fun h => h.elim, fun h => h.elim, fun h => h.elim, fun h => h.elim, fun h => h.elim, fun h => h.elim, fun h => h.elim, Loc.unmade id⟩) ?_ ?_
  · clear hend
    simp only [rops, Try.f137, regOf, Option.bind_some, Nat.reduceBEq, if_true, if_false, Bool.false_eq_true, Option.getD_some]
    simp only [List.take_succ_cons, List.take_zero]
    refine ⟨?_, ?_, ?_, ?_, ?_, ?_, ?_, ?_, ?_, trivial⟩
    · intro done us W hJ hdep haft hnot b hb hb' K hK Q'
      obtain ⟨hX0, cc0, cc1, cc3, cc4, pp2, pp5, pp6, ll7⟩ := hJ
      have e8 := (hb' 8 (by simp)).trans s8
      clear hb hb'
      have hfin := hK (.pointer (some ⟨gm, 6, none⟩)) _ ⟨hX0, fun _ => rfl, fun h => cc1 (h.resolve_right (by decide)), fun h => cc3 (h.resolve_right (by decide)), fun h => cc4 (h.resolve_right (by decide)), fun h => pp2 (h.resolve_right (by decide)), fun h => pp5 (h.resolve_right (by decide)), fun h => pp6 (h.resolve_right (by decide)), Loc.same ll7 ⟨fun h => h.resolve_right (by decide), .inl⟩ ⟨fun h => h.resolve_right (by decide), .inl⟩⟩
      clear hK cc0 cc1 cc3 cc4 pp2 pp5 pp6 ll7
      go_simp
      exact hfin
    · intro done us W hJ hdep haft hnot b hb hb' K hK Q'
      obtain ⟨hX0, cc0, cc1, cc3, cc4, pp2, pp5, pp6, ll7⟩ := hJ
      simp only [List.getD_cons_succ, List.getD_cons_zero, List.mem_cons, List.not_mem_nil, or_false, forall_eq] at hdep
      have e33 := hb 0 33 rfl
      rw [cc0 hdep] at e33
      clear hb hb'
      have z0 := Ext.cell hX0 v6
      have hfin := hK (.int .i64 (mw)) _ ⟨hX0, fun h => cc0 (h.resolve_right (by decide)), fun _ => rfl, fun h => cc3 (h.resolve_right (by decide)), fun h => cc4 (h.resolve_right (by decide)), fun h => pp2 (h.resolve_right (by decide)), fun h => pp5 (h.resolve_right (by decide)), fun h => pp6 (h.resolve_right (by decide)), Loc.same ll7 ⟨fun h => h.resolve_right (by decide), .inl⟩ ⟨fun h => h.resolve_right (by decide), .inl⟩⟩
      clear hK cc0 cc1 cc3 cc4 pp2 pp5 pp6 ll7
      go_simp
      exact hfin
    · intro done us W hJ hdep haft hnot b hb hb' K hK Q'
      obtain ⟨hX0, cc0, cc1, cc3, cc4, pp2, pp5, pp6, ll7⟩ := hJ
      simp only [List.getD_cons_succ, List.getD_cons_zero, List.mem_cons, List.not_mem_nil, or_false, forall_eq] at hdep
      have e34 := hb 1 34 rfl
      rw [cc1 hdep] at e34
      clear hb hb'
      go_simp
      refine (intX mw W (by omega) (by omega)).mono ?_
      rintro e w' ⟨v, rfl, hv, hX⟩
      exact hK _ _ ⟨Ext.trans hX0 hX, fun h => cc0 (h.resolve_right (by decide)), fun h => cc1 (h.resolve_right (by decide)), fun h => cc3 (h.resolve_right (by decide)), fun h => cc4 (h.resolve_right (by decide)), fun _ => hv, fun h => NumX.ext (pp5 (h.resolve_right (by decide))) hX, fun h => NumX.ext (pp6 (h.resolve_right (by decide))) hX, Loc.same (ll7.ext hX) ⟨fun h => h.resolve_right (by decide), .inl⟩ ⟨fun h => h.resolve_right (by decide), .inl⟩⟩
    · intro done us W hJ hdep haft hnot b hb hb' K hK Q'
      obtain ⟨hX0, cc0, cc1, cc3, cc4, pp2, pp5, pp6, ll7⟩ := hJ
      have e0 := (hb' 0 (by simp)).trans s0
      clear hb hb'
      have hfin := hK (.slice (some ⟨gt, ot, none⟩) S ct) _ ⟨hX0, fun h => cc0 (h.resolve_right (by decide)), fun h => cc1 (h.resolve_right (by decide)), fun _ => rfl, fun h => cc4 (h.resolve_right (by decide)), fun h => pp2 (h.resolve_right (by decide)), fun h => pp5 (h.resolve_right (by decide)), fun h => pp6 (h.resolve_right (by decide)), Loc.same ll7 ⟨fun h => h.resolve_right (by decide), .inl⟩ ⟨fun h => h.resolve_right (by decide), .inl⟩⟩
      clear hK cc0 cc1 cc3 cc4 pp2 pp5 pp6 ll7
      go_simp
      exact hfin
    · intro done us W hJ hdep haft hnot b hb hb' K hK Q'
      obtain ⟨hX0, cc0, cc1, cc3, cc4, pp2, pp5, pp6, ll7⟩ := hJ
      have e8 := (hb' 8 (by simp)).trans s8
      clear hb hb'
      have z0 := Ext.cell hX0 v0
      have z1 := Ext.cell hX0 v1
      have z2 := Ext.cell hX0 v2
      have z3 := Ext.cell hX0 v3
      have z4 := Ext.cell hX0 v4
      have z5 := Ext.cell hX0 v5
      have z6 := Ext.cell hX0 v6
      have hfin := hK (.agg #[.int .i64 (ma), .int .i64 (mb), .int .i64 (mx), .int .i64 (my), .int .i64 (mz), .int .i64 (md), .int .i64 (mw)]) _ ⟨hX0, fun h => cc0 (h.resolve_right (by decide)), fun h => cc1 (h.resolve_right (by decide)), fun h => cc3 (h.resolve_right (by decide)), fun _ => rfl, fun h => pp2 (h.resolve_right (by decide)), fun h => pp5 (h.resolve_right (by decide)), fun h => pp6 (h.resolve_right (by decide)), Loc.same ll7 ⟨fun h => h.resolve_right (by decide), .inl⟩ ⟨fun h => h.resolve_right (by decide), .inl⟩⟩
      clear hK cc0 cc1 cc3 cc4 pp2 pp5 pp6 ll7
      go_simp
      exact hfin
    · intro done us W hJ hdep haft hnot b hb hb' K hK Q'
      obtain ⟨hX0, cc0, cc1, cc3, cc4, pp2, pp5, pp6, ll7⟩ := hJ
      simp only [List.getD_cons_succ, List.getD_cons_zero, List.mem_cons, List.not_mem_nil, or_false, forall_eq_or_imp, forall_eq] at hdep
      have e36 := hb 3 36 rfl
      rw [cc3 hdep.1] at e36
      have e37 := hb 4 37 rfl
      rw [cc4 hdep.2] at e37
      clear hb hb'
      go_simp
      refine (residual_any (m := ⟨ma, mb, mx, my, mz, md, mw⟩) (hS.ext (growsNum 256) hX0) hm (by omega)).mono ?_
      rintro e w' ⟨v, rfl, hv, hX⟩
      exact hK _ _ ⟨Ext.trans hX0 hX, fun h => cc0 (h.resolve_right (by decide)), fun h => cc1 (h.resolve_right (by decide)), fun h => cc3 (h.resolve_right (by decide)), fun h => cc4 (h.resolve_right (by decide)), fun h => NumX.ext (pp2 (h.resolve_right (by decide))) hX, fun _ => hv, fun h => NumX.ext (pp6 (h.resolve_right (by decide))) hX, Loc.same (ll7.ext hX) ⟨fun h => h.resolve_right (by decide), .inl⟩ ⟨fun h => h.resolve_right (by decide), .inl⟩⟩
    · intro done us W hJ hdep haft hnot b hb hb' K hK Q'
      obtain ⟨hX0, cc0, cc1, cc3, cc4, pp2, pp5, pp6, ll7⟩ := hJ
      simp only [List.getD_cons_succ, List.getD_cons_zero, List.mem_cons, List.not_mem_nil, or_false, forall_eq_or_imp, forall_eq] at hdep
      simp only [List.getD_cons_succ, List.getD_cons_zero, List.mem_cons, List.not_mem_nil, or_false, forall_eq] at haft
      have e35 := hb 2 35 rfl
      have e38 := hb 5 38 rfl
      clear hb hb'
      go_simp
      refine (mulX (pp2 hdep.1) (pp5 hdep.2) (by omega) (by omega)).mono ?_
      rintro e w' ⟨v, rfl, hv, hX⟩
      exact hK _ _ ⟨Ext.trans hX0 hX, fun h => cc0 (h.resolve_right (by decide)), fun h => cc1 (h.resolve_right (by decide)), fun h => cc3 (h.resolve_right (by decide)), fun h => cc4 (h.resolve_right (by decide)), fun h => NumX.ext (pp2 (h.resolve_right (by decide))) hX, fun h => NumX.ext (pp5 (h.resolve_right (by decide))) hX, fun _ => hv, Loc.same (Loc.revs (ll7.ext hX) haft) ⟨fun h => h.resolve_right (by decide), .inl⟩ ⟨fun h => h.resolve_right (by decide), .inl⟩⟩
    · intro done us W hJ hdep haft hnot b hb hb' K hK Q'
      obtain ⟨hX0, cc0, cc1, cc3, cc4, pp2, pp5, pp6, ll7⟩ := hJ
      simp only [List.getD_cons_succ, List.getD_cons_zero, List.mem_cons, List.not_mem_nil, or_false, forall_eq] at haft
      clear hb hb'
      have hfin := hK _ _ ⟨hX0.alloc _, fun h => cc0 (h.resolve_right (by decide)), fun h => cc1 (h.resolve_right (by decide)), fun h => cc3 (h.resolve_right (by decide)), fun h => cc4 (h.resolve_right (by decide)), fun h => NumX.ext (pp2 (h.resolve_right (by decide))) ((Ext.refl _).alloc _), fun h => NumX.ext (pp5 (h.resolve_right (by decide))) ((Ext.refl _).alloc _), fun h => NumX.ext (pp6 (h.resolve_right (by decide))) ((Ext.refl _).alloc _), Loc.new w W hX0 (fun h => h.elim haft (by decide)) (Ext.refl _)⟩
      clear hK hX0 cc0 cc1 cc3 cc4 pp2 pp5 pp6 ll7
      go_simp
      exact hfin
    · intro done us W hJ hdep haft hnot b hb hb' K hK Q'
      obtain ⟨hX0, cc0, cc1, cc3, cc4, pp2, pp5, pp6, ll7⟩ := hJ
      simp only [List.getD_cons_succ, List.getD_cons_zero, List.mem_cons, List.not_mem_nil, or_false, forall_eq_or_imp, forall_eq] at hdep
      have e9 := hb 7 9 rfl
      have e39 := hb 6 39 rfl
      obtain ⟨g, eg, hg, hB⟩ := ll7.stored hdep.2 hnot
      rw [eg] at e9
      have q0 : W.cell? ⟨g, 0, none⟩ = some (.bool false) := hB.cell 0
      have z0 : W.frozen? ⟨g, 0, none⟩ = false := hB.free 0
      have q1 : W.cell? ⟨g, 1, none⟩ = some (.slice none 0 0) := hB.cell 1
      have z1 : W.frozen? ⟨g, 1, none⟩ = false := hB.free 1
      have q2 : W.cell? ⟨g, 2, none⟩ = some (.slice none 0 0) := hB.cell 2
      have z2 : W.frozen? ⟨g, 2, none⟩ = false := hB.free 2
      clear hb hb'
      obtain ⟨s9, A9, l9, c9, B9, m9, k9, hu⟩ := NumX.open (pp6 hdep.1)
      rw [hu] at e39
      have hN := NoInts.three hB
      have hfin := hK undef _ ⟨(((hX0.setCell hg _).setCell hg _).setCell hg _), fun h => cc0 (h.resolve_right (by decide)), fun h => cc1 (h.resolve_right (by decide)), fun h => cc3 (h.resolve_right (by decide)), fun h => cc4 (h.resolve_right (by decide)), fun h => NumX.past (pp2 (h.resolve_right (by decide))) hN, fun h => NumX.past (pp5 (h.resolve_right (by decide))) hN, fun h => NumX.past (pp6 (h.resolve_right (by decide))) hN, ⟨fun _ => ⟨g, eg, hg, fun _ => (Blk.put3 hB hu), fun h => absurd (.inr rfl) h⟩⟩⟩
      clear hK hX0 cc0 cc1 cc3 cc4 pp2 pp5 pp6 ll7
      go_simp
      exact hfin
  · intro us W hJ
    obtain ⟨hX0, cc0, cc1, cc3, cc4, pp2, pp5, pp6, ll7⟩ := hJ
    rw [show (rops Try.f137 10).drop 9 = [] by kernel_rfl]
    exact hend (us 0) (us 1) (us 2) (us 3) (us 4) (us 5) (us 6) (us 7) (us 8) W (cc0 (show 0 < 9 by decide)) (cc1 (show 1 < 9 by decide)) (cc3 (show 3 < 9 by decide)) (cc4 (show 4 < 9 by decide)) (pp2 (show 2 < 9 by decide)) (pp5 (show 5 < 9 by decide)) (pp6 (show 6 < 9 by decide)) (ll7.done (show 7 < 9 by decide) (show 8 < 9 by decide)) hX0
set_option maxRecDepth 100000 in
set_option maxHeartbeats 2000000 in
theorem slp_r15 (go nn jj gr : Nat) (cc : Int) (q r : Rat) (se : Bool) (Ae Be : Option Addr) (le ce me ke : Nat) (st : Bool) (At Bt : Option Addr) (lt ct mt kt : Nat) (w : World) (x0 : w.cell? ⟨go, jj * 3, none⟩ = some (.bool se)) (x1 : w.cell? ⟨go, jj * 3 + 1, none⟩ = some (.slice Ae le ce)) (x2 : w.cell? ⟨go, jj * 3 + 2, none⟩ = some (.slice Be me ke)) (y0 : w.cell? ⟨gr, 0, none⟩ = some (.bool st)) (y1 : w.cell? ⟨gr, 1, none⟩ = some (.slice At lt ct)) (y2 : w.cell? ⟨gr, 2, none⟩ = some (.slice Bt mt kt)) (hx : NumX w (.agg #[.bool se, .slice Ae le ce, .slice Be me ke]) q 57) (hr : NumX w (.agg #[.bool st, .slice At lt ct, .slice Bt mt kt]) r 1552) (hjn : jj < nn) (hc1 : -100 ≤ cc) (hc2 : cc ≤ 100) (a : Act) (Q : Exit → Act → World → Prop) (hsize : 64 ≤ a.tmps.size)
    (s5 : a.tmps[5]? = some (.slice (some ⟨go, 0, none⟩) nn nn))
    (s9 : a.tmps[9]? = some (.pointer (some ⟨gr, 0, none⟩)))
    (s10 : a.tmps[10]? = some (.int .i64 (jj : Int)))
    (s11 : a.tmps[11]? = some (.int .i64 (cc)))
    (hend : ∀ (xv0 xv1 xv2 xv3 xv4 xv5 xv6 xv7 xv8 xv9 xv10 xv11 xv12 : Value) (W : World), (xv0 = .slice (some ⟨go, 0, none⟩) nn nn) → (xv1 = .int .i64 (jj : Int)) → (xv2 = .slice (some ⟨go, 0, none⟩) nn nn) → (xv3 = .int .i64 (jj : Int)) → (xv4 = .pointer (some ⟨go, jj * 3, none⟩)) → (xv5 = .agg #[.bool se, .slice Ae le ce, .slice Be me ke]) → (xv6 = .int .i64 (cc)) → (NumX W xv7 (((cc : Int) : Rat)) (2)) → (xv8 = .agg #[.bool st, .slice At lt ct, .slice Bt mt kt]) → (NumX W xv9 (((cc : Int) : Rat) * r) (2 + 1552)) → (NumX W xv10 (q + ((cc : Int) : Rat) * r) (57 + (2 + 1552) + 1)) → (NumQ W xv11 (q + ((cc : Int) : Rat) * r)) → (xv12 = .pointer (some ⟨go, jj * 3, none⟩)) → Ext w W → wpList Try.prog (rops Try.f137 15).toArray Q ((rops Try.f137 15).drop 13) (((((((((((((a.put (some 51) xv0).put (some 52) xv1).put (some 53) xv2).put (some 54) xv3).put (some 55) xv4).put (some 56) xv5).put (some 57) xv6).put (some 58) xv7).put (some 59) xv8).put (some 60) xv9).put (some 61) xv10).put (some 62) xv11).put (some 63) xv12) W) :
    (Code.region 15 (rops Try.f137 15).toArray true).wp Try.prog Q a w := by
  have hmono : ∀ (W W' : World) (j : Nat) (u : Value), Ext W W' → (fun (i : Nat) (v : Value) (W : World) => match i with
    | 0 => v = .slice (some ⟨go, 0, none⟩) nn nn
    | 1 => v = .int .i64 (jj : Int)
    | 2 => v = .slice (some ⟨go, 0, none⟩) nn nn
    | 3 => v = .int .i64 (jj : Int)
    | 4 => v = .pointer (some ⟨go, jj * 3, none⟩)
    | 5 => v = .agg #[.bool se, .slice Ae le ce, .slice Be me ke]
    | 6 => v = .int .i64 (cc)
    | 7 => NumX W v (((cc : Int) : Rat)) (2)
    | 8 => v = .agg #[.bool st, .slice At lt ct, .slice Bt mt kt]
    | 9 => NumX W v (((cc : Int) : Rat) * r) (2 + 1552)
    | 10 => NumX W v (q + ((cc : Int) : Rat) * r) (57 + (2 + 1552) + 1)
    | 11 => NumQ W v (q + ((cc : Int) : Rat) * r)
    | 12 => v = .pointer (some ⟨go, jj * 3, none⟩)
    | _ => True) j u W → (fun (i : Nat) (v : Value) (W : World) => match i with
    | 0 => v = .slice (some ⟨go, 0, none⟩) nn nn
    | 1 => v = .int .i64 (jj : Int)
    | 2 => v = .slice (some ⟨go, 0, none⟩) nn nn
    | 3 => v = .int .i64 (jj : Int)
    | 4 => v = .pointer (some ⟨go, jj * 3, none⟩)
    | 5 => v = .agg #[.bool se, .slice Ae le ce, .slice Be me ke]
    | 6 => v = .int .i64 (cc)
    | 7 => NumX W v (((cc : Int) : Rat)) (2)
    | 8 => v = .agg #[.bool st, .slice At lt ct, .slice Bt mt kt]
    | 9 => NumX W v (((cc : Int) : Rat) * r) (2 + 1552)
    | 10 => NumX W v (q + ((cc : Int) : Rat) * r) (57 + (2 + 1552) + 1)
    | 11 => NumQ W v (q + ((cc : Int) : Rat) * r)
    | 12 => v = .pointer (some ⟨go, jj * 3, none⟩)
    | _ => True) j u W' := by
    intro W W' j u hX h
    match j, h with
    | 0, h => exact h
    | 1, h => exact h
    | 2, h => exact h
    | 3, h => exact h
    | 4, h => exact h
    | 5, h => exact h
    | 6, h => exact h
    | 7, h => exact NumX.ext h hX
    | 8, h => exact h
    | 9, h => exact NumX.ext h hX
    | 10, h => exact NumX.ext h hX
    | 11, h => exact NumQ.ext h hX
    | 12, h => exact h
    | _ + 13, h => exact h
  have hsz : ∀ d, some d ∈ ([some 51, some 52, some 53, some 54, some 55, some 56, some 57, some 58, some 59, some 60, some 61, some 62, some 63] : List (Option Tmp)) → d < a.tmps.size := slots_lt (by decide) hsize
  refine wp_region_j 13 [some 51, some 52, some 53, some 54, some 55, some 56, some 57, some 58, some 59, some 60, some 61, some 62, some 63] [[], [], [], [], [2, 3], [4], [], [6], [], [7, 8], [5, 9], [10], [0, 1]] [[], [], [], [], [], [], [], [], [], [], [], [], []] (fun (i : Nat) (v : Value) (W : World) => match i with
    | 0 => v = .slice (some ⟨go, 0, none⟩) nn nn
    | 1 => v = .int .i64 (jj : Int)
    | 2 => v = .slice (some ⟨go, 0, none⟩) nn nn
    | 3 => v = .int .i64 (jj : Int)
    | 4 => v = .pointer (some ⟨go, jj * 3, none⟩)
    | 5 => v = .agg #[.bool se, .slice Ae le ce, .slice Be me ke]
    | 6 => v = .int .i64 (cc)
    | 7 => NumX W v (((cc : Int) : Rat)) (2)
    | 8 => v = .agg #[.bool st, .slice At lt ct, .slice Bt mt kt]
    | 9 => NumX W v (((cc : Int) : Rat) * r) (2 + 1552)
    | 10 => NumX W v (q + ((cc : Int) : Rat) * r) (57 + (2 + 1552) + 1)
    | 11 => NumQ W v (q + ((cc : Int) : Rat) * r)
    | 12 => v = .pointer (some ⟨go, jj * 3, none⟩)
    | _ => True) (fun _ W => Ext w W) (by kernel_rfl) (by kernel_rfl) hsz (fun _ _ _ _ h => h) ((Ext.refl w).drew) ?_ ?_
  · clear hend
    simp only [rops, Try.f137, regOf, Option.bind_some, Nat.reduceBEq, if_true, if_false, Bool.false_eq_true, Option.getD_some]
    simp only [List.take_succ_cons, List.take_zero]
    refine ⟨?_, ?_, ?_, ?_, ?_, ?_, ?_, ?_, ?_, ?_, ?_, ?_, ?_, trivial⟩
    · intro done us W hJ hdep haft hnot b hb hb' K hK Q'
      have e5 := (hb' 5 (by simp)).trans s5
      clear hb hb'
      go_simp
      exact hK _ _ rfl (fun _ _ _ h => h) hJ
    · intro done us W hJ hdep haft hnot b hb hb' K hK Q'
      have e10 := (hb' 10 (by simp)).trans s10
      clear hb hb'
      go_simp
      exact hK _ _ rfl (fun _ _ _ h => h) hJ
    · intro done us W hJ hdep haft hnot b hb hb' K hK Q'
      have e5 := (hb' 5 (by simp)).trans s5
      clear hb hb'
      go_simp
      exact hK _ _ rfl (fun _ _ _ h => h) hJ
    · intro done us W hJ hdep haft hnot b hb hb' K hK Q'
      have e10 := (hb' 10 (by simp)).trans s10
      clear hb hb'
      go_simp
      exact hK _ _ rfl (fun _ _ _ h => h) hJ
    · intro done us W hJ hdep haft hnot b hb hb' K hK Q'
      simp only [List.getD_cons_succ, List.getD_cons_zero, List.mem_cons, List.not_mem_nil, or_false, forall_eq_or_imp, forall_eq] at hdep
      have e53 := hb 2 53 rfl
      have e54 := hb 3 54 rfl
      have d2 := hdep.1
      have d3 := hdep.2
      rw [d2.1] at e53
      rw [d3.1] at e54
      clear hb hb' hdep d2 d3
      go_simp
      exact hK _ _ rfl (fun _ _ _ h => h) hJ
    · intro done us W hJ hdep haft hnot b hb hb' K hK Q'
      simp only [List.getD_cons_succ, List.getD_cons_zero, List.mem_cons, List.not_mem_nil, or_false, forall_eq] at hdep
      have e55 := hb 4 55 rfl
      have d4 := hdep
      rw [d4.1] at e55
      clear hb hb' hdep d4
      have z0 := Ext.cell hJ x0
      have z1 := Ext.cell hJ x1
      have z2 := Ext.cell hJ x2
      go_simp
      exact hK _ _ rfl (fun _ _ _ h => h) hJ
    · intro done us W hJ hdep haft hnot b hb hb' K hK Q'
      have e11 := (hb' 11 (by simp)).trans s11
      clear hb hb'
      go_simp
      exact hK _ _ rfl (fun _ _ _ h => h) hJ
    · intro done us W hJ hdep haft hnot b hb hb' K hK Q'
      simp only [List.getD_cons_succ, List.getD_cons_zero, List.mem_cons, List.not_mem_nil, or_false, forall_eq] at hdep
      have e57 := hb 6 57 rfl
      have d6 := hdep
      rw [d6.1] at e57
      clear hb hb' hdep d6
      go_simp
      refine (intX cc _ (by omega) (by omega)).mono ?_
      rintro e w' ⟨v, rfl, hv, hX⟩
      exact hK _ _ hv (fun j u _ h => hmono _ _ j u hX h) (Ext.trans hJ hX)
    · intro done us W hJ hdep haft hnot b hb hb' K hK Q'
      have e9 := (hb' 9 (by simp)).trans s9
      clear hb hb'
      have z0 := Ext.cell hJ y0
      have z1 := Ext.cell hJ y1
      have z2 := Ext.cell hJ y2
      go_simp
      exact hK _ _ rfl (fun _ _ _ h => h) hJ
    · intro done us W hJ hdep haft hnot b hb hb' K hK Q'
      simp only [List.getD_cons_succ, List.getD_cons_zero, List.mem_cons, List.not_mem_nil, or_false, forall_eq_or_imp, forall_eq] at hdep
      have e58 := hb 7 58 rfl
      have e59 := hb 8 59 rfl
      have d7 := hdep.1
      have d8 := hdep.2
      rw [d8.1] at e59
      clear hb hb' hdep d8
      go_simp
      refine (mulX d7.1 (hr.ext hJ) (by omega) (by omega)).mono ?_
      rintro e w' ⟨v, rfl, hv, hX⟩
      exact hK _ _ hv (fun j u _ h => hmono _ _ j u hX h) (Ext.trans hJ hX)
    · intro done us W hJ hdep haft hnot b hb hb' K hK Q'
      simp only [List.getD_cons_succ, List.getD_cons_zero, List.mem_cons, List.not_mem_nil, or_false, forall_eq_or_imp, forall_eq] at hdep
      have e56 := hb 5 56 rfl
      have e60 := hb 9 60 rfl
      have d5 := hdep.1
      have d9 := hdep.2
      rw [d5.1] at e56
      clear hb hb' hdep d5
      go_simp
      refine (addX (hx.ext hJ) d9.1 (by omega)).mono ?_
      rintro e w' ⟨v, rfl, hv, hX⟩
      exact hK _ _ hv (fun j u _ h => hmono _ _ j u hX h) (Ext.trans hJ hX)
    · intro done us W hJ hdep haft hnot b hb hb' K hK Q'
      simp only [List.getD_cons_succ, List.getD_cons_zero, List.mem_cons, List.not_mem_nil, or_false, forall_eq] at hdep
      have e61 := hb 10 61 rfl
      have d10 := hdep
      clear hb hb' hdep 
      go_simp
      refine (reducedX d10.1 (by omega)).mono ?_
      rintro e w' ⟨v, rfl, hv, hX⟩
      exact hK _ _ hv (fun j u _ h => hmono _ _ j u hX h) (Ext.trans hJ hX)
    · intro done us W hJ hdep haft hnot b hb hb' K hK Q'
      simp only [List.getD_cons_succ, List.getD_cons_zero, List.mem_cons, List.not_mem_nil, or_false, forall_eq_or_imp, forall_eq] at hdep
      have e51 := hb 0 51 rfl
      have e52 := hb 1 52 rfl
      have d0 := hdep.1
      have d1 := hdep.2
      rw [d0.1] at e51
      rw [d1.1] at e52
      clear hb hb' hdep d0 d1
      go_simp
      exact hK _ _ rfl (fun _ _ _ h => h) hJ
  · intro us W hV hJ
    exact hend (us 0) (us 1) (us 2) (us 3) (us 4) (us 5) (us 6) (us 7) (us 8) (us 9) (us 10) (us 11) (us 12) W (hV 0 (by omega)) (hV 1 (by omega)) (hV 2 (by omega)) (hV 3 (by omega)) (hV 4 (by omega)) (hV 5 (by omega)) (hV 6 (by omega)) (hV 7 (by omega)) (hV 8 (by omega)) (hV 9 (by omega)) (hV 10 (by omega)) (hV 11 (by omega)) (hV 12 (by omega)) hJ
set_option maxRecDepth 100000 in
set_option maxHeartbeats 16000000 in
theorem slopes_any (S nn : Nat) (A : Option Addr) (n c : Nat) (ms : List Mt) (gt ot ct : Nat) (u : Nat → Rat) (w : World) (h : MsAt w A n ms) (hv : VP (S : Int) ms) (hN : nn = 3 * S) (hS : ShP (fun w v q => NumX w v q 256) w gt ot S u) (ht : Tame nn u) :
    Calls Try.prog 137 #[.slice (some ⟨gt, ot, none⟩) S ct, .agg #[.int .i64 (S : Int), .slice A n c]] w (fun e w' => ∃ go, e = .returned (.slice (some ⟨go, 0, none⟩) nn nn) ∧ RowN (fun w v q => NumX w v q 57) 217 3 w.heap.size w' go nn nn nn (fun j => some (slope nn ms u j)) ∧ Ext w w') := by
  have hS1 : 1 ≤ S := by have := hv.1; omega
  have hS8 : S ≤ 8 := by have := hv.2.1; omega
  have hn64 : n ≤ 64 := by have := hv.2.2.1; have := h.1; omega
  have hqN : IntKind.i64.wrap (3 * (S : Int)) = (nn : Int) := by rw [IntWalk.i64_in _ (by omega)]; omega
  have hNb : nn ≤ 24 := by omega
  have HFIT : Hid (∀ k i, FitQ (slope nn (ms.take k) u i) 57) := Lib.hid (fun k i => slope_fitL hv.2.2.2 hv.2.2.1 hNb ht k i)
  have H := Lib.hid h
  have HL := Lib.hid h.1
  have HVM := Lib.hid hv.2.2.2
  have HNN := Lib.hid hN
  have HS0 := Lib.hid hS
  clear h hv hN ht hS
  have hXe : Ext w (w.alloc (.cells #[.int .i64 (S : Int), .slice A n c] 76)) := (Ext.refl w).alloc _
  have kP : Blk (w.alloc (.cells #[.int .i64 (S : Int), .slice A n c] 76)) w.heap.size 76 #[.int .i64 (S : Int), .slice A n c] := Blk.new w _ _
  go_enter Try.func137, Try.ntmps137
  go_upto_region 1 with (fail)
  generalize w.alloc (.cells #[.int .i64 (S : Int), .slice A n c] 76) = w1 at hXe kP ⊢
  have HX := Lib.hid hXe
  have HP := Lib.hid kP
  have p0 := kP.cell 0
  simp only [List.getElem?_toArray, List.getElem?_cons_zero] at p0
  have hxs := HX.out.size
  have hpl := kP.lt
  clear hXe kP
  go_upto_region 2 with (at_make; refine wpList_mkS w1 elN3 rfl _ _ rfl w.heap.size _ _ _ _ nn nn rfl rfl (by first | rfl | omega) (by first | rfl | omega) (Nat.le_refl _) (by omega) (by unfold maxLen; omega) hxs ?_; intro w4 us hown hz1 hz2 hext hsz)
  have hrow : RowN (fun w v q => NumX w v q 57) 217 3 w.heap.size w4 w1.heap.size nn nn nn (fun _ => none) := RowN.make3 hown hz1 hz2
  replace HX := Lib.hid (HX.out.trans hext)
  replace HP := Lib.hid (HP.out.ext hext)
  generalize w1.heap.size = go at hrow hpl hsz hxs ⊢
  have HR := Lib.hid hrow
  clear hrow hown hz1 hz2 hext p0 hsz
  go_wp2_with fail
  go_loopg [18] nn (fun f iv wr => ∃ j : Nat, f = nn - j ∧ j ≤ nn ∧ iv = .int .i64 (j : Int) ∧ Hid (RowN (fun w v q => NumX w v q 57) 217 3 w.heap.size wr go nn nn nn (fun u => if u < j then some ((0 : Int) : Rat) else none)) ∧ Hid (Blk wr w.heap.size 76 #[.int .i64 (S : Int), .slice A n c]) ∧ Hid (Ext w wr))
  case atStart => exact ⟨0, by omega, by omega, rfl, Lib.hid (HR.out.congr (fun u _ => by rw [if_neg (by omega)])), HP, HX⟩
  case round =>
    clear HR HP HX
    obtain ⟨j, rfl, hj, rfl, HR, HP, HX⟩ := hrel
    by_cases hlt : j < nn
    · have q1 : decide (j < nn) = true := decide_eq_true hlt
      go_wp2_with fail
      refine (intX 0 _ (by omega) (by omega)).mono ?_
      rintro e w5 ⟨v5, rfl, hv, hX⟩
      replace HX := Lib.hid (HX.out.trans hX)
      replace HP := Lib.hid (HP.out.ext hX)
      replace HR := Lib.hid (HR.out.ext (staysNum 57) hX)
      obtain ⟨s4, A4, l4, c4, B4, m4, k4, rfl⟩ := NumX.open hv
      have HN := Lib.hid (hv.mono (show 2 ≤ 57 by omega))
      clear hv hX
      obtain ⟨s2, A2, l2, c2, B2, m2, k2, x0, x1, x2, _⟩ := HR.out.cells hlt rfl
      have f0 := HR.out.free (j * 3)
      have f1 := HR.out.free (j * 3 + 1)
      have f2 := HR.out.free (j * 3 + 2)
      go_wp2
      clear x0 x1 x2 f0 f1 f2
      have hput := HR.out.put (staysNum 57) hlt rfl HN.out
      go_roundg (nn - (j + 1))
      case rel =>
        refine ⟨j + 1, rfl, by omega, by go_num, Lib.hid (hput.congr (fun u _ => ?_)), Lib.hid (((HP.out.far (by simp only; omega) _).far (by simp only; omega) _).far (by simp only; omega) _), Lib.hid (((HX.out.setCell (p := ⟨go, j * 3, none⟩) (by simp only; omega) (.bool s4)).setCell (p := ⟨go, j * 3 + 1, none⟩) (by simp only; omega) (.slice A4 l4 c4)).setCell (p := ⟨go, j * 3 + 2, none⟩) (by simp only; omega) (.slice B4 m4 k4))⟩
        by_cases e : u = j
        · rw [if_pos e, if_pos (by omega)]
        · rw [if_neg e]
          by_cases h2 : u < j
          · rw [if_pos h2, if_pos (by omega)]
          · rw [if_neg h2, if_neg (by omega)]
      case measure => omega
    · obtain rfl : nn = j := by omega
      have q1 : decide (nn < nn) = false := by simp
      have p1 := HP.out.cell 1
      simp only [List.getElem?_toArray, List.getElem?_cons_zero, List.getElem?_cons_succ] at p1
      go_wp2_with fail
      clear p1
      have HSW := Lib.hid (HS0.out.ext (growsNum 256) HX.out)
      have HNG := Lib.hid HR.out.ni
      have hgS : gt ≠ go := by have := HS0.out.low (by omega); omega
      go_loopg [29] n (fun f iv wz => ∃ k : Nat, f = n - k ∧ k ≤ n ∧ iv = .int .i64 (k : Int) ∧ Hid (RowN (fun w v q => NumX w v q 57) 217 3 w.heap.size wz go nn nn nn (fun j => some (slope nn (ms.take k) u j))) ∧ Hid (Ext w wz) ∧ Hid (Keeps [go] wr wz))
      case atStart => exact ⟨0, by omega, by omega, rfl, Lib.hid (HR.out.congr (fun u hu => by rw [if_pos hu, slope_none]; rfl)), HX, Lib.hid (Keeps.refl _ _)⟩
      case round =>
        clear HR HX
        obtain ⟨k, rfl, hk, rfl, HR, HX, HK⟩ := hrel
        by_cases hkn : k < n
        · have q2 : decide (k < n) = true := decide_eq_true hkn
          obtain ⟨gq, oq, ⟨a, b, x, y, z, d, ww⟩, rfl, hm, hmem, x0, x1, x2, x3, x4, x5, x6⟩ := (H.out.ext HX.out).get hkn
          simp only at x0 x1 x2 x3 x4 x5 x6
          have HM := Lib.hid hm
          have HMM := Lib.hid (HVM.out _ hmem)
          clear hm hmem
          go_upto_region 10 with (fail)
          have hXa : Ext wr (wr.alloc (.cells #[.int .i64 (a), .int .i64 (b), .int .i64 (x), .int .i64 (y), .int .i64 (z), .int .i64 (d), .int .i64 (ww)] 90)) := (Ext.refl _).alloc _
          have kM := Blk.new wr 90 #[.int .i64 (a), .int .i64 (b), .int .i64 (x), .int .i64 (y), .int .i64 (z), .int .i64 (d), .int .i64 (ww)]
          have hgl := HR.out.low.2
          replace HX := Lib.hid (HX.out.trans hXa)
          replace HR := Lib.hid (HR.out.ext (staysNum 57) hXa)
          replace HK := Lib.hid (HK.out.trans (.of_ext hXa _))
          clear hXa x0 x1 x2 x3 x4 x5 x6
          generalize wr.heap.size = gm at kM hgl ⊢
          generalize wr.alloc (.cells #[.int .i64 (a), .int .i64 (b), .int .i64 (x), .int .i64 (y), .int .i64 (z), .int .i64 (d), .int .i64 (ww)] 90) = w5 at kM HX HR HK ⊢
          have HSZ := Lib.hid (HSW.out.keeps (staysNum 256) HK.out (fun g hg => by simp at hg; subst hg; exact HNG.out) (by simp; omega))
          have KM := Lib.hid kM
          clear kM
          refine slp_r10 gm gt ot S ct a b x y z d ww u w5 (KM.out.cell 0) (KM.out.cell 1) (KM.out.cell 2) (KM.out.cell 3) (KM.out.cell 4) (KM.out.cell 5) (KM.out.cell 6) HSZ.out HMM.out (by have := HMM.out.w1; simpa using this) (by have := HMM.out.w2; simpa using this) _ _ (by simp) rfl rfl ?_
          rintro xv0 xv1 xv2 xv3 xv4 xv5 xv6 xv7 xv8 W rfl rfl rfl rfl _ _ hv ⟨gr, rfl, hgr, kR⟩ hX
          simp only [rops, Try.f137, regOf, Option.bind_some, Nat.reduceBEq, if_true, if_false, Bool.false_eq_true, Option.getD_some]
          simp only [Act.put, List.setIfInBounds_toArray, List.set_cons_succ, List.set_cons_zero]
          obtain ⟨s8, A8, l8, c8, B8, m8, k8, rfl⟩ := NumX.open hv
          have HRV := Lib.hid hv
          have KR : Hid (Blk W gr 217 #[.bool s8, .slice A8 l8 c8, .slice B8 m8 k8]) := Lib.hid kR
          have hgr2 : go < gr := by have := KM.out.lt; omega
          replace HX := Lib.hid (HX.out.trans hX)
          replace HR := Lib.hid (HR.out.ext (staysNum 57) hX)
          replace HK := Lib.hid (HK.out.trans (.of_ext hX _))
          replace KM := Lib.hid (KM.out.ext hX)
          clear hv kR hX HSZ hgr
          have y0 := KM.out.cell 0
          have y1 := KM.out.cell 1
          have y2 := KM.out.cell 2
          have y3 := KM.out.cell 3
          have y4 := KM.out.cell 4
          have y5 := KM.out.cell 5
          have y6 := KM.out.cell 6
          simp only [List.getElem?_toArray, List.getElem?_cons_zero, List.getElem?_cons_succ] at y0 y1 y2 y3 y4 y5 y6
          have p0 := (HP.out.keeps HK.out (by simp; omega)).cell 0
          have p1 := (HP.out.keeps HK.out (by simp; omega)).cell 1
          simp only [List.getElem?_toArray, List.getElem?_cons_zero, List.getElem?_cons_succ] at p0 p1
          go_wp2_with fail
          refine (coef_any (S := S) (N := nn) (m := ⟨a, b, x, y, z, d, ww⟩) HMM.out hS8 HNN.out).mono ?_
          rintro e w6 ⟨gc, rfl, hC, hX⟩
          replace HX := Lib.hid (HX.out.trans hX)
          replace HR := Lib.hid (HR.out.ext (staysNum 57) hX)
          replace HK := Lib.hid (HK.out.trans (.of_ext hX _))
          replace KR := Lib.hid (KR.out.ext hX)
          replace HRV := Lib.hid (HRV.out.ext hX)
          have hgc : go < gc := by have := hC.low; have := KR.out.lt; have := KM.out.lt; omega
          have HC := Lib.hid hC
          clear hC hX y0 y1 y2 y3 y4 y5 y6 p0 p1 KM
          have HNW := Lib.hid HR.out.ni
          go_wp2_with fail
          go_loopg [44] nn (fun f iv wy => ∃ i : Nat, f = nn - i ∧ i ≤ nn ∧ iv = .int .i64 (i : Int) ∧ Hid (RowN (fun w v q => NumX w v q 57) 217 3 w.heap.size wy go nn nn nn (fun j => some (slopeM nn ms u k i j))) ∧ Hid (Ext w wy) ∧ Hid (Keeps [go] w6 wy))
          case atStart => exact ⟨0, by omega, by omega, rfl, Lib.hid (HR.out.congr (fun u hu => by rw [slopeM_zero])), HX, Lib.hid (Keeps.refl _ _)⟩
          case round =>
            clear HR HX
            obtain ⟨i, rfl, hi, rfl, HR, HX, HKI⟩ := hrel
            by_cases hin : i < nn
            · have q3 : decide (i < nn) = true := decide_eq_true hin
              obtain ⟨cc, hcc⟩ : ∃ cc, cof ⟨a, b, x, y, z, d, ww⟩ i = cc := ⟨_, rfl⟩
              have hcb : -100 ≤ cc ∧ cc ≤ 100 := by rw [← hcc]; exact cof_bound HMM.out i
              have cx := (HC.out.keeps HKI.out (by simp; omega)).cell hin
              rw [hcc] at cx
              have HCC := Lib.hid hcc
              clear hcc
              go_upto_region 14 with (fail)
              clear cx
              by_cases hz : cc = 0
              · have q4 : (cc != 0) = false := by simpa using hz
                have HZ := Lib.hid hz
                clear hz
                go_wp2
                go_roundg (nn - (i + 1))
                case rel => exact ⟨i + 1, rfl, by omega, by go_num, Lib.hid (HR.out.congr (fun u _ => by rw [slopeM_skip HM.out (HCC.out.trans HZ.out)])), HX, HKI⟩
                case measure => omega
              · have q4 : (cc != 0) = true := by simpa using hz
                clear hz
                obtain ⟨s9, A9, l9, c9, B9, m9, k9, x0, x1, x2, hx⟩ := HR.out.cells hin rfl
                have HXV := Lib.hid (hx _ rfl)
                clear hx
                have KRW := Lib.hid (KR.out.keeps HKI.out (by simp; omega))
                have HRW := Lib.hid (HRV.out.keepsNI HKI.out (fun g hg => by simp at hg; subst hg; exact HNW.out))
                have hsl : FitQ (slopeM nn ms u k (i + 1) i) 57 := by unfold slopeM; rw [if_pos (by omega)]; exact HFIT.out _ _
                have HSL := Lib.hid hsl
                clear hsl
                go_upto_region 15 with (fail)
                refine slp_r15 go nn i gr cc _ _ s9 A9 B9 l9 c9 m9 k9 s8 A8 B8 l8 c8 m8 k8 wr x0 x1 x2 (KRW.out.cell 0) (KRW.out.cell 1) (KRW.out.cell 2) HXV.out HRW.out hin hcb.1 hcb.2 _ _ (by simp) rfl rfl rfl rfl ?_
                rintro xv0 xv1 xv2 xv3 xv4 xv5 xv6 xv7 xv8 xv9 xv10 xv11 xv12 W rfl rfl rfl rfl rfl rfl rfl _ rfl _ _ hv rfl hX
                simp only [rops, Try.f137, regOf, Option.bind_some, Nat.reduceBEq, if_true, if_false, Bool.false_eq_true, Option.getD_some, List.drop_succ_cons, List.drop_zero]
                simp only [Act.put, List.setIfInBounds_toArray, List.set_cons_succ, List.set_cons_zero]
                replace HX := Lib.hid (HX.out.trans hX)
                replace HR := Lib.hid (HR.out.ext (staysNum 57) hX)
                replace HKI := Lib.hid (HKI.out.trans (.of_ext hX _))
                have hadd := slopeM_add (n := nn) (ms := ms) (u := u) (k := k) (i := i) HM.out
                rw [HCC.out] at hadd
                have HADD := Lib.hid hadd
                have hvf : NumX W xv11 (slopeM nn ms u k (i + 1) i) 57 := by
                  have e : slopeM nn ms u k (i + 1) i = slopeM nn ms u k i i + ((cc : Int) : Rat) * (((ww : Int) : Rat) * res (3 * S) ⟨a, b, x, y, z, d, ww⟩ u) := (congrFun HADD.out i).trans (by simp only; rw [if_pos trivial, HNN.out])
                  rw [e] at HSL ⊢
                  exact hv.numx HSL.out
                obtain ⟨s4, A4, l4, c4, B4, m4, k4, rfl⟩ := NumX.open hvf
                have HN := Lib.hid hvf
                clear hv hvf hadd hX x0 x1 x2
                obtain ⟨s2, A2, l2, c2, B2, m2, k2, x0, x1, x2, _⟩ := HR.out.cells hin rfl
                have f0 := HR.out.free (i * 3)
                have f1 := HR.out.free (i * 3 + 1)
                have f2 := HR.out.free (i * 3 + 2)
                go_wp2
                clear x0 x1 x2 f0 f1 f2
                have hput := HR.out.put (staysNum 57) hin rfl HN.out
                go_roundg (nn - (i + 1))
                case rel =>
                  refine ⟨i + 1, rfl, by omega, by go_num, Lib.hid (hput.congr (fun v hv => ?_)), Lib.hid (((HX.out.setCell (p := ⟨go, i * 3, none⟩) (by simp only; omega) (.bool s4)).setCell (p := ⟨go, i * 3 + 1, none⟩) (by simp only; omega) (.slice A4 l4 c4)).setCell (p := ⟨go, i * 3 + 2, none⟩) (by simp only; omega) (.slice B4 m4 k4)), Lib.hid (((HKI.out.setCell (p := ⟨go, i * 3, none⟩) (.inl (by simp)) (.bool s4)).setCell (p := ⟨go, i * 3 + 1, none⟩) (.inl (by simp)) (.slice A4 l4 c4)).setCell (p := ⟨go, i * 3 + 2, none⟩) (.inl (by simp)) (.slice B4 m4 k4))⟩
                  by_cases e : v = i
                  · subst e; rw [if_pos rfl]
                  · rw [if_neg e, HADD.out]
                    simp only
                    rw [if_neg e]
                case measure => omega
            · obtain rfl : nn = i := by omega
              have q3 : decide (nn < nn) = false := by simp
              go_wp2
              go_roundg (n - (k + 1))
              case rel => exact ⟨k + 1, rfl, by omega, by go_num, Lib.hid (HR.out.congr (fun v hv => by rw [slopeM_full v hv])), HX, Lib.hid (HK.out.trans HKI.out)⟩
              case measure => omega
          
        · obtain rfl : n = k := by omega
          have q2 : decide (n < n) = false := by simp
          have HTK : Hid (ms.take n = ms) := Lib.hid (List.take_of_length_le (by have := HL.out; omega))
          rw [HTK.out] at HR
          go_wp2
          go_ret
          exact ⟨go, rfl, HR.out, HX.out⟩

end Go.Proofs.Ytikhlcgnlbinfaa
namespace Go.Proofs.Ytikhlcgnlbinfaa
open Go.RowKit

theorem own_blockS {w : World} {base : Nat} {e : TypeId} {size n c : Nat} {A : Option Addr} {vs : List Value} (h : w.ownsRow base e size (.slice A n c) n vs) (hn : 0 < n) : ∃ g, A = some ⟨g, 0, none⟩ ∧ base ≤ g ∧ g < w.heap.size := by
  rcases h.2 with ⟨hv, h0⟩ | ⟨g, cap, cur, hv, hb, hg, _⟩
  · omega
  · injection hv with hA
    exact ⟨g, hA, hb, (Array.getElem?_eq_some_iff.1 hg).1⟩
/-- A list of bools in memory. -/
def BoolR (base : Nat) (w : World) (v : Value) (n : Nat) (f : Nat → Bool) : Prop := w.ownsRow base 4 1 v n ((List.range n).map fun j => .bool (f j))
theorem BoolR.ext {base n : Nat} {w w' : World} {v : Value} {f : Nat → Bool} (h : BoolR base w v n f) (he : Ext w w') : BoolR base w' v n f := World.ownsRow.ext' h he
def TabI (base nn : Nat) (ms : List Mt) (v : Value) (w : World) : Prop := ∃ go ct vs, v = .agg #[.slice (some ⟨go, 0, none⟩) nn ct] ∧ TabG 3 (Tri fun w v q => NumX w v q 53) 217 226 base w go ct nn (nn + 1) vs (tabM ms nn)
theorem TabI.ext {base nn : Nat} {ms : List Mt} {v : Value} {w w' : World} (h : TabI base nn ms v w) (he : Ext w w') : TabI base nn ms v w' := by
  obtain ⟨go, ct, vs, h1, h2⟩ := h
  exact ⟨go, ct, vs, h1, h2.ext (kindNum 53) he⟩
def PivR (base nn : Nat) (ms : List Mt) (v : Value) (w : World) : Prop := ∃ gp, v = .slice (some ⟨gp, 0, none⟩) nn nn ∧ RowI base w gp nn nn (fun j => pivI ((redG nn (tabM ms nn) nn).piv[j]?))
theorem PivR.ext {base nn : Nat} {ms : List Mt} {v : Value} {w w' : World} (h : PivR base nn ms v w) (he : Ext w w') : PivR base nn ms v w' := by
  obtain ⟨gp, h1, h2⟩ := h
  exact ⟨gp, h1, h2.ext he⟩

end Go.Proofs.Ytikhlcgnlbinfaa
namespace Go.Proofs.Ytikhlcgnlbinfaa
open Go.RowKit

theorem kindC : KindK 3 (Tri RatC) := ⟨fun w cs x h => by obtain ⟨s, A, l, c, B, m, k, rfl, _⟩ := h; rfl, fun w w' L cs x h hk hN => by obtain ⟨s, A, l, c, B, m, k, e, h⟩ := h; exact ⟨s, A, l, c, B, m, k, e, staysC _ _ _ _ _ h hk hN⟩, fun h => by omega⟩
/-- A list of numbers in their canonical form. -/
def RatR (base : Nat) (w : World) (v : Value) (n : Nat) (f : Nat → Rat) : Prop := ∃ us, w.ownsRow base 97 3 v n us ∧ NumK 3 (Tri RatC) w us n f ∧ RowNI w v
theorem RatR.ext {base n : Nat} {w w' : World} {v : Value} {f : Nat → Rat} (h : RatR base w v n f) (he : Ext w w') : RatR base w' v n f := by
  obtain ⟨us, h1, h2, h3⟩ := h
  exact ⟨us, World.ownsRow.ext' h1 he, h2.ext kindC he, h3.ext he⟩
theorem RatR.congr {base n : Nat} {w : World} {v : Value} {f g : Nat → Rat} (h : RatR base w v n f) (e : ∀ j, j < n → f j = g j) : RatR base w v n g := by
  obtain ⟨us, h1, h2, h3⟩ := h
  exact ⟨us, h1, h2.congr e, h3⟩
theorem RatR.nil (base : Nat) (w : World) (f : Nat → Rat) : RatR base w (.slice none 0 0) 0 f := ⟨[], World.ownsRow_nil _ _ _ _, NumK.nil _ _ _ _, RowNI.nil _⟩
theorem RatR.slice {base n : Nat} {w : World} {v : Value} {f : Nat → Rat} (h : RatR base w v n f) : ∃ A c, v = .slice A n c := by
  obtain ⟨us, h1, _⟩ := h
  exact own_slice h1
theorem RatR.get {base n c : Nat} {w : World} {A : Option Addr} {f : Nat → Rat} (h : RatR base w (.slice A n c) n f) {j : Nat} (hj : j < n) : ∃ g s A0 l c0 B m k, A = some ⟨g, 0, none⟩ ∧ w.cell? ⟨g, j * 3, none⟩ = some (.bool s) ∧ w.cell? ⟨g, j * 3 + 1, none⟩ = some (.slice A0 l c0) ∧ w.cell? ⟨g, j * 3 + 2, none⟩ = some (.slice B m k) ∧ RatC w (.agg #[.bool s, .slice A0 l c0, .slice B m k]) (f j) := by
  obtain ⟨us, h1, h2, h3⟩ := h
  obtain ⟨g, rfl, _, _⟩ := own_blockS h1 (by omega)
  obtain ⟨s, A0, l, c0, B, m, k, x0, x1, x2, hx⟩ := h2.three hj
  exact ⟨g, s, A0, l, c0, B, m, k, rfl, own_cell h1 x0, own_cell h1 x1, own_cell h1 x2, hx⟩
/-- All slopes are 0. -/
def minB (nn : Nat) (ms : List Mt) (u : Nat → Rat) : Bool := (List.range nn).all fun i => decide (slope nn ms u i = 0)
theorem minB_iff {nn : Nat} {ms : List Mt} {u : Nat → Rat} : minB nn ms u = true ↔ ∀ i, i < nn → slope nn ms u i = 0 := by
  unfold minB
  rw [List.all_eq_true]
  exact ⟨fun h i hi => by simpa using h i (List.mem_range.2 hi), fun h i hi => by simpa using h i (List.mem_range.1 hi)⟩
theorem sgnQ_iff {q : Rat} : sgnQ q = 0 ↔ q = 0 := by
  rcases sgnQ_cases q with ⟨h1, h2⟩ | ⟨h1, h2⟩ | ⟨h1, h2⟩
  · rw [h2]; exact ⟨fun h => by omega, fun h => by subst h; exact absurd h1 (by decide)⟩
  · rw [h2]; exact ⟨fun _ => h1, fun _ => rfl⟩
  · rw [h2]; exact ⟨fun h => by omega, fun h => by subst h; exact absurd h1 (by decide)⟩

set_option maxRecDepth 100000 in
set_option maxHeartbeats 16000000 in
theorem minimalP_ok (S : Nat) (A : Option Addr) (n c : Nat) (ms : List Mt) (nn gt ot ct : Nat) (u : Nat → Rat) (w : World) (h : MsAt w A n ms) (hv : VP (S : Int) ms) (hN : nn = 3 * S) (hS : ShP RatG w gt ot S u) (ht : Tame nn u) :
    Calls Try.prog 66 #[.agg #[.int .i64 (S : Int), .slice A n c], .slice (some ⟨gt, ot, none⟩) S ct] w (fun e w' => e = .returned (.tuple #[.bool (minB nn ms u), .int .i64 0]) ∧ Ext w w') := by
  have H := Lib.hid h
  have HV := Lib.hid hv
  clear h hv
  have HX := Lib.hid ((Ext.refl w).alloc (.cells #[.int .i64 (S : Int), .slice A n c] 76))
  have HP := Lib.hid (Blk.new w 76 #[.int .i64 (S : Int), .slice A n c])
  go_enter Try.func66, Try.ntmps66
  go_upto_region 1 with (fail)
  generalize w.alloc (.cells #[.int .i64 (S : Int), .slice A n c] 76) = w1 at HX HP ⊢
  have p0 := HP.out.cell 0
  have p1 := HP.out.cell 1
  simp only [List.getElem?_toArray, List.getElem?_cons_zero, List.getElem?_cons_succ] at p0 p1
  go_wp2_with fail
  have HS0 := Lib.hid hS
  have HT := Lib.hid ht
  have HNN := Lib.hid hN
  have hS8 : S ≤ 8 := by have := HV.out.2.1; omega
  have hn24 : nn ≤ 24 := by omega
  clear hS ht hN
  refine (rdP_ok S A n c ms gt ot ct u _ (H.out.ext HX.out) HV.out (HS0.out.ext growsG HX.out)).mono ?_
  rintro e w2 ⟨gs, rfl, hgo, hS, hX⟩
  have HS := Lib.hid hS
  replace HX := Lib.hid (HX.out.trans hX)
  replace HP := Lib.hid (HP.out.ext hX)
  clear hS hX p0 p1 hgo
  have p0 := HP.out.cell 0
  have p1 := HP.out.cell 1
  simp only [List.getElem?_toArray, List.getElem?_cons_zero, List.getElem?_cons_succ] at p0 p1
  go_wp2_with fail
  refine (slopes_any S nn A n c ms gs 0 S u _ (H.out.ext HX.out) HV.out HNN.out HS.out HT.out).mono ?_
  rintro e w3 ⟨go, rfl, hR, hX⟩
  replace HX := Lib.hid (HX.out.trans hX)
  have HR := Lib.hid hR
  clear hR hX p0 p1
  go_wp2_with fail
  go_loopg [23] nn (fun fu iv wr => ∃ j : Nat, fu = nn - j ∧ j ≤ nn ∧ iv = .int .i64 (j : Int) ∧ Hid (∀ i, i < j → slope nn ms u i = 0) ∧ Hid (RowN (fun w v q => NumX w v q 57) 217 3 w2.heap.size wr go nn nn nn (fun j => some (slope nn ms u j))) ∧ Hid (Ext w wr))
  case atStart => exact ⟨0, rfl, by omega, rfl, Lib.hid (fun i hi => by omega), HR, HX⟩
  case round =>
    clear HR HX
    obtain ⟨j, rfl, hj, rfl, HZ, HR, HX⟩ := hrel
    by_cases hlt : j < nn
    · have q1 : decide (j < nn) = true := decide_eq_true hlt
      obtain ⟨s1, A1, l1, c1, B1, m1, k1, x0, x1, x2, hx⟩ := HR.out.cells hlt rfl
      have HN := Lib.hid (hx _ rfl)
      clear hx
      go_upto_region 7 with (fail)
      have hXa : Ext wr (wr.alloc (.cells #[.bool s1, .slice A1 l1 c1, .slice B1 m1 k1] 217)) := (Ext.refl _).alloc _
      have kB := Blk.new wr 217 #[.bool s1, .slice A1 l1 c1, .slice B1 m1 k1]
      have hgw := HX.out.size
      replace HX := Lib.hid (HX.out.trans hXa)
      replace HR := Lib.hid (HR.out.ext (staysNum 57) hXa)
      replace HN := Lib.hid (HN.out.ext hXa)
      clear hXa x0 x1 x2
      generalize wr.heap.size = gx at kB hgw ⊢
      generalize wr.alloc (.cells #[.bool s1, .slice A1 l1 c1, .slice B1 m1 k1] 217) = w5 at kB HX HR HN ⊢
      have y0 := kB.cell 0
      have y1 := kB.cell 1
      have y2 := kB.cell 2
      simp only [List.getElem?_toArray, List.getElem?_cons_zero, List.getElem?_cons_succ] at y0 y1 y2
      clear kB
      go_wp2_with fail
      
      refine (signX HN.out).mono ?_
      rintro e w6 ⟨rfl, hX⟩
      replace HX := Lib.hid (HX.out.trans hX)
      replace HR := Lib.hid (HR.out.ext (staysNum 57) hX)
      clear hX y0 y1 y2
      obtain ⟨sg, hsg⟩ : ∃ sg, sgnQ (slope nn ms u j) = sg := ⟨_, rfl⟩
      rw [hsg]
      by_cases hz : sg = 0
      · have q2 : (sg != 0) = false := by simpa using hz
        have HSL : Hid (slope nn ms u j = 0) := Lib.hid (sgnQ_iff.1 (hsg.trans hz))
        clear hsg hz
        go_wp2
        go_roundg (nn - (j + 1))
        case rel => exact ⟨j + 1, rfl, by omega, by go_num, Lib.hid (fun i hi => by by_cases e : i = j; (rw [e]; exact HSL.out); exact HZ.out i (by omega)), HR, HX⟩
        case measure => omega
      · have q2 : (sg != 0) = true := by simpa using hz
        have HMB : Hid (minB nn ms u = false) := Lib.hid (by rcases hb : minB nn ms u with _ | _; rfl; exact absurd (hsg.symm.trans (sgnQ_iff.2 (minB_iff.1 hb j hlt))) hz)
        clear hsg hz
        go_wp2
        go_ret2
        exact ⟨by rw [HMB.out]; rfl, HX.out⟩
    · obtain rfl : nn = j := by omega
      have q1 : decide (nn < nn) = false := by simp
      have HMB : Hid (minB nn ms u = true) := Lib.hid (minB_iff.2 HZ.out)
      go_wp2
      go_ret2
      exact ⟨by rw [HMB.out]; rfl, HX.out⟩

end Go.Proofs.Ytikhlcgnlbinfaa
namespace Go.Proofs.Ytikhlcgnlbinfaa
open Go.RowKit

set_option maxRecDepth 100000 in
set_option maxHeartbeats 16000000 in
theorem residP_ok (S : Nat) (A : Option Addr) (n c : Nat) (ms : List Mt) (gt ot ct : Nat) (u : Nat → Rat) (i : Nat) (m : Mt) (w : World) (h : MsAt w A n ms) (hv : VP (S : Int) ms) (hS : ShP RatG w gt ot S u) (hm : ms[i]? = some m) (hf : FitQW (res (3 * S) m u)) :
    Calls Try.prog 56 #[.agg #[.int .i64 (S : Int), .slice A n c], .slice (some ⟨gt, ot, none⟩) S ct, .int .i64 (i : Int)] w (fun e w' => ∃ v, e = .returned (.tuple #[v, .int .i64 0]) ∧ RatC w' v (res (3 * S) m u) ∧ Ext w w') := by
  have H := Lib.hid h
  have HV := Lib.hid hv
  clear h hv
  have hXe : Ext w ((w.alloc (.cells #[.int .i64 (S : Int), .slice A n c] 76)).alloc (.cells #[.bool false, .slice none 0 0, .slice none 0 0] 97)) := ((Ext.refl w).alloc _).alloc _
  have kP : Blk ((w.alloc (.cells #[.int .i64 (S : Int), .slice A n c] 76)).alloc (.cells #[.bool false, .slice none 0 0, .slice none 0 0] 97)) w.heap.size 76 #[.int .i64 (S : Int), .slice A n c] := Blk.alloc (Blk.new w _ _) _
  have kR : Blk ((w.alloc (.cells #[.int .i64 (S : Int), .slice A n c] 76)).alloc (.cells #[.bool false, .slice none 0 0, .slice none 0 0] 97)) (w.heap.size + 1) 97 #[.bool false, .slice none 0 0, .slice none 0 0] := Blk.at_ (by simp)
  go_enter Try.func56, Try.ntmps56
  go_upto_region 1 with (fail)
  generalize (w.alloc (.cells #[.int .i64 (S : Int), .slice A n c] 76)).alloc (.cells #[.bool false, .slice none 0 0, .slice none 0 0] 97) = w1 at hXe kP kR ⊢
  have HX := Lib.hid hXe
  have HP := Lib.hid kP
  have HR := Lib.hid kR
  clear hXe kP kR
  have p0 := HP.out.cell 0
  have p1 := HP.out.cell 1
  simp only [List.getElem?_toArray, List.getElem?_cons_zero, List.getElem?_cons_succ] at p0 p1
  go_wp2_with fail
  have HF := Lib.hid hf
  have hin : i < n := by
    have := H.out.1
    have h2 := (List.getElem?_eq_some_iff.1 hm).1
    omega
  have HM := Lib.hid hm
  clear hf hm
  have HS0 := Lib.hid hS
  clear hS
  refine (rdP_ok S A n c ms gt ot ct u _ (H.out.ext HX.out) HV.out (HS0.out.ext growsG HX.out)).mono ?_
  rintro e w2 ⟨go, rfl, hgo, hS, hX⟩
  have HS := Lib.hid hS
  replace HX := Lib.hid (HX.out.trans hX)
  replace HP := Lib.hid (HP.out.ext hX)
  replace HR := Lib.hid (HR.out.ext hX)
  clear hS hX p0 p1 hgo
  have p0 := HP.out.cell 0
  have p1 := HP.out.cell 1
  simp only [List.getElem?_toArray, List.getElem?_cons_zero, List.getElem?_cons_succ] at p0 p1
  obtain ⟨r0, r1, r2, f0, f1, f2⟩ := HR.out.three
  have q1 : decide ((i : Int) < 0) = false := decide_eq_false (by omega)
  have q2 : decide (n ≤ i) = false := decide_eq_false (by omega)
  have q3 : decide ((n : Int) ≤ (i : Int)) = false := decide_eq_false (by omega)
  obtain ⟨gm, om, ⟨a, b, x, y, z, d, ww⟩, rfl, hm, hmem, x0, x1, x2, x3, x4, x5, x6⟩ := (H.out.ext HX.out).get hin
  simp only at x0 x1 x2 x3 x4 x5 x6
  obtain rfl : m = ⟨a, b, x, y, z, d, ww⟩ := by have := HM.out.symm.trans hm; injection this
  have HMM := Lib.hid (HV.out.2.2.2 _ hmem)
  clear hm hmem
  go_wp2_with fail
  refine (residual_any (m := ⟨a, b, x, y, z, d, ww⟩) HS.out HMM.out (by omega)).mono ?_
  rintro e w3 ⟨v3, rfl, hv, hX⟩
  obtain ⟨s1, A1, l1, c1, B1, m1, k1, rfl⟩ := NumX.open hv
  have HN := Lib.hid hv
  replace HX := Lib.hid (HX.out.trans hX)
  replace HR := Lib.hid (HR.out.ext hX)
  clear hv hX r0 r1 r2 f0 f1 f2 x0 x1 x2 x3 x4 x5 x6 p0 p1
  go_wp2_with fail
  refine (doneG HN.out (by omega) HF.out).mono ?_
  rintro e w5 ⟨v5, rfl, hv, hX⟩
  obtain ⟨s4, A4, l4, c4, B4, m4, k4, rfl⟩ := RatC.open hv
  have HC := Lib.hid hv
  replace HX := Lib.hid (HX.out.trans hX)
  replace HR := Lib.hid (HR.out.ext hX)
  clear hv hX
  obtain ⟨r0, r1, r2, f0, f1, f2⟩ := HR.out.three
  have HNI := Lib.hid (NoInts.three HR.out)
  go_wp2
  refine bodyPost_ret (v := .tuple #[.agg #[.bool s4, .slice A4 l4 c4, .slice B4 m4 k4], .int .i64 0]) (by simp [results, Try.results56, go_sem, *]) rfl ?_
  exact ⟨_, rfl, staysC _ _ _ _ _ HC.out ((((Keeps.refl [w.heap.size + 1] w5).setCell (.inl (by simp)) _).setCell (.inl (by simp)) _).setCell (.inl (by simp)) _) (fun g hg => by simp at hg; subst hg; exact HNI.out), Ext.boxed HX.out (by omega) _ _ _⟩

end Go.Proofs.Ytikhlcgnlbinfaa
namespace Go.Proofs.Ytikhlcgnlbinfaa
open Go.RowKit

theorem kindG : KindK 3 (Tri RatG) := ⟨fun w cs x h => by obtain ⟨s, A, l, c, B, m, k, rfl, _⟩ := h; rfl, fun w w' L cs x h hk hN => by obtain ⟨s, A, l, c, B, m, k, e, h⟩ := h; exact ⟨s, A, l, c, B, m, k, e, h.keepsNI hk hN⟩, fun h => by omega⟩
/-- The nine cells of a shift. -/
def Cs3 (w : World) (cs : List Value) (q0 q1 q2 : Rat) : Prop := ∃ c0 c1 c2, cs = c0 ++ c1 ++ c2 ∧ Tri RatG w c0 q0 ∧ Tri RatG w c1 q1 ∧ Tri RatG w c2 q2
theorem Cs3.ext {w w' : World} {cs : List Value} {q0 q1 q2 : Rat} (h : Cs3 w cs q0 q1 q2) (he : Ext w w') : Cs3 w' cs q0 q1 q2 := by
  obtain ⟨c0, c1, c2, e, h0, h1, h2⟩ := h
  exact ⟨c0, c1, c2, e, kindG.ext h0 he, kindG.ext h1 he, kindG.ext h2 he⟩
theorem Cs3.keepsNI {w w' : World} {cs : List Value} {q0 q1 q2 : Rat} {L : List Nat} (h : Cs3 w cs q0 q1 q2) (hk : Keeps L w w') (hN : ∀ g ∈ L, NoInts w g) : Cs3 w' cs q0 q1 q2 := by
  obtain ⟨c0, c1, c2, e, h0, h1, h2⟩ := h
  exact ⟨c0, c1, c2, e, kindG.keep _ _ L _ _ h0 hk hN, kindG.keep _ _ L _ _ h1 hk hN, kindG.keep _ _ L _ _ h2 hk hN⟩
theorem Cs3.vals {w : World} {cs : List Value} {q0 q1 q2 : Rat} (h : Cs3 w cs q0 q1 q2) : cs.length = 9 ∧ (∀ u ∈ cs, u.oneCell' = true) ∧ (∀ u ∈ cs, NoInt u) := by
  obtain ⟨c0, c1, c2, rfl, ⟨s0, A0, l0, d0, B0, m0, k0, rfl, _⟩, ⟨s1, A1, l1, d1, B1, m1, k1, rfl, _⟩, ⟨s2, A2, l2, d2, B2, m2, k2, rfl, _⟩⟩ := h
  refine ⟨rfl, fun u hu => ?_, fun u hu => ?_⟩
  · simp at hu
    rcases hu with rfl | rfl | rfl | rfl | rfl | rfl | rfl | rfl | rfl <;> rfl
  · simp at hu
    rcases hu with rfl | rfl | rfl | rfl | rfl | rfl | rfl | rfl | rfl
    all_goals first | exact noInt_bool _ | exact noInt_slice _ _ _
theorem zN9 : ∀ u ∈ (Value.agg #[.bool false, .slice none 0 0, .slice none 0 0, .bool false, .slice none 0 0, .slice none 0 0, .bool false, .slice none 0 0, .slice none 0 0]).cells, NoInt u := fun u hu => by
  simp [Value.cells] at hu
  rcases hu with rfl | rfl | rfl | rfl | rfl | rfl
  all_goals first | exact noInt_bool _ | exact noInt_slice _ _ _
theorem NumK.snoc9 {w : World} {vs cs : List Value} {k : Nat} {f : Nat → Rat} (h : NumK 3 (Tri RatG) w vs (3 * k) f) (hc : Cs3 w cs (f (3 * k)) (f (3 * k + 1)) (f (3 * k + 2))) : NumK 3 (Tri RatG) w (vs ++ cs) (3 * (k + 1)) f := by
  obtain ⟨c0, c1, c2, rfl, h0, h1, h2⟩ := hc
  have l0 := kindG.len _ _ _ h0
  have l1 := kindG.len _ _ _ h1
  have l2 := kindG.len _ _ _ h2
  have e1 := h.snoc l0 h0
  have e2 := e1.snoc l1 h1
  have e3 := e2.snoc l2 h2
  rw [show vs ++ (c0 ++ c1 ++ c2) = vs ++ c0 ++ c1 ++ c2 by simp]
  refine NumK.congr e3 (fun j hj => ?_)
  by_cases a2 : j = 3 * k + 1 + 1
  · rw [if_pos a2, a2]
  · rw [if_neg a2]
    by_cases a1 : j = 3 * k + 1
    · rw [if_pos a1, a1]
    · rw [if_neg a1]
      by_cases a0 : j = 3 * k
      · rw [if_pos a0, a0]
      · rw [if_neg a0]

end Go.Proofs.Ytikhlcgnlbinfaa
