/- Lemmas of the proof that follows (Steps, part 3): walks of functions by contract, and plain lemmas. Conditions: none. -/
import Derived.Test.YtagcgldhhdecjaaStepsB
namespace Go.Proofs.Ytagcgldhhdecjaa
open Go.RowKit

theorem elS : Elem Try.prog 56 94 2 16 (.agg #[.int .i64 0, .int .i64 0]) := Elem.mk' (by kernel_rfl) (by kernel_rfl) rfl (by decide)
/-- Steps as cells. -/
def stV (ss : List (Int × Int)) : List Value := ss.flatMap fun s => [.int .i64 s.1, .int .i64 s.2]
theorem stV_len (ss : List (Int × Int)) : (stV ss).length = ss.length * 2 := by
  induction ss with
  | nil => rfl
  | cons r rs ih => unfold stV at ih ⊢; rw [List.flatMap_cons, List.length_append, ih]; simp; omega
theorem stV_snoc (ss : List (Int × Int)) (s : Int × Int) : stV (ss ++ [s]) = stV ss ++ [.int .i64 s.1, .int .i64 s.2] := by simp [stV]
theorem stV_set (ss : List (Int × Int)) (d c e : Int) : (stV (ss ++ [(d, c)])).set (ss.length * 2 + 1) (.int .i64 e) = stV (ss ++ [(d, e)]) := by
  rw [stV_snoc, stV_snoc, List.set_append_right _ _ (by rw [stV_len]; omega), stV_len, show ss.length * 2 + 1 - ss.length * 2 = 1 by omega]
  rfl
theorem stV_get {ss : List (Int × Int)} {j : Nat} {s : Int × Int} (h : ss[j]? = some s) : (stV ss)[j * 2]? = some (.int .i64 s.1) ∧ (stV ss)[j * 2 + 1]? = some (.int .i64 s.2) := by
  induction ss generalizing j with
  | nil => simp at h
  | cons x rs ih =>
    have e : stV (x :: rs) = .int .i64 x.1 :: .int .i64 x.2 :: stV rs := rfl
    rw [e]
    cases j with
    | zero => simp at h; subst h; exact ⟨rfl, rfl⟩
    | succ j =>
      have := ih (j := j) (by simpa using h)
      rw [show (j + 1) * 2 = j * 2 + 1 + 1 by omega]
      simpa using this
/-- Steps in memory. -/
def StL (base : Nat) (w : World) (v : Value) (ss : List (Int × Int)) : Prop := w.ownsRow base 94 2 v ss.length (stV ss)
theorem StL.ext {base : Nat} {w w' : World} {v : Value} {ss : List (Int × Int)} (h : StL base w v ss) (he : Ext w w') : StL base w' v ss := World.ownsRow.ext' h he
theorem StL.nil (base : Nat) (w : World) : StL base w (.slice none 0 0) [] := World.ownsRow_nil _ _ _ _
theorem StL.get {base : Nat} {w : World} {v : Value} {ss : List (Int × Int)} (h : StL base w v ss) {j : Nat} (hj : j < ss.length) : ∃ g c s, v = .slice (some ⟨g, 0, none⟩) ss.length c ∧ ss[j]? = some s ∧ w.cell? ⟨g, j * 2, none⟩ = some (.int .i64 s.1) ∧ w.cell? ⟨g, j * 2 + 1, none⟩ = some (.int .i64 s.2) := by
  obtain ⟨A, c, rfl⟩ := own_slice h
  obtain ⟨g, rfl, _, _⟩ := own_at0 h (by omega)
  have hr : ss[j]? = some ss[j] := List.getElem?_eq_getElem hj
  obtain ⟨h1, h2⟩ := stV_get hr
  exact ⟨g, c, _, rfl, hr, (h.cellAt (j * 2) (by omega)).trans h1, (h.cellAt (j * 2 + 1) (by omega)).trans h2⟩
def RetSt (w : World) (ss : List (Int × Int)) (e : Ending) (w' : World) : Prop := ∃ v, e = .returned v ∧ StL w.heap.size w' v ss ∧ Ext w w'
theorem diffF_take {l : List Int} {k : Nat} {x : Int} (h : l[k]? = some x) : diffF (l.take (k + 1)) = pushS (diffF (l.take k)) (x - (l.take k).getLastD 0) := by
  rw [List.take_add_one, h]
  exact diffF_snoc _ _
theorem last_take {l : List Int} {k : Nat} {x : Int} (h : l[k]? = some x) : (l.take (k + 1)).getLastD 0 = x := by
  rw [List.take_add_one, h]
  simp
/-- Counts stay small. -/
theorem pushS_cnt {out : List (Int × Int)} {k : Int} (h : ∀ s ∈ out, 1 ≤ s.2 ∧ s.2 ≤ k) (hk : 0 ≤ k) (d : Int) : ∀ s ∈ pushS out d, 1 ≤ s.2 ∧ s.2 ≤ k + 1 := by
  rcases List.eq_nil_or_concat out with rfl | ⟨o, ⟨d', c⟩, rfl⟩
  · intro s hs
    simp [pushS] at hs
    subst hs
    simp only; omega
  · have hc := h (d', c) (by simp)
    simp only at hc
    by_cases hd : d' = d
    · subst hd
      rw [List.concat_eq_append, pushS_same]
      intro s hs
      rcases List.mem_append.1 hs with hs | hs
      · have := h s (by simp [hs]); omega
      · simp at hs; subst hs; simp only; omega
    · rw [List.concat_eq_append, pushS_other _ hd]
      intro s hs
      rcases List.mem_append.1 hs with hs | hs
      · have := h s (by simpa using hs); omega
      · simp at hs; subst hs; simp only; omega
set_option maxRecDepth 100000 in
set_option maxHeartbeats 8000000 in
theorem diffP_any (A : Option Addr) (n c : Nat) (l : List Int) (w : World) (h : Ints .i64 w A n l) (hn : n ≤ 1000) (hb : ∀ x ∈ l, -1152921504606846976 ≤ x ∧ x ≤ 1152921504606846976) :
    Calls Try.prog 40 #[.slice A n c] w (RetSt w (diffF l)) := by
  have H := Lib.hid h
  have HL := Lib.hid h.1
  have HBD := Lib.hid hb
  clear h hb
  go_enter Try.func40, Try.ntmps40
  go_wp2_with fail
  go_loopg [3, 4, 11] n (fun f ov lv iv wr => ∃ (k : Nat) (out : List (Int × Int)) (la : Int), f = n - k ∧ k ≤ n ∧ lv = .int .i64 la ∧ iv = .int .i64 (k : Int) ∧ -1152921504606846976 ≤ la ∧ la ≤ 1152921504606846976 ∧ Hid ((l.take k).getLastD 0 = la) ∧ Hid (diffF (l.take k) = out) ∧ Hid (∀ s ∈ out, 1 ≤ s.2 ∧ s.2 ≤ (k : Int)) ∧ Hid (StL w.heap.size wr ov out) ∧ Hid (Ext w wr))
  case atStart => exact ⟨0, [], 0, rfl, by omega, rfl, rfl, by omega, by omega, Lib.hid rfl, Lib.hid rfl, Lib.hid (by simp), Lib.hid (StL.nil _ _), Lib.hid (Ext.refl _)⟩
  case round =>
    obtain ⟨k, out, la, rfl, hk, rfl, rfl, hla1, hla2, HLA, HDF, HCN, HO, HX⟩ := hrel
    by_cases hlt : k < n
    · obtain ⟨b, off, x, rfl, hx, _, hc⟩ := (H.out.ext HX.out).get hlt
      obtain ⟨bx1, bx2⟩ := HBD.out x (List.mem_of_getElem? hx)
      have HD2 := Lib.hid (diffF_take hx)
      have HL2 := Lib.hid (last_take hx)
      rw [HLA.out] at HD2
      clear hx
      obtain ⟨dd, hdd0⟩ : ∃ dd, x - la = dd := ⟨_, rfl⟩
      have qw : IntKind.i64.wrap (x - la) = dd := by rw [hdd0]; exact IntWalk.i64_in _ (by omega)
      rw [hdd0] at HD2
      clear hdd0
      have hps : Hid (pushS out (dd) = diffF (l.take (k + 1))) := Lib.hid (by rw [HD2.out, HDF.out])
      have hcn := pushS_cnt HCN.out (by omega) (dd)
      rw [hps.out] at hcn
      have HCN2 : Hid (∀ s ∈ diffF (l.take (k + 1)), 1 ≤ s.2 ∧ s.2 ≤ ((k + 1 : Nat) : Int)) := Lib.hid (by simpa using hcn)
      have hln := diffF_len (l.take (k + 1))
      have hlo := diffF_len (l.take k)
      rw [HDF.out] at hlo
      rw [List.length_take] at hln hlo
      have hown := HO.out
      clear hcn
      rcases List.eq_nil_or_concat out with ho | ⟨o, ⟨d', cc⟩, ho⟩
      · subst ho
        obtain ⟨A1, c1, hso⟩ := own_slice hown
        subst hso
        have hown' : wr.ownsRow w.heap.size 94 2 (.slice A1 0 c1) 0 (stV []) := hown
        have hsz := HX.out.size
        have HPS : Hid (diffF (l.take (k + 1)) = [] ++ [(dd, 1)]) := Lib.hid (by rw [← hps.out]; rfl)
        clear hown hln hlo
        go_wp2_with (at_builtin; refine wpList_app _ elS rfl _ _ rfl w.heap.size (.slice A1 0 c1) 0 (stV []) rfl (hown'.alloc _) _ 1 1 [.int .i64 (dd), .int .i64 1] rfl rfl (At.new' _ [_, _] _ rfl) (by simp [Value.oneCell']) (by omega) (by unfold maxLen; omega) (by simp; omega) ?_; intro v5 w5 hown5 hgr5 _; have HX5 := Lib.hid (HX.out.push hown' hgr5); have HOW5 := Lib.hid hown5; clear hown5 hgr5)
        go_roundg (n - (k + 1))
        case rel => exact ⟨k + 1, diffF (l.take (k + 1)), x, rfl, by omega, by go_num, by go_num, by omega, by omega, HL2, Lib.hid rfl, HCN2, Lib.hid (by rw [HPS.out]; unfold StL; rw [stV_snoc, List.length_append]; exact HOW5.out), HX5⟩
        case measure => omega
      · rw [List.concat_eq_append] at ho
        subst ho
        obtain ⟨oz, hoz⟩ : ∃ oz, o.length = oz := ⟨_, rfl⟩
        have hown' : StL w.heap.size wr _ (o ++ [(d', cc)]) := hown
        unfold StL at hown'
        rw [List.length_append, hoz] at hown'
        simp only [List.length_cons, List.length_nil, Nat.zero_add] at hown'
        obtain ⟨A1, c1, hso⟩ := own_slice hown'
        subst hso
        obtain ⟨g, hge, hg1, hg2⟩ := own_at0 hown' (by omega)
        subst hge
        obtain ⟨cur, hB, _⟩ := own_cells hown'
        have hfr := hB.free (oz * 2 + 1)
        have hgt := stV_get (ss := o ++ [(d', cc)]) (j := oz) (s := (d', cc)) (by rw [← hoz]; simp)
        have hc0 := (hown'.cellAt (oz * 2) (by omega)).trans hgt.1
        have hc1 := (hown'.cellAt (oz * 2 + 1) (by omega)).trans hgt.2
        simp only at hc0 hc1
        have hcc := HCN.out (d', cc) (by simp)
        simp only at hcc
        obtain ⟨hcc1, hcc2⟩ := hcc
        have hol : oz + 1 ≤ k := by rw [List.length_append, hoz] at hlo; simp only [List.length_cons, List.length_nil] at hlo; omega
        have HOZ := Lib.hid hoz
        clear hown hgt hB hln hlo hoz
        have hsz := HX.out.size
        by_cases hdd : d' = (dd)
        · have qd : (d' == (dd)) = true := by simpa using hdd
          have HPS : Hid (diffF (l.take (k + 1)) = o ++ [(d', cc + 1)]) := Lib.hid (by rw [← hps.out, ← hdd]; exact pushS_same _ _ _)
          have HOW := Lib.hid hown'
          clear hdd hown'
          go_wp2
          go_roundg (n - (k + 1))
          case rel => exact ⟨k + 1, diffF (l.take (k + 1)), x, rfl, by omega, by go_num, by go_num, by omega, by omega, HL2, Lib.hid rfl, HCN2, Lib.hid (by
                      rw [HPS.out]
                      unfold StL
                      have h1 := ownsRow_set (i := oz * 2 + 1) (u := .int .i64 (cc + 1)) HOW.out
                      rw [← HOZ.out, stV_set, HOZ.out] at h1
                      rw [List.length_append, HOZ.out]
                      exact h1), Lib.hid (HX.out.setCell hg1 _)⟩
          case measure => omega
        · have qd : (d' == (dd)) = false := by simpa using hdd
          have HPS : Hid (diffF (l.take (k + 1)) = o ++ [(d', cc)] ++ [(dd, 1)]) := Lib.hid (by rw [← hps.out]; exact pushS_other _ hdd)
          clear hdd
          go_wp2_with (at_builtin; refine wpList_app _ elS rfl _ _ rfl w.heap.size (.slice (some ⟨g, 0, none⟩) (oz + 1) c1) (oz + 1) (stV (o ++ [(d', cc)])) rfl (hown'.alloc _) _ 1 1 [.int .i64 (dd), .int .i64 1] rfl rfl (At.new' _ [_, _] _ rfl) (by simp [Value.oneCell']) (by omega) (by unfold maxLen; omega) (by simp; omega) ?_; intro v5 w5 hown5 hgr5 _; have HX5 := Lib.hid (HX.out.push hown' hgr5); have HOW5 := Lib.hid hown5; clear hown5 hgr5)
          go_roundg (n - (k + 1))
          case rel => exact ⟨k + 1, diffF (l.take (k + 1)), x, rfl, by omega, by go_num, by go_num, by omega, by omega, HL2, Lib.hid rfl, HCN2, Lib.hid (by rw [HPS.out]; unfold StL; rw [stV_snoc, List.length_append, List.length_append, HOZ.out]; exact HOW5.out), HX5⟩
          case measure => omega
    · obtain rfl : k = n := by omega
      have HE : Hid (diffF l = out) := Lib.hid (by have := HDF.out; rwa [List.take_of_length_le (by have := HL.out; omega)] at this)
      have hown := HO.out
      obtain ⟨A1, c1, hso⟩ := own_slice hown
      subst hso
      clear hown
      go_wp2
      go_ret
      exact ⟨_, rfl, by rw [HE.out]; exact HO.out, HX.out⟩
end Go.Proofs.Ytagcgldhhdecjaa
namespace Go.Proofs.Ytagcgldhhdecjaa
open Go.RowKit

/-- A slice of steps reads as ss. -/
def StR (w : World) (A : Option Addr) (n : Nat) (ss : List (Int × Int)) : Prop := ss.length = n ∧ At w A (stV ss)
theorem StR.ext {w w' : World} {A : Option Addr} {n : Nat} {ss : List (Int × Int)} (h : StR w A n ss) (he : Ext w w') : StR w' A n ss := ⟨h.1, h.2.ext he⟩
theorem StL.read {base : Nat} {w : World} {A : Option Addr} {n c : Nat} {ss : List (Int × Int)} (h : StL base w (.slice A n c) ss) (hn : ss.length = n) : StR w A n ss := by
  subst hn
  exact ⟨rfl, At.of_own h⟩
theorem StR.get {w : World} {A : Option Addr} {n : Nat} {ss : List (Int × Int)} (h : StR w A n ss) {j : Nat} (hj : j < n) : ∃ b off s, A = some ⟨b, off, none⟩ ∧ ss[j]? = some s ∧ w.cell? ⟨b, off + j * 2, none⟩ = some (.int .i64 s.1) ∧ w.cell? ⟨b, off + j * 2 + 1, none⟩ = some (.int .i64 s.2) := by
  obtain ⟨h1, h2⟩ := h
  have hr : ss[j]? = some ss[j] := List.getElem?_eq_getElem (by omega)
  obtain ⟨g1, g2⟩ := stV_get hr
  obtain ⟨b, off, hA, hc⟩ := h2 (by intro e; rw [e] at g1; simp at g1)
  exact ⟨b, off, _, hA, hr, hc _ _ g1, by rw [Nat.add_assoc]; exact hc _ _ g2⟩
set_option maxRecDepth 100000 in
set_option maxHeartbeats 2000000 in
theorem sameS_eq (A B : Option Addr) (n c d : Nat) (ss : List (Int × Int)) (w : World) (hA : StR w A n ss) (hB : StR w B n ss) (hn : n ≤ 1000000) :
    Calls Try.prog 39 #[.slice A n c, .slice B n d] w fun e w' => e = .returned (.bool true) ∧ Ext w w' := by
  have HA := Lib.hid hA
  have HB := Lib.hid hB
  clear hA hB
  have hnn : ((n : Int) != (n : Int)) = false := by simp
  go_enter Try.func39, Try.ntmps39
  go_wp2_with fail
  go_loopg [5] n (fun g i wr => ∃ k : Nat, g = n - k ∧ k ≤ n ∧ i = .int .i64 (k : Int) ∧ Hid (Ext w wr))
  case atStart => exact ⟨0, rfl, by omega, rfl, Lib.hid (Ext.refl w)⟩
  case round =>
    obtain ⟨k, rfl, hk, rfl, HX⟩ := hrel
    by_cases hlt : k < n
    · have q1 : decide (k < n) = true := decide_eq_true hlt
      obtain ⟨ga, oa, x, rfl, hx, a0, a1⟩ := (HA.out.ext HX.out).get hlt
      obtain ⟨gb, ob, y, rfl, hy, d0, d1⟩ := (HB.out.ext HX.out).get hlt
      obtain rfl : x = y := by rw [hx] at hy; injection hy
      obtain ⟨x0, x1⟩ := x
      simp only at a0 a1 d0 d1
      clear hx hy
      go_wp2_with fail
      go_region
      go_wp2
      go_roundg (n - (k + 1))
      case rel => exact ⟨k + 1, rfl, by omega, by go_num, Lib.hid HX.out.drew⟩
      case measure => omega
    · obtain rfl : k = n := by omega
      go_wp2
      go_ret
      exact ⟨rfl, HX.out⟩

end Go.Proofs.Ytagcgldhhdecjaa
namespace Go.Proofs.Ytagcgldhhdecjaa
open Go.RowKit

/-- What Digitize computes. -/
def HgtOk (l : List Int) : Prop := l.length ≤ 256 ∧ ∀ x ∈ l, 0 ≤ x ∧ x ≤ 16383
instance (l : List Int) : Decidable (HgtOk l) := inferInstanceAs (Decidable (_ ∧ _))
/-- A row of integers of a call's own. -/
def IntL (base : Nat) (w : World) (v : Value) (xs : List Int) : Prop := ∃ A c, v = .slice A xs.length c ∧ OwnS .i64 3 base w A xs.length c xs
theorem IntL.nil (base : Nat) (w : World) : IntL base w (.slice none 0 0) [] := ⟨none, 0, rfl, World.ownsRow_nil _ _ _ _, rfl, by simp⟩
theorem IntL.ext {base : Nat} {w w' : World} {v : Value} {xs : List Int} (h : IntL base w v xs) (he : Ext w w') : IntL base w' v xs := by
  obtain ⟨A, c, h1, h2⟩ := h
  exact ⟨A, c, h1, h2.ext he⟩
def RetIn (w : World) (r : List Int × Int) (e : Ending) (w' : World) : Prop := ∃ v, e = .returned (.tuple #[v, .int .i64 r.2]) ∧ IntL w.heap.size w' v r.1 ∧ Ext w w'
theorem elN : Elem Try.prog 22 3 1 8 (.int .i64 0) := Elem.mk' (by kernel_rfl) (by kernel_rfl) rfl (by decide)
theorem i64_wf {z : Int} (h : -9223372036854775808 ≤ z ∧ z ≤ 9223372036854775807) : (Lit.int .i64 z).wf = true := by
  simp [Lit.wf, IntKind.min, IntKind.max, IntKind.bits, IntKind.signed]; omega
end Go.Proofs.Ytagcgldhhdecjaa
namespace Go.Proofs.Ytagcgldhhdecjaa

def addR (d : Int) : Nat → List Int → Option (List Int)
  | 0, acc => some acc
  | k + 1, acc => if acc.getLastD 0 + d < 0 ∨ 1023 < acc.getLastD 0 + d ∨ acc.length = 256 then none else addR d k (acc ++ [acc.getLastD 0 + d])
def rebR : List (Int × Int) → Option Int → List Int → Option (List Int)
  | [], _, acc => some acc
  | (d, c) :: ss, pv, acc => if c < 1 ∨ pv = some d ∨ d < -1023 ∨ 1023 < d then none else match addR d c.toNat acc with
    | none => none
    | some acc' => rebR ss (some d) acc'
theorem addR_none {d : Int} {k : Nat} {acc : List Int} (h : acc.length ≤ 256) (hk : 256 < acc.length + k) : addR d k acc = none := by
  induction k generalizing acc with
  | zero => omega
  | succ k ih =>
    unfold addR
    split
    · rfl
    · rename_i hc
      exact ih (by simp; omega) (by simp; omega)
theorem addR_eq {d : Int} {k : Nat} {acc : List Int} (hk : acc.length + k ≤ 256) : addR d k acc = addN d k acc := by
  induction k generalizing acc with
  | zero => rfl
  | succ k ih =>
    unfold addR addN
    by_cases h : 0 ≤ acc.getLastD 0 + d ∧ acc.getLastD 0 + d ≤ 1023
    · rw [if_neg (by omega), if_pos h]
      exact ih (by simp; omega)
    · rw [if_pos (by omega), if_neg h]
theorem Smp.last {l : List Int} (h : Smp l) : 0 ≤ l.getLastD 0 ∧ l.getLastD 0 ≤ 1023 := by
  rcases List.eq_nil_or_concat l with rfl | ⟨a, b, rfl⟩
  · simp
  · have := h.2 b (by simp)
    simpa using this
theorem addN_smp {d : Int} {k : Nat} {acc l : List Int} (ha : Smp acc) (hk : acc.length + k ≤ 256) (h : addN d k acc = some l) : Smp l := by
  obtain ⟨m, rfl, h2, h3⟩ := addN_some h
  have hml : m.length = k := by have := congrArg List.length h2; simpa [dlF_len] using this
  exact ⟨by rw [List.length_append, hml]; omega, fun x hx => by
    rcases List.mem_append.1 hx with hx | hx
    · exact ha.2 x hx
    · exact h3 x hx⟩
theorem rebR_eq {ss : List (Int × Int)} {pv : Option Int} {acc : List Int} (ha : Smp acc) : rebR ss pv acc = rebF ss pv acc := by
  induction ss generalizing pv acc with
  | nil => rfl
  | cons s ss ih =>
    obtain ⟨d, c⟩ := s
    have hl := ha.last
    unfold rebR rebF
    by_cases h1 : c < 1
    · rw [if_pos (.inl h1), if_pos (.inl h1)]
    by_cases h2 : pv = some d
    · rw [if_pos (.inr (.inl h2)), if_pos (.inr (.inr h2))]
    by_cases h3 : d < -1023 ∨ 1023 < d
    · rw [if_pos (.inr (.inr h3))]
      split
      · rfl
      · obtain ⟨k, hk⟩ : ∃ k, c.toNat = k + 1 := ⟨c.toNat - 1, by omega⟩
        rw [hk, addN, if_neg (by omega)]
    rw [if_neg (by rintro (h | h | h); exact h1 h; exact h2 h; exact h3 h)]
    by_cases h4 : 256 - (acc.length : Int) < c
    · rw [if_pos (.inr (.inl h4)), addR_none ha.1 (by omega)]
    rw [if_neg (by rintro (h | h | h); exact h1 h; exact h4 h; exact h2 h), addR_eq (by omega)]
    cases hq : addN d c.toNat acc with
    | none => rfl
    | some acc' => exact ih (addN_smp ha (by omega) hq)
end Go.Proofs.Ytagcgldhhdecjaa
namespace Go.Proofs.Ytagcgldhhdecjaa
open Go.RowKit

theorem dropP_get {ss : List (Int × Int)} {i : Nat} {s : Int × Int} (h : ss[i]? = some s) : ss.drop i = s :: ss.drop (i + 1) := by
  obtain ⟨hi, rfl⟩ := List.getElem?_eq_some_iff.1 h
  rw [List.drop_eq_getElem_cons hi]
set_option maxRecDepth 100000 in
set_option maxHeartbeats 3000000 in
theorem rebP_any (A : Option Addr) (n c : Nat) (ss : List (Int × Int)) (w : World) (h : StR w A n ss) (hn : n ≤ 1000) (hcs : ∀ s ∈ ss, s.2 ≤ 9223372036854775807) :
    Calls Try.prog 43 #[.slice A n c] w (RetIn w (rebO ss)) := by
  have H := Lib.hid h
  have HCS := Lib.hid hcs
  have REQ : Hid (rebO ss = match rebF ss none [] with | none => ([], 4) | some l => (l, 0)) := Lib.hid (by unfold rebO; rfl)
  clear h hcs
  go_enter Try.func43, Try.ntmps43
  go_wp2_with fail
  go_loopg [4, 5, 10] n (fun f ov lv iv wr => ∃ (k : Nat) (acc : List Int) (pv : Option Int) (la : Int), f = n - k ∧ k ≤ n ∧ iv = .int .i64 (k : Int) ∧ lv = .int .i64 la ∧ 0 ≤ la ∧ la ≤ 1023 ∧ Hid (acc.getLastD 0 = la) ∧ Hid (Smp acc) ∧ Hid (rebF ss none [] = rebF (ss.drop k) pv acc) ∧ Hid (k = 0 → pv = none) ∧ Hid (∀ s, 0 < k → ss[k - 1]? = some s → pv = some s.1) ∧ Hid (IntL w.heap.size wr ov acc) ∧ Hid (Ext w wr))
  case atStart => exact ⟨0, [], none, 0, rfl, by omega, rfl, rfl, by omega, by omega, Lib.hid rfl, Lib.hid (by decide), Lib.hid rfl, Lib.hid (fun _ => rfl), Lib.hid (fun s h => absurd h (by omega)), Lib.hid (IntL.nil _ _), Lib.hid (Ext.refl _)⟩
  case round =>
    obtain ⟨k, acc, pv, la, rfl, hk, rfl, rfl, hla1, hla2, HLA, HSA, HRB, HP0, HPV, HO, HX⟩ := hrel
    obtain ⟨A1, c1, hso, hown⟩ := HO.out
    obtain ⟨az, haz⟩ : ∃ az, acc.length = az := ⟨_, rfl⟩
    rw [haz] at hso hown
    subst hso
    have haz2 := HSA.out.1
    rw [haz] at haz2
    have HAZ := Lib.hid haz
    clear haz hown
    by_cases hlt : k < n
    · obtain ⟨b, off, ⟨d, c⟩, rfl, hsk, s0, s1⟩ := (H.out.ext HX.out).get hlt
      simp only at s0 s1
      have hcb := HCS.out (d, c) (List.mem_of_getElem? hsk)
      simp only at hcb
      have hbw : b < wr.heap.size := World.block_lt_of_cell? _ _ s0
      by_cases hk0 : k = 0
      · subst hk0
        simp only [Nat.zero_mul, Nat.add_zero] at s0 s1
        go_upto_region 6 with (fail)
        have hS := Blk.new wr 94 #[.int .i64 d, .int .i64 c]
        replace HX := Lib.hid (HX.out.alloc (.cells #[.int .i64 d, .int .i64 c] 94))
        replace HO := Lib.hid (HO.out.ext ((Ext.refl wr).alloc (.cells #[.int .i64 d, .int .i64 c] 94)))
        clear s0 s1
        generalize wr.heap.size = gs at hS ⊢
        generalize wr.alloc (.cells #[.int .i64 d, .int .i64 c] 94) = wr at hS HX HO ⊢
        have e0 := hS.cell 0
        have e1 := hS.cell 1
        simp only [List.getElem?_toArray, List.getElem?_cons_zero, List.getElem?_cons_succ] at e0 e1
        have HDR : Hid (ss.drop (0) = (d, c) :: ss.drop (0 + 1)) := Lib.hid (dropP_get hsk)
        by_cases hc1 : c < 1
        · have HB : Hid (rebO ss = ([], 4)) := Lib.hid (by rw [REQ.out, HRB.out, HDR.out, rebF, if_pos (.inl hc1)])
          have qc1 : decide (c < 1) = true := decide_eq_true hc1
          clear hsk
          go_wp2_with fail
          go_region
          go_wp2
          go_ret2
          exact ⟨_, by rw [HB.out]; rfl, by rw [HB.out]; exact IntL.nil _ _, HX.out.drew⟩
        have qc1 : decide (c < 1) = false := decide_eq_false hc1
        by_cases hc2 : 256 - (az : Int) < c
        · have HB : Hid (rebO ss = ([], 4)) := Lib.hid (by rw [REQ.out, HRB.out, HDR.out, rebF, if_pos (.inr (.inl (by rw [HAZ.out]; exact hc2)))])
          have qc2 : decide (256 - (az : Int) < c) = true := decide_eq_true hc2
          clear hsk
          go_wp2_with fail
          go_region
          go_wp2
          go_ret2
          exact ⟨_, by rw [HB.out]; rfl, by rw [HB.out]; exact IntL.nil _ _, HX.out.drew⟩
        have qc2 : decide (256 - (az : Int) < c) = false := decide_eq_false hc2
        have hpv : ¬ pv = some d := by rw [HP0.out rfl]; simp
        obtain ⟨cn, rfl⟩ : ∃ x : Nat, c = x := ⟨c.toNat, by omega⟩
        have HRBX : Hid (rebF ss none [] = match addN d cn acc with | none => none | some acc' => rebF (ss.drop (0 + 1)) (some d) acc') := Lib.hid (by rw [HRB.out, HDR.out, rebF, if_neg (by rintro (h | h | h); exact hc1 h; rw [HAZ.out] at h; exact hc2 h; exact hpv h), Int.toNat_natCast]; try rfl)
        have HSK := Lib.hid hsk
        clear hsk hpv
        go_wp2_with fail
        go_region
        go_upto_region 8 with (fail)
        have hX8 := (Ext.refl wr).drew
        replace HX := Lib.hid HX.out.drew
        replace HO := Lib.hid (HO.out.ext hX8)
        have HS := Lib.hid hS.drew
        clear hX8 e0 e1 hS
        generalize wr.drew = wr at HX HO HS ⊢
        have e1 := HS.out.cell 1
        simp only [List.getElem?_toArray, List.getElem?_cons_zero, List.getElem?_cons_succ] at e1
        go_upto_region 9 with (fail)
        go_wp2_with fail
        go_loopg [4, 5, 43] cn (fun f2 ov2 lw jv wr2 => ∃ (j : Nat) (acc2 : List Int) (lb : Int) (oz : Nat), f2 = cn - j ∧ j ≤ cn ∧ jv = .int .i64 (j : Int) ∧ lw = .int .i64 lb ∧ 0 ≤ lb ∧ lb ≤ 1023 ∧ Hid (acc2.getLastD 0 = lb) ∧ Hid (Smp acc2) ∧ Hid (acc2.length = oz) ∧ oz + (cn - j) ≤ 256 ∧ oz ≤ 256 ∧ Hid (addN d cn acc = addN d (cn - j) acc2) ∧ Hid (IntL w.heap.size wr2 ov2 acc2) ∧ Hid (Blk wr2 gs 94 #[.int .i64 d, .int .i64 (cn : Int)]) ∧ Hid (Ext w wr2))
        case atStart => exact ⟨0, acc, la, az, rfl, by omega, rfl, rfl, hla1, hla2, HLA, HSA, HAZ, by omega, by omega, Lib.hid rfl, HO, HS, HX⟩
        case round =>
          clear HX HO HS HLA HSA HAZ
          obtain ⟨j, acc2, lb, oz, rfl, hj, rfl, rfl, hlb1, hlb2, HLB, HSA, HOZ, hoj, hoz2, HAD, HO, HS, HX⟩ := hrel
          obtain ⟨A2, c2, hso, hown⟩ := HO.out
          rw [HOZ.out] at hso hown
          subst hso
          have y0c := HS.out.cell 0
          have y1c := HS.out.cell 1
          simp only [List.getElem?_toArray, List.getElem?_cons_zero, List.getElem?_cons_succ] at y0c y1c
          by_cases hjc : j < cn
          · by_cases hin : 0 ≤ lb + d ∧ lb + d ≤ 1023
            · obtain ⟨hin1, hin2⟩ := hin
              have HN : Hid (addN d (cn - j) acc2 = addN d (cn - (j + 1)) (acc2 ++ [lb + d])) := Lib.hid (by rw [show cn - j = cn - (j + 1) + 1 by omega, addN, HLB.out, if_pos ⟨hin1, hin2⟩])
              have hown' := hown.own
              have hsz := HX.out.size
              have hml : (acc2.map (Value.int .i64)).length = oz := by rw [List.length_map, HOZ.out]
              have hgs := HS.out
              go_wp2_with (at_builtin; refine wpList_app _ elN rfl _ _ rfl w.heap.size (.slice A2 oz c2) oz (acc2.map (Value.int .i64)) rfl (hown'.alloc _) _ 1 1 [.int .i64 (lb + d)] rfl rfl (At.new' _ [_] _ rfl) (by simp [Value.oneCell']) (by omega) (by unfold maxLen; omega) (by simp; omega) ?_; intro v5 w5 hown5 hgr5 _; have HX5 := Lib.hid (HX.out.push hown' hgr5); have HS5 := Lib.hid ((hgs.alloc _).grown hgr5 (fun e => by exact NoRow.of_own (tb := 94) hown' e.symm (by decide) _ _ hgs)); have HOW5 := Lib.hid hown5; clear hown5 hgr5)
              go_roundg (cn - (j + 1))
              case rel =>
                refine ⟨j + 1, acc2 ++ [lb + d], lb + d, oz + 1, rfl, by omega, by go_num, rfl, hin1, hin2, Lib.hid (by simp), Lib.hid ?_, Lib.hid (by rw [List.length_append, HOZ.out]; rfl), by omega, by omega, Lib.hid (by rw [HAD.out, HN.out]), Lib.hid ?_, HS5, HX5⟩
                · exact ⟨by rw [List.length_append, HOZ.out]; simp only [List.length_cons, List.length_nil]; omega, fun x hx => by
                    rcases List.mem_append.1 hx with hx | hx
                    · exact HSA.out.2 x hx
                    · simp at hx; subst hx; exact ⟨hin1, hin2⟩⟩
                · have ho := HOW5.out
                  obtain ⟨A3, c3, rfl⟩ := own_slice ho
                  have hl : (acc2 ++ [lb + d]).length = oz + 1 := by rw [List.length_append, HOZ.out]; rfl
                  refine ⟨A3, c3, by rw [hl], ?_⟩
                  rw [hl]
                  refine ⟨?_, hl, ?_⟩
                  · rw [List.map_append]; exact ho
                  · intro z hz
                    have : 0 ≤ z ∧ z ≤ 1023 := by
                      rcases List.mem_append.1 hz with hz | hz
                      · exact HSA.out.2 z hz
                      · simp at hz; subst hz; exact ⟨hin1, hin2⟩
                    exact i64_wf (by omega)
              case measure => omega
            · have hN0 : addN d cn acc = none := by rw [HAD.out, show cn - j = cn - (j + 1) + 1 by omega, addN, HLB.out, if_neg hin]
              have HB : Hid (rebO ss = ([], 4)) := Lib.hid (by rw [REQ.out, HRBX.out, hN0])
              clear hN0
              by_cases hlo : d < -lb
              · go_wp2
                go_ret2
                exact ⟨_, by rw [HB.out]; rfl, by rw [HB.out]; exact IntL.nil _ _, HX.out⟩
              · have hhi : 1023 - lb < d := by omega
                clear hin
                go_wp2
                go_ret2
                exact ⟨_, by rw [HB.out]; rfl, by rw [HB.out]; exact IntL.nil _ _, HX.out⟩
          · obtain rfl : j = cn := by omega
            have HN : Hid (addN d j acc = some acc2) := Lib.hid (by rw [HAD.out, Nat.sub_self]; rfl)
            have HR3 : Hid (rebF ss none [] = rebF (ss.drop (0 + 1)) (some d) acc2) := Lib.hid (by rw [HRBX.out, HN.out])
            clear hown
            go_wp2
            go_roundg (n - (0 + 1))
            case rel => exact ⟨0 + 1, acc2, some d, lb, rfl, by omega, by go_num, rfl, hlb1, hlb2, HLB, HSA, HR3, Lib.hid (by omega), Lib.hid (fun s _ hs => by rw [Nat.add_sub_cancel, HSK.out] at hs; injection hs with hs; subst hs; rfl), HO, HX⟩
            case measure => omega
      · obtain ⟨k0, rfl⟩ : ∃ k0, k = k0 + 1 := ⟨k - 1, by omega⟩
        obtain ⟨b', off', ⟨pd, pc⟩, e, hpk, hpc, _⟩ := (H.out.ext HX.out).get (j := k0) (by omega)
        injection e with e
        injection e with e1 e2
        subst e1 e2
        simp only at hpc
        replace hpc := (Ext.refl wr).alloc (.cells #[.int .i64 d, .int .i64 c] 94) |>.cell hpc
        go_upto_region 6 with (fail)
        have hS := Blk.new wr 94 #[.int .i64 d, .int .i64 c]
        replace HX := Lib.hid (HX.out.alloc (.cells #[.int .i64 d, .int .i64 c] 94))
        replace HO := Lib.hid (HO.out.ext ((Ext.refl wr).alloc (.cells #[.int .i64 d, .int .i64 c] 94)))
        clear s0 s1
        generalize wr.heap.size = gs at hS ⊢
        generalize wr.alloc (.cells #[.int .i64 d, .int .i64 c] 94) = wr at hS HX HO hpc ⊢
        have e0 := hS.cell 0
        have e1 := hS.cell 1
        simp only [List.getElem?_toArray, List.getElem?_cons_zero, List.getElem?_cons_succ] at e0 e1
        have HDR : Hid (ss.drop (k0 + 1) = (d, c) :: ss.drop (k0 + 1 + 1)) := Lib.hid (dropP_get hsk)
        by_cases hc1 : c < 1
        · have HB : Hid (rebO ss = ([], 4)) := Lib.hid (by rw [REQ.out, HRB.out, HDR.out, rebF, if_pos (.inl hc1)])
          have qc1 : decide (c < 1) = true := decide_eq_true hc1
          clear hsk
          go_wp2_with fail
          go_region
          go_wp2
          go_ret2
          exact ⟨_, by rw [HB.out]; rfl, by rw [HB.out]; exact IntL.nil _ _, HX.out.drew⟩
        have qc1 : decide (c < 1) = false := decide_eq_false hc1
        have qk : decide ((0 : Int) < (k0 : Int) + 1) = true := decide_eq_true (by omega)
        by_cases hc2 : 256 - (az : Int) < c
        · have HB : Hid (rebO ss = ([], 4)) := Lib.hid (by rw [REQ.out, HRB.out, HDR.out, rebF, if_pos (.inr (.inl (by rw [HAZ.out]; exact hc2)))])
          have qc2 : decide (256 - (az : Int) < c) = true := decide_eq_true hc2
          clear hsk
          go_wp2_with fail
          go_region
          go_wp2
          go_ret2
          exact ⟨_, by rw [HB.out]; rfl, by rw [HB.out]; exact IntL.nil _ _, HX.out.drew⟩
        have qc2 : decide (256 - (az : Int) < c) = false := decide_eq_false hc2
        by_cases hpd : pd = d
        · have HB : Hid (rebO ss = ([], 4)) := Lib.hid (by rw [REQ.out, HRB.out, HDR.out, rebF, if_pos (.inr (.inr (by rw [HPV.out _ (by omega) hpk, hpd])))])
          have qd : (pd == d) = true := by simpa using hpd
          clear hsk hpk
          go_wp2_with fail
          go_region
          go_wp2
          go_ret2
          exact ⟨_, by rw [HB.out]; rfl, by rw [HB.out]; exact IntL.nil _ _, HX.out.drew⟩
        have hpv : ¬ pv = some d := by rw [HPV.out _ (by omega) hpk]; simpa using hpd
        have qd : (pd == d) = false := by simpa using hpd
        obtain ⟨cn, rfl⟩ : ∃ x : Nat, c = x := ⟨c.toNat, by omega⟩
        have HRBX : Hid (rebF ss none [] = match addN d cn acc with | none => none | some acc' => rebF (ss.drop (k0 + 1 + 1)) (some d) acc') := Lib.hid (by rw [HRB.out, HDR.out, rebF, if_neg (by rintro (h | h | h); exact hc1 h; rw [HAZ.out] at h; exact hc2 h; exact hpv h), Int.toNat_natCast]; try rfl)
        have HSK := Lib.hid hsk
        clear hsk hpv hpk hpd
        go_wp2_with fail
        go_region
        go_upto_region 8 with (fail)
        have hX8 := (Ext.refl wr).drew
        replace HX := Lib.hid HX.out.drew
        replace HO := Lib.hid (HO.out.ext hX8)
        have HS := Lib.hid hS.drew
        clear hX8 e0 e1 hpc hS
        generalize wr.drew = wr at HX HO HS ⊢
        have e1 := HS.out.cell 1
        simp only [List.getElem?_toArray, List.getElem?_cons_zero, List.getElem?_cons_succ] at e1
        go_upto_region 9 with (fail)
        go_wp2_with fail
        go_loopg [4, 5, 43] cn (fun f2 ov2 lw jv wr2 => ∃ (j : Nat) (acc2 : List Int) (lb : Int) (oz : Nat), f2 = cn - j ∧ j ≤ cn ∧ jv = .int .i64 (j : Int) ∧ lw = .int .i64 lb ∧ 0 ≤ lb ∧ lb ≤ 1023 ∧ Hid (acc2.getLastD 0 = lb) ∧ Hid (Smp acc2) ∧ Hid (acc2.length = oz) ∧ oz + (cn - j) ≤ 256 ∧ oz ≤ 256 ∧ Hid (addN d cn acc = addN d (cn - j) acc2) ∧ Hid (IntL w.heap.size wr2 ov2 acc2) ∧ Hid (Blk wr2 gs 94 #[.int .i64 d, .int .i64 (cn : Int)]) ∧ Hid (Ext w wr2))
        case atStart => exact ⟨0, acc, la, az, rfl, by omega, rfl, rfl, hla1, hla2, HLA, HSA, HAZ, by omega, by omega, Lib.hid rfl, HO, HS, HX⟩
        case round =>
          clear HX HO HS HLA HSA HAZ
          obtain ⟨j, acc2, lb, oz, rfl, hj, rfl, rfl, hlb1, hlb2, HLB, HSA, HOZ, hoj, hoz2, HAD, HO, HS, HX⟩ := hrel
          obtain ⟨A2, c2, hso, hown⟩ := HO.out
          rw [HOZ.out] at hso hown
          subst hso
          have y0c := HS.out.cell 0
          have y1c := HS.out.cell 1
          simp only [List.getElem?_toArray, List.getElem?_cons_zero, List.getElem?_cons_succ] at y0c y1c
          by_cases hjc : j < cn
          · by_cases hin : 0 ≤ lb + d ∧ lb + d ≤ 1023
            · obtain ⟨hin1, hin2⟩ := hin
              have HN : Hid (addN d (cn - j) acc2 = addN d (cn - (j + 1)) (acc2 ++ [lb + d])) := Lib.hid (by rw [show cn - j = cn - (j + 1) + 1 by omega, addN, HLB.out, if_pos ⟨hin1, hin2⟩])
              have hown' := hown.own
              have hsz := HX.out.size
              have hml : (acc2.map (Value.int .i64)).length = oz := by rw [List.length_map, HOZ.out]
              have hgs := HS.out
              go_wp2_with (at_builtin; refine wpList_app _ elN rfl _ _ rfl w.heap.size (.slice A2 oz c2) oz (acc2.map (Value.int .i64)) rfl (hown'.alloc _) _ 1 1 [.int .i64 (lb + d)] rfl rfl (At.new' _ [_] _ rfl) (by simp [Value.oneCell']) (by omega) (by unfold maxLen; omega) (by simp; omega) ?_; intro v5 w5 hown5 hgr5 _; have HX5 := Lib.hid (HX.out.push hown' hgr5); have HS5 := Lib.hid ((hgs.alloc _).grown hgr5 (fun e => by exact NoRow.of_own (tb := 94) hown' e.symm (by decide) _ _ hgs)); have HOW5 := Lib.hid hown5; clear hown5 hgr5)
              go_roundg (cn - (j + 1))
              case rel =>
                refine ⟨j + 1, acc2 ++ [lb + d], lb + d, oz + 1, rfl, by omega, by go_num, rfl, hin1, hin2, Lib.hid (by simp), Lib.hid ?_, Lib.hid (by rw [List.length_append, HOZ.out]; rfl), by omega, by omega, Lib.hid (by rw [HAD.out, HN.out]), Lib.hid ?_, HS5, HX5⟩
                · exact ⟨by rw [List.length_append, HOZ.out]; simp only [List.length_cons, List.length_nil]; omega, fun x hx => by
                    rcases List.mem_append.1 hx with hx | hx
                    · exact HSA.out.2 x hx
                    · simp at hx; subst hx; exact ⟨hin1, hin2⟩⟩
                · have ho := HOW5.out
                  obtain ⟨A3, c3, rfl⟩ := own_slice ho
                  have hl : (acc2 ++ [lb + d]).length = oz + 1 := by rw [List.length_append, HOZ.out]; rfl
                  refine ⟨A3, c3, by rw [hl], ?_⟩
                  rw [hl]
                  refine ⟨?_, hl, ?_⟩
                  · rw [List.map_append]; exact ho
                  · intro z hz
                    have : 0 ≤ z ∧ z ≤ 1023 := by
                      rcases List.mem_append.1 hz with hz | hz
                      · exact HSA.out.2 z hz
                      · simp at hz; subst hz; exact ⟨hin1, hin2⟩
                    exact i64_wf (by omega)
              case measure => omega
            · have hN0 : addN d cn acc = none := by rw [HAD.out, show cn - j = cn - (j + 1) + 1 by omega, addN, HLB.out, if_neg hin]
              have HB : Hid (rebO ss = ([], 4)) := Lib.hid (by rw [REQ.out, HRBX.out, hN0])
              clear hN0
              by_cases hlo : d < -lb
              · go_wp2
                go_ret2
                exact ⟨_, by rw [HB.out]; rfl, by rw [HB.out]; exact IntL.nil _ _, HX.out⟩
              · have hhi : 1023 - lb < d := by omega
                clear hin
                go_wp2
                go_ret2
                exact ⟨_, by rw [HB.out]; rfl, by rw [HB.out]; exact IntL.nil _ _, HX.out⟩
          · obtain rfl : j = cn := by omega
            have HN : Hid (addN d j acc = some acc2) := Lib.hid (by rw [HAD.out, Nat.sub_self]; rfl)
            have HR3 : Hid (rebF ss none [] = rebF (ss.drop (k0 + 1 + 1)) (some d) acc2) := Lib.hid (by rw [HRBX.out, HN.out])
            clear hown
            go_wp2
            go_roundg (n - (k0 + 1 + 1))
            case rel => exact ⟨k0 + 1 + 1, acc2, some d, lb, rfl, by omega, by go_num, rfl, hlb1, hlb2, HLB, HSA, HR3, Lib.hid (by omega), Lib.hid (fun s _ hs => by rw [Nat.add_sub_cancel, HSK.out] at hs; injection hs with hs; subst hs; rfl), HO, HX⟩
            case measure => omega
    · obtain rfl : k = n := by omega
      have HB : Hid (rebO ss = (acc, 0)) := Lib.hid (by
        rw [REQ.out, HRB.out, List.drop_of_length_le (by have := H.out.1; omega)]
        rfl)
      go_wp2
      go_ret2
      exact ⟨.slice A1 az c1, by rw [HB.out]; rfl, by rw [HB.out]; exact HO.out, HX.out⟩
set_option maxRecDepth 100000 in
set_option maxHeartbeats 3000000 in
theorem rebRef_any (A : Option Addr) (n c : Nat) (ss : List (Int × Int)) (w : World) (h : StR w A n ss) (hn : n ≤ 1000) (hcs : ∀ s ∈ ss, s.2 ≤ 9223372036854775807) :
    Calls Try.prog 44 #[.slice A n c] w (RetIn w (rebO ss)) := by
  have H := Lib.hid h
  have HCS := Lib.hid hcs
  have REQ : Hid (rebO ss = match rebR ss none [] with | none => ([], 4) | some l => (l, 0)) := Lib.hid (by unfold rebO; rw [← rebR_eq (by decide)]; rfl)
  clear h hcs
  go_enter Try.func44, Try.ntmps44
  go_wp2_with fail
  go_loopg [4, 5, 6] n (fun f ov lv iv wr => ∃ (k : Nat) (acc : List Int) (pv : Option Int) (la : Int), f = n - k ∧ k ≤ n ∧ iv = .int .i64 (k : Int) ∧ lv = .int .i64 la ∧ 0 ≤ la ∧ la ≤ 1023 ∧ Hid (acc.getLastD 0 = la) ∧ Hid (Smp acc) ∧ Hid (rebR ss none [] = rebR (ss.drop k) pv acc) ∧ Hid (k = 0 → pv = none) ∧ Hid (∀ s, 0 < k → ss[k - 1]? = some s → pv = some s.1) ∧ Hid (IntL w.heap.size wr ov acc) ∧ Hid (Ext w wr))
  case atStart => exact ⟨0, [], none, 0, rfl, by omega, rfl, rfl, by omega, by omega, Lib.hid rfl, Lib.hid (by decide), Lib.hid rfl, Lib.hid (fun _ => rfl), Lib.hid (fun s h => absurd h (by omega)), Lib.hid (IntL.nil _ _), Lib.hid (Ext.refl _)⟩
  case round =>
    obtain ⟨k, acc, pv, la, rfl, hk, rfl, rfl, hla1, hla2, HLA, HSA, HRB, HP0, HPV, HO, HX⟩ := hrel
    obtain ⟨A1, c1, hso, hown⟩ := HO.out
    obtain ⟨az, haz⟩ : ∃ az, acc.length = az := ⟨_, rfl⟩
    rw [haz] at hso hown
    subst hso
    have haz2 := HSA.out.1
    rw [haz] at haz2
    have HAZ := Lib.hid haz
    clear haz hown
    by_cases hlt : k < n
    · obtain ⟨b, off, ⟨d, c⟩, rfl, hsk, s0, s1⟩ := (H.out.ext HX.out).get hlt
      simp only at s0 s1
      have hcb := HCS.out (d, c) (List.mem_of_getElem? hsk)
      simp only at hcb
      have hbw : b < wr.heap.size := World.block_lt_of_cell? _ _ s0
      by_cases hk0 : k = 0
      · subst hk0
        simp only [Nat.zero_mul, Nat.add_zero] at s0 s1
        go_upto_region 7 with (fail)
        have hS := Blk.new wr 94 #[.int .i64 d, .int .i64 c]
        replace HX := Lib.hid (HX.out.alloc (.cells #[.int .i64 d, .int .i64 c] 94))
        replace HO := Lib.hid (HO.out.ext ((Ext.refl wr).alloc (.cells #[.int .i64 d, .int .i64 c] 94)))
        clear s0 s1
        generalize wr.heap.size = gs at hS ⊢
        generalize wr.alloc (.cells #[.int .i64 d, .int .i64 c] 94) = wr at hS HX HO ⊢
        have e0 := hS.cell 0
        have e1 := hS.cell 1
        simp only [List.getElem?_toArray, List.getElem?_cons_zero, List.getElem?_cons_succ] at e0 e1
        have HDR : Hid (ss.drop (0) = (d, c) :: ss.drop (0 + 1)) := Lib.hid (dropP_get hsk)
        by_cases hc1 : c < 1
        · have HB : Hid (rebO ss = ([], 4)) := Lib.hid (by rw [REQ.out, HRB.out, HDR.out, rebR, if_pos (.inl hc1)])
          have qc1 : decide (c < 1) = true := decide_eq_true hc1
          clear hsk
          go_wp2_with fail
          go_region
          go_wp2
          go_ret2
          exact ⟨_, by rw [HB.out]; rfl, by rw [HB.out]; exact IntL.nil _ _, HX.out.drew⟩
        have qc1 : decide (c < 1) = false := decide_eq_false hc1
        have hpv : ¬ pv = some d := by rw [HP0.out rfl]; simp
        by_cases hd1 : d < -1023
        · have HB : Hid (rebO ss = ([], 4)) := Lib.hid (by rw [REQ.out, HRB.out, HDR.out, rebR, if_pos (.inr (.inr (.inl hd1)))])
          have qd1 : decide (d < -1023) = true := decide_eq_true hd1
          clear hsk
          go_wp2_with fail
          go_region
          go_wp2
          go_ret2
          exact ⟨_, by rw [HB.out]; rfl, by rw [HB.out]; exact IntL.nil _ _, HX.out.drew⟩
        have qd1 : decide (d < -1023) = false := decide_eq_false hd1
        by_cases hd2 : 1023 < d
        · have HB : Hid (rebO ss = ([], 4)) := Lib.hid (by rw [REQ.out, HRB.out, HDR.out, rebR, if_pos (.inr (.inr (.inr hd2)))])
          have qd2 : decide (1023 < d) = true := decide_eq_true hd2
          clear hsk
          go_wp2_with fail
          go_region
          go_wp2
          go_ret2
          exact ⟨_, by rw [HB.out]; rfl, by rw [HB.out]; exact IntL.nil _ _, HX.out.drew⟩
        have qd2 : decide (1023 < d) = false := decide_eq_false hd2
        obtain ⟨cn, rfl⟩ : ∃ x : Nat, c = x := ⟨c.toNat, by omega⟩
        have HRBX : Hid (rebR ss none [] = match addR d cn acc with | none => none | some acc' => rebR (ss.drop (0 + 1)) (some d) acc') := Lib.hid (by rw [HRB.out, HDR.out, rebR, if_neg (by rintro (h | h | h | h); exact hc1 h; exact hpv h; exact hd1 h; exact hd2 h), Int.toNat_natCast]; try rfl)
        have HSK := Lib.hid hsk
        clear hsk hpv
        go_wp2_with fail
        go_region
        go_upto_region 9 with (fail)
        have hX8 := (Ext.refl wr).drew
        replace HX := Lib.hid HX.out.drew
        replace HO := Lib.hid (HO.out.ext hX8)
        have HS := Lib.hid hS.drew
        clear hX8 e0 e1 hS
        generalize wr.drew = wr at HX HO HS ⊢
        have e1 := HS.out.cell 1
        simp only [List.getElem?_toArray, List.getElem?_cons_zero, List.getElem?_cons_succ] at e1
        go_upto_region 10 with (fail)
        go_wp2_with fail
        go_loopg [4, 5, 8] cn (fun f2 ov2 lw jv wr2 => ∃ (j : Nat) (acc2 : List Int) (lb : Int) (oz : Nat), f2 = cn - j ∧ j ≤ cn ∧ jv = .int .i64 (j : Int) ∧ lw = .int .i64 lb ∧ 0 ≤ lb ∧ lb ≤ 1023 ∧ Hid (acc2.getLastD 0 = lb) ∧ Hid (Smp acc2) ∧ Hid (acc2.length = oz) ∧ oz + (cn - j) ≤ 9223372036854776063 ∧ oz ≤ 256 ∧ Hid (addR d cn acc = addR d (cn - j) acc2) ∧ Hid (IntL w.heap.size wr2 ov2 acc2) ∧ Hid (Blk wr2 gs 94 #[.int .i64 d, .int .i64 (cn : Int)]) ∧ Hid (Ext w wr2))
        case atStart => exact ⟨0, acc, la, az, rfl, by omega, rfl, rfl, hla1, hla2, HLA, HSA, HAZ, by omega, by omega, Lib.hid rfl, HO, HS, HX⟩
        case round =>
          clear HX HO HS HLA HSA HAZ
          obtain ⟨j, acc2, lb, oz, rfl, hj, rfl, rfl, hlb1, hlb2, HLB, HSA, HOZ, hoj, hoz2, HAD, HO, HS, HX⟩ := hrel
          obtain ⟨A2, c2, hso, hown⟩ := HO.out
          rw [HOZ.out] at hso hown
          subst hso
          have y0c := HS.out.cell 0
          have y1c := HS.out.cell 1
          simp only [List.getElem?_toArray, List.getElem?_cons_zero, List.getElem?_cons_succ] at y0c y1c
          by_cases hjc : j < cn
          · have qw : IntKind.i64.wrap (lb + d) = lb + d := IntWalk.i64_in _ (by omega)
            by_cases hin : lb + d < 0 ∨ 1023 < lb + d ∨ oz = 256
            · have hN0 : addR d cn acc = none := by rw [HAD.out, show cn - j = cn - (j + 1) + 1 by omega, addR, HLB.out, HOZ.out, if_pos hin]
              have HB : Hid (rebO ss = ([], 4)) := Lib.hid (by rw [REQ.out, HRBX.out, hN0])
              clear hN0
              by_cases h1 : lb + d < 0
              · go_wp2
                go_ret2
                exact ⟨_, by rw [HB.out]; rfl, by rw [HB.out]; exact IntL.nil _ _, HX.out⟩
              by_cases h2 : 1023 < lb + d
              · go_wp2
                go_ret2
                exact ⟨_, by rw [HB.out]; rfl, by rw [HB.out]; exact IntL.nil _ _, HX.out⟩
              have h3 : oz = 256 := by omega
              subst h3
              clear hin
              go_wp2
              go_ret2
              exact ⟨_, by rw [HB.out]; rfl, by rw [HB.out]; exact IntL.nil _ _, HX.out⟩
            · have hin1 : 0 ≤ lb + d := by omega
              have hin2 : lb + d ≤ 1023 := by omega
              have hoz : oz < 256 := by omega
              have g256 : ((oz : Int) == 256) = false := by simp; omega
              have HN : Hid (addR d (cn - j) acc2 = addR d (cn - (j + 1)) (acc2 ++ [lb + d])) := Lib.hid (by rw [show cn - j = cn - (j + 1) + 1 by omega, addR, HLB.out, HOZ.out, if_neg hin])
              clear hin
              have hown' := hown.own
              have hsz := HX.out.size
              have hml : (acc2.map (Value.int .i64)).length = oz := by rw [List.length_map, HOZ.out]
              have hgs := HS.out
              go_wp2_with (at_builtin; refine wpList_app _ elN rfl _ _ rfl w.heap.size (.slice A2 oz c2) oz (acc2.map (Value.int .i64)) rfl (hown'.alloc _) _ 1 1 [.int .i64 (lb + d)] rfl rfl (At.new' _ [_] _ rfl) (by simp [Value.oneCell']) (by omega) (by unfold maxLen; omega) (by simp; omega) ?_; intro v5 w5 hown5 hgr5 _; have HX5 := Lib.hid (HX.out.push hown' hgr5); have HS5 := Lib.hid ((hgs.alloc _).grown hgr5 (fun e => by exact NoRow.of_own (tb := 94) hown' e.symm (by decide) _ _ hgs)); have HOW5 := Lib.hid hown5; clear hown5 hgr5)
              go_roundg (cn - (j + 1))
              case rel =>
                refine ⟨j + 1, acc2 ++ [lb + d], lb + d, oz + 1, rfl, by omega, by go_num, rfl, hin1, hin2, Lib.hid (by simp), Lib.hid ?_, Lib.hid (by rw [List.length_append, HOZ.out]; rfl), by omega, by omega, Lib.hid (by rw [HAD.out, HN.out]), Lib.hid ?_, HS5, HX5⟩
                · exact ⟨by rw [List.length_append, HOZ.out]; simp only [List.length_cons, List.length_nil]; omega, fun x hx => by
                    rcases List.mem_append.1 hx with hx | hx
                    · exact HSA.out.2 x hx
                    · simp at hx; subst hx; exact ⟨hin1, hin2⟩⟩
                · have ho := HOW5.out
                  obtain ⟨A3, c3, rfl⟩ := own_slice ho
                  have hl : (acc2 ++ [lb + d]).length = oz + 1 := by rw [List.length_append, HOZ.out]; rfl
                  refine ⟨A3, c3, by rw [hl], ?_⟩
                  rw [hl]
                  refine ⟨?_, hl, ?_⟩
                  · rw [List.map_append]; exact ho
                  · intro z hz
                    have : 0 ≤ z ∧ z ≤ 1023 := by
                      rcases List.mem_append.1 hz with hz | hz
                      · exact HSA.out.2 z hz
                      · simp at hz; subst hz; exact ⟨hin1, hin2⟩
                    exact i64_wf (by omega)
              case measure => omega
          · obtain rfl : j = cn := by omega
            have HN : Hid (addR d j acc = some acc2) := Lib.hid (by rw [HAD.out, Nat.sub_self]; rfl)
            have HR3 : Hid (rebR ss none [] = rebR (ss.drop (0 + 1)) (some d) acc2) := Lib.hid (by rw [HRBX.out, HN.out])
            clear hown
            go_wp2
            go_roundg (n - (0 + 1))
            case rel => exact ⟨0 + 1, acc2, some d, lb, rfl, by omega, by go_num, rfl, hlb1, hlb2, HLB, HSA, HR3, Lib.hid (by omega), Lib.hid (fun s _ hs => by rw [Nat.add_sub_cancel, HSK.out] at hs; injection hs with hs; subst hs; rfl), HO, HX⟩
            case measure => omega
      · obtain ⟨k0, rfl⟩ : ∃ k0, k = k0 + 1 := ⟨k - 1, by omega⟩
        obtain ⟨b', off', ⟨pd, pc⟩, e, hpk, hpc, _⟩ := (H.out.ext HX.out).get (j := k0) (by omega)
        injection e with e
        injection e with e1 e2
        subst e1 e2
        simp only at hpc
        replace hpc := (Ext.refl wr).alloc (.cells #[.int .i64 d, .int .i64 c] 94) |>.cell hpc
        go_upto_region 7 with (fail)
        have hS := Blk.new wr 94 #[.int .i64 d, .int .i64 c]
        replace HX := Lib.hid (HX.out.alloc (.cells #[.int .i64 d, .int .i64 c] 94))
        replace HO := Lib.hid (HO.out.ext ((Ext.refl wr).alloc (.cells #[.int .i64 d, .int .i64 c] 94)))
        clear s0 s1
        generalize wr.heap.size = gs at hS ⊢
        generalize wr.alloc (.cells #[.int .i64 d, .int .i64 c] 94) = wr at hS HX HO hpc ⊢
        have e0 := hS.cell 0
        have e1 := hS.cell 1
        simp only [List.getElem?_toArray, List.getElem?_cons_zero, List.getElem?_cons_succ] at e0 e1
        have HDR : Hid (ss.drop (k0 + 1) = (d, c) :: ss.drop (k0 + 1 + 1)) := Lib.hid (dropP_get hsk)
        by_cases hc1 : c < 1
        · have HB : Hid (rebO ss = ([], 4)) := Lib.hid (by rw [REQ.out, HRB.out, HDR.out, rebR, if_pos (.inl hc1)])
          have qc1 : decide (c < 1) = true := decide_eq_true hc1
          clear hsk
          go_wp2_with fail
          go_region
          go_wp2
          go_ret2
          exact ⟨_, by rw [HB.out]; rfl, by rw [HB.out]; exact IntL.nil _ _, HX.out.drew⟩
        have qc1 : decide (c < 1) = false := decide_eq_false hc1
        have qk : decide ((0 : Int) < (k0 : Int) + 1) = true := decide_eq_true (by omega)
        by_cases hpd : pd = d
        · have HB : Hid (rebO ss = ([], 4)) := Lib.hid (by rw [REQ.out, HRB.out, HDR.out, rebR, if_pos (.inr (.inl (by rw [HPV.out _ (by omega) hpk, hpd])))])
          have qd : (pd == d) = true := by simpa using hpd
          clear hsk hpk
          go_wp2_with fail
          go_region
          go_wp2
          go_ret2
          exact ⟨_, by rw [HB.out]; rfl, by rw [HB.out]; exact IntL.nil _ _, HX.out.drew⟩
        have hpv : ¬ pv = some d := by rw [HPV.out _ (by omega) hpk]; simpa using hpd
        have qd : (pd == d) = false := by simpa using hpd
        by_cases hd1 : d < -1023
        · have HB : Hid (rebO ss = ([], 4)) := Lib.hid (by rw [REQ.out, HRB.out, HDR.out, rebR, if_pos (.inr (.inr (.inl hd1)))])
          have qd1 : decide (d < -1023) = true := decide_eq_true hd1
          clear hsk
          go_wp2_with fail
          go_region
          go_wp2
          go_ret2
          exact ⟨_, by rw [HB.out]; rfl, by rw [HB.out]; exact IntL.nil _ _, HX.out.drew⟩
        have qd1 : decide (d < -1023) = false := decide_eq_false hd1
        by_cases hd2 : 1023 < d
        · have HB : Hid (rebO ss = ([], 4)) := Lib.hid (by rw [REQ.out, HRB.out, HDR.out, rebR, if_pos (.inr (.inr (.inr hd2)))])
          have qd2 : decide (1023 < d) = true := decide_eq_true hd2
          clear hsk
          go_wp2_with fail
          go_region
          go_wp2
          go_ret2
          exact ⟨_, by rw [HB.out]; rfl, by rw [HB.out]; exact IntL.nil _ _, HX.out.drew⟩
        have qd2 : decide (1023 < d) = false := decide_eq_false hd2
        obtain ⟨cn, rfl⟩ : ∃ x : Nat, c = x := ⟨c.toNat, by omega⟩
        have HRBX : Hid (rebR ss none [] = match addR d cn acc with | none => none | some acc' => rebR (ss.drop (k0 + 1 + 1)) (some d) acc') := Lib.hid (by rw [HRB.out, HDR.out, rebR, if_neg (by rintro (h | h | h | h); exact hc1 h; exact hpv h; exact hd1 h; exact hd2 h), Int.toNat_natCast]; try rfl)
        have HSK := Lib.hid hsk
        clear hsk hpv hpk hpd
        go_wp2_with fail
        go_region
        go_upto_region 9 with (fail)
        have hX8 := (Ext.refl wr).drew
        replace HX := Lib.hid HX.out.drew
        replace HO := Lib.hid (HO.out.ext hX8)
        have HS := Lib.hid hS.drew
        clear hX8 e0 e1 hpc hS
        generalize wr.drew = wr at HX HO HS ⊢
        have e1 := HS.out.cell 1
        simp only [List.getElem?_toArray, List.getElem?_cons_zero, List.getElem?_cons_succ] at e1
        go_upto_region 10 with (fail)
        go_wp2_with fail
        go_loopg [4, 5, 8] cn (fun f2 ov2 lw jv wr2 => ∃ (j : Nat) (acc2 : List Int) (lb : Int) (oz : Nat), f2 = cn - j ∧ j ≤ cn ∧ jv = .int .i64 (j : Int) ∧ lw = .int .i64 lb ∧ 0 ≤ lb ∧ lb ≤ 1023 ∧ Hid (acc2.getLastD 0 = lb) ∧ Hid (Smp acc2) ∧ Hid (acc2.length = oz) ∧ oz + (cn - j) ≤ 9223372036854776063 ∧ oz ≤ 256 ∧ Hid (addR d cn acc = addR d (cn - j) acc2) ∧ Hid (IntL w.heap.size wr2 ov2 acc2) ∧ Hid (Blk wr2 gs 94 #[.int .i64 d, .int .i64 (cn : Int)]) ∧ Hid (Ext w wr2))
        case atStart => exact ⟨0, acc, la, az, rfl, by omega, rfl, rfl, hla1, hla2, HLA, HSA, HAZ, by omega, by omega, Lib.hid rfl, HO, HS, HX⟩
        case round =>
          clear HX HO HS HLA HSA HAZ
          obtain ⟨j, acc2, lb, oz, rfl, hj, rfl, rfl, hlb1, hlb2, HLB, HSA, HOZ, hoj, hoz2, HAD, HO, HS, HX⟩ := hrel
          obtain ⟨A2, c2, hso, hown⟩ := HO.out
          rw [HOZ.out] at hso hown
          subst hso
          have y0c := HS.out.cell 0
          have y1c := HS.out.cell 1
          simp only [List.getElem?_toArray, List.getElem?_cons_zero, List.getElem?_cons_succ] at y0c y1c
          by_cases hjc : j < cn
          · have qw : IntKind.i64.wrap (lb + d) = lb + d := IntWalk.i64_in _ (by omega)
            by_cases hin : lb + d < 0 ∨ 1023 < lb + d ∨ oz = 256
            · have hN0 : addR d cn acc = none := by rw [HAD.out, show cn - j = cn - (j + 1) + 1 by omega, addR, HLB.out, HOZ.out, if_pos hin]
              have HB : Hid (rebO ss = ([], 4)) := Lib.hid (by rw [REQ.out, HRBX.out, hN0])
              clear hN0
              by_cases h1 : lb + d < 0
              · go_wp2
                go_ret2
                exact ⟨_, by rw [HB.out]; rfl, by rw [HB.out]; exact IntL.nil _ _, HX.out⟩
              by_cases h2 : 1023 < lb + d
              · go_wp2
                go_ret2
                exact ⟨_, by rw [HB.out]; rfl, by rw [HB.out]; exact IntL.nil _ _, HX.out⟩
              have h3 : oz = 256 := by omega
              subst h3
              clear hin
              go_wp2
              go_ret2
              exact ⟨_, by rw [HB.out]; rfl, by rw [HB.out]; exact IntL.nil _ _, HX.out⟩
            · have hin1 : 0 ≤ lb + d := by omega
              have hin2 : lb + d ≤ 1023 := by omega
              have hoz : oz < 256 := by omega
              have g256 : ((oz : Int) == 256) = false := by simp; omega
              have HN : Hid (addR d (cn - j) acc2 = addR d (cn - (j + 1)) (acc2 ++ [lb + d])) := Lib.hid (by rw [show cn - j = cn - (j + 1) + 1 by omega, addR, HLB.out, HOZ.out, if_neg hin])
              clear hin
              have hown' := hown.own
              have hsz := HX.out.size
              have hml : (acc2.map (Value.int .i64)).length = oz := by rw [List.length_map, HOZ.out]
              have hgs := HS.out
              go_wp2_with (at_builtin; refine wpList_app _ elN rfl _ _ rfl w.heap.size (.slice A2 oz c2) oz (acc2.map (Value.int .i64)) rfl (hown'.alloc _) _ 1 1 [.int .i64 (lb + d)] rfl rfl (At.new' _ [_] _ rfl) (by simp [Value.oneCell']) (by omega) (by unfold maxLen; omega) (by simp; omega) ?_; intro v5 w5 hown5 hgr5 _; have HX5 := Lib.hid (HX.out.push hown' hgr5); have HS5 := Lib.hid ((hgs.alloc _).grown hgr5 (fun e => by exact NoRow.of_own (tb := 94) hown' e.symm (by decide) _ _ hgs)); have HOW5 := Lib.hid hown5; clear hown5 hgr5)
              go_roundg (cn - (j + 1))
              case rel =>
                refine ⟨j + 1, acc2 ++ [lb + d], lb + d, oz + 1, rfl, by omega, by go_num, rfl, hin1, hin2, Lib.hid (by simp), Lib.hid ?_, Lib.hid (by rw [List.length_append, HOZ.out]; rfl), by omega, by omega, Lib.hid (by rw [HAD.out, HN.out]), Lib.hid ?_, HS5, HX5⟩
                · exact ⟨by rw [List.length_append, HOZ.out]; simp only [List.length_cons, List.length_nil]; omega, fun x hx => by
                    rcases List.mem_append.1 hx with hx | hx
                    · exact HSA.out.2 x hx
                    · simp at hx; subst hx; exact ⟨hin1, hin2⟩⟩
                · have ho := HOW5.out
                  obtain ⟨A3, c3, rfl⟩ := own_slice ho
                  have hl : (acc2 ++ [lb + d]).length = oz + 1 := by rw [List.length_append, HOZ.out]; rfl
                  refine ⟨A3, c3, by rw [hl], ?_⟩
                  rw [hl]
                  refine ⟨?_, hl, ?_⟩
                  · rw [List.map_append]; exact ho
                  · intro z hz
                    have : 0 ≤ z ∧ z ≤ 1023 := by
                      rcases List.mem_append.1 hz with hz | hz
                      · exact HSA.out.2 z hz
                      · simp at hz; subst hz; exact ⟨hin1, hin2⟩
                    exact i64_wf (by omega)
              case measure => omega
          · obtain rfl : j = cn := by omega
            have HN : Hid (addR d j acc = some acc2) := Lib.hid (by rw [HAD.out, Nat.sub_self]; rfl)
            have HR3 : Hid (rebR ss none [] = rebR (ss.drop (k0 + 1 + 1)) (some d) acc2) := Lib.hid (by rw [HRBX.out, HN.out])
            clear hown
            go_wp2
            go_roundg (n - (k0 + 1 + 1))
            case rel => exact ⟨k0 + 1 + 1, acc2, some d, lb, rfl, by omega, by go_num, rfl, hlb1, hlb2, HLB, HSA, HR3, Lib.hid (by omega), Lib.hid (fun s _ hs => by rw [Nat.add_sub_cancel, HSK.out] at hs; injection hs with hs; subst hs; rfl), HO, HX⟩
            case measure => omega
    · obtain rfl : k = n := by omega
      have HB : Hid (rebO ss = (acc, 0)) := Lib.hid (by
        rw [REQ.out, HRB.out, List.drop_of_length_le (by have := H.out.1; omega)]
        rfl)
      go_wp2
      go_ret2
      exact ⟨.slice A1 az c1, by rw [HB.out]; rfl, by rw [HB.out]; exact HO.out, HX.out⟩
end Go.Proofs.Ytagcgldhhdecjaa
namespace Go.Proofs.Ytagcgldhhdecjaa
open Go.RowKit

set_option maxRecDepth 100000 in
set_option maxHeartbeats 2000000 in
theorem sameI_eq (A B : Option Addr) (n c d : Nat) (xs : List Int) (w : World) (hA : Ints .i64 w A n xs) (hB : Ints .i64 w B n xs) (hn : n ≤ 1000000) :
    Calls Try.prog 38 #[.slice A n c, .slice B n d] w fun e w' => e = .returned (.bool true) ∧ Ext w w' := by
  have HA := Lib.hid hA
  have HB := Lib.hid hB
  clear hA hB
  have hnn : ((n : Int) != (n : Int)) = false := by simp
  go_enter Try.func38, Try.ntmps38
  go_wp2_with fail
  go_loopg [5] n (fun g i wr => ∃ k : Nat, g = n - k ∧ k ≤ n ∧ i = .int .i64 (k : Int) ∧ Hid (Ext w wr))
  case atStart => exact ⟨0, rfl, by omega, rfl, Lib.hid (Ext.refl w)⟩
  case round =>
    obtain ⟨k, rfl, hk, rfl, HX⟩ := hrel
    by_cases hlt : k < n
    · have q1 : decide (k < n) = true := decide_eq_true hlt
      obtain ⟨ga, oa, x, rfl, hx, _, ha⟩ := (HA.out.ext HX.out).get hlt
      obtain ⟨gb, ob, y, rfl, hy, _, hb⟩ := (HB.out.ext HX.out).get hlt
      obtain rfl : x = y := by rw [hx] at hy; injection hy
      have qx : (x != x) = false := by simp
      clear hx hy
      go_wp2_with fail
      go_region
      go_wp2
      go_roundg (n - (k + 1))
      case rel => exact ⟨k + 1, rfl, by omega, by go_num, Lib.hid HX.out.drew⟩
      case measure => omega
    · obtain rfl : k = n := by omega
      go_wp2
      go_ret
      exact ⟨rfl, HX.out⟩

end Go.Proofs.Ytagcgldhhdecjaa
namespace Go.Proofs.Ytagcgldhhdecjaa
open Go.RowKit

theorem stR_of {w : World} {A : Option Addr} {n : Nat} {xs : List (Int × Int)} (h : ElsW StpW w A n xs) : StR w A n xs ∧ ∀ s ∈ xs, s.2 ≤ 9223372036854775807 := by
  obtain ⟨h1, vs, h2, h3⟩ := h
  have e : vs = stV xs ∧ ∀ s ∈ xs, s.2 ≤ 9223372036854775807 := by
    clear h1 h3
    induction xs generalizing vs with
    | nil => exact ⟨h2, by simp⟩
    | cons x xs ih =>
      obtain ⟨cs, rest, rfl, ⟨hc, _, hb⟩, hr⟩ := h2
      obtain ⟨e1, e2⟩ := ih rest hr
      refine ⟨by rw [e1, hc]; rfl, fun s hs => ?_⟩
      rcases List.mem_cons.1 hs with rfl | hs
      · exact hb.2
      · exact e2 s hs
  exact ⟨⟨h1, by rw [← e.1]; exact h3⟩, e.2⟩
theorem rebO_cases (ss : List (Int × Int)) : rebO ss = ([], 4) ∨ ∃ l, rebO ss = (l, 0) ∧ diffF l = ss ∧ Smp l := by
  unfold rebO
  cases hq : rebF ss none [] with
  | none => exact .inl rfl
  | some l => exact .inr ⟨l, rfl, (diff_rebF hq).1, (diff_rebF hq).2⟩
set_option maxRecDepth 100000 in
set_option maxHeartbeats 4000000 in
theorem waveSteps_walk (A : Option Addr) (n c : Nat) (xs : List (Int × Int)) (w : World) (hE : ElsW StpW w A n xs) :
    Calls Try.prog 13 #[.slice A n c] w (fun e w' => e = .returned (.bool true) ∧ Ext w w') := by
  obtain ⟨h, hb⟩ := stR_of hE
  clear hE
  have H := Lib.hid h
  have HCS := Lib.hid hb
  have hxl := h.1
  clear h hb
  by_cases hn : 1000 < n
  · go_enter Try.func13, Try.ntmps13
    go_wp2_with fail
    refine (firstW_any _).mono ?_
    rintro e w1 ⟨rfl, hX⟩
    have HX := Lib.hid hX
    clear hX
    go_wp2
    go_ret
    exact ⟨rfl, HX.out⟩
  rcases rebO_cases xs with hr | ⟨l, hr, hdf, hs⟩
  · have HR := Lib.hid hr
    clear hr
    go_enter Try.func13, Try.ntmps13
    go_wp2_with fail
    refine (rebP_any A n c xs _ H.out (by omega) HCS.out).mono ?_
    rw [HR.out]
    rintro e w1 ⟨va, rfl, ⟨Aa, ca, hva, hoa⟩, hX⟩
    simp only [List.length_nil] at hva hoa ⊢
    subst hva
    have HX := Lib.hid hX
    have HA := Lib.hid hoa
    clear hX hoa
    go_wp2_with fail
    refine (rebRef_any A n c xs _ (H.out.ext HX.out) (by omega) HCS.out).mono ?_
    rw [HR.out]
    rintro e w2 ⟨vb, rfl, ⟨Ab, cb, hvb, hob⟩, hX⟩
    simp only [List.length_nil] at hvb hob ⊢
    subst hvb
    replace HX := Lib.hid (HX.out.trans hX)
    replace HA := Lib.hid (HA.out.ext hX)
    have HB := Lib.hid hob
    clear hX hob
    go_wp2_with fail
    refine (sameI_eq Aa Ab 0 ca cb [] w2 HA.out.ints HB.out.ints (by omega)).mono ?_
    rintro e w3 ⟨rfl, hX⟩
    replace HX := Lib.hid (HX.out.trans hX)
    clear hX
    go_wp2_with fail
    refine (firstW_any _).mono ?_
    rintro e w4 ⟨rfl, hX⟩
    replace HX := Lib.hid (HX.out.trans hX)
    clear hX
    go_wp2
    go_ret
    exact ⟨rfl, HX.out⟩
  · have HR := Lib.hid hr
    have HDF := Lib.hid hdf
    have hlen := hs.1
    have HS := Lib.hid hs
    obtain ⟨N, hN⟩ : ∃ N, l.length = N := ⟨_, rfl⟩
    rw [hN] at hlen
    have HN := Lib.hid hN
    clear hN hr hdf hs
    go_enter Try.func13, Try.ntmps13
    go_wp2_with fail
    refine (rebP_any A n c xs _ H.out (by omega) HCS.out).mono ?_
    rw [HR.out]
    rintro e w1 ⟨va, rfl, ⟨Aa, ca, hva, hoa⟩, hX⟩
    simp only at hva hoa ⊢
    rw [HN.out] at hva hoa
    subst hva
    have HX := Lib.hid hX
    have HA := Lib.hid hoa
    clear hX hoa
    go_wp2_with fail
    refine (rebRef_any A n c xs _ (H.out.ext HX.out) (by omega) HCS.out).mono ?_
    rw [HR.out]
    rintro e w2 ⟨vb, rfl, ⟨Ab, cb, hvb, hob⟩, hX⟩
    simp only at hvb hob ⊢
    rw [HN.out] at hvb hob
    subst hvb
    replace HX := Lib.hid (HX.out.trans hX)
    replace HA := Lib.hid (HA.out.ext hX)
    have HB := Lib.hid hob
    clear hX hob
    go_wp2_with fail
    refine (sameI_eq Aa Ab N ca cb l w2 HA.out.ints HB.out.ints (by omega)).mono ?_
    rintro e w3 ⟨rfl, hX⟩
    replace HX := Lib.hid (HX.out.trans hX)
    replace HA := Lib.hid (HA.out.ext hX)
    clear hX
    go_wp2_with fail
    refine (diffP_any Aa N ca l _ HA.out.ints (by omega) (fun x hx => by have := HS.out.2 x hx; omega)).mono ?_
    rw [HDF.out]
    rintro e w4 ⟨vd, rfl, hod, hX⟩
    obtain ⟨Ad, cd, hvd⟩ := own_slice hod
    rw [hxl] at hvd
    subst hvd
    replace HX := Lib.hid (HX.out.trans hX)
    have HSA := Lib.hid (StL.read hod hxl)
    clear hX hod
    go_wp2_with fail
    refine (sameS_eq Ad A n cd c xs w4 HSA.out (H.out.ext HX.out) (by omega)).mono ?_
    rintro e w5 ⟨rfl, hX⟩
    replace HX := Lib.hid (HX.out.trans hX)
    clear hX
    go_wp2_with fail
    refine (firstW_any _).mono ?_
    rintro e w6 ⟨rfl, hX⟩
    replace HX := Lib.hid (HX.out.trans hX)
    clear hX
    go_wp2
    go_ret
    exact ⟨rfl, HX.out⟩
end Go.Proofs.Ytagcgldhhdecjaa
