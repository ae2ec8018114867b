/- Lemmas of the proof that follows (Back, part 2): walks of functions by contract, and plain lemmas. Conditions: none. -/
import Derived.Test.YtagcgldhhdecjaaBackA
namespace Go.Proofs.Ytagcgldhhdecjaa

structure Pul where
  time : Int
  q0 : Int
  q1 : Int
  q2 : Int
  q3 : Int
  smp : List Int
def QOk (q : Int) : Prop := -1000 ≤ q ∧ q ≤ 1000
instance (q : Int) : Decidable (QOk q) := inferInstanceAs (Decidable (_ ∧ _))
def PulOk (p : Pul) : Prop := 0 ≤ p.time ∧ p.time ≤ 1125899906842624 ∧ ¬ (p.q0 = 0 ∧ p.q1 = 0 ∧ p.q2 = 0 ∧ p.q3 = 0) ∧ Smp p.smp ∧ QOk p.q0 ∧ QOk p.q1 ∧ QOk p.q2 ∧ QOk p.q3
instance (p : Pul) : Decidable (PulOk p) := inferInstanceAs (Decidable (_ ∧ _))
def stepB (s : Int × Int) : List Int := enc (zig s.1) ++ enc (s.2 - 1)
def headB (p : Pul) : List Int := enc p.time ++ enc (zig p.q0) ++ enc (zig p.q1) ++ enc (zig p.q2) ++ enc (zig p.q3)
def encP (p : Pul) : List Int := headB p ++ enc (diffF p.smp).length ++ (diffF p.smp).flatMap stepB
def encO (p : Pul) : List Int × Int := if PulOk p then (encP p, 0) else ([], 30)

def takeN (b : List Int) : Option (Int × List Int) := if (rd b).2.2 = 0 then some ((rd b).1, b.drop (rd b).2.1.toNat) else none
def takeS (b : List Int) : Option (Int × List Int) := if (rdS b).2.2 = 0 then some ((rdS b).1, b.drop (rdS b).2.1.toNat) else none
/-- Reads k steps. -/
def rdSteps : Nat → List Int → List (Int × Int) → Option (List (Int × Int) × List Int)
  | 0, b, acc => some (acc, b)
  | k + 1, b, acc => match takeS b with
    | none => none
    | some (d, b) => match takeN b with
      | none => none
      | some (c, b) => rdSteps k b (acc ++ [(d, c + 1)])
def endD (t q0 q1 q2 q3 : Int) (r : Option (List (Int × Int) × List Int)) : Option Pul := match r with
  | none => none
  | some (ss, b) => match rebF ss none [] with
    | none => none
    | some l => if b = [] ∧ PulOk ⟨t, q0, q1, q2, q3, l⟩ then some ⟨t, q0, q1, q2, q3, l⟩ else none
def midD (steps : Nat → List Int → List (Int × Int) → Option (List (Int × Int) × List Int)) (t q0 q1 q2 q3 : Int) (b : List Int) : Option Pul := match takeN b with
  | none => none
  | some (n, b) => if 256 < n then none else endD t q0 q1 q2 q3 (steps n.toNat b [])
def headD (mid : Int → Int → Int → Int → Int → List Int → Option Pul) (b : List Int) : Option Pul := match takeN b with
  | none => none
  | some (t, b) => match takeS b with
    | none => none
    | some (q0, b) => match takeS b with
      | none => none
      | some (q1, b) => match takeS b with
        | none => none
        | some (q2, b) => match takeS b with
          | none => none
          | some (q3, b) => mid t q0 q1 q2 q3 b
def decF (b : List Int) : Option Pul := headD (midD rdSteps) b

theorem takeN_enc {m : Int} (tail : List Int) (h0 : 0 ≤ m) (h1 : m ≤ 4611686018427387903) : takeN (enc m ++ tail) = some (m, tail) := by
  unfold takeN
  rw [rd_enc tail h0 h1, if_pos rfl]
  simp
theorem takeS_enc {m : Int} (tail : List Int) (h0 : -2305843009213693952 ≤ m) (h1 : m ≤ 2305843009213693951) : takeS (enc (zig m) ++ tail) = some (m, tail) := by
  unfold takeS
  rw [rdS_enc tail h0 h1, if_pos rfl]
  simp
theorem rdSteps_enc {ss : List (Int × Int)} (acc : List (Int × Int)) (tail : List Int) (h : ∀ s ∈ ss, -1023 ≤ s.1 ∧ s.1 ≤ 1023 ∧ 1 ≤ s.2 ∧ s.2 ≤ 256) : rdSteps ss.length (ss.flatMap stepB ++ tail) acc = some (acc ++ ss, tail) := by
  induction ss generalizing acc with
  | nil => simp [rdSteps]
  | cons s ss ih =>
    obtain ⟨d, c⟩ := s
    have hs := h (d, c) (by simp)
    simp only at hs
    rw [List.length_cons, List.flatMap_cons]
    unfold rdSteps
    have e : stepB (d, c) ++ ss.flatMap stepB ++ tail = enc (zig d) ++ (enc (c - 1) ++ (ss.flatMap stepB ++ tail)) := by simp [stepB, List.append_assoc]
    rw [e, takeS_enc _ (by omega) (by omega)]
    simp only
    rw [takeN_enc _ (by omega) (by omega)]
    simp only
    rw [show c - 1 + 1 = c by omega, ih _ fun x hx => h x (by simp [hx])]
    simp
theorem mem_expand {ss : List (Int × Int)} {s : Int × Int} (hs : s ∈ ss) (h1 : 1 ≤ s.2) : s.1 ∈ expand ss := by
  unfold expand
  refine List.mem_flatMap.2 ⟨s, hs, ?_⟩
  rw [List.mem_replicate]
  exact ⟨by omega, rfl⟩
theorem goodS_mem {pv : Option Int} {ss : List (Int × Int)} (h : GoodS pv ss) : ∀ s ∈ ss, 1 ≤ s.2 := by
  induction ss generalizing pv with
  | nil => simp
  | cons x ss ih =>
    intro s hs
    rcases List.mem_cons.1 hs with rfl | hs
    · exact h.1
    · exact ih h.2.2 s hs
theorem dlF_range {a : Int} {l : List Int} (ha : 0 ≤ a ∧ a ≤ 1023) (hl : ∀ x ∈ l, 0 ≤ x ∧ x ≤ 1023) : ∀ d ∈ dlF a l, -1023 ≤ d ∧ d ≤ 1023 := by
  induction l generalizing a with
  | nil => simp [dlF]
  | cons x l ih =>
    have hx := hl x (by simp)
    intro d hd
    rcases List.mem_cons.1 hd with rfl | hd
    · omega
    · exact ih hx (fun y hy => hl y (by simp [hy])) d hd
theorem diffF_range {l : List Int} (hs : Smp l) : ∀ s ∈ diffF l, -1023 ≤ s.1 ∧ s.1 ≤ 1023 ∧ 1 ≤ s.2 ∧ s.2 ≤ 256 := by
  obtain ⟨h1, h2⟩ := diffF_good l
  intro s hs'
  have h3 := goodS_mem h1 s hs'
  have h4 := mem_expand hs' h3
  rw [h2] at h4
  have h5 := dlF_range (a := 0) (by omega) hs.2 _ h4
  have h6 := (rebF_some (rebF_diff hs) ⟨by simp, by simp⟩).2.1 s hs'
  exact ⟨h5.1, h5.2, h3, h6⟩
/-- Reading what was written, with bytes behind it. -/
theorem decF_enc {p : Pul} (h : PulOk p) (tail : List Int) : decF (encP p ++ tail) = if tail = [] then some p else none := by
  obtain ⟨h1, h2, h3, h4, ⟨a0, a1⟩, ⟨b0, b1⟩, ⟨c0, c1⟩, ⟨d0, d1⟩⟩ := h
  have hp : PulOk p := ⟨h1, h2, h3, h4, ⟨a0, a1⟩, ⟨b0, b1⟩, ⟨c0, c1⟩, ⟨d0, d1⟩⟩
  have hl : (diffF p.smp).length ≤ 256 := Nat.le_trans (diffF_len _) h4.1
  have e : encP p ++ tail = enc p.time ++ (enc (zig p.q0) ++ (enc (zig p.q1) ++ (enc (zig p.q2) ++ (enc (zig p.q3) ++ (enc ((diffF p.smp).length : Int) ++ ((diffF p.smp).flatMap stepB ++ tail)))))) := by
    simp [encP, headB, List.append_assoc]
  rw [e]
  unfold decF headD
  rw [takeN_enc _ (by omega) (by omega)]
  simp only
  rw [takeS_enc _ (by omega) (by omega)]
  simp only
  rw [takeS_enc _ (by omega) (by omega)]
  simp only
  rw [takeS_enc _ (by omega) (by omega)]
  simp only
  rw [takeS_enc _ (by omega) (by omega)]
  simp only
  unfold midD
  rw [takeN_enc _ (by omega) (by omega)]
  simp only
  rw [if_neg (by omega), show (((diffF p.smp).length : Nat) : Int).toNat = (diffF p.smp).length by omega, rdSteps_enc _ _ (diffF_range h4), List.nil_append]
  simp only [endD]
  rw [rebF_diff h4]
  simp only
  by_cases ht : tail = []
  · rw [if_pos ht, if_pos ⟨ht, hp⟩]
  · rw [if_neg ht, if_neg (fun hh => ht hh.1)]
end Go.Proofs.Ytagcgldhhdecjaa
namespace Go.Proofs.Ytagcgldhhdecjaa
open Go.RowKit

theorem elS : Elem Try.prog 56 94 2 16 (.agg #[.int .i64 0, .int .i64 0]) := Elem.mk' (by kernel_rfl) (by kernel_rfl) rfl (by decide)
/-- Steps as cells. -/
def stV (ss : List (Int × Int)) : List Value := ss.flatMap fun s => [.int .i64 s.1, .int .i64 s.2]
theorem stV_len (ss : List (Int × Int)) : (stV ss).length = ss.length * 2 := by
  induction ss with
  | nil => rfl
  | cons r rs ih => unfold stV at ih ⊢; rw [List.flatMap_cons, List.length_append, ih]; simp; omega
theorem stV_snoc (ss : List (Int × Int)) (s : Int × Int) : stV (ss ++ [s]) = stV ss ++ [.int .i64 s.1, .int .i64 s.2] := by simp [stV]
theorem stV_set (ss : List (Int × Int)) (d c e : Int) : (stV (ss ++ [(d, c)])).set (ss.length * 2 + 1) (.int .i64 e) = stV (ss ++ [(d, e)]) := by
  rw [stV_snoc, stV_snoc, List.set_append_right _ _ (by rw [stV_len]; omega), stV_len, show ss.length * 2 + 1 - ss.length * 2 = 1 by omega]
  rfl
theorem stV_get {ss : List (Int × Int)} {j : Nat} {s : Int × Int} (h : ss[j]? = some s) : (stV ss)[j * 2]? = some (.int .i64 s.1) ∧ (stV ss)[j * 2 + 1]? = some (.int .i64 s.2) := by
  induction ss generalizing j with
  | nil => simp at h
  | cons x rs ih =>
    have e : stV (x :: rs) = .int .i64 x.1 :: .int .i64 x.2 :: stV rs := rfl
    rw [e]
    cases j with
    | zero => simp at h; subst h; exact ⟨rfl, rfl⟩
    | succ j =>
      have := ih (j := j) (by simpa using h)
      rw [show (j + 1) * 2 = j * 2 + 1 + 1 by omega]
      simpa using this
/-- Steps in memory. -/
def StL (base : Nat) (w : World) (v : Value) (ss : List (Int × Int)) : Prop := w.ownsRow base 94 2 v ss.length (stV ss)
theorem StL.ext {base : Nat} {w w' : World} {v : Value} {ss : List (Int × Int)} (h : StL base w v ss) (he : Ext w w') : StL base w' v ss := World.ownsRow.ext' h he
theorem StL.nil (base : Nat) (w : World) : StL base w (.slice none 0 0) [] := World.ownsRow_nil _ _ _ _
theorem StL.get {base : Nat} {w : World} {v : Value} {ss : List (Int × Int)} (h : StL base w v ss) {j : Nat} (hj : j < ss.length) : ∃ g c s, v = .slice (some ⟨g, 0, none⟩) ss.length c ∧ ss[j]? = some s ∧ w.cell? ⟨g, j * 2, none⟩ = some (.int .i64 s.1) ∧ w.cell? ⟨g, j * 2 + 1, none⟩ = some (.int .i64 s.2) := by
  obtain ⟨A, c, rfl⟩ := own_slice h
  obtain ⟨g, rfl, _, _⟩ := own_at0 h (by omega)
  have hr : ss[j]? = some ss[j] := List.getElem?_eq_getElem hj
  obtain ⟨h1, h2⟩ := stV_get hr
  exact ⟨g, c, _, rfl, hr, (h.cellAt (j * 2) (by omega)).trans h1, (h.cellAt (j * 2 + 1) (by omega)).trans h2⟩
def RetSt (w : World) (ss : List (Int × Int)) (e : Ending) (w' : World) : Prop := ∃ v, e = .returned v ∧ StL w.heap.size w' v ss ∧ Ext w w'
theorem diffF_take {l : List Int} {k : Nat} {x : Int} (h : l[k]? = some x) : diffF (l.take (k + 1)) = pushS (diffF (l.take k)) (x - (l.take k).getLastD 0) := by
  rw [List.take_add_one, h]
  exact diffF_snoc _ _
theorem last_take {l : List Int} {k : Nat} {x : Int} (h : l[k]? = some x) : (l.take (k + 1)).getLastD 0 = x := by
  rw [List.take_add_one, h]
  simp
/-- Counts stay small. -/
theorem pushS_cnt {out : List (Int × Int)} {k : Int} (h : ∀ s ∈ out, 1 ≤ s.2 ∧ s.2 ≤ k) (hk : 0 ≤ k) (d : Int) : ∀ s ∈ pushS out d, 1 ≤ s.2 ∧ s.2 ≤ k + 1 := by
  rcases List.eq_nil_or_concat out with rfl | ⟨o, ⟨d', c⟩, rfl⟩
  · intro s hs
    simp [pushS] at hs
    subst hs
    simp only; omega
  · have hc := h (d', c) (by simp)
    simp only at hc
    by_cases hd : d' = d
    · subst hd
      rw [List.concat_eq_append, pushS_same]
      intro s hs
      rcases List.mem_append.1 hs with hs | hs
      · have := h s (by simp [hs]); omega
      · simp at hs; subst hs; simp only; omega
    · rw [List.concat_eq_append, pushS_other _ hd]
      intro s hs
      rcases List.mem_append.1 hs with hs | hs
      · have := h s (by simpa using hs); omega
      · simp at hs; subst hs; simp only; omega
set_option maxRecDepth 100000 in
set_option maxHeartbeats 8000000 in
theorem diffP_any (A : Option Addr) (n c : Nat) (l : List Int) (w : World) (h : Ints .i64 w A n l) (hn : n ≤ 1000) (hb : ∀ x ∈ l, -1152921504606846976 ≤ x ∧ x ≤ 1152921504606846976) :
    Calls Try.prog 40 #[.slice A n c] w (RetSt w (diffF l)) := by
  have H := Lib.hid h
  have HL := Lib.hid h.1
  have HBD := Lib.hid hb
  clear h hb
  go_enter Try.func40, Try.ntmps40
  go_wp2_with fail
  go_loopg [3, 4, 11] n (fun f ov lv iv wr => ∃ (k : Nat) (out : List (Int × Int)) (la : Int), f = n - k ∧ k ≤ n ∧ lv = .int .i64 la ∧ iv = .int .i64 (k : Int) ∧ -1152921504606846976 ≤ la ∧ la ≤ 1152921504606846976 ∧ Hid ((l.take k).getLastD 0 = la) ∧ Hid (diffF (l.take k) = out) ∧ Hid (∀ s ∈ out, 1 ≤ s.2 ∧ s.2 ≤ (k : Int)) ∧ Hid (StL w.heap.size wr ov out) ∧ Hid (Ext w wr))
  case atStart => exact ⟨0, [], 0, rfl, by omega, rfl, rfl, by omega, by omega, Lib.hid rfl, Lib.hid rfl, Lib.hid (by simp), Lib.hid (StL.nil _ _), Lib.hid (Ext.refl _)⟩
  case round =>
    obtain ⟨k, out, la, rfl, hk, rfl, rfl, hla1, hla2, HLA, HDF, HCN, HO, HX⟩ := hrel
    by_cases hlt : k < n
    · obtain ⟨b, off, x, rfl, hx, _, hc⟩ := (H.out.ext HX.out).get hlt
      obtain ⟨bx1, bx2⟩ := HBD.out x (List.mem_of_getElem? hx)
      have HD2 := Lib.hid (diffF_take hx)
      have HL2 := Lib.hid (last_take hx)
      rw [HLA.out] at HD2
      clear hx
      obtain ⟨dd, hdd0⟩ : ∃ dd, x - la = dd := ⟨_, rfl⟩
      have qw : IntKind.i64.wrap (x - la) = dd := by rw [hdd0]; exact IntWalk.i64_in _ (by omega)
      rw [hdd0] at HD2
      clear hdd0
      have hps : Hid (pushS out (dd) = diffF (l.take (k + 1))) := Lib.hid (by rw [HD2.out, HDF.out])
      have hcn := pushS_cnt HCN.out (by omega) (dd)
      rw [hps.out] at hcn
      have HCN2 : Hid (∀ s ∈ diffF (l.take (k + 1)), 1 ≤ s.2 ∧ s.2 ≤ ((k + 1 : Nat) : Int)) := Lib.hid (by simpa using hcn)
      have hln := diffF_len (l.take (k + 1))
      have hlo := diffF_len (l.take k)
      rw [HDF.out] at hlo
      rw [List.length_take] at hln hlo
      have hown := HO.out
      clear hcn
      rcases List.eq_nil_or_concat out with ho | ⟨o, ⟨d', cc⟩, ho⟩
      · subst ho
        obtain ⟨A1, c1, hso⟩ := own_slice hown
        subst hso
        have hown' : wr.ownsRow w.heap.size 94 2 (.slice A1 0 c1) 0 (stV []) := hown
        have hsz := HX.out.size
        have HPS : Hid (diffF (l.take (k + 1)) = [] ++ [(dd, 1)]) := Lib.hid (by rw [← hps.out]; rfl)
        clear hown hln hlo
        go_wp2_with (at_builtin; refine wpList_app _ elS rfl _ _ rfl w.heap.size (.slice A1 0 c1) 0 (stV []) rfl (hown'.alloc _) _ 1 1 [.int .i64 (dd), .int .i64 1] rfl rfl (At.new' _ [_, _] _ rfl) (by simp [Value.oneCell']) (by omega) (by unfold maxLen; omega) (by simp; omega) ?_; intro v5 w5 hown5 hgr5 _; have HX5 := Lib.hid (HX.out.push hown' hgr5); have HOW5 := Lib.hid hown5; clear hown5 hgr5)
        go_roundg (n - (k + 1))
        case rel => exact ⟨k + 1, diffF (l.take (k + 1)), x, rfl, by omega, by go_num, by go_num, by omega, by omega, HL2, Lib.hid rfl, HCN2, Lib.hid (by rw [HPS.out]; unfold StL; rw [stV_snoc, List.length_append]; exact HOW5.out), HX5⟩
        case measure => omega
      · rw [List.concat_eq_append] at ho
        subst ho
        obtain ⟨oz, hoz⟩ : ∃ oz, o.length = oz := ⟨_, rfl⟩
        have hown' : StL w.heap.size wr _ (o ++ [(d', cc)]) := hown
        unfold StL at hown'
        rw [List.length_append, hoz] at hown'
        simp only [List.length_cons, List.length_nil, Nat.zero_add] at hown'
        obtain ⟨A1, c1, hso⟩ := own_slice hown'
        subst hso
        obtain ⟨g, hge, hg1, hg2⟩ := own_at0 hown' (by omega)
        subst hge
        obtain ⟨cur, hB, _⟩ := own_cells hown'
        have hfr := hB.free (oz * 2 + 1)
        have hgt := stV_get (ss := o ++ [(d', cc)]) (j := oz) (s := (d', cc)) (by rw [← hoz]; simp)
        have hc0 := (hown'.cellAt (oz * 2) (by omega)).trans hgt.1
        have hc1 := (hown'.cellAt (oz * 2 + 1) (by omega)).trans hgt.2
        simp only at hc0 hc1
        have hcc := HCN.out (d', cc) (by simp)
        simp only at hcc
        obtain ⟨hcc1, hcc2⟩ := hcc
        have hol : oz + 1 ≤ k := by rw [List.length_append, hoz] at hlo; simp only [List.length_cons, List.length_nil] at hlo; omega
        have HOZ := Lib.hid hoz
        clear hown hgt hB hln hlo hoz
        have hsz := HX.out.size
        by_cases hdd : d' = (dd)
        · have qd : (d' == (dd)) = true := by simpa using hdd
          have HPS : Hid (diffF (l.take (k + 1)) = o ++ [(d', cc + 1)]) := Lib.hid (by rw [← hps.out, ← hdd]; exact pushS_same _ _ _)
          have HOW := Lib.hid hown'
          clear hdd hown'
          go_wp2
          go_roundg (n - (k + 1))
          case rel => exact ⟨k + 1, diffF (l.take (k + 1)), x, rfl, by omega, by go_num, by go_num, by omega, by omega, HL2, Lib.hid rfl, HCN2, Lib.hid (by
                      rw [HPS.out]
                      unfold StL
                      have h1 := ownsRow_set (i := oz * 2 + 1) (u := .int .i64 (cc + 1)) HOW.out
                      rw [← HOZ.out, stV_set, HOZ.out] at h1
                      rw [List.length_append, HOZ.out]
                      exact h1), Lib.hid (HX.out.setCell hg1 _)⟩
          case measure => omega
        · have qd : (d' == (dd)) = false := by simpa using hdd
          have HPS : Hid (diffF (l.take (k + 1)) = o ++ [(d', cc)] ++ [(dd, 1)]) := Lib.hid (by rw [← hps.out]; exact pushS_other _ hdd)
          clear hdd
          go_wp2_with (at_builtin; refine wpList_app _ elS rfl _ _ rfl w.heap.size (.slice (some ⟨g, 0, none⟩) (oz + 1) c1) (oz + 1) (stV (o ++ [(d', cc)])) rfl (hown'.alloc _) _ 1 1 [.int .i64 (dd), .int .i64 1] rfl rfl (At.new' _ [_, _] _ rfl) (by simp [Value.oneCell']) (by omega) (by unfold maxLen; omega) (by simp; omega) ?_; intro v5 w5 hown5 hgr5 _; have HX5 := Lib.hid (HX.out.push hown' hgr5); have HOW5 := Lib.hid hown5; clear hown5 hgr5)
          go_roundg (n - (k + 1))
          case rel => exact ⟨k + 1, diffF (l.take (k + 1)), x, rfl, by omega, by go_num, by go_num, by omega, by omega, HL2, Lib.hid rfl, HCN2, Lib.hid (by rw [HPS.out]; unfold StL; rw [stV_snoc, List.length_append, List.length_append, HOZ.out]; exact HOW5.out), HX5⟩
          case measure => omega
    · obtain rfl : k = n := by omega
      have HE : Hid (diffF l = out) := Lib.hid (by have := HDF.out; rwa [List.take_of_length_le (by have := HL.out; omega)] at this)
      have hown := HO.out
      obtain ⟨A1, c1, hso⟩ := own_slice hown
      subst hso
      clear hown
      go_wp2
      go_ret
      exact ⟨_, rfl, by rw [HE.out]; exact HO.out, HX.out⟩
end Go.Proofs.Ytagcgldhhdecjaa
namespace Go.Proofs.Ytagcgldhhdecjaa
open Go.RowKit

theorem eqQuad (x0 x1 x2 x3 : Int) (W : World) : (Op.equalIn 10000 69 (.agg #[.int .i64 x0, .int .i64 x1, .int .i64 x2, .int .i64 x3]) (.agg #[.int .i64 0, .int .i64 0, .int .i64 0, .int .i64 0])).run Try.prog W = .ok (decide (x0 = 0 ∧ x1 = 0 ∧ x2 = 0 ∧ x3 = 0)) W := by
  have hsome : (Try.prog.info? 3).isSome = true := by kernel_rfl
  obtain ⟨i, hi⟩ := Option.isSome_iff_exists.1 hsome
  have hc : Try.prog.cellsOf 3 = 1 := by kernel_rfl
  rw [run_equalIn_array W 9999 _ _ Try.underlying69 hi, hc]
  have hr : List.range 4 = [0, 1, 2, 3] := rfl
  have hu := Try.underlying3
  rw [hr]
  by_cases h0 : x0 = 0 <;> by_cases h1 : x1 = 0 <;> by_cases h2 : x2 = 0 <;> by_cases h3 : x3 = 0 <;> simp [Op.eqItems, go_sem, h0, h1, h2, h3]
theorem idx4 (x0 x1 x2 x3 : Int) : (∀ w, (Instr.index 69 (.agg #[.int .i64 x0, .int .i64 x1, .int .i64 x2, .int .i64 x3]) (.int .i64 0)).run Try.prog w = .ok (.int .i64 x0) w) ∧ (∀ w, (Instr.index 69 (.agg #[.int .i64 x0, .int .i64 x1, .int .i64 x2, .int .i64 x3]) (.int .i64 1)).run Try.prog w = .ok (.int .i64 x1) w) ∧ (∀ w, (Instr.index 69 (.agg #[.int .i64 x0, .int .i64 x1, .int .i64 x2, .int .i64 x3]) (.int .i64 2)).run Try.prog w = .ok (.int .i64 x2) w) ∧ (∀ w, (Instr.index 69 (.agg #[.int .i64 x0, .int .i64 x1, .int .i64 x2, .int .i64 x3]) (.int .i64 3)).run Try.prog w = .ok (.int .i64 x3) w) :=
  ⟨fun _ => by kernel_rfl, fun _ => by kernel_rfl, fun _ => by kernel_rfl, fun _ => by kernel_rfl⟩
/-- A pulse as a value. -/
def Pul.val (p : Pul) (A : Option Addr) (n c : Nat) : Value := .agg #[.int .i64 p.time, .int .i64 p.q0, .int .i64 p.q1, .int .i64 p.q2, .int .i64 p.q3, .slice A n c]

set_option maxRecDepth 100000 in
set_option maxHeartbeats 4000000 in
theorem validP_any (p : Pul) (A : Option Addr) (n c : Nat) (w : World) (h : Ints .i64 w A n p.smp) :
    Calls Try.prog 49 #[p.val A n c] w (fun e w' => e = .returned (.bool (decide (PulOk p))) ∧ Ext w w') := by
  obtain ⟨tm, x0, x1, x2, x3, l⟩ := p
  simp only [Pul.val]
  have hX0 := (Ext.refl w).alloc (.cells #[.int .i64 tm, .int .i64 x0, .int .i64 x1, .int .i64 x2, .int .i64 x3, .slice A n c] 71)
  have hB0 := Blk.new w 71 #[.int .i64 tm, .int .i64 x0, .int .i64 x1, .int .i64 x2, .int .i64 x3, .slice A n c]
  have HI := Lib.hid (h.ext hX0)
  have HB := Lib.hid hB0
  have HX := Lib.hid hX0
  have HL := Lib.hid h.1
  clear h hB0 hX0
  have hq := eqQuad x0 x1 x2 x3 (w.alloc (.cells #[.int .i64 tm, .int .i64 x0, .int .i64 x1, .int .i64 x2, .int .i64 x3, .slice A n c] 71))
  by_cases h0 : tm < 0
  · have HBO : Hid (decide (PulOk ⟨tm, x0, x1, x2, x3, l⟩) = false) := Lib.hid (decide_eq_false (fun hp => by have := hp.1; simp only at this; omega))
    go_enter Try.func49, Try.ntmps49
    go_wp2
    go_ret
    exact ⟨by first | (rw [HBO.out]; done) | (rw [HBO.out]; rfl), HX.out⟩
  by_cases h1 : 1125899906842624 < tm
  · have HBO : Hid (decide (PulOk ⟨tm, x0, x1, x2, x3, l⟩) = false) := Lib.hid (decide_eq_false (fun hp => by have := hp.2.1; simp only at this; omega))
    go_enter Try.func49, Try.ntmps49
    go_wp2
    go_ret
    exact ⟨by first | (rw [HBO.out]; done) | (rw [HBO.out]; rfl), HX.out⟩
  by_cases hz : x0 = 0 ∧ x1 = 0 ∧ x2 = 0 ∧ x3 = 0
  · have HBO : Hid (decide (PulOk ⟨tm, x0, x1, x2, x3, l⟩) = false) := Lib.hid (decide_eq_false (fun hp => hp.2.2.1 hz))
    rw [decide_eq_true hz] at hq
    clear hz
    go_enter Try.func49, Try.ntmps49
    go_wp2
    go_ret
    exact ⟨by first | (rw [HBO.out]; done) | (rw [HBO.out]; rfl), HX.out⟩
  rw [decide_eq_false hz] at hq
  have HZ := Lib.hid hz
  clear hz
  by_cases hs : ¬ Smp l
  · have HBO : Hid (decide (PulOk ⟨tm, x0, x1, x2, x3, l⟩) = false) := Lib.hid (decide_eq_false (fun hp => hs hp.2.2.2.1))
    have qs : Hid (decide (Smp l) = false) := Lib.hid (decide_eq_false hs)
    clear hs
    go_enter Try.func49, Try.ntmps49
    go_wp2_with fail
    refine (sampled_any A n c l _ HI.out).mono ?_
    rw [qs.out]
    rintro e _ ⟨rfl, rfl⟩
    go_wp2
    go_ret
    exact ⟨by first | (rw [HBO.out]; done) | (rw [HBO.out]; rfl), HX.out⟩
  have hs' := Decidable.not_not.1 hs
  have qs : Hid (decide (Smp l) = true) := Lib.hid (decide_eq_true hs')
  have HS := Lib.hid hs'
  clear hs hs'
  go_enter Try.func49, Try.ntmps49
  go_wp2_with fail
  refine (sampled_any A n c l _ HI.out).mono ?_
  rw [qs.out]
  rintro e _ ⟨rfl, rfl⟩
  go_wp2_with fail
  clear hq
  go_loopg [27] 4 (fun f iv wr => ∃ k : Nat, f = 4 - k ∧ k ≤ 4 ∧ iv = .int .i64 (k : Int) ∧ Hid (∀ x ∈ [x0, x1, x2, x3].take k, QOk x) ∧ Hid (Ext w wr))
  case atStart => exact ⟨0, rfl, by omega, rfl, Lib.hid (by simp), HX⟩
  case round =>
    clear HX HB HI
    obtain ⟨k, rfl, hk, rfl, HQ, HX⟩ := hrel
    obtain ⟨ix0, ix1, ix2, ix3⟩ := idx4 x0 x1 x2 x3
    obtain rfl | rfl | rfl | rfl | rfl : k = 4 ∨ k = 0 ∨ k = 1 ∨ k = 2 ∨ k = 3 := by omega
    · have HBO : Hid (decide (PulOk ⟨tm, x0, x1, x2, x3, l⟩) = true) := Lib.hid (decide_eq_true (by
        have hh := HQ.out
        simp only [List.take_succ_cons, List.take_zero, List.mem_cons, List.not_mem_nil, or_false] at hh
        exact ⟨by simp only; omega, by simp only; omega, HZ.out, HS.out, hh _ (by simp), hh _ (by simp), hh _ (by simp), hh _ (by simp)⟩))
      go_wp2
      go_ret
      exact ⟨by first | (rw [HBO.out]; done) | (rw [HBO.out]; rfl), HX.out⟩
    · by_cases a0 : x0 < -1000
      · have HBO : Hid (decide (PulOk ⟨tm, x0, x1, x2, x3, l⟩) = false) := Lib.hid (decide_eq_false (fun hp => by have := hp.2.2.2.2.1; unfold QOk at this; simp only at this; omega))
        go_wp2
        go_ret
        exact ⟨by first | (rw [HBO.out]; done) | (rw [HBO.out]; rfl), HX.out⟩
      by_cases a1 : 1000 < x0
      · have HBO : Hid (decide (PulOk ⟨tm, x0, x1, x2, x3, l⟩) = false) := Lib.hid (decide_eq_false (fun hp => by have := hp.2.2.2.2.1; unfold QOk at this; simp only at this; omega))
        go_wp2
        go_ret
        exact ⟨by first | (rw [HBO.out]; done) | (rw [HBO.out]; rfl), HX.out⟩
      go_wp2
      go_roundg (4 - (0 + 1))
      case rel =>
        refine ⟨0 + 1, rfl, by omega, by go_num, Lib.hid ?_, HX⟩
        intro x hx
        rw [List.take_add_one] at hx
        rcases List.mem_append.1 hx with hx | hx
        · exact HQ.out x hx
        · simp at hx; subst hx; unfold QOk; omega
      case measure => omega
    · by_cases a0 : x1 < -1000
      · have HBO : Hid (decide (PulOk ⟨tm, x0, x1, x2, x3, l⟩) = false) := Lib.hid (decide_eq_false (fun hp => by have := hp.2.2.2.2.2.1; unfold QOk at this; simp only at this; omega))
        go_wp2
        go_ret
        exact ⟨by first | (rw [HBO.out]; done) | (rw [HBO.out]; rfl), HX.out⟩
      by_cases a1 : 1000 < x1
      · have HBO : Hid (decide (PulOk ⟨tm, x0, x1, x2, x3, l⟩) = false) := Lib.hid (decide_eq_false (fun hp => by have := hp.2.2.2.2.2.1; unfold QOk at this; simp only at this; omega))
        go_wp2
        go_ret
        exact ⟨by first | (rw [HBO.out]; done) | (rw [HBO.out]; rfl), HX.out⟩
      go_wp2
      go_roundg (4 - (1 + 1))
      case rel =>
        refine ⟨1 + 1, rfl, by omega, by go_num, Lib.hid ?_, HX⟩
        intro x hx
        rw [List.take_add_one] at hx
        rcases List.mem_append.1 hx with hx | hx
        · exact HQ.out x hx
        · simp at hx; subst hx; unfold QOk; omega
      case measure => omega
    · by_cases a0 : x2 < -1000
      · have HBO : Hid (decide (PulOk ⟨tm, x0, x1, x2, x3, l⟩) = false) := Lib.hid (decide_eq_false (fun hp => by have := hp.2.2.2.2.2.2.1; unfold QOk at this; simp only at this; omega))
        go_wp2
        go_ret
        exact ⟨by first | (rw [HBO.out]; done) | (rw [HBO.out]; rfl), HX.out⟩
      by_cases a1 : 1000 < x2
      · have HBO : Hid (decide (PulOk ⟨tm, x0, x1, x2, x3, l⟩) = false) := Lib.hid (decide_eq_false (fun hp => by have := hp.2.2.2.2.2.2.1; unfold QOk at this; simp only at this; omega))
        go_wp2
        go_ret
        exact ⟨by first | (rw [HBO.out]; done) | (rw [HBO.out]; rfl), HX.out⟩
      go_wp2
      go_roundg (4 - (2 + 1))
      case rel =>
        refine ⟨2 + 1, rfl, by omega, by go_num, Lib.hid ?_, HX⟩
        intro x hx
        rw [List.take_add_one] at hx
        rcases List.mem_append.1 hx with hx | hx
        · exact HQ.out x hx
        · simp at hx; subst hx; unfold QOk; omega
      case measure => omega
    · by_cases a0 : x3 < -1000
      · have HBO : Hid (decide (PulOk ⟨tm, x0, x1, x2, x3, l⟩) = false) := Lib.hid (decide_eq_false (fun hp => by have := hp.2.2.2.2.2.2.2; unfold QOk at this; simp only at this; omega))
        go_wp2
        go_ret
        exact ⟨by first | (rw [HBO.out]; done) | (rw [HBO.out]; rfl), HX.out⟩
      by_cases a1 : 1000 < x3
      · have HBO : Hid (decide (PulOk ⟨tm, x0, x1, x2, x3, l⟩) = false) := Lib.hid (decide_eq_false (fun hp => by have := hp.2.2.2.2.2.2.2; unfold QOk at this; simp only at this; omega))
        go_wp2
        go_ret
        exact ⟨by first | (rw [HBO.out]; done) | (rw [HBO.out]; rfl), HX.out⟩
      go_wp2
      go_roundg (4 - (3 + 1))
      case rel =>
        refine ⟨3 + 1, rfl, by omega, by go_num, Lib.hid ?_, HX⟩
        intro x hx
        rw [List.take_add_one] at hx
        rcases List.mem_append.1 hx with hx | hx
        · exact HQ.out x hx
        · simp at hx; subst hx; unfold QOk; omega
      case measure => omega
end Go.Proofs.Ytagcgldhhdecjaa
namespace Go.Proofs.Ytagcgldhhdecjaa
open Go.ChangeShapes Go.WideShapes Go.ChangeAt Go.RowKit Go.Joins

section
variable {W : World} {H : Type} {enc : TypeId × Value → H} {v : Value} {d : DataW H} {p : List MemPlace} {b base : Nat} {sp : Nat → Bool} {hd : Bool}
set_option maxRecDepth 100000 in
set_option maxHeartbeats 1000000 in
theorem pulW_open (hv : Value.okWide Try.prog W .any base 71 v) (h : DataW.Trod enc Try.prog W b sp hd 71 v d p) : ∃ (q : Pul) (A : Option Addr) (n c : Nat), v = q.val A n c ∧ Ints .i64 W A n q.smp ∧ n ≤ c ∧ c ≤ 9223372036854775807 := by
  obtain ⟨cs, fuel, z, rfl, hl, hf⟩ := agg_cells Try.underlying71 hv h
  obtain ⟨c0, c1, c2, c3, c4, c5, he⟩ := listN6 (hl.trans (by kernel_rfl))
  rw [he] at hf
  obtain ⟨xs1, n1, _, _, _, hl1, hg1⟩ := DataW.trod_struct Try.underlying71 hf
  have g1_0 : DataW.trod enc Try.prog W b sp hd n1 3 [c0] = xs1[0]? := by
    have h := hg1 0 _ rfl
    rw [show Try.prog.cellsOf _ = 1 by kernel_rfl] at h
    exact h
  rw [List.getElem?_eq_getElem (by rw [hl1]; decide)] at g1_0
  have g1_1 : DataW.trod enc Try.prog W b sp hd n1 69 [c1, c2, c3, c4] = xs1[1]? := by
    have h := hg1 1 _ rfl
    rw [show Try.prog.cellsOf _ = 4 by kernel_rfl] at h
    exact h
  rw [List.getElem?_eq_getElem (by rw [hl1]; decide)] at g1_1
  have g1_2 : DataW.trod enc Try.prog W b sp hd n1 22 [c5] = xs1[2]? := by
    have h := hg1 2 _ rfl
    rw [show Try.prog.cellsOf _ = 1 by kernel_rfl] at h
    exact h
  rw [List.getElem?_eq_getElem (by rw [hl1]; decide)] at g1_2
  obtain ⟨v0, e0, _, w0⟩ := DataW.trod_int Try.underlying3 g1_0
  simp only [List.cons.injEq, and_true] at e0
  subst e0
  obtain ⟨_, _, _, _, _, _, k1, k2, k3, k4⟩ := trod_array4 Try.underlying69 (by kernel_rfl) g1_1
  obtain ⟨v1, e1, _, w1⟩ := DataW.trod_int Try.underlying3 k1
  simp only [List.cons.injEq, and_true] at e1
  subst e1
  obtain ⟨v2, e2, _, w2⟩ := DataW.trod_int Try.underlying3 k2
  simp only [List.cons.injEq, and_true] at e2
  subst e2
  obtain ⟨v3, e3, _, w3⟩ := DataW.trod_int Try.underlying3 k3
  simp only [List.cons.injEq, and_true] at e3
  subst e3
  obtain ⟨v4, e4, _, w4⟩ := DataW.trod_int Try.underlying3 k4
  simp only [List.cons.injEq, and_true] at e4
  subst e4
  obtain ⟨A5, l5, m5, e5⟩ := slice_form Try.underlying22 g1_2
  simp only [List.cons.injEq, and_true] at e5
  subst e5
  obtain ⟨v5, w5, h5⟩ := ints_trod Try.underlying22 Try.underlying3 (by kernel_rfl) g1_2
  exact ⟨⟨v0, v1, v2, v3, v4, v5⟩, A5, l5, m5, congrArg Value.agg (Array.toList_inj.1 he), w5, h5⟩
end
end Go.Proofs.Ytagcgldhhdecjaa
namespace Go.Proofs.Ytagcgldhhdecjaa
open Go.RowKit

def v3 (r : Int × Int × Int) : Value := .tuple #[.int .i64 r.1, .int .i64 r.2.1, .int .i64 r.2.2]

theorem ret_v3 {r : Int × Int × Int} {a b c : Int} (h : r = (a, b, c)) : Ending.returned (.tuple #[.int .i64 a, .int .i64 b, .int .i64 c]) = .returned (v3 r) := by subst h; rfl

theorem rd_ok' {xs : List Int} {k : Nat} {x m s : Int} (hL : Lead k xs) (hk : k < 9) (hx : xs[k]? = some x) (hl : x < 128) (hz : ¬ (0 < k ∧ x = 0)) (hM : m = valN (xs.take (k + 1))) (hm : m ≤ 4611686018427387903) (hs : s = (k : Int) + 1) :
    rd xs = (m, s, 0) := by
  subst hM hs
  exact rd_ok hL hk hx hl hz hm
theorem rd_big' {xs : List Int} {k : Nat} {x m : Int} (hL : Lead k xs) (hk : k < 9) (hx : xs[k]? = some x) (hl : x < 128) (hM : m = valN (xs.take (k + 1))) (hm : 4611686018427387903 < m) :
    rd xs = (0, 0, 4) := rd_big hL hk hx hl (by omega)

set_option maxHeartbeats 400000 in
theorem readNum (A : Option Addr) (n c : Nat) (xs : List Int) (w : World) (h : Ints .u8 w A n xs) (hn : n ≤ 9223372036854775807) :
    Calls Try.prog 100 #[.slice A n c] w fun e w' => e = .returned (v3 (rd xs)) ∧ w = w' := by
  have H := Lib.hid h
  go_enter Try.func100, Try.ntmps100
  clear h
  go_wp2
  go_loop [5, 6, 7] (fun a i j => ∃ k : Nat, k ≤ 9 ∧ j = .int .i64 k ∧ ∃ m : Int, a = .int .u64 m ∧ Hid (m = valN (xs.take k)) ∧ Hid (Lead k xs)) (fun _ _ j => 9 - (intOf j).toNat)
  case atStart => exact ⟨0, by omega, rfl, 0, rfl, by simp [Hid, valN], Lead.zero xs⟩
  case round =>
    obtain ⟨k, hk, rfl, m, rfl, hm, hL⟩ := hrel
    by_cases hlt : k < 9
    · by_cases hkn : k < n
      · obtain ⟨b, off, x, rfl, hx, hwf, hc⟩ := H.out.get hkn
        have hb := u8_bounds hwf
        obtain ⟨hb0, hb1⟩ := hb
        have hst := acc_step hlt hx hb0
        rw [← hm.out] at hst
        have hz : Hid (x = 0 → xs[k]? = some 0) := fun e => by rw [hx, e]
        have HX := Lib.hid hx
        clear hx hwf
        obtain ⟨m', hm', HM⟩ : ∃ m', bits .or .u64 m (IntKind.u64.wrap (x % 128 * 2 ^ (7 * k))) = m' ∧ Hid (m' = valN (xs.take (k + 1)) ∧ m' < 9223372036854775808) := ⟨_, rfl, hst.1, by rw [hst.1]; exact hst.2⟩
        have hm0 : 0 ≤ m' := by rw [HM.out.1]; exact valN_nonneg _
        have hm1 : m' ≤ 9223372036854775807 := by have := HM.out.2; omega
        clear hst
        have hkne : ((k : Int) == (n : Int)) = false := by simp; omega
        go_wp2
        · go_round
          case rel => exact ⟨k + 1, by omega, by go_num, m', rfl, HM.out.1, hL.out.succ HX.out (by assumption)⟩
          case measure => simp [intOf]; omega
        all_goals go_ret3
        all_goals refine ⟨ret_v3 ?_, rfl⟩
        · exact rd_big' hL.out hlt HX.out (by omega) HM.out.1 (by omega)
        · exact rd_ok' hL.out hlt HX.out (by omega) (by omega) HM.out.1 (by omega) (by omega)
        · exact rd_zero hL.out hlt (hz.out (by assumption)) (by omega)
        · exact rd_big' hL.out hlt HX.out (by omega) HM.out.1 (by omega)
        · exact rd_ok' hL.out hlt HX.out (by omega) (by omega) HM.out.1 (by omega) (by omega)
      · have hLe : Hid (xs.length ≤ n) := by have := H.out.1; exact (by omega : xs.length ≤ n)
        have hLn : k ≤ n := by
          rcases Nat.eq_zero_or_pos k with h0 | h0
          · omega
          · obtain ⟨x, hx, _⟩ := hL.out (k - 1) (by omega)
            have := (List.getElem?_eq_some_iff.1 hx).1
            have := hLe.out
            omega
        have hke : ((k : Int) == (n : Int)) = true := by simp; omega
        go_wp2
        go_ret3
        exact ⟨ret_v3 (rd_short hL.out hlt (List.getElem?_eq_none (by have := hLe.out; omega))), rfl⟩
    · obtain rfl : k = 9 := by omega
      go_wp2
      go_ret3
      exact ⟨ret_v3 (rd_long hL.out), rfl⟩


end Go.Proofs.Ytagcgldhhdecjaa
namespace Go.Proofs.Ytagcgldhhdecjaa
open Go.RowKit

theorem rdS_bad {xs : List Int} (h : (rd xs).2.2 ≠ 0) : rdS xs = (0, 0, (rd xs).2.2) := by simp [rdS, h]
theorem rdS_odd {xs : List Int} {u s : Int} (h : rd xs = (u, s, 0)) (h1 : u % 2 = 1) : rdS xs = (-(u / 2) - 1, s, 0) := by simp [rdS, h, h1]
theorem rdS_even {xs : List Int} {u s : Int} (h : rd xs = (u, s, 0)) (h1 : u % 2 = 0) : rdS xs = (u / 2, s, 0) := by simp [rdS, h, h1]

set_option maxHeartbeats 400000 in
theorem readSig (A : Option Addr) (n c : Nat) (xs : List Int) (w : World) (h : Ints .u8 w A n xs) (hn : n ≤ 9223372036854775807) :
    Calls Try.prog 101 #[.slice A n c] w fun e w' => e = .returned (v3 (rdS xs)) ∧ w = w' := by
  have H := Lib.hid h
  clear h
  obtain ⟨h1, h2, h3, h4, h5, h6⟩ := rd_range xs
  obtain ⟨u, s, e, hr⟩ : ∃ u s e, rd xs = (u, s, e) := ⟨_, _, _, rfl⟩
  rw [hr] at h1 h2 h3 h4 h5 h6
  have HR := Lib.hid hr
  clear hr
  simp only at h1 h2 h3 h4 h5 h6
  by_cases he : e = 0
  · subst he
    have hp : u % 2 = 0 ∨ u % 2 = 1 := by omega
    rcases hp with hp | hp
    · have HP := Lib.hid hp
      have hb : (u % 2 == 1) = false := by rw [hp]; rfl
      clear hp
      go_enter Try.func101, Try.ntmps101
      go_wp2_with (go_at_call 100; refine (readNum _ _ _ xs _ H.out (by omega)).mono ?_; rw [HR.out]; rintro e' w' ⟨rfl, rfl⟩; simp only [v3])
      go_ret3
      exact ⟨ret_v3 (rdS_even HR.out HP.out), rfl⟩
    · have HP := Lib.hid hp
      have hb : (u % 2 == 1) = true := by rw [hp]; rfl
      clear hp
      go_enter Try.func101, Try.ntmps101
      go_wp2_with (go_at_call 100; refine (readNum _ _ _ xs _ H.out (by omega)).mono ?_; rw [HR.out]; rintro e' w' ⟨rfl, rfl⟩; simp only [v3])
      go_ret3
      exact ⟨ret_v3 (rdS_odd HR.out HP.out), rfl⟩
  · have hb : (e != 0) = true := by simpa using he
    go_enter Try.func101, Try.ntmps101
    go_wp2_with (go_at_call 100; refine (readNum _ _ _ xs _ H.out (by omega)).mono ?_; rw [HR.out]; rintro e' w' ⟨rfl, rfl⟩; simp only [v3])
    go_ret3
    refine ⟨ret_v3 ?_, rfl⟩
    rw [rdS_bad (by rw [HR.out]; exact he), HR.out]

theorem readNum' (A : Option Addr) (n c : Nat) (xs : List Int) (w : World) (h : Ints .u8 w A n xs) (hn : n ≤ 9223372036854775807) {a b r : Int} (hr : rd xs = (a, b, r)) :
    Calls Try.prog 100 #[.slice A n c] w fun e w' => e = .returned (.tuple #[.int .i64 a, .int .i64 b, .int .i64 r]) ∧ w = w' := by
  have := readNum A n c xs w h hn
  rw [hr] at this
  exact this
theorem readSig' (A : Option Addr) (n c : Nat) (xs : List Int) (w : World) (h : Ints .u8 w A n xs) (hn : n ≤ 9223372036854775807) {a b r : Int} (hr : rdS xs = (a, b, r)) :
    Calls Try.prog 101 #[.slice A n c] w fun e w' => e = .returned (.tuple #[.int .i64 a, .int .i64 b, .int .i64 r]) ∧ w = w' := by
  have := readSig A n c xs w h hn
  rw [hr] at this
  exact this
end Go.Proofs.Ytagcgldhhdecjaa
namespace Go.Proofs.Ytagcgldhhdecjaa
open Go.RowKit

theorem elB8 : Elem Try.prog 72 5 1 1 (.int .u8 0) := Elem.mk' (by kernel_rfl) (by kernel_rfl) rfl (by decide)
theorem cut_bytes {w : World} {A A' : Option Addr} {n k : Nat} {xs : List Int} (h : Ints .u8 w A n xs) (hA : ∀ w' vs, At w' A vs → vs.length = n * 1 → At w' A' (vs.drop (k * 1))) : Ints .u8 w A' (n - k) (xs.drop k) := by
  refine ⟨by rw [List.length_drop, h.1], fun x hx => h.2.1 x (List.mem_of_mem_drop hx), ?_⟩
  have := hA w _ h.2.2 (by rw [List.length_map, h.1, Nat.mul_one])
  rw [Nat.mul_one, ← List.map_drop] at this
  exact this
/-- Integers that lie elsewhere than in a block that holds a slice alone. -/
theorem Ints.keepsS {k : IntKind} {w w' : World} {A A1 : Option Addr} {n g l1 c1 : Nat} {t : TypeId} {xs : List Int} (h : Ints k w A n xs) (hB : Blk w g t #[.slice A1 l1 c1]) (hk : Keeps [g] w w') : Ints k w' A n xs := by
  refine ⟨h.1, h.2.1, fun hne => ?_⟩
  obtain ⟨b, off, hA, hc⟩ := h.2.2 hne
  have h0 : ∃ v, (xs.map (Value.int k))[0]? = some v := by
    cases hm : xs.map (Value.int k) with
    | nil => exact absurd hm hne
    | cons v vs => exact ⟨v, rfl⟩
  obtain ⟨v, hv⟩ := h0
  have h1 := hc 0 v hv
  have hb : b ≠ g := by
    intro e
    subst e
    rw [hB.cell] at h1
    rw [List.getElem?_map] at hv
    cases hx : xs[0]? with
    | none => rw [hx] at hv; simp at hv
    | some x =>
      rw [hx] at hv
      simp at hv
      subst hv
      have h2 := Array.mem_of_getElem? h1
      simp at h2
  have hlt := World.block_lt_of_cell? w _ h1
  refine ⟨b, off, hA, fun j v hv => ?_⟩
  have := hc j v hv
  unfold World.cell? at this ⊢
  simp only [hk.block b hlt (by simpa using hb)]
  exact this
theorem rd_used {xs : List Int} (h : (rd xs).2.2 = 0) : (rd xs).2.1.toNat ≤ xs.length := by
  unfold rd at h ⊢
  split
  · simp
  · rename_i h9
    rw [if_neg h9] at h
    split
    · simp
    · rename_i x hx
      have := (List.getElem?_eq_some_iff.1 hx).1
      split
      · simp
      · simp only; omega
theorem rdS_used {xs : List Int} (h : (rdS xs).2.2 = 0) : (rdS xs).2.1.toNat ≤ xs.length ∧ 0 ≤ (rdS xs).2.1 := by
  have h1 := rd_range xs
  unfold rdS at h ⊢
  split
  · rename_i h0
    exact ⟨rd_used h0, h1.2.2.1⟩
  · simp
/-- What a reader that cannot go on panics with. -/
def malP : List PanicEntry := [{ v := .iface 110 (.agg #[]), recovered := false }]

theorem takeN_split (bs : List Int) : (takeN bs = none ∧ ∃ a b r, rd bs = (a, b, r) ∧ r ≠ 0) ∨ ∃ (v : Int) (k : Nat), rd bs = (v, (k : Int), 0) ∧ (k : Nat) ≤ bs.length ∧ takeN bs = some (v, bs.drop k) := by
  have hr : (rd bs).2.2 = 0 → (rd bs).2.1.toNat ≤ bs.length ∧ 0 ≤ (rd bs).2.1 := fun h => ⟨rd_used h, (rd_range bs).2.2.1⟩
  obtain ⟨⟨a, b, r⟩, h⟩ : ∃ x, rd bs = x := ⟨_, rfl⟩
  rw [h] at hr
  simp only at hr
  by_cases h0 : r = 0
  · subst h0
    right
    refine ⟨a, b.toNat, ?_, ?_, ?_⟩
    · rw [h, Int.toNat_of_nonneg (hr rfl).2]
    · exact (hr rfl).1
    · unfold takeN
      rw [h]
      simp
  · left
    refine ⟨?_, a, b, r, h, h0⟩
    unfold takeN
    rw [h]
    simp [h0]
set_option maxRecDepth 100000 in
set_option maxHeartbeats 2000000 in
theorem takeN_no (g n c : Nat) (A : Option Addr) (bs : List Int) (w : World) (hB : Blk w g 112 #[.slice A n c]) (hI : Ints .u8 w A n bs) (hn : n ≤ 1000000) (ht : takeN bs = none) :
    Calls Try.prog 99 #[.pointer (some ⟨g, 0, none⟩), .func (.func 100) #[] #[]] w (fun e w' => e = .panicked malP ∧ w = w') := by
  rcases takeN_split bs with ⟨_, x, y, r, hr, hr0⟩ | ⟨v, k, _, _, h2⟩
  · have c0 := hB.cell 0
    simp only [List.getElem?_toArray, List.getElem?_cons_zero] at c0
    have HI := Lib.hid hI
    have HR := Lib.hid hr
    have q1 : (r != 0) = true := by simpa using hr0
    clear hI hr hr0 ht hB
    go_enter Try.func99, Try.ntmps99
    go_wp2_with fail
    refine (readNum' A n c bs _ HI.out (by omega) HR.out).mono ?_
    rintro e _ ⟨rfl, rfl⟩
    go_wp2
    exact ⟨rfl, rfl, rfl⟩
  · rw [h2] at ht; cases ht
set_option maxRecDepth 100000 in
set_option maxHeartbeats 2000000 in
theorem takeN_yes (g n c : Nat) (A : Option Addr) (bs : List Int) (v : Int) (rest : List Int) (w : World) (hB : Blk w g 112 #[.slice A n c]) (hI : Ints .u8 w A n bs) (hn : n ≤ 1000000) (hc : n ≤ c) (ht : takeN bs = some (v, rest)) :
    Calls Try.prog 99 #[.pointer (some ⟨g, 0, none⟩), .func (.func 100) #[] #[]] w (fun e w' => e = .returned (.int .i64 v) ∧ ∃ (A' : Option Addr) (n' c' : Nat), Blk w' g 112 #[.slice A' n' c'] ∧ (∀ w0, Ints .u8 w0 A n bs → Ints .u8 w0 A' n' rest) ∧ n' ≤ n ∧ n' ≤ c' ∧ Keeps [g] w w') := by
  rcases takeN_split bs with ⟨h2, _⟩ | ⟨v2, k, hr, hk, h2⟩
  · rw [h2] at ht; cases ht
  · rw [h2] at ht
    injection ht with ht
    injection ht with hv hrest
    subst hv hrest
    have c0 := hB.cell 0
    have z0 := hB.free 0
    simp only [List.getElem?_toArray, List.getElem?_cons_zero] at c0
    rw [hI.1] at hk
    have HB := Lib.hid hB
    have HI := Lib.hid hI
    have HR := Lib.hid hr
    clear hI hr h2 hB
    go_enter Try.func99, Try.ntmps99
    go_wp2_with fail
    refine (readNum' A n c bs _ HI.out (by omega) HR.out).mono ?_
    rintro e _ ⟨rfl, rfl⟩
    go_wp2_with (first | (refine wpList_cutL (o := ⟨some 28, _, _, _, _, _⟩) _ elB8 rfl _ _ rfl A n c rfl _ _ k rfl rfl (by omega) hc ?_; intro A5 hA5; have HI5 := Lib.hid hA5; clear hA5))
    go_ret
    refine ⟨rfl, A5, n - k, c - k, ?_, ?_, by omega, by omega, (Keeps.refl [g] _).setCell (.inl (by simp)) _⟩
    · exact HB.out.set 0 (.slice A5 (n - k) (c - k))
    · exact fun w0 h0 => cut_bytes h0 HI5.out
theorem takeS_split (bs : List Int) : (takeS bs = none ∧ ∃ a b r, rdS bs = (a, b, r) ∧ r ≠ 0) ∨ ∃ (v : Int) (k : Nat), rdS bs = (v, (k : Int), 0) ∧ (k : Nat) ≤ bs.length ∧ takeS bs = some (v, bs.drop k) := by
  have hr : (rdS bs).2.2 = 0 → (rdS bs).2.1.toNat ≤ bs.length ∧ 0 ≤ (rdS bs).2.1 := rdS_used
  obtain ⟨⟨a, b, r⟩, h⟩ : ∃ x, rdS bs = x := ⟨_, rfl⟩
  rw [h] at hr
  simp only at hr
  by_cases h0 : r = 0
  · subst h0
    right
    refine ⟨a, b.toNat, ?_, ?_, ?_⟩
    · rw [h, Int.toNat_of_nonneg (hr rfl).2]
    · exact (hr rfl).1
    · unfold takeS
      rw [h]
      simp
  · left
    refine ⟨?_, a, b, r, h, h0⟩
    unfold takeS
    rw [h]
    simp [h0]
set_option maxRecDepth 100000 in
set_option maxHeartbeats 2000000 in
theorem takeS_no (g n c : Nat) (A : Option Addr) (bs : List Int) (w : World) (hB : Blk w g 112 #[.slice A n c]) (hI : Ints .u8 w A n bs) (hn : n ≤ 1000000) (ht : takeS bs = none) :
    Calls Try.prog 99 #[.pointer (some ⟨g, 0, none⟩), .func (.func 101) #[] #[]] w (fun e w' => e = .panicked malP ∧ w = w') := by
  rcases takeS_split bs with ⟨_, x, y, r, hr, hr0⟩ | ⟨v, k, _, _, h2⟩
  · have c0 := hB.cell 0
    simp only [List.getElem?_toArray, List.getElem?_cons_zero] at c0
    have HI := Lib.hid hI
    have HR := Lib.hid hr
    have q1 : (r != 0) = true := by simpa using hr0
    clear hI hr hr0 ht hB
    go_enter Try.func99, Try.ntmps99
    go_wp2_with fail
    refine (readSig' A n c bs _ HI.out (by omega) HR.out).mono ?_
    rintro e _ ⟨rfl, rfl⟩
    go_wp2
    exact ⟨rfl, rfl, rfl⟩
  · rw [h2] at ht; cases ht
set_option maxRecDepth 100000 in
set_option maxHeartbeats 2000000 in
theorem takeS_yes (g n c : Nat) (A : Option Addr) (bs : List Int) (v : Int) (rest : List Int) (w : World) (hB : Blk w g 112 #[.slice A n c]) (hI : Ints .u8 w A n bs) (hn : n ≤ 1000000) (hc : n ≤ c) (ht : takeS bs = some (v, rest)) :
    Calls Try.prog 99 #[.pointer (some ⟨g, 0, none⟩), .func (.func 101) #[] #[]] w (fun e w' => e = .returned (.int .i64 v) ∧ ∃ (A' : Option Addr) (n' c' : Nat), Blk w' g 112 #[.slice A' n' c'] ∧ (∀ w0, Ints .u8 w0 A n bs → Ints .u8 w0 A' n' rest) ∧ n' ≤ n ∧ n' ≤ c' ∧ Keeps [g] w w') := by
  rcases takeS_split bs with ⟨h2, _⟩ | ⟨v2, k, hr, hk, h2⟩
  · rw [h2] at ht; cases ht
  · rw [h2] at ht
    injection ht with ht
    injection ht with hv hrest
    subst hv hrest
    have c0 := hB.cell 0
    have z0 := hB.free 0
    simp only [List.getElem?_toArray, List.getElem?_cons_zero] at c0
    rw [hI.1] at hk
    have HB := Lib.hid hB
    have HI := Lib.hid hI
    have HR := Lib.hid hr
    clear hI hr h2 hB
    go_enter Try.func99, Try.ntmps99
    go_wp2_with fail
    refine (readSig' A n c bs _ HI.out (by omega) HR.out).mono ?_
    rintro e _ ⟨rfl, rfl⟩
    go_wp2_with (first | (refine wpList_cutL (o := ⟨some 28, _, _, _, _, _⟩) _ elB8 rfl _ _ rfl A n c rfl _ _ k rfl rfl (by omega) hc ?_; intro A5 hA5; have HI5 := Lib.hid hA5; clear hA5))
    go_ret
    refine ⟨rfl, A5, n - k, c - k, ?_, ?_, by omega, by omega, (Keeps.refl [g] _).setCell (.inl (by simp)) _⟩
    · exact HB.out.set 0 (.slice A5 (n - k) (c - k))
    · exact fun w0 h0 => cut_bytes h0 HI5.out
end Go.Proofs.Ytagcgldhhdecjaa
namespace Go.Proofs.Ytagcgldhhdecjaa
open Go.RowKit

theorem elE : Elem Try.prog 34 42 5 40 (.agg #[.int .i64 0, .int .i64 0, .int .i64 0, .int .i64 0, .int .i64 0]) := Elem.mk' (by kernel_rfl) (by kernel_rfl) rfl (by decide)
def Ech.cells (e : Ech) : List Value := [.int .i64 e.frm, .int .i64 e.til, .int .i64 e.peak, .int .i64 e.level, .int .i64 e.top]
/-- Echoes as cells. -/
def echV (es : List Ech) : List Value := es.flatMap Ech.cells
theorem echV_snoc (es : List Ech) (e : Ech) : echV (es ++ [e]) = echV es ++ e.cells := by simp [echV]
theorem echV_get {es : List Ech} {j : Nat} {e : Ech} (h : es[j]? = some e) : ∀ i u, e.cells[i]? = some u → (echV es)[j * 5 + i]? = some u := by
  induction es generalizing j with
  | nil => simp at h
  | cons x es ih =>
    intro i u hi
    have e1 : echV (x :: es) = x.cells ++ echV es := rfl
    have hl : x.cells.length = 5 := rfl
    rw [e1]
    cases j with
    | zero =>
      simp at h; subst h
      have : i < 5 := by have := (List.getElem?_eq_some_iff.1 hi).1; omega
      rw [List.getElem?_append_left (by omega)]
      simpa using hi
    | succ j =>
      rw [List.getElem?_append_right (by omega), hl, show (j + 1) * 5 + i - 5 = j * 5 + i by omega]
      exact ih (by simpa using h) i u hi
/-- Echoes in memory. -/
def EcL (base : Nat) (w : World) (v : Value) (es : List Ech) : Prop := w.ownsRow base 42 5 v es.length (echV es)
/-- The search in memory: a hunter in block g; 'te', 'tp' are what lies in its echo's To and Top. -/
structure HunP (base : Nat) (w : World) (g : Nat) (A : Option Addr) (n c : Nat) (d : Int) (h : Hun) (te tp : Int) (v : Value) : Prop where
  blk : Blk w g 90 #[.slice A n c, .int .i64 d, .int .i64 h.frm, .int .i64 te, .int .i64 h.peak, .int .i64 h.level, .int .i64 tp, .int .i64 h.valley, .bool h.fall, v]
  row : EcL base w v h.out
  lo : base ≤ g
section
variable {base g n c : Nat} {w w' : World} {A : Option Addr} {d te tp : Int} {h : Hun} {v : Value}
/-- No row of another type is written into. -/
theorem HunP.away (hH : HunP base w g A n c d h te tp v) {tb : TypeId} (h1 : 90 ≠ tb) (h2 : 42 ≠ tb) : ∀ k ∈ g :: v.ownBlock.toList, NoRow tb w k := by
  intro k hk
  rcases List.mem_cons.1 hk with rfl | hk
  · exact NoRow.of_blk hH.blk h1
  · rw [Option.mem_toList] at hk
    exact NoRow.of_own hH.row hk h2
theorem row_away {tb : TypeId} {b size m : Nat} {u : Value} {vs : List Value} {L : List Nat} (hr : w.ownsRow b tb size u m vs) (hk : Keeps L w w') (hn : ∀ k ∈ L, NoRow tb w k) : w'.ownsRow b tb size u m vs := by
  refine ownsRow_keeps hr hk fun q hq hl => ?_
  rcases hr.2 with ⟨hv, _⟩ | ⟨q', cap, cur, hv, _, hb, _⟩
  · rw [hv] at hq; simp [Value.ownBlock] at hq
  · rw [hv] at hq
    simp [Value.ownBlock] at hq
    subst hq
    exact hn q' hl _ _ hb
theorem blk_away {tb : TypeId} {q : Nat} {cs : Array Value} {L : List Nat} (hB : Blk w q tb cs) (hk : Keeps L w w') (hn : ∀ k ∈ L, NoRow tb w k) : Blk w' q tb cs :=
  hB.keeps hk fun hl => hn q hl _ _ hB
/-- A cell of the hunter other than its row is written. -/
theorem HunP.put (hH : HunP base w g A n c d h te tp v) {h' : Hun} {te' tp' : Int} (hk : Keeps [g] w w') (hB : Blk w' g 90 #[.slice A n c, .int .i64 d, .int .i64 h'.frm, .int .i64 te', .int .i64 h'.peak, .int .i64 h'.level, .int .i64 tp', .int .i64 h'.valley, .bool h'.fall, v]) (ho : h'.out = h.out) : HunP base w' g A n c d h' te' tp' v :=
  ⟨hB, by rw [ho]; exact row_away hH.row hk (by intro k hk; simp at hk; subst hk; exact NoRow.of_blk hH.blk (by decide)), hH.lo⟩
end
set_option maxRecDepth 100000 in
set_option maxHeartbeats 4000000 in
theorem rising_any (base g n c : Nat) (A : Option Addr) (l : List Int) (d : Int) (h : Hun) (te tp : Int) (v : Value) (i : Nat) (w : World) (hH : HunP base w g A n c d h te tp v) (hI : Ints .i64 w A n l) (hs : Smp l) (_hd : 0 ≤ d ∧ d ≤ 1023) (hf : h.fall = false) (hp : h.peak < n) (hi : i < n) :
    Calls Try.prog 62 #[.pointer (some ⟨g, 0, none⟩), .int .i64 (i : Int)] w (fun e w' => e = .returned (.tuple #[]) ∧ HunP base w' g A n c d (hunS l d h i) te tp v ∧ Keeps [g] w w') := by
  obtain ⟨b, off, x, rfl, hx, _, cx⟩ := hI.get hi
  obtain ⟨b', off', y, e, hy, _, cy⟩ := hI.get hp
  injection e with e
  injection e with e1 e2
  subst e1 e2
  have bx := hs.2 x (List.mem_of_getElem? hx)
  have by' := hs.2 y (List.mem_of_getElem? hy)
  obtain ⟨fm, pk, lv, fa, vl, ou⟩ := h
  simp only at hf hp hy cy
  subst hf
  have HH := Lib.hid hH
  have f0 := hH.blk.cell 0
  have f1 := hH.blk.cell 1
  have f4 := hH.blk.cell 4
  have f7 := hH.blk.cell 7
  have f8 := hH.blk.cell 8
  have z4 := hH.blk.free 4
  have z7 := hH.blk.free 7
  have z8 := hH.blk.free 8
  simp only [List.getElem?_toArray, List.getElem?_cons_zero, List.getElem?_cons_succ] at f0 f1 f4 f7 f8
  have HX := Lib.hid (getD_at hx)
  have HY := Lib.hid (getD_at hy)
  have q2 : IntKind.i64.wrap (y - x) = y - x := IntWalk.i64_in _ (by omega)
  clear hI hs hH hx hy
  by_cases hxy : y < x
  · have q1 : decide (y < x) = true := decide_eq_true hxy
    have HS : Hid (hunS l d ⟨fm, pk, lv, false, vl, ou⟩ i = ⟨fm, i, lv, false, vl, ou⟩) := Lib.hid (by unfold hunS; simp only [Bool.false_eq_true, if_false, HX.out, HY.out]; rw [if_pos hxy])
    clear hxy
    go_enter Try.func62, Try.ntmps62
    go_wp2_with fail
    go_region
    go_wp2
    go_end0
    rw [HS.out]
    have hk : Keeps [g] w (w.setCell ⟨g, 4, none⟩ (.int .i64 (i : Int))).drew := ((Keeps.refl [g] w).setCell (.inl (by simp)) _).drew
    exact ⟨rfl, HH.out.put hk (by simpa using (HH.out.blk.set 4 (.int .i64 (i : Int))).drew) rfl, hk⟩
  · have q1 : decide (y < x) = false := decide_eq_false hxy
    by_cases hdr : d ≤ y - x
    · have q3 : decide (d ≤ y - x) = true := decide_eq_true hdr
      have HS : Hid (hunS l d ⟨fm, pk, lv, false, vl, ou⟩ i = ⟨fm, pk, lv, true, i, ou⟩) := Lib.hid (by unfold hunS; simp only [Bool.false_eq_true, if_false, HX.out, HY.out]; rw [if_neg hxy, if_pos hdr])
      clear hxy hdr
      go_enter Try.func62, Try.ntmps62
      go_wp2_with fail
      go_region
      go_wp2_with fail
      go_region
      go_wp2
      go_end0
      rw [HS.out]
      have hk : Keeps [g] w (((w.setCell ⟨g, 8, none⟩ (.bool true)).setCell ⟨g, 7, none⟩ (.int .i64 (i : Int))).drew.drew) := (((Keeps.refl [g] w).setCell (.inl (by simp)) _).setCell (.inl (by simp)) _).drew.drew
      exact ⟨rfl, HH.out.put hk (by simpa using (((HH.out.blk.set 8 (.bool true)).set 7 (.int .i64 (i : Int))).drew).drew) rfl, hk⟩
    · have q3 : decide (d ≤ y - x) = false := decide_eq_false hdr
      have HS : Hid (hunS l d ⟨fm, pk, lv, false, vl, ou⟩ i = ⟨fm, pk, lv, false, vl, ou⟩) := Lib.hid (by unfold hunS; simp only [Bool.false_eq_true, if_false, HX.out, HY.out]; rw [if_neg hxy, if_neg hdr])
      clear hxy hdr
      go_enter Try.func62, Try.ntmps62
      go_wp2_with fail
      go_region
      go_wp2_with fail
      go_region
      go_wp2
      go_end0
      rw [HS.out]
      have hk : Keeps [g] w w.drew.drew := (Keeps.refl [g] w).drew.drew
      exact ⟨rfl, HH.out.put hk HH.out.blk.drew.drew rfl, hk⟩
end Go.Proofs.Ytagcgldhhdecjaa
namespace Go.Proofs.Ytagcgldhhdecjaa
open Go.RowKit

/-- The operations of a region. -/
def regOf (n : Nat) : Code → Option (List Oper)
  | .region i ops _ => if i == n then some ops.toList else none
  | .seq a b => match regOf n a with
    | some c => some c
    | none => regOf n b
  | .block _ c => regOf n c
  | .loop c => regOf n c
  | .scope c => regOf n c
  | .cond _ a b => match regOf n a with
    | some c => some c
    | none => regOf n b
  | _ => none
def rops (f : Func) (n : Nat) : List Oper := (f.body.bind (regOf n)).getD []

/-- The act with the values 'us k', 'us (k + 1)', .. in the slots 'ds' (none: no slot). -/
def fillO (a : Act) : List (Option Tmp) → (Nat → Value) → Nat → Act
  | [], _, _ => a
  | d :: ds, us, k => fillO (a.put d (us k)) ds us (k + 1)
def updO (us : Nat → Value) (i : Nat) (v : Value) : Nat → Value := fun j => if j = i then v else us j

theorem putO_putO (a : Act) (d : Option Tmp) (x y : Value) : (a.put d x).put d y = a.put d y := by
  cases d <;> simp [Act.put, Array.setIfInBounds_setIfInBounds]
theorem putO_comm (a : Act) {d e : Option Tmp} (h : d = none ∨ d ≠ e) (x y : Value) : (a.put d x).put e y = (a.put e y).put d x := by
  cases d with
  | none => rfl
  | some d =>
    cases e with
    | none => rfl
    | some e =>
      have hne : d ≠ e := fun q => by rcases h with h | h <;> simp_all
      simp only [Act.put]
      rw [Array.setIfInBounds_comm _ _ hne]
/-- No slot twice. -/
def NoTwice (ds : List (Option Tmp)) : Prop := ds.Pairwise fun d e => d = none ∨ d ≠ e
theorem fillO_far (us : Nat → Value) (d : Option Tmp) (v : Value) : ∀ (ds : List (Option Tmp)), (∀ e ∈ ds, d = none ∨ d ≠ e) → ∀ (a : Act) (k : Nat), (fillO a ds us k).put d v = fillO (a.put d v) ds us k := by
  intro ds
  induction ds with
  | nil => intro _ a k; rfl
  | cons e ds ih =>
    intro hd a k
    simp only [fillO]
    rw [ih (fun e he => hd e (List.mem_cons_of_mem _ he)), putO_comm a (hd e (List.mem_cons_self ..))]
theorem fillO_congr (ds : List (Option Tmp)) (us us' : Nat → Value) : ∀ (a : Act) (k : Nat), (∀ j, k ≤ j → us j = us' j) → fillO a ds us k = fillO a ds us' k := by
  induction ds with
  | nil => intro a k _; rfl
  | cons e ds ih =>
    intro a k h
    simp only [fillO]
    rw [h k (Nat.le_refl _)]
    exact ih _ _ fun j hj => h j (by omega)
theorem fillO_put (us : Nat → Value) (v : Value) : ∀ (ds : List (Option Tmp)), NoTwice ds → ∀ (a : Act) (k i : Nat) (d : Option Tmp), ds[i]? = some d → (fillO a ds us k).put d v = fillO a ds (updO us (k + i) v) k := by
  intro ds
  induction ds with
  | nil => intro _ a k i d h; simp at h
  | cons e ds ih =>
    intro hn a k i d h
    have hn' := List.pairwise_cons.1 hn
    cases i with
    | zero =>
      simp at h
      subst h
      simp only [fillO]
      rw [fillO_far us e v ds hn'.1, putO_putO]
      have e1 : updO us (k + 0) v k = v := by simp [updO]
      rw [e1]
      exact fillO_congr ds _ _ _ _ fun j hj => by simp [updO]; omega
    | succ i =>
      simp only [fillO]
      have hi : ds[i]? = some d := by simpa using h
      rw [ih hn'.2 _ (k + 1) i d hi]
      have e1 : updO us (k + (i + 1)) v k = us k := by simp [updO]
      have e2 : k + 1 + i = k + (i + 1) := by omega
      rw [e1, e2]
theorem fillO_start : ∀ (ds : List (Option Tmp)) (a : Act) (k : Nat) (us : Nat → Value), (∀ d, some d ∈ ds → d < a.tmps.size) → (∀ i d, ds[i]? = some (some d) → us (k + i) = a.tmps.getD d undef) → fillO a ds us k = a := by
  intro ds
  induction ds with
  | nil => intro a k us _ _; rfl
  | cons e ds ih =>
    intro a k us hb hu
    simp only [fillO]
    have hput : a.put e (us k) = a := by
      cases e with
      | none => rfl
      | some d =>
        have h0 := hu 0 d rfl
        rw [Nat.add_zero] at h0
        rw [h0]
        have hd := hb d (List.mem_cons_self ..)
        simp only [Act.put]
        have : a.tmps.setIfInBounds d (a.tmps.getD d undef) = a.tmps := by
          apply Array.ext_getElem?
          intro i
          rw [Array.getElem?_setIfInBounds]
          by_cases hi : d = i
          · subst hi; simp [hd, Array.getD]
          · simp [hi]
        rw [this]
    rw [hput]
    exact ih a (k + 1) us (fun d hd => hb d (List.mem_cons_of_mem _ hd)) fun i d hi => by
      have := hu (i + 1) d (by simpa using hi)
      rw [← this]; congr 1; omega

/-- What one operation must give: 'done' are those that were carried out; 'D' those whose values it uses, 'A' those that cannot have been carried out before it. -/
def JOp (P : Program) (ops : Array Oper) (V : Nat → Value → World → Prop) (J : (Nat → Prop) → World → Prop) (D A : List (List Nat)) (ds : List (Option Tmp)) (a : Act) (i : Nat) (o : Oper) : Prop :=
  ∀ (done : Nat → Prop) (us : Nat → Value) (W : World), J done W → (∀ j ∈ D.getD i [], V j (us j) W ∧ done j) → (∀ j ∈ A.getD i [], ¬ done j) → ¬ done i → ∀ K : Act → World → Prop,
    (∀ v W', V i v W' → (∀ j u, done j → V j u W → V j u W') → J (fun k => done k ∨ k = i) W' → K ((fillO a ds us 0).put o.dst v) W') → ∀ Q' : Exit → Act → World → Prop,
    if Region.wanted o (yielded ops (fillO a ds us 0).tmps) then o.wp P (fillO a ds us 0) W K Q' else K ((fillO a ds us 0).put o.dst undef) W
def JAll (P : Program) (ops : Array Oper) (V : Nat → Value → World → Prop) (J : (Nat → Prop) → World → Prop) (D A : List (List Nat)) (ds : List (Option Tmp)) (a : Act) : Nat → List Oper → Prop
  | _, [] => True
  | i, o :: rest => JOp P ops V J D A ds a i o ∧ JAll P ops V J D A ds a (i + 1) rest
theorem JAll.at {P : Program} {ops : Array Oper} {V : Nat → Value → World → Prop} {J : (Nat → Prop) → World → Prop} {D A : List (List Nat)} {ds : List (Option Tmp)} {a : Act} : ∀ (l : List Oper) (k : Nat), JAll P ops V J D A ds a k l → ∀ i o, l[i]? = some o → JOp P ops V J D A ds a (k + i) o := by
  intro l
  induction l with
  | nil => intro k _ i o h; simp at h
  | cons x l ih =>
    intro k h i o ho
    cases i with
    | zero => simp at ho; subst ho; exact h.1
    | succ i =>
      have := ih (k + 1) h.2 i o (by simpa using ho)
      rw [show k + 1 + i = k + (i + 1) by omega] at this
      exact this

theorem putO_size (a : Act) (d : Option Tmp) (v : Value) : (a.put d v).tmps.size = a.tmps.size := by
  cases d <;> simp [Act.put]
theorem putO_else (a : Act) (e : Option Tmp) (v : Value) {d : Tmp} (h : e ≠ some d) : (a.put e v).tmps[d]? = a.tmps[d]? := by
  cases e with
  | none => rfl
  | some e => simp only [Act.put]; rw [Array.getElem?_setIfInBounds, if_neg (fun q => h (by rw [q]))]
theorem fillO_else (us : Nat → Value) : ∀ (ds : List (Option Tmp)) (a : Act) (k : Nat) (d : Tmp), some d ∉ ds → (fillO a ds us k).tmps[d]? = a.tmps[d]? := by
  intro ds
  induction ds with
  | nil => intro a k d _; rfl
  | cons e ds ih =>
    intro a k d h
    simp only [List.mem_cons, not_or] at h
    simp only [fillO]
    rw [ih _ _ d h.2, putO_else _ _ _ (Ne.symm h.1)]
theorem fillO_get (us : Nat → Value) : ∀ (ds : List (Option Tmp)), NoTwice ds → ∀ (a : Act) (k i : Nat) (d : Tmp), ds[i]? = some (some d) → d < a.tmps.size → (fillO a ds us k).tmps[d]? = some (us (k + i)) := by
  intro ds
  induction ds with
  | nil => intro _ a k i d h; simp at h
  | cons e ds ih =>
    intro hn a k i d h hd
    have hn' := List.pairwise_cons.1 hn
    simp only [fillO]
    cases i with
    | zero =>
      simp at h
      subst h
      rw [fillO_else us ds _ _ d (fun hm => by rcases hn'.1 _ hm with h | h <;> simp at h)]
      simp only [Act.put]
      rw [Array.getElem?_setIfInBounds_self_of_lt hd]; rfl
    | succ i =>
      have hi : ds[i]? = some (some d) := by simpa using h
      rw [ih hn'.2 _ (k + 1) i d hi (by rw [putO_size]; exact hd)]
      congr 2; omega

/-- The same over a frame of which only the slots' values are known. -/
theorem JOp.of {P : Program} {ops : Array Oper} {V : Nat → Value → World → Prop} {J : (Nat → Prop) → World → Prop} {D A : List (List Nat)} {ds : List (Option Tmp)} {a : Act} {i : Nat} {o : Oper} (hn : NoTwice ds) (hs : ∀ d, some d ∈ ds → d < a.tmps.size)
    (h : ∀ (done : Nat → Prop) (us : Nat → Value) (W : World), J done W → (∀ j ∈ D.getD i [], V j (us j) W ∧ done j) → (∀ j ∈ A.getD i [], ¬ done j) → ¬ done i → ∀ b : Act, (∀ j d, ds[j]? = some (some d) → b.tmps[d]? = some (us j)) → (∀ d, some d ∉ ds → b.tmps[d]? = a.tmps[d]?) → ∀ K : Act → World → Prop,
      (∀ v W', V i v W' → (∀ j u, done j → V j u W → V j u W') → J (fun k => done k ∨ k = i) W' → K (b.put o.dst v) W') → ∀ Q' : Exit → Act → World → Prop,
      if Region.wanted o (yielded ops b.tmps) then o.wp P b W K Q' else K (b.put o.dst undef) W) : JOp P ops V J D A ds a i o := by
  intro done us W hJ hdep haft hnot K hK Q'
  refine h done us W hJ hdep haft hnot _ (fun j d hj => ?_) (fun d hd => fillO_else us ds a 0 d hd) K hK Q'
  have := fillO_get us ds hn a 0 j d hj (hs d (List.mem_of_getElem? hj))
  rwa [Nat.zero_add] at this

/-- What one operation must give, over a frame of which only the slots' values are known. -/
def JOq (P : Program) (ops : Array Oper) (V : Nat → Value → World → Prop) (J : (Nat → Prop) → World → Prop) (D A : List (List Nat)) (ds : List (Option Tmp)) (a : Act) (i : Nat) (o : Oper) : Prop :=
  ∀ (done : Nat → Prop) (us : Nat → Value) (W : World), J done W → (∀ j ∈ D.getD i [], V j (us j) W ∧ done j) → (∀ j ∈ A.getD i [], ¬ done j) → ¬ done i → ∀ b : Act, (∀ j d, ds[j]? = some (some d) → b.tmps[d]? = some (us j)) → (∀ d, some d ∉ ds → b.tmps[d]? = a.tmps[d]?) → ∀ K : Act → World → Prop,
      (∀ v W', V i v W' → (∀ j u, done j → V j u W → V j u W') → J (fun k => done k ∨ k = i) W' → K (b.put o.dst v) W') → ∀ Q' : Exit → Act → World → Prop,
      if Region.wanted o (yielded ops b.tmps) then o.wp P b W K Q' else K (b.put o.dst undef) W
def JAllq (P : Program) (ops : Array Oper) (V : Nat → Value → World → Prop) (J : (Nat → Prop) → World → Prop) (D A : List (List Nat)) (ds : List (Option Tmp)) (a : Act) : Nat → List Oper → Prop
  | _, [] => True
  | i, o :: rest => JOq P ops V J D A ds a i o ∧ JAllq P ops V J D A ds a (i + 1) rest
theorem JAllq.all {P : Program} {ops : Array Oper} {V : Nat → Value → World → Prop} {J : (Nat → Prop) → World → Prop} {D A : List (List Nat)} {ds : List (Option Tmp)} {a : Act} (hn : NoTwice ds) (hs : ∀ d, some d ∈ ds → d < a.tmps.size) : ∀ (l : List Oper) (k : Nat), JAllq P ops V J D A ds a k l → JAll P ops V J D A ds a k l := by
  intro l
  induction l with
  | nil => intro k _; trivial
  | cons o l ih => intro k h; exact ⟨JOp.of hn hs h.1, ih (k + 1) h.2⟩

def noTwiceB : List (Option Tmp) → Bool
  | [] => true
  | d :: ds => ds.all (fun e => d == none || d != e) && noTwiceB ds
theorem noTwice_of : ∀ (ds : List (Option Tmp)), noTwiceB ds = true → NoTwice ds := by
  intro ds
  induction ds with
  | nil => intro _; exact List.Pairwise.nil
  | cons d ds ih =>
    intro h
    simp only [noTwiceB, Bool.and_eq_true] at h
    refine List.Pairwise.cons (fun e he => ?_) (ih h.2)
    have := List.all_eq_true.1 h.1 e he
    simp at this
    rcases this with h | h
    · exact .inl h
    · exact .inr h

theorem slots_lt {ds : List (Option Tmp)} {N : Nat} (h : ds.all (fun x => match x with | some d => decide (d < N) | none => true) = true) {a : Act} (hs : N ≤ a.tmps.size) : ∀ d, some d ∈ ds → d < a.tmps.size := fun d hd => by
  have := List.all_eq_true.1 h _ hd
  simp at this
  exact Nat.lt_of_lt_of_le this hs

/-- What the kernel looks at. -/
def jB (ops : Array Oper) (n : Nat) (ds : List (Option Tmp)) (D A : List (List Nat)) : Bool :=
  decide (n ≤ ops.size) && decide (ds.length = n) && noTwiceB ds && (List.range n).all (fun i => (((ops[i]?).map (·.dst)) == ds[i]?) && (D.getD i []).all (fun j => decide (j < i) && Region.waitsFor .any ops i j) && (A.getD i []).all (fun j => decide (j < n) && Region.waitsFor .any ops j i)) &&
  (List.range n).all (fun i => match ops[i]? with | some o => o.after.all (fun e => !Region.binds .any e || decide (e.on < i)) | none => false) &&
  (decide (n = ops.size) || (Region.sinkB .any ops n && Region.chainB .any ops n)) && Region.seqB .any ops (ops.size - n) n ((List.range ops.size).map (fun i => decide (i < n))).toArray

section
variable {P : Program} {l : List Oper} {n : Nat} {ds : List (Option Tmp)} {D A : List (List Nat)} {V : Nat → Value → World → Prop} {J : (Nat → Prop) → World → Prop} {a : Act} {Q : Exit → Act → World → Prop}

theorem j_any (hB : jB l.toArray n ds D A = true) (hJ : ∀ p q W, (∀ k, p k ↔ q k) → J p W → J q W) (hop : JAll P l.toArray V J D A ds a 0 (l.take n))
    (hend : ∀ us W, (∀ j, j < n → V j (us j) W) → J (fun k => k < n) W → wpList P l.toArray Q (l.drop n) (fillO a ds us 0) W) :
    ∀ (f : Nat) (rem : List Nat) (listed : Array Bool) (us : Nat → Value) (W : World), rem.length = f → rem.Nodup → HeadInv .any l.toArray n listed → (∀ j, j < n → (listed.getD j true = false ↔ j ∈ rem)) → (∀ j ∈ rem, j < n) →
      (∀ j, j < n → j ∉ rem → V j (us j) W) → J (fun k => k < n ∧ k ∉ rem) W → wpAny P .any l.toArray Q (f + (l.toArray.size - n)) listed (fillO a ds us 0) W := by
  simp only [jB, Bool.and_eq_true, decide_eq_true_eq] at hB
  obtain ⟨⟨⟨⟨⟨⟨hn, hl⟩, hnt⟩, hD⟩, hless⟩, hsc⟩, hseq⟩ := hB
  have hnd := noTwice_of ds hnt
  intro f
  induction f with
  | zero =>
    intro rem listed us W hlen _ inv hrem _ hV hX
    obtain rfl : rem = [] := List.eq_nil_of_length_eq_zero hlen
    have hlist : listed = ((List.range l.toArray.size).map (fun i => decide (i < n))).toArray := by
      apply Array.ext
      · simp [inv.size]
      · intro i h1 h2
        have hsz := inv.size
        simp only [List.getElem_toArray, List.getElem_map, List.getElem_range]
        by_cases hi : i < n
        · have h3 := hrem i hi
          simp only [List.not_mem_nil, iff_false, Bool.not_eq_false] at h3
          have h4 : listed.getD i true = listed[i] := by simp [Array.getD, h1]
          rw [h4] at h3
          simp [h3, hi]
        · have h3 := inv.tail i (by omega) (by omega)
          have h4 : listed.getD i true = listed[i] := by simp [Array.getD, h1]
          rw [h4] at h3
          simp [h3, hi]
    have hdl : (l.drop n).length = l.toArray.size - n := by simp
    rw [Nat.zero_add, ← hdl]
    refine wpAny_of_seq (l.drop n) n listed _ W (fun j => by simp [List.getElem?_drop]) ?_ (hend us W (fun j hj => hV j hj (by simp)) (hJ _ _ W (by simp) hX))
    rw [hdl, hlist]
    exact hseq
  | succ f ih =>
    intro rem listed us W hlen hnodup inv hrem hlt hV hX
    rw [show f + 1 + (l.toArray.size - n) = (f + (l.toArray.size - n)) + 1 by omega]
    have hne : rem ≠ [] := by intro e; subst e; simp at hlen
    refine ⟨fun h0 => ?_, fun i hi => ?_⟩
    · exfalso
      obtain ⟨k, hk, hmin⟩ : ∃ k ∈ rem, ∀ j ∈ rem, k ≤ j := by
        obtain ⟨m, hm, hm2⟩ := exists_least (p := fun m => m ∈ rem) (by cases rem with | nil => exact absurd rfl hne | cons x xs => exact ⟨x, List.mem_cons_self ..⟩)
        exact ⟨m, hm, fun j hj => hm2 j hj⟩
      have hkn := hlt k hk
      have hr : k ∈ Region.ready .any l.toArray listed := by
        refine mem_ready.2 ⟨(hrem k hkn).2 hk, ?_⟩
        have h1 := List.all_eq_true.1 hless k (List.mem_range.2 hkn)
        cases ho : l.toArray[k]? with
        | none => rw [ho] at h1; simp at h1
        | some o =>
          rw [ho] at h1
          refine ⟨o, rfl, fun e he hb => ?_⟩
          have h2 := Array.all_eq_true_iff_forall_mem.1 h1 e he
          simp only [hb, Bool.not_true, Bool.false_or, decide_eq_true_eq] at h2
          have h3 : e.on ∉ rem := fun h => by have := hmin _ h; omega
          have h4 : listed.getD e.on true = true := by
            cases h5 : listed.getD e.on true with
            | true => rfl
            | false => exact absurd ((hrem e.on (by omega)).1 h5) h3
          have hsz : e.on < listed.size := by rw [inv.size]; omega
          simp [Array.getD, hsz] at h4 ⊢
          exact h4
      rw [h0] at hr
      cases hr
    · obtain ⟨hun, o, ho, hall⟩ := mem_ready.1 hi
      have hisz : i < l.toArray.size := (Array.getElem?_eq_some_iff.1 ho).1
      have hin : i < n := by
        rcases Nat.lt_or_ge i n with h | h
        · exact h
        · simp only [Bool.or_eq_true, Bool.and_eq_true, decide_eq_true_eq] at hsc
          rcases hsc with hsc | ⟨hs, hc⟩
          · omega
          · obtain ⟨k, hk⟩ : ∃ k, k ∈ rem := by cases rem with | nil => exact absurd rfl hne | cons x xs => exact ⟨x, List.mem_cons_self ..⟩
            exact absurd hi (tail_waits hs hc (by omega) inv _ k rfl (hlt k hk) ((hrem k (hlt k hk)).2 hk) i h)
      have hir : i ∈ rem := (hrem i hin).1 hun
      have hDi := List.all_eq_true.1 hD i (List.mem_range.2 hin)
      simp only [Bool.and_eq_true, beq_iff_eq] at hDi
      obtain ⟨⟨hdst, hdeps⟩, hafts⟩ := hDi
      rw [ho] at hdst
      simp only [Option.map_some] at hdst
      have hm := JAll.at (l.take n) 0 hop i o (by rw [List.getElem?_take, if_pos hin]; simpa using ho)
      rw [Nat.zero_add] at hm
      have hdp : ∀ j ∈ D.getD i [], V j (us j) W ∧ (j < n ∧ j ∉ rem) := fun j hj => by
        have h1 := List.all_eq_true.1 hdeps j hj
        simp only [Bool.and_eq_true, decide_eq_true_eq] at h1
        obtain ⟨oj, hoj, e, he, hb, hon⟩ := Region.waitsFor_spec h1.2
        have : oj = o := Option.some.inj (hoj.symm.trans ho)
        subst this
        have h2 := hall e he hb
        rw [hon] at h2
        have hjr : j ∉ rem := fun hjr => by
          have h3 := (hrem j (by omega)).2 hjr
          rw [getD_both h3] at h2
          cases h2
        exact ⟨hV j (by omega) hjr, by omega, hjr⟩
      have haf : ∀ j ∈ A.getD i [], ¬ (j < n ∧ j ∉ rem) := fun j hj hd => by
        have h1 := List.all_eq_true.1 hafts j hj
        simp only [Bool.and_eq_true, decide_eq_true_eq] at h1
        obtain ⟨oj, hoj, e, he, hb, hon⟩ := Region.waitsFor_spec h1.2
        have h4 : listed.getD j false = true := by
          have h5 : listed.getD j true = true := by
            cases h5 : listed.getD j true with
            | true => rfl
            | false => exact absurd ((hrem j hd.1).1 h5) hd.2
          have hsz : j < listed.size := by rw [inv.size]; omega
          simp [Array.getD, hsz] at h5 ⊢
          exact h5
        have h6 := inv.closed j oj hoj h4 e he hb
        rw [hon, getD_both hun] at h6
        cases h6
      have key : ∀ v W', V i v W' → (∀ j u, (j < n ∧ j ∉ rem) → V j u W → V j u W') → J (fun k => (k < n ∧ k ∉ rem) ∨ k = i) W' → wpAny P .any l.toArray Q (f + (l.toArray.size - n)) (listed.setIfInBounds i true) ((fillO a ds us 0).put o.dst v) W' := fun v W' hv hst hj => by
        rw [fillO_put us v ds hnd a 0 i o.dst hdst.symm, Nat.zero_add]
        refine ih (rem.erase i) _ (updO us i v) W' (by rw [List.length_erase_of_mem hir]; omega) (hnodup.erase i) (inv.set hi hin) (fun j hj => ?_) (fun j hj => hlt j (List.mem_of_mem_erase hj)) (fun j hj hjr => ?_) (hJ _ _ W' (fun k => ?_) hj)
        · by_cases hji : i = j
          · subst hji
            have hsz : i < listed.size := by rw [inv.size]; omega
            simp [Array.getD, hsz]
            exact fun h => (hnodup.mem_erase_iff.1 h).1 rfl
          · rw [getD_set_ne true hji, hrem j hj, hnodup.mem_erase_iff]
            exact ⟨fun h => ⟨Ne.symm hji, h⟩, fun h => h.2⟩
        · by_cases hji : j = i
          · subst hji; simpa [updO] using hv
          · have : updO us i v j = us j := by simp [updO, hji]
            rw [this]
            have hjr' : j ∉ rem := fun h => hjr (hnodup.mem_erase_iff.2 ⟨hji, h⟩)
            exact hst j _ ⟨hj, hjr'⟩ (hV j hj hjr')
        · rw [hnodup.mem_erase_iff]
          constructor
          · rintro (⟨h1, h2⟩ | rfl)
            · exact ⟨h1, fun h => h2 h.2⟩
            · exact ⟨hin, fun h => h.1 rfl⟩
          · rintro ⟨h1, h2⟩
            by_cases hki : k = i
            · exact .inr hki
            · exact .inl ⟨h1, fun h => h2 ⟨hki, h⟩⟩
      unfold wpOp
      rw [ho]
      simp only
      have hgo := hm (fun k => k < n ∧ k ∉ rem) us W hX hdp haf (fun h => h.2 hir) (wpAny P .any l.toArray Q (f + (l.toArray.size - n)) (listed.setIfInBounds i true)) key Q
      split
      · rename_i hw; rw [if_pos hw] at hgo; exact .inl hgo
      · rename_i hw; rw [if_neg hw] at hgo; exact hgo

/-- THE LAW. -/
theorem wp_region_j {id : Nat} {w : World} (n : Nat) (ds : List (Option Tmp)) (D A : List (List Nat)) (V : Nat → Value → World → Prop) (J : (Nat → Prop) → World → Prop) (hm : P.follows .mixedOrders = true) (hB : jB l.toArray n ds D A = true)
    (hd : ∀ d, some d ∈ ds → d < a.tmps.size) (hJ : ∀ p q W, (∀ k, p k ↔ q k) → J p W → J q W) (h0 : J (fun _ => False) w.drew) (hop : JAllq P l.toArray V J D A ds a 0 (l.take n))
    (hend : ∀ us W, (∀ j, j < n → V j (us j) W) → J (fun k => k < n) W → wpList P l.toArray Q (l.drop n) (fillO a ds us 0) W) : (Code.region id l.toArray true).wp P Q a w := by
  refine wp_region_any hm ?_
  have hB' := hB
  simp only [jB, Bool.and_eq_true, decide_eq_true_eq] at hB'
  obtain ⟨⟨⟨⟨⟨⟨hn, hl⟩, hnt⟩, _⟩, _⟩, _⟩, _⟩ := hB'
  have h := j_any hB hJ (JAllq.all (noTwice_of ds hnt) hd _ 0 hop) hend n (List.range n) (Array.replicate l.toArray.size false) (fun j => a.tmps.getD ((ds.getD j none).getD 0) undef) w.drew (by simp) List.nodup_range
    ⟨by simp, fun j oj _ hl => (by rw [getD_replicate_false] at hl; cases hl), fun t _ ht => getD_in (by simpa using ht) (getD_replicate_false _ _)⟩
    (fun j hj => ⟨fun _ => List.mem_range.2 hj, fun _ => getD_in (by simp at hn ⊢; omega) (getD_replicate_false _ _)⟩) (fun j hj => List.mem_range.1 hj)
    (fun j hj h => absurd (List.mem_range.2 hj) h) (hJ _ _ _ (fun k => by simp) h0)
  rw [fillO_start ds a 0 _ hd (fun i d hi => by simp [List.getD, hi])] at h
  have e : n + (l.toArray.size - n) = l.toArray.size := by omega
  rw [e] at h
  exact h
end
end Go.Proofs.Ytagcgldhhdecjaa
namespace Go.Proofs.Ytagcgldhhdecjaa
open Go.RowKit

/-- What one operation must give, over a frame of which only the slots' values are known. -/
def GOq (P : Program) (ops : Array Oper) (J : (Nat → Prop) → (Nat → Value) → World → Prop) (D A : List (List Nat)) (ds : List (Option Tmp)) (a : Act) (i : Nat) (o : Oper) : Prop :=
  ∀ (done : Nat → Prop) (us : Nat → Value) (W : World), J done us W → (∀ j ∈ D.getD i [], done j) → (∀ j ∈ A.getD i [], ¬ done j) → ¬ done i → ∀ b : Act, (∀ j d, ds[j]? = some (some d) → b.tmps[d]? = some (us j)) → (∀ d, some d ∉ ds → b.tmps[d]? = a.tmps[d]?) → ∀ K : Act → World → Prop,
      (∀ v W', J (fun k => done k ∨ k = i) (updO us i v) W' → K (b.put o.dst v) W') → ∀ Q' : Exit → Act → World → Prop,
      if Region.wanted o (yielded ops b.tmps) then o.wp P b W K Q' else K (b.put o.dst undef) W
def GAllq (P : Program) (ops : Array Oper) (J : (Nat → Prop) → (Nat → Value) → World → Prop) (D A : List (List Nat)) (ds : List (Option Tmp)) (a : Act) : Nat → List Oper → Prop
  | _, [] => True
  | i, o :: rest => GOq P ops J D A ds a i o ∧ GAllq P ops J D A ds a (i + 1) rest
theorem GAllq.at {P : Program} {ops : Array Oper} {J : (Nat → Prop) → (Nat → Value) → World → Prop} {D A : List (List Nat)} {ds : List (Option Tmp)} {a : Act} : ∀ (l : List Oper) (k : Nat), GAllq P ops J D A ds a k l → ∀ i o, l[i]? = some o → GOq P ops J D A ds a (k + i) o := by
  intro l
  induction l with
  | nil => intro k _ i o h; simp at h
  | cons x l ih =>
    intro k h i o ho
    cases i with
    | zero => simp at ho; subst ho; exact h.1
    | succ i =>
      have := ih (k + 1) h.2 i o (by simpa using ho)
      rw [show k + 1 + i = k + (i + 1) by omega] at this
      exact this

section
variable {P : Program} {l : List Oper} {n : Nat} {ds : List (Option Tmp)} {D A : List (List Nat)} {J : (Nat → Prop) → (Nat → Value) → World → Prop} {a : Act} {Q : Exit → Act → World → Prop}

end

/-- A local struct of a region: its cells are 'zs' until they are stored, then 'vs'. -/
structure Loc (w W : World) (T : TypeId) (zs vs : Array Value) (da dst : Prop) (v : Value) : Prop where
  ptr : da → ∃ g, v = .pointer (some ⟨g, 0, none⟩) ∧ w.heap.size ≤ g ∧ (dst → Blk W g T vs) ∧ (¬ dst → Blk W g T zs)
section
variable {w W W' : World} {T : TypeId} {zs vs : Array Value} {da dst da' dst' : Prop} {v u : Value}
theorem Loc.lt (h : Loc w W T zs vs da dst v) (hd : da) : ∃ g, v = .pointer (some ⟨g, 0, none⟩) ∧ w.heap.size ≤ g ∧ g < W.heap.size := by
  obtain ⟨g, h1, h2, h3, h4⟩ := h.ptr hd
  refine ⟨g, h1, h2, ?_⟩
  by_cases hs : dst
  · exact (h3 hs).lt
  · exact (h4 hs).lt
theorem Loc.stored (h : Loc w W T zs vs da dst v) (hd : da) (hs : ¬ dst) : ∃ g, v = .pointer (some ⟨g, 0, Option.none⟩) ∧ w.heap.size ≤ g ∧ Blk W g T zs := by
  obtain ⟨g, h1, h2, _, h4⟩ := h.ptr hd
  exact ⟨g, h1, h2, h4 hs⟩
theorem Loc.done (h : Loc w W T zs vs da dst v) (hd : da) (hs : dst) : ∃ g, v = .pointer (some ⟨g, 0, Option.none⟩) ∧ w.heap.size ≤ g ∧ Blk W g T vs := by
  obtain ⟨g, h1, h2, h3, _⟩ := h.ptr hd
  exact ⟨g, h1, h2, h3 hs⟩
theorem Loc.same (h : Loc w W T zs vs da dst v) (ha : da' ↔ da) (hs : dst' ↔ dst) : Loc w W T zs vs da' dst' v := by
  have e1 := propext ha
  have e2 := propext hs
  subst e1 e2
  exact h
theorem Loc.ext (h : Loc w W T zs vs da dst v) (hX : Ext W W') : Loc w W' T zs vs da dst v := ⟨fun hd => by
  obtain ⟨g, h1, h2, h3, h4⟩ := h.ptr hd
  exact ⟨g, h1, h2, fun h => (h3 h).ext hX, fun h => (h4 h).ext hX⟩⟩
theorem Loc.new (w W : World) (hw : Ext w W) (hs : ¬ dst) (hX : Ext (W.alloc (.cells zs T)) W') : Loc w W' T zs vs da dst (.pointer (some ⟨W.heap.size, 0, none⟩)) :=
  ⟨fun _ => ⟨_, rfl, hw.size, fun h => absurd h hs, fun _ => (Blk.new W T zs).ext hX⟩⟩
end
end Go.Proofs.Ytagcgldhhdecjaa
namespace Go.Proofs.Ytagcgldhhdecjaa
open Go.RowKit

section
variable {P : Program}
/-- An operation that is always done, whose value is known. -/
theorem jop_run {ops : Array Oper} {o : Oper} {b : Act} {W W' : World} {K : Act → World → Prop} {Q' : Exit → Act → World → Prop} {v' : Value} (hg : o.guard = none) (hrun : (execOp b.eval o).run P W = .ok (.value v') W') (hK : K (b.put o.dst v') W') :
    if Region.wanted o (yielded ops b.tmps) then o.wp P b W K Q' else K (b.put o.dst undef) W := by
  simp only [Region.wanted, hg, if_true, Oper.wp, hrun]
  exact hK
/-- 'append(s, x...)' in a region that draws its order. -/
theorem jop_app {ops : Array Oper} {o : Oper} {b : Act} {W W' : World} {K : Act → World → Prop} {Q' : Exit → Act → World → Prop} {t : TypeId} {i j : Tmp} {v u v' : Value} (hg : o.guard = none)
    (ho : o.op = .call { callee := .builtin .append, args := #[.tmp i, .tmp j], argTypes := #[t, t] }) (hi : b.tmps[i]? = some v) (hj : b.tmps[j]? = some u)
    (hrun : (Builtin.append_ #[t, t] o.type #[v, u]).run P W = .ok v' W') (hK : K (b.put o.dst v') W') :
    if Region.wanted o (yielded ops b.tmps) then o.wp P b W K Q' else K (b.put o.dst undef) W := by
  refine jop_run hg ?_ hK
  have e1 : b.eval (.tmp i) = v := by simp [Act.eval, hi]
  have e2 : b.eval (.tmp j) = u := by simp [Act.eval, hj]
  unfold execOp
  simp only [ho, resolve, invoke, builtin, Sem.run_bind, Sem.run_pure, Result.andThen_ok, List.map_toArray, List.map_cons, List.map_nil, e1, e2, hrun]
end
end Go.Proofs.Ytagcgldhhdecjaa
