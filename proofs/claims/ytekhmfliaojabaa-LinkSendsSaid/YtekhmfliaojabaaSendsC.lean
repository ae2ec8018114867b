/- Lemmas of the proof that follows (Sends, part 3): walks of functions by contract, and plain lemmas. Conditions: none. -/
import Derived.Test.YtekhmfliaojabaaSendsB
namespace Go.Proofs.Ytekhmfliaojabaa
open Go.RowKit

theorem elF : Elem Try.prog 57 38 3 40 (.agg #[.int .i64 0, .int .i64 0, .slice none 0 0]) := Elem.mk' (by kernel_rfl) (by kernel_rfl) rfl (by decide)

/-- What Scan leaves. -/
def RetS (w : World) (r : List Fr × Nat × Nat) (e : Ending) (w' : World) : Prop :=
  ∃ A n c vs, e = .returned (.tuple #[.slice A n c, .int .i64 r.2.1, .int .i64 r.2.2]) ∧ w'.ownsRow w.heap.size 38 3 (.slice A n c) n vs ∧ CsR (FrO w.heap.size w') vs r.1 ∧ r.1.length = n ∧ Ext w w'

theorem RetS.frs {w w' : World} {r : List Fr × Nat × Nat} {A : Option Addr} {n c : Nat} {vs : List Value} (h : w'.ownsRow w.heap.size 38 3 (.slice A n c) n vs) (hv : CsR (FrO w.heap.size w') vs r.1) (hl : r.1.length = n) : Frs w' A n r.1 :=
  ⟨hl, vs, hv.imp fun _ _ h => h.frc, At.of_own h⟩

end Go.Proofs.Ytekhmfliaojabaa
namespace Go.Proofs.Ytekhmfliaojabaa
open Go.RowKit

/-- A slice of frames in a row of its own. -/
def FrL (base : Nat) (w : World) (v : Value) (fs : List Fr) : Prop := ∃ vs, w.ownsRow base 38 3 v fs.length vs ∧ CsR (FrO base w) vs fs
section
variable {base : Nat} {w w' : World} {v : Value} {fs : List Fr}
theorem FrL.nil (base : Nat) (w : World) : FrL base w (.slice none 0 0) [] := ⟨[], World.ownsRow_nil _ _ _ _, rfl⟩
theorem FrL.ext (h : FrL base w v fs) (he : Ext w w') : FrL base w' v fs := by obtain ⟨vs, h1, h2⟩ := h; exact ⟨vs, World.ownsRow.ext' h1 he, h2.imp fun _ _ h => h.ext he⟩
theorem FrL.frs (h : FrL base w v fs) : ∃ A c, v = .slice A fs.length c ∧ Frs w A fs.length fs ∧ fs.length ≤ c ∧ c ≤ 9223372036854775807 := by
  obtain ⟨vs, h1, h2⟩ := h
  obtain ⟨A, c, rfl⟩ := own_slice h1
  exact ⟨A, c, rfl, ⟨rfl, vs, h2.imp fun _ _ h => h.frc, At.of_own h1⟩, own_cap h1⟩
theorem FrL.snoc {w1 : World} {v1 : Value} {vs : List Value} {st q : Int} {A : Option Addr} {n c : Nat} {xs : List Int} (hv : w.ownsRow base 38 3 v fs.length vs) (hc : CsR (FrO base w) vs fs) (hO : OwnS .u8 5 base w A n c xs)
    (o : Obj) (hown : w1.ownsRow base 38 3 v1 (fs.length + 1) (vs ++ [.int .i64 st, .int .i64 q, .slice A n c])) (hgr : (w.alloc o).grownBy w1 v.ownBlock) : FrL base w1 v1 (fs ++ [⟨st, q, xs⟩]) := by
  have hX : Ext w (w.alloc o) := (Ext.refl w).alloc o
  have hv1 := World.ownsRow.ext' hv hX
  refine ⟨_, by rw [List.length_append]; exact hown, CsR.snoc (hc.imp fun _ _ h => FrO.kept (FrO.ext h hX) hv1 (by decide) hgr) ?_⟩
  exact FrO.kept (FrO.ext ⟨A, n, c, rfl, hO⟩ hX) hv1 (by decide) hgr
end
theorem pendS_get (s : Snd) {k : Nat} (h : s.acked + k < s.bodies.length) : (pendS s)[k]? = some ⟨s.stream, ((s.acked + k : Nat) : Int), s.bodies.getD (s.acked + k) []⟩ := by
  unfold pendS pendK
  rw [List.getElem?_map, keyed_get, List.getElem?_drop, List.getElem?_eq_getElem h]
  simp [frS, List.getD, List.getElem?_eq_getElem h]
theorem pendS_len (s : Snd) : (pendS s).length = s.bodies.length - s.acked := by unfold pendS; rw [List.length_map, pendK_len]
theorem pendS_take (s : Snd) {k : Nat} (h : s.acked + k < s.bodies.length) : (pendS s).take (k + 1) = (pendS s).take k ++ [⟨s.stream, ((s.acked + k : Nat) : Int), s.bodies.getD (s.acked + k) []⟩] := by
  rw [List.take_add_one, pendS_get s h]; rfl
theorem againS_take (s : Snd) {qs : List Int} {k : Nat} {q : Int} (h : qs[k]? = some q) : againS s (qs.take (k + 1)) = againS s (qs.take k) ++ again1 s q := by
  rw [List.take_add_one, h]; simp [againS]
theorem again1_yes {s : Snd} {q : Nat} (h1 : s.acked ≤ q) (h2 : q < s.bodies.length) : again1 s q = [⟨s.stream, q, s.bodies.getD q []⟩] := by
  unfold again1; rw [if_pos (by omega), Int.toNat_natCast]
theorem again1_no {s : Snd} {q : Int} (h : ¬ ((s.acked : Int) ≤ q ∧ q < s.bodies.length)) : again1 s q = [] := by unfold again1; rw [if_neg h]
theorem againS_len (s : Snd) (qs : List Int) : (againS s qs).length ≤ qs.length := by
  induction qs with
  | nil => simp [againS]
  | cons q qs ih =>
    have e : againS s (q :: qs) = again1 s q ++ againS s qs := rfl
    rw [e, List.length_append, List.length_cons]
    have : (again1 s q).length ≤ 1 := by unfold again1; split <;> simp
    omega

/-- One record is struck from the map and counted. -/
theorem SndP.shrink {base : Nat} {w : World} {g m : Nat} {s : Snd} {l : List (Int × Value)} (hB : Blk w g 98 #[.int .i64 s.stream, .int .i64 s.window, .int .i64 s.acked, .int .i64 s.bodies.length, .map (some m)])
    (hM : MapL Try.prog 3 w m (l.filter fun p => !(p.1 == (s.acked : Int)))) (hF : F2 (fun p q => p.1 = q.1 ∧ BodyV base w p.2 q.2) l (pendK s)) (lo : base ≤ g ∧ base ≤ m) (ok : SndOk { s with acked := s.acked + 1 }) :
    SndP base (w.setCell ⟨g, 2, none⟩ (.int .i64 ((s.acked : Int) + 1))) g m { s with acked := s.acked + 1 } := by
  have hgm : g ≠ m := hM.ne_blk hB
  have hK : Keeps [g] w (w.setCell ⟨g, 2, none⟩ (.int .i64 ((s.acked : Int) + 1))) := (Keeps.refl _ _).setCell (.inl (by simp)) _
  have hN : ∀ k ∈ [g], NoRow 5 w k := by intro k hk; simp at hk; subst hk; exact NoRow.of_blk hB (by decide)
  refine ⟨?_, ⟨_, hM.setCell (by simpa using hgm.symm) _, ?_⟩, lo, ok⟩
  · have := hB.set 2 (.int .i64 ((s.acked : Int) + 1))
    simpa using this
  · rw [← pendK_strike]
    exact F2.imp (F2.filter (p := fun p => !(p.1 == (s.acked : Int))) (q := fun p => !(p.1 == (s.acked : Int))) hF (fun p q h => by rw [h.1])) (fun p q _ h => And.intro h.1 (h.2.keeps hK hN))

set_option maxRecDepth 100000 in
set_option maxHeartbeats 2000000 in
theorem ackP_r4 (g m na : Nat) (w : World) (f4 : w.cell? ⟨g, 4, none⟩ = some (.map (some m))) (f2 : w.cell? ⟨g, 2, none⟩ = some (.int .i64 (na : Int))) (a : Act) (Q : Exit → Act → World → Prop) (hsize : 37 ≤ a.tmps.size)
    (s0 : a.tmps[0]? = some (.pointer (some ⟨g, 0, none⟩)))
    (hend : ∀ (xv0 xv1 xv2 xv3 xv4 xv5 xv6 xv7 : Value) (W : World), (xv0 = .pointer (some ⟨g, 0, none⟩)) → (xv1 = .pointer (some ⟨g, 0, none⟩)) → (xv2 = .pointer (some ⟨g, 4, none⟩)) → (xv3 = .map (some m)) → (xv4 = .pointer (some ⟨g, 0, none⟩)) → (xv5 = .pointer (some ⟨g, 0, none⟩)) → (xv6 = .pointer (some ⟨g, 2, none⟩)) → (xv7 = .int .i64 (na : Int)) → Ext w W → wpList Try.prog (rops Try.f38 4).toArray Q ((rops Try.f38 4).drop 8) ((((((((a.put (some 29) xv0).put (some 30) xv1).put (some 31) xv2).put (some 32) xv3).put (some 33) xv4).put (some 34) xv5).put (some 35) xv6).put (some 36) xv7) W) :
    (Code.region 4 (rops Try.f38 4).toArray true).wp Try.prog Q a w := by
  have hmono : ∀ (W W' : World) (j : Nat) (u : Value), Ext W W' → (fun (i : Nat) (v : Value) (W : World) => match i with
    | 0 => v = .pointer (some ⟨g, 0, none⟩)
    | 1 => v = .pointer (some ⟨g, 0, none⟩)
    | 2 => v = .pointer (some ⟨g, 4, none⟩)
    | 3 => v = .map (some m)
    | 4 => v = .pointer (some ⟨g, 0, none⟩)
    | 5 => v = .pointer (some ⟨g, 0, none⟩)
    | 6 => v = .pointer (some ⟨g, 2, none⟩)
    | 7 => v = .int .i64 (na : Int)
    | _ => True) j u W → (fun (i : Nat) (v : Value) (W : World) => match i with
    | 0 => v = .pointer (some ⟨g, 0, none⟩)
    | 1 => v = .pointer (some ⟨g, 0, none⟩)
    | 2 => v = .pointer (some ⟨g, 4, none⟩)
    | 3 => v = .map (some m)
    | 4 => v = .pointer (some ⟨g, 0, none⟩)
    | 5 => v = .pointer (some ⟨g, 0, none⟩)
    | 6 => v = .pointer (some ⟨g, 2, none⟩)
    | 7 => v = .int .i64 (na : Int)
    | _ => True) j u W' := by
    intro W W' j u hX h
    match j, h with
    | 0, h => exact h
    | 1, h => exact h
    | 2, h => exact h
    | 3, h => exact h
    | 4, h => exact h
    | 5, h => exact h
    | 6, h => exact h
    | 7, h => exact h
    | _ + 8, h => exact h
  have hsz : ∀ d, some d ∈ ([some 29, some 30, some 31, some 32, some 33, some 34, some 35, some 36] : List (Option Tmp)) → d < a.tmps.size := slots_lt (by decide) hsize
  refine wp_region_j 8 [some 29, some 30, some 31, some 32, some 33, some 34, some 35, some 36] [[], [0], [1], [2], [], [4], [5], [6]] [[], [], [], [], [], [], [], []] (fun (i : Nat) (v : Value) (W : World) => match i with
    | 0 => v = .pointer (some ⟨g, 0, none⟩)
    | 1 => v = .pointer (some ⟨g, 0, none⟩)
    | 2 => v = .pointer (some ⟨g, 4, none⟩)
    | 3 => v = .map (some m)
    | 4 => v = .pointer (some ⟨g, 0, none⟩)
    | 5 => v = .pointer (some ⟨g, 0, none⟩)
    | 6 => v = .pointer (some ⟨g, 2, none⟩)
    | 7 => v = .int .i64 (na : Int)
    | _ => True) (fun _ W => Ext w W) (by kernel_rfl) (by kernel_rfl) hsz (fun _ _ _ _ h => h) ((Ext.refl w).drew) ?_ ?_
  · clear hend
    simp only [rops, Try.f38, regOf, Option.bind_some, Nat.reduceBEq, if_true, if_false, Bool.false_eq_true, Option.getD_some]
    simp only [List.take_succ_cons, List.take_zero]
    refine ⟨?_, ?_, ?_, ?_, ?_, ?_, ?_, ?_, trivial⟩
    · intro done us W hJ hdep haft hnot b hb hb' K hK Q'
      have e0 := (hb' 0 (by simp)).trans s0
      clear hb hb'
      go_simp
      exact hK _ _ rfl (fun _ _ _ h => h) hJ
    · intro done us W hJ hdep haft hnot b hb hb' K hK Q'
      simp only [List.getD_cons_succ, List.getD_cons_zero, List.mem_cons, List.not_mem_nil, or_false, forall_eq_or_imp, forall_eq] at hdep
      have e29 := hb 0 29 rfl
      have d0 := hdep
      rw [d0.1] at e29
      clear hb hb' hdep d0
      go_simp
      exact hK _ _ rfl (fun _ _ _ h => h) hJ
    · intro done us W hJ hdep haft hnot b hb hb' K hK Q'
      simp only [List.getD_cons_succ, List.getD_cons_zero, List.mem_cons, List.not_mem_nil, or_false, forall_eq_or_imp, forall_eq] at hdep
      have e30 := hb 1 30 rfl
      have d1 := hdep
      rw [d1.1] at e30
      clear hb hb' hdep d1
      go_simp
      exact hK _ _ rfl (fun _ _ _ h => h) hJ
    · intro done us W hJ hdep haft hnot b hb hb' K hK Q'
      simp only [List.getD_cons_succ, List.getD_cons_zero, List.mem_cons, List.not_mem_nil, or_false, forall_eq_or_imp, forall_eq] at hdep
      have e31 := hb 2 31 rfl
      have d2 := hdep
      rw [d2.1] at e31
      clear hb hb' hdep d2
      have q := Ext.cell hJ f4
      go_simp
      exact hK _ _ rfl (fun _ _ _ h => h) hJ
    · intro done us W hJ hdep haft hnot b hb hb' K hK Q'
      have e0 := (hb' 0 (by simp)).trans s0
      clear hb hb'
      go_simp
      exact hK _ _ rfl (fun _ _ _ h => h) hJ
    · intro done us W hJ hdep haft hnot b hb hb' K hK Q'
      simp only [List.getD_cons_succ, List.getD_cons_zero, List.mem_cons, List.not_mem_nil, or_false, forall_eq_or_imp, forall_eq] at hdep
      have e33 := hb 4 33 rfl
      have d4 := hdep
      rw [d4.1] at e33
      clear hb hb' hdep d4
      go_simp
      exact hK _ _ rfl (fun _ _ _ h => h) hJ
    · intro done us W hJ hdep haft hnot b hb hb' K hK Q'
      simp only [List.getD_cons_succ, List.getD_cons_zero, List.mem_cons, List.not_mem_nil, or_false, forall_eq_or_imp, forall_eq] at hdep
      have e34 := hb 5 34 rfl
      have d5 := hdep
      rw [d5.1] at e34
      clear hb hb' hdep d5
      go_simp
      exact hK _ _ rfl (fun _ _ _ h => h) hJ
    · intro done us W hJ hdep haft hnot b hb hb' K hK Q'
      simp only [List.getD_cons_succ, List.getD_cons_zero, List.mem_cons, List.not_mem_nil, or_false, forall_eq_or_imp, forall_eq] at hdep
      have e35 := hb 6 35 rfl
      have d6 := hdep
      rw [d6.1] at e35
      clear hb hb' hdep d6
      have q := Ext.cell hJ f2
      go_simp
      exact hK _ _ rfl (fun _ _ _ h => h) hJ
  · intro us W hV hJ
    exact hend (us 0) (us 1) (us 2) (us 3) (us 4) (us 5) (us 6) (us 7) W (hV 0 (by omega)) (hV 1 (by omega)) (hV 2 (by omega)) (hV 3 (by omega)) (hV 4 (by omega)) (hV 5 (by omega)) (hV 6 (by omega)) (hV 7 (by omega)) hJ

set_option maxRecDepth 100000 in
set_option maxHeartbeats 2000000 in
theorem ackP_any (base g m : Nat) (s : Snd) (n : Int) (w : World) (h : SndP base w g m s) (h3 : s.bodies.length ≤ 1000000) :
    Calls Try.prog 38 #[.pointer (some ⟨g, 0, none⟩), .int .i64 n] w (fun e w' => e = .returned (.int .i64 (ackS s n).2) ∧ SndP base w' g m (ackS s n).1 ∧ Keeps [g, m] w w') := by
  have HS := Lib.hid h
  obtain ⟨lw0, lw1⟩ := h.ok.window
  have la := h.ok.acked
  have f1 := h.blk.cell 1
  have f2 := h.blk.cell 2
  have f3 := h.blk.cell 3
  clear h
  go_enter Try.func38, Try.ntmps38
  go_wp2_with fail
  refine (noneP_any g s.window _ f1 (by omega)).mono ?_
  rintro e _ ⟨rfl, rfl⟩
  by_cases hbad : n < s.acked ∨ (s.bodies.length : Int) < n
  · have e : ackS s n = (s, 2) := by unfold ackS; rw [if_pos hbad]
    by_cases h1 : (s.bodies.length : Int) < n
    · have q1 : decide ((s.bodies.length : Int) < n) = true := decide_eq_true h1
      go_wp2
      go_ret
      rw [e]
      exact ⟨rfl, HS.out, Keeps.refl _ _⟩
    · have q1 : decide ((s.bodies.length : Int) < n) = false := decide_eq_false h1
      have q2 : decide (n < (s.acked : Int)) = true := decide_eq_true (by omega)
      go_wp2
      go_ret
      rw [e]
      exact ⟨rfl, HS.out, Keeps.refl _ _⟩
  · have q1 : decide ((s.bodies.length : Int) < n) = false := decide_eq_false (by omega)
    have q2 : decide (n < (s.acked : Int)) = false := decide_eq_false (by omega)
    have e : ackS s n = ({ s with acked := n.toNat }, 0) := by unfold ackS; rw [if_neg hbad]
    have hn0 : (s.acked : Int) ≤ n := by omega
    have hn1 : n ≤ (s.bodies.length : Int) := by omega
    have HE := Lib.hid e
    clear e hbad
    go_wp2_with fail
    clear f1 f2 f3
    go_loopg [] (n.toNat - s.acked) (fun f wr => ∃ k : Nat, f = n.toNat - s.acked - k ∧ (s.acked : Int) + k ≤ n ∧ SndP base wr g m { s with acked := s.acked + k } ∧ Keeps [g, m] w wr)
    case atStart => exact ⟨0, rfl, by omega, HS.out, Keeps.refl _ _⟩
    case round =>
      obtain ⟨k, rfl, hk, hS, hKK⟩ := hrel
      have hB := hS.blk
      obtain ⟨na, hna⟩ : ∃ na, s.acked + k = na := ⟨_, rfl⟩
      rw [hna] at hS
      simp only [hna] at hB
      have HN := Lib.hid hna
      have hkn : (na : Int) ≤ n := by omega
      have HR := Lib.hid hS
      have HK := Lib.hid hKK
      have HB := Lib.hid hB
      clear hna hS hB hKK
      have f2 := HB.out.cell 2
      by_cases hlt : (na : Int) < n
      · have q3 : decide ((na : Int) < n) = true := decide_eq_true hlt
        go_wp2_with fail
        clear f2
        refine ackP_r4 g m na _ (HB.out.cell 4) (HB.out.cell 2) _ _ (by simp) rfl ?_
        rintro xv0 xv1 xv2 xv3 xv4 xv5 xv6 xv7 W4 rfl rfl rfl rfl rfl rfl rfl rfl hXW
        simp only [rops, Try.f38, regOf, Option.bind_some, Nat.reduceBEq, if_true, if_false, Bool.false_eq_true, Option.getD_some, List.drop_succ_cons, List.drop_zero]
        simp only [Act.put, List.setIfInBounds_toArray, List.set_cons_succ, List.set_cons_zero]
        obtain ⟨l, hM, hF⟩ := (HR.out.ext hXW).map
        have hB4 := HB.out.ext hXW
        obtain ⟨v, hl, _⟩ := (HR.out.ext hXW).find_ l hF na (by simp) (by simp only; omega)
        refine wpList_del_yes _ rfl (.tmp 32) (.tmp 36) 96 rfl 22 keyed_int und_int und_mapB rfl hM (na : Int) rfl (by omega) v hl ?_
        intro w5 hM5 hG5
        have hgm : g ≠ m := hM.ne_blk hB4
        have hK5 : Keeps [m] W4 w5 := Keeps.of_grown hG5 (by rintro k ⟨⟩; simp)
        have hN5 : ∀ k ∈ [m], NoRow 5 W4 k := by intro k hk; simp at hk; subst hk; exact hM.notRow _
        have hB5 := hB4.grown hG5 (by simpa using hgm)
        have hF5 := hF.imp fun p q _ h => And.intro h.1 (h.2.keeps hK5 hN5)
        have hKK5 := (HK.out.trans (Keeps.of_ext hXW _)).grown hG5 (by rintro k ⟨⟩; simp)
        have hok := HR.out.ok
        have f2 := hB5.cell 2
        have z2 := hB5.free 2
        have HB5 := Lib.hid hB5
        have HM5 := Lib.hid hM5
        have HF5 := Lib.hid hF5
        have HK5 := Lib.hid hKK5
        clear hB5 hM5 hF5 hKK5 hK5 hN5 hG5 hB4 hF hM hl hXW
        go_wp2
        go_roundg (n.toNat - s.acked - (k + 1))
        case rel =>
          have hr := HN.out
          refine ⟨k + 1, rfl, by omega, ?_, HK5.out.setCell (.inl (by simp)) _⟩
          have := SndP.shrink (s := { s with acked := na }) HB5.out HM5.out HF5.out HR.out.lo ⟨hok.stream, hok.window, by simp only; omega, by have := hok.room; simp only at this ⊢; omega, hok.body⟩
          rw [show s.acked + (k + 1) = na + 1 by omega]
          exact this
        case measure => have hr := HN.out; omega
      · have q3 : decide ((na : Int) < n) = false := decide_eq_false hlt
        go_wp2
        go_ret
        rw [HE.out]
        refine ⟨rfl, ?_, HK.out⟩
        have := HR.out
        rw [show na = n.toNat by omega] at this
        exact this


set_option maxRecDepth 100000 in
set_option maxHeartbeats 2000000 in
theorem pendP_any (base g m : Nat) (s : Snd) (w : World) (h : SndP base w g m s) (h3 : s.bodies.length ≤ 1000000) :
    Calls Try.prog 41 #[.pointer (some ⟨g, 0, none⟩)] w (fun e w' => ∃ v, e = .returned v ∧ FrL w.heap.size w' v (pendS s) ∧ Ext w w') := by
  have HS := Lib.hid h
  obtain ⟨lw0, lw1⟩ := h.ok.window
  have la := h.ok.acked
  have f1 := h.blk.cell 1
  have f2 := h.blk.cell 2
  have f3 := h.blk.cell 3
  clear h
  go_enter Try.func41, Try.ntmps41
  go_wp2_with fail
  refine (noneP_any g s.window _ f1 (by omega)).mono ?_
  rintro e _ ⟨rfl, rfl⟩
  go_wp2_with fail
  clear f1 f2 f3
  go_loopg [3, 4] (s.bodies.length - s.acked) (fun f v i wr => ∃ (k : Nat) (q : Nat) (fs : List Fr), f = s.bodies.length - s.acked - k ∧ s.acked + k ≤ s.bodies.length ∧ Hid (q = s.acked + k) ∧ i = .int .i64 (q : Int) ∧ Hid (fs = (pendS s).take k) ∧ Hid (FrL w.heap.size wr v fs) ∧ Hid (Ext w wr))
  case atStart => exact ⟨0, s.acked, [], rfl, by omega, Lib.hid rfl, rfl, Lib.hid (by simp), Lib.hid (FrL.nil _ _), Lib.hid (Ext.refl w)⟩
  case round =>
    obtain ⟨k, q, fs, rfl, hk, HQ, rfl, HF, HL, HX⟩ := hrel
    have hk0 : s.acked ≤ q := by have := HQ.out; omega
    have hk1 : q ≤ s.bodies.length := by have := HQ.out; omega
    have HR := Lib.hid (HS.out.ext HX.out)
    have hsl : ∃ A0 c0, u3 = .slice A0 fs.length c0 := by obtain ⟨vs0, hown0, _⟩ := HL.out; exact own_slice hown0
    obtain ⟨A0, c0, rfl⟩ := hsl
    have f3 := HR.out.blk.cell 3
    have hfl : fs.length ≤ k := by rw [HF.out, List.length_take]; omega
    by_cases hlt : q < s.bodies.length
    · have q3 : decide ((q : Int) < (s.bodies.length : Int)) = true := decide_eq_true (by omega)
      go_wp2_with fail
      refine (frameP_any base g m q s _ HR.out hk0 hlt (by omega)).mono ?_
      clear f3
      rintro e w1 ⟨_, rfl, ⟨A1, n1, c1, rfl, hO1⟩, hX1⟩
      have HX1 := Lib.hid hX1
      have HO1 := Lib.hid (hO1.mono HX.out.size)
      obtain ⟨vs, hown1, hcs1⟩ := HL.out.ext hX1
      have HC1 := Lib.hid hcs1
      clear hX1 hO1 hcs1
      go_wp2_with (at_builtin; refine wpList_app _ elF rfl _ _ rfl w.heap.size (.slice A0 fs.length c0) fs.length vs rfl (hown1.alloc _) _ 1 1 [.int .i64 s.stream, .int .i64 (q : Int), .slice A1 n1 c1] rfl rfl (At.new' _ [_, _, _] _ rfl) (by simp [Value.oneCell']) (by omega) (by unfold maxLen; omega) (by have := HX.out.size; have := HX1.out.size; simp; omega) ?_; intro v2 w2 hown2 hgr2 hdj; clear hdj)
      go_roundg (s.bodies.length - s.acked - (k + 1))
      case rel =>
        refine ⟨k + 1, q + 1, _, rfl, by have := HQ.out; omega, Lib.hid (by have := HQ.out; omega), by go_num, Lib.hid rfl, Lib.hid ?_, Lib.hid ((HX.out.trans HX1.out).push hown1 hgr2)⟩
        rw [pendS_take s (by have := HQ.out; omega), ← HQ.out, ← HF.out]
        exact FrL.snoc hown1 HC1.out HO1.out _ (by simpa using hown2) hgr2
      case measure => have := HQ.out; omega
    · have q3 : decide ((q : Int) < (s.bodies.length : Int)) = false := decide_eq_false (by omega)
      go_wp2
      go_ret
      refine ⟨_, rfl, ?_, HX.out⟩
      have e : fs = pendS s := by rw [HF.out, List.take_of_length_le]; rw [pendS_len]; have := HQ.out; omega
      rw [← e]
      exact HL.out


set_option maxRecDepth 100000 in
set_option maxHeartbeats 2000000 in
theorem againP_any (base g m : Nat) (s : Snd) (Aq : Option Addr) (n c : Nat) (qs : List Int) (w : World) (h : SndP base w g m s) (h3 : s.bodies.length ≤ 1000000) (hI : Ints .i64 w Aq n qs) (hn : n ≤ 1000000) :
    Calls Try.prog 43 #[.pointer (some ⟨g, 0, none⟩), .slice Aq n c] w (fun e w' => ∃ v, e = .returned v ∧ FrL w.heap.size w' v (againS s qs) ∧ Ext w w') := by
  have HS := Lib.hid h
  have HI := Lib.hid hI
  obtain ⟨lw0, lw1⟩ := h.ok.window
  have la := h.ok.acked
  have f1 := h.blk.cell 1
  clear h hI
  go_enter Try.func43, Try.ntmps43
  go_wp2_with fail
  refine (noneP_any g s.window _ f1 (by omega)).mono ?_
  rintro e _ ⟨rfl, rfl⟩
  go_wp2_with fail
  clear f1
  go_loopg [5, 12] n (fun f v i wr => ∃ (k : Nat) (fs : List Fr), f = n - k ∧ k ≤ n ∧ i = .int .i64 (k : Int) ∧ Hid (fs = againS s (qs.take k)) ∧ Hid (FrL w.heap.size wr v fs) ∧ Hid (Ext w wr))
  case atStart => exact ⟨0, [], rfl, by omega, rfl, Lib.hid (by simp [againS]), Lib.hid (FrL.nil _ _), Lib.hid (Ext.refl w)⟩
  case round =>
    obtain ⟨k, fs, rfl, hk, rfl, HF, HL, HX⟩ := hrel
    have HR := Lib.hid (HS.out.ext HX.out)
    have hsl : ∃ A0 c0, u5 = .slice A0 fs.length c0 := by obtain ⟨vs0, hown0, _⟩ := HL.out; exact own_slice hown0
    obtain ⟨A0, c0, rfl⟩ := hsl
    have hfl : fs.length ≤ k := by
      rw [HF.out]
      have := againS_len s (qs.take k)
      rw [List.length_take] at this
      omega
    by_cases hlt : k < n
    · obtain ⟨b, off, q, rfl, hq, hwf, hc⟩ := (HI.out.ext HX.out).get hlt
      have HQ := Lib.hid hq
      have hqb := i64_bounds hwf
      clear hq hwf
      have f2 := HR.out.blk.cell 2
      have f3 := HR.out.blk.cell 3
      by_cases hin : (s.acked : Int) ≤ q ∧ q < s.bodies.length
      · obtain ⟨z, rfl⟩ : ∃ z : Nat, q = z := ⟨q.toNat, by omega⟩
        have q2 : s.acked ≤ z := by omega
        have q3 : z < s.bodies.length := by omega
        have HIN := Lib.hid hin
        clear hin
        go_wp2_with fail
        refine (frameP_any base g m z s _ HR.out (by have := HIN.out; omega) (by have := HIN.out; omega) (by omega)).mono ?_
        clear f2 f3 hc
        rintro e w1 ⟨_, rfl, ⟨A1, n1, c1, rfl, hO1⟩, hX1⟩
        have HX1 := Lib.hid hX1
        have HO1 := Lib.hid (hO1.mono HX.out.size)
        obtain ⟨vs, hown1, hcs1⟩ := HL.out.ext hX1
        have HC1 := Lib.hid hcs1
        clear hX1 hO1 hcs1
        go_wp2_with (at_builtin; refine wpList_app _ elF rfl _ _ rfl w.heap.size (.slice A0 fs.length c0) fs.length vs rfl (hown1.alloc _) _ 1 1 [.int .i64 s.stream, .int .i64 (z : Int), .slice A1 n1 c1] rfl rfl (At.new' _ [_, _, _] _ rfl) (by simp [Value.oneCell']) (by omega) (by unfold maxLen; omega) (by have := HX.out.size; have := HX1.out.size; simp; omega) ?_; intro v2 w2 hown2 hgr2 hdj; clear hdj)
        go_roundg (n - (k + 1))
        case rel =>
          refine ⟨k + 1, _, rfl, by omega, by go_num, Lib.hid rfl, Lib.hid ?_, Lib.hid ((HX.out.trans HX1.out).push hown1 hgr2)⟩
          rw [againS_take s HQ.out, again1_yes (by have := HIN.out; omega) (by have := HIN.out; omega), ← HF.out]
          exact FrL.snoc hown1 HC1.out HO1.out _ (by simpa using hown2) hgr2
        case measure => omega
      · have HN := Lib.hid (again1_no hin)
        by_cases h1 : (s.acked : Int) ≤ q
        · have q2 : decide ((s.acked : Int) ≤ q) = true := decide_eq_true h1
          have q3 : decide (q < (s.bodies.length : Int)) = false := decide_eq_false (by omega)
          clear hin
          go_wp2
          go_roundg (n - (k + 1))
          case rel => exact ⟨k + 1, fs, rfl, by omega, by go_num, Lib.hid (by rw [againS_take s HQ.out, HN.out, List.append_nil]; exact HF.out), HL, HX⟩
          case measure => omega
        · have q2 : decide ((s.acked : Int) ≤ q) = false := decide_eq_false h1
          clear hin
          go_wp2
          go_roundg (n - (k + 1))
          case rel => exact ⟨k + 1, fs, rfl, by omega, by go_num, Lib.hid (by rw [againS_take s HQ.out, HN.out, List.append_nil]; exact HF.out), HL, HX⟩
          case measure => omega
    · go_wp2
      go_ret
      refine ⟨_, rfl, ?_, HX.out⟩
      have e : fs = againS s qs := by rw [HF.out, List.take_of_length_le]; rw [HI.out.1]; omega
      rw [← e]
      exact HL.out

end Go.Proofs.Ytekhmfliaojabaa
namespace Go.Proofs.Ytekhmfliaojabaa
open Go.RowKit

theorem SndR.find_ {base : Nat} {w : World} {g : Nat} {v : Value} {s : Snd} (h : SndR base w g v s) (q : Nat) (hq : q < s.bodies.length) :
    ∃ gb c A n cc, v = .slice (some ⟨gb, 0, none⟩) s.bodies.length c ∧ w.cell? ⟨gb, q, none⟩ = some (.slice A n cc) ∧ OwnS .u8 5 base w A n cc (s.bodies.getD q []) := by
  obtain ⟨vs, ho, hF⟩ := h.row
  obtain ⟨A, c, rfl⟩ := own_slice ho
  obtain ⟨gb, rfl, _, _⟩ := own_block ho (by omega)
  have hx : s.bodies[q]? = some (s.bodies.getD q []) := by simp [List.getD, List.getElem?_eq_getElem hq]
  obtain ⟨u, hu, A', n, cc, rfl, hO⟩ := hF.get' hx
  have hl : q < vs.length := (List.getElem?_eq_some_iff.1 hu).1
  exact ⟨gb, c, A', n, cc, rfl, (ho.cellAt q (by have := ho.1; omega)).trans hu, hO⟩
theorem SndR.slice {base : Nat} {w : World} {g : Nat} {v : Value} {s : Snd} (h : SndR base w g v s) : ∃ A c, v = .slice A s.bodies.length c := by obtain ⟨vs, ho, _⟩ := h.row; exact own_slice ho
theorem SndR.put3 {base : Nat} {w : World} {g t : Nat} {s : Snd} {v : Value} {T : TypeId} {cs : Array Value} (h : SndR base w g v s) (hT : Blk w t T cs) (h1 : T ≠ 118) (h2 : T ≠ 5) (h3 : T ≠ 22) (x y z : Value) : SndR base (((w.setCell ⟨t, 0, none⟩ x).setCell ⟨t, 1, none⟩ y).setCell ⟨t, 2, none⟩ z) g v s := by
  have hn : ∀ T', T ≠ T' → ∀ k ∈ [t], NoRow T' w k := by intro T' hT' k hk; simp at hk; subst hk; exact NoRow.of_blk hT hT'
  exact h.keeps (Keeps.put3 [t] w (by simp) x y z) (hn _ h1) (hn _ h3) (hn _ h2)

set_option maxRecDepth 100000 in
set_option maxHeartbeats 2000000 in
theorem frameR_r1 (g gb nl c z : Nat) (st : Int) (Ab : Option Addr) (n cb : Nat) (xs : List Int) (w : World) (f0 : w.cell? ⟨g, 0, none⟩ = some (.int .i64 st)) (f3 : w.cell? ⟨g, 3, none⟩ = some (.slice (some ⟨gb, 0, none⟩) nl c)) (fz : w.cell? ⟨gb, z, none⟩ = some (.slice Ab n cb)) (hz : z < nl) (hI : Ints .u8 w Ab n xs) (hc1 : n ≤ cb) (hc2 : cb ≤ 9223372036854775807) (hn : n ≤ 1000000) (a : Act) (Q : Exit → Act → World → Prop) (hsize : 20 ≤ a.tmps.size)
    (s0 : a.tmps[0]? = some (.pointer (some ⟨g, 0, none⟩)))
    (s1 : a.tmps[1]? = some (.int .i64 (z : Int)))
    (hend : ∀ (xv0 xv1 xv2 xv3 xv4 xv5 xv6 xv7 xv8 xv9 xv10 xv11 xv12 xv13 xv14 : Value) (W : World), (xv0 = .pointer (some ⟨g, 0, none⟩)) → (xv1 = .pointer (some ⟨g, 0, none⟩)) → (xv2 = .pointer (some ⟨g, 0, none⟩)) → (xv3 = .int .i64 st) → (xv4 = .int .i64 (z : Int)) → (xv5 = .pointer (some ⟨g, 0, none⟩)) → (xv6 = .pointer (some ⟨g, 0, none⟩)) → (xv7 = .pointer (some ⟨g, 3, none⟩)) → (xv8 = .slice (some ⟨gb, 0, none⟩) nl c) → (xv9 = .int .i64 (z : Int)) → (xv10 = .pointer (some ⟨gb, z, none⟩)) → (xv11 = .slice Ab n cb) → (∃ A', xv12 = .slice A' 1 1 ∧ Lists .u8 W A' 1 [xs]) → (BodyV w.heap.size W xv13 (xs)) → (FrM w.heap.size W xv14 st z xs) → Ext w W → wpList Try.prog (rops Try.f76 1).toArray Q ((rops Try.f76 1).drop 15) (((((((((((((((a.put (some 5) xv0).put (some 6) xv1).put (some 7) xv2).put (some 8) xv3).put (some 9) xv4).put (some 10) xv5).put (some 11) xv6).put (some 12) xv7).put (some 13) xv8).put (some 14) xv9).put (some 15) xv10).put (some 16) xv11).put (some 17) xv12).put (some 18) xv13).put (some 19) xv14) W) :
    (Code.region 1 (rops Try.f76 1).toArray true).wp Try.prog Q a w := by
  have hmono : ∀ (W W' : World) (j : Nat) (u : Value), Ext W W' → (fun (i : Nat) (v : Value) (W : World) => match i with
    | 0 => v = .pointer (some ⟨g, 0, none⟩)
    | 1 => v = .pointer (some ⟨g, 0, none⟩)
    | 2 => v = .pointer (some ⟨g, 0, none⟩)
    | 3 => v = .int .i64 st
    | 4 => v = .int .i64 (z : Int)
    | 5 => v = .pointer (some ⟨g, 0, none⟩)
    | 6 => v = .pointer (some ⟨g, 0, none⟩)
    | 7 => v = .pointer (some ⟨g, 3, none⟩)
    | 8 => v = .slice (some ⟨gb, 0, none⟩) nl c
    | 9 => v = .int .i64 (z : Int)
    | 10 => v = .pointer (some ⟨gb, z, none⟩)
    | 11 => v = .slice Ab n cb
    | 12 => ∃ A', v = .slice A' 1 1 ∧ Lists .u8 W A' 1 [xs]
    | 13 => BodyV w.heap.size W v (xs)
    | 14 => FrM w.heap.size W v st z xs
    | _ => True) j u W → (fun (i : Nat) (v : Value) (W : World) => match i with
    | 0 => v = .pointer (some ⟨g, 0, none⟩)
    | 1 => v = .pointer (some ⟨g, 0, none⟩)
    | 2 => v = .pointer (some ⟨g, 0, none⟩)
    | 3 => v = .int .i64 st
    | 4 => v = .int .i64 (z : Int)
    | 5 => v = .pointer (some ⟨g, 0, none⟩)
    | 6 => v = .pointer (some ⟨g, 0, none⟩)
    | 7 => v = .pointer (some ⟨g, 3, none⟩)
    | 8 => v = .slice (some ⟨gb, 0, none⟩) nl c
    | 9 => v = .int .i64 (z : Int)
    | 10 => v = .pointer (some ⟨gb, z, none⟩)
    | 11 => v = .slice Ab n cb
    | 12 => ∃ A', v = .slice A' 1 1 ∧ Lists .u8 W A' 1 [xs]
    | 13 => BodyV w.heap.size W v (xs)
    | 14 => FrM w.heap.size W v st z xs
    | _ => True) j u W' := by
    intro W W' j u hX h
    match j, h with
    | 0, h => exact h
    | 1, h => exact h
    | 2, h => exact h
    | 3, h => exact h
    | 4, h => exact h
    | 5, h => exact h
    | 6, h => exact h
    | 7, h => exact h
    | 8, h => exact h
    | 9, h => exact h
    | 10, h => exact h
    | 11, h => exact h
    | 12, h => obtain ⟨A', h1, h2⟩ := h; exact ⟨A', h1, h2.ext hX⟩
    | 13, h => exact BodyV.ext h hX
    | 14, h => exact FrM.ext h hX
    | _ + 15, h => exact h
  have hsz : ∀ d, some d ∈ ([some 5, some 6, some 7, some 8, some 9, some 10, some 11, some 12, some 13, some 14, some 15, some 16, some 17, some 18, some 19] : List (Option Tmp)) → d < a.tmps.size := slots_lt (by decide) hsize
  refine wp_region_j 15 [some 5, some 6, some 7, some 8, some 9, some 10, some 11, some 12, some 13, some 14, some 15, some 16, some 17, some 18, some 19] [[], [0], [1], [2], [], [], [5], [6], [7], [], [8, 9], [10], [11], [12], [3, 4, 13]] [[], [], [], [], [], [], [], [], [], [], [], [], [], [], []] (fun (i : Nat) (v : Value) (W : World) => match i with
    | 0 => v = .pointer (some ⟨g, 0, none⟩)
    | 1 => v = .pointer (some ⟨g, 0, none⟩)
    | 2 => v = .pointer (some ⟨g, 0, none⟩)
    | 3 => v = .int .i64 st
    | 4 => v = .int .i64 (z : Int)
    | 5 => v = .pointer (some ⟨g, 0, none⟩)
    | 6 => v = .pointer (some ⟨g, 0, none⟩)
    | 7 => v = .pointer (some ⟨g, 3, none⟩)
    | 8 => v = .slice (some ⟨gb, 0, none⟩) nl c
    | 9 => v = .int .i64 (z : Int)
    | 10 => v = .pointer (some ⟨gb, z, none⟩)
    | 11 => v = .slice Ab n cb
    | 12 => ∃ A', v = .slice A' 1 1 ∧ Lists .u8 W A' 1 [xs]
    | 13 => BodyV w.heap.size W v (xs)
    | 14 => FrM w.heap.size W v st z xs
    | _ => True) (fun _ W => Ext w W) (by kernel_rfl) (by kernel_rfl) hsz (fun _ _ _ _ h => h) ((Ext.refl w).drew) ?_ ?_
  · clear hend
    simp only [rops, Try.f76, regOf, Option.bind_some, Nat.reduceBEq, if_true, if_false, Bool.false_eq_true, Option.getD_some]
    simp only [List.take_succ_cons, List.take_zero]
    refine ⟨?_, ?_, ?_, ?_, ?_, ?_, ?_, ?_, ?_, ?_, ?_, ?_, ?_, ?_, ?_, trivial⟩
    · intro done us W hJ hdep haft hnot b hb hb' K hK Q'
      have e0 := (hb' 0 (by simp)).trans s0
      clear hb hb'
      go_simp
      exact hK _ _ rfl (fun _ _ _ h => h) hJ
    · intro done us W hJ hdep haft hnot b hb hb' K hK Q'
      simp only [List.getD_cons_succ, List.getD_cons_zero, List.mem_cons, List.not_mem_nil, or_false, forall_eq_or_imp, forall_eq] at hdep
      have e5 := hb 0 5 rfl
      have d0 := hdep
      rw [d0.1] at e5
      clear hb hb' hdep d0
      go_simp
      exact hK _ _ rfl (fun _ _ _ h => h) hJ
    · intro done us W hJ hdep haft hnot b hb hb' K hK Q'
      simp only [List.getD_cons_succ, List.getD_cons_zero, List.mem_cons, List.not_mem_nil, or_false, forall_eq_or_imp, forall_eq] at hdep
      have e6 := hb 1 6 rfl
      have d1 := hdep
      rw [d1.1] at e6
      clear hb hb' hdep d1
      go_simp
      exact hK _ _ rfl (fun _ _ _ h => h) hJ
    · intro done us W hJ hdep haft hnot b hb hb' K hK Q'
      simp only [List.getD_cons_succ, List.getD_cons_zero, List.mem_cons, List.not_mem_nil, or_false, forall_eq_or_imp, forall_eq] at hdep
      have e7 := hb 2 7 rfl
      have d2 := hdep
      rw [d2.1] at e7
      clear hb hb' hdep d2
      have q := Ext.cell hJ f0
      go_simp
      exact hK _ _ rfl (fun _ _ _ h => h) hJ
    · intro done us W hJ hdep haft hnot b hb hb' K hK Q'
      have e1 := (hb' 1 (by simp)).trans s1
      clear hb hb'
      go_simp
      exact hK _ _ rfl (fun _ _ _ h => h) hJ
    · intro done us W hJ hdep haft hnot b hb hb' K hK Q'
      have e0 := (hb' 0 (by simp)).trans s0
      clear hb hb'
      go_simp
      exact hK _ _ rfl (fun _ _ _ h => h) hJ
    · intro done us W hJ hdep haft hnot b hb hb' K hK Q'
      simp only [List.getD_cons_succ, List.getD_cons_zero, List.mem_cons, List.not_mem_nil, or_false, forall_eq_or_imp, forall_eq] at hdep
      have e10 := hb 5 10 rfl
      have d5 := hdep
      rw [d5.1] at e10
      clear hb hb' hdep d5
      go_simp
      exact hK _ _ rfl (fun _ _ _ h => h) hJ
    · intro done us W hJ hdep haft hnot b hb hb' K hK Q'
      simp only [List.getD_cons_succ, List.getD_cons_zero, List.mem_cons, List.not_mem_nil, or_false, forall_eq_or_imp, forall_eq] at hdep
      have e11 := hb 6 11 rfl
      have d6 := hdep
      rw [d6.1] at e11
      clear hb hb' hdep d6
      go_simp
      exact hK _ _ rfl (fun _ _ _ h => h) hJ
    · intro done us W hJ hdep haft hnot b hb hb' K hK Q'
      simp only [List.getD_cons_succ, List.getD_cons_zero, List.mem_cons, List.not_mem_nil, or_false, forall_eq_or_imp, forall_eq] at hdep
      have e12 := hb 7 12 rfl
      have d7 := hdep
      rw [d7.1] at e12
      clear hb hb' hdep d7
      have q := Ext.cell hJ f3
      go_simp
      exact hK _ _ rfl (fun _ _ _ h => h) hJ
    · intro done us W hJ hdep haft hnot b hb hb' K hK Q'
      have e1 := (hb' 1 (by simp)).trans s1
      clear hb hb'
      go_simp
      exact hK _ _ rfl (fun _ _ _ h => h) hJ
    · intro done us W hJ hdep haft hnot b hb hb' K hK Q'
      simp only [List.getD_cons_succ, List.getD_cons_zero, List.mem_cons, List.not_mem_nil, or_false, forall_eq_or_imp, forall_eq] at hdep
      have e13 := hb 8 13 rfl
      have e14 := hb 9 14 rfl
      have d8 := hdep.1
      have d9 := hdep.2
      rw [d8.1] at e13
      rw [d9.1] at e14
      clear hb hb' hdep d8 d9
      go_simp
      exact hK _ _ rfl (fun _ _ _ h => h) hJ
    · intro done us W hJ hdep haft hnot b hb hb' K hK Q'
      simp only [List.getD_cons_succ, List.getD_cons_zero, List.mem_cons, List.not_mem_nil, or_false, forall_eq_or_imp, forall_eq] at hdep
      have e15 := hb 10 15 rfl
      have d10 := hdep
      rw [d10.1] at e15
      clear hb hb' hdep d10
      have q := Ext.cell hJ fz
      go_simp
      exact hK _ _ rfl (fun _ _ _ h => h) hJ
    · intro done us W hJ hdep haft hnot b hb hb' K hK Q'
      simp only [List.getD_cons_succ, List.getD_cons_zero, List.mem_cons, List.not_mem_nil, or_false, forall_eq_or_imp, forall_eq] at hdep
      have e16 := hb 11 16 rfl
      have d11 := hdep
      rw [d11.1] at e16
      clear hb hb' hdep d11
      have hl1 := lists_one (W := W) (v := .slice Ab n cb) (xs := xs) (⟨Ab, n, cb, rfl, hI.ext hJ, hc1, hc2⟩)
      go_simp
      exact hK _ _ ⟨_, rfl, hl1⟩ (fun j u _ h => hmono _ _ j u ((Ext.refl _).alloc _) h) (Ext.alloc hJ _)
    · intro done us W hJ hdep haft hnot b hb hb' K hK Q'
      simp only [List.getD_cons_succ, List.getD_cons_zero, List.mem_cons, List.not_mem_nil, or_false, forall_eq_or_imp, forall_eq] at hdep
      have e17 := hb 12 17 rfl
      have d12 := hdep
      clear hb hb' hdep 
      obtain ⟨A', e', hl⟩ := d12.1
      rw [e'] at e17
      go_simp
      refine (joined_any A' 1 1 _ W hl (by omega) (by rw [flat_one]; exact by rw [hI.1]; omega)).mono ?_
      rintro e w' ⟨A2, n2, c2, rfl, ho, hX⟩
      rw [flat_one] at ho
      exact hK _ _ ⟨A2, n2, c2, rfl, ho.mono (Ext.size hJ)⟩ (fun j u _ h => hmono _ _ j u hX h) (Ext.trans hJ hX)
    · intro done us W hJ hdep haft hnot b hb hb' K hK Q'
      simp only [List.getD_cons_succ, List.getD_cons_zero, List.mem_cons, List.not_mem_nil, or_false, forall_eq_or_imp, forall_eq] at hdep
      have e8 := hb 3 8 rfl
      have e9 := hb 4 9 rfl
      have e18 := hb 13 18 rfl
      have d3 := hdep.1
      have d4 := hdep.2.1
      have d13 := hdep.2.2
      rw [d3.1] at e8
      rw [d4.1] at e9
      clear hb hb' hdep d3 d4
      obtain ⟨A', n', c', e', ho⟩ := d13.1
      rw [e'] at e18
      go_simp
      exact hK _ _ ⟨A', n', c', rfl, ho⟩ (fun _ _ _ h => h) hJ
  · intro us W hV hJ
    exact hend (us 0) (us 1) (us 2) (us 3) (us 4) (us 5) (us 6) (us 7) (us 8) (us 9) (us 10) (us 11) (us 12) (us 13) (us 14) W (hV 0 (by omega)) (hV 1 (by omega)) (hV 2 (by omega)) (hV 3 (by omega)) (hV 4 (by omega)) (hV 5 (by omega)) (hV 6 (by omega)) (hV 7 (by omega)) (hV 8 (by omega)) (hV 9 (by omega)) (hV 10 (by omega)) (hV 11 (by omega)) (hV 12 (by omega)) (hV 13 (by omega)) (hV 14 (by omega)) hJ
set_option maxRecDepth 100000 in
set_option maxHeartbeats 2000000 in
theorem frameR_any (base g : Nat) (v : Value) (q : Nat) (s : Snd) (w : World) (h : SndR base w g v s) (h2 : q < s.bodies.length) :
    Calls Try.prog 76 #[.pointer (some ⟨g, 0, none⟩), .int .i64 (q : Int)] w (fun e w' => ∃ v, e = .returned v ∧ FrVO w.heap.size w' v ⟨s.stream, q, s.bodies.getD q []⟩ ∧ Ext w w') := by
  obtain ⟨gb, c, Ab, n, cb, rfl, hc, hO⟩ := h.find_ q h2
  have hb : n ≤ 1024 := by
    have hm := (h.ok.body (s.bodies.getD q []) (by simp [List.getD, List.getElem?_eq_getElem h2])).1
    have := hO.len
    omega
  have HC : Hid (w.cell? ⟨gb, q, none⟩ = some (.slice Ab n cb)) := hc
  have HI := Lib.hid hO.ints
  have hcap := hO.cap
  have HB := Lib.hid h.blk
  clear hO hc h
  have hXe : Ext w (w.alloc (.cells #[.int .i64 0, .int .i64 0, .slice none 0 0] 38)) := ((Ext.refl w).alloc _)
  have kt : Blk (w.alloc (.cells #[.int .i64 0, .int .i64 0, .slice none 0 0] 38)) w.heap.size 38 #[.int .i64 0, .int .i64 0, .slice none 0 0] := Blk.at_ (by simp)
  go_enter Try.func76, Try.ntmps76
  go_wp2_with fail
  generalize (w.alloc (.cells #[.int .i64 0, .int .i64 0, .slice none 0 0] 38)) = w1 at hXe kt ⊢
  have HX := Lib.hid hXe
  clear hXe
  have Kt := Lib.hid kt
  clear kt
  replace HI := Lib.hid (HI.out.ext HX.out)
  replace HB := Lib.hid (HB.out.ext HX.out)
  have HY := HX
  refine frameR_r1 g gb s.bodies.length c q s.stream Ab n cb (s.bodies.getD q []) w1 (HB.out.cell 0) (HB.out.cell 3) (HX.out.cell HC.out) h2 HI.out hcap.1 hcap.2 (by omega) _ _ (by simp) rfl rfl ?_
  rintro xv0 xv1 xv2 xv3 xv4 xv5 xv6 xv7 xv8 xv9 xv10 xv11 xv12 xv13 xv14 w2 rfl rfl rfl rfl rfl rfl rfl rfl rfl rfl rfl rfl _ _ ⟨A2, n2, c2, rfl, ho2⟩ hXW
  simp only [rops, Try.f76, regOf, Option.bind_some, Nat.reduceBEq, if_true, if_false, Bool.false_eq_true, Option.getD_some, List.drop_succ_cons, List.drop_zero]
  simp only [Act.put, List.setIfInBounds_toArray, List.set_cons_succ, List.set_cons_zero]
  replace HX := Lib.hid (HX.out.trans hXW)
  replace HI := Lib.hid (HI.out.ext hXW)
  replace HB := Lib.hid (HB.out.ext hXW)
  replace Kt := Lib.hid (Kt.out.ext hXW)
  clear hXW
  have HO := Lib.hid ho2
  clear ho2
  have ct0 : w2.cell? ⟨w.heap.size, 0, none⟩ = some (.int .i64 0) := Kt.out.cell 0
  have ft0 : w2.frozen? ⟨w.heap.size, 0, none⟩ = false := Kt.out.free 0
  have ct1 : w2.cell? ⟨w.heap.size, 1, none⟩ = some (.int .i64 0) := Kt.out.cell 1
  have ft1 : w2.frozen? ⟨w.heap.size, 1, none⟩ = false := Kt.out.free 1
  have ct2 : w2.cell? ⟨w.heap.size, 2, none⟩ = some (.slice none 0 0) := Kt.out.cell 2
  have ft2 : w2.frozen? ⟨w.heap.size, 2, none⟩ = false := Kt.out.free 2
  go_wp2
  refine bodyPost_ret (v := .agg #[.int .i64 s.stream, .int .i64 (q : Int), .slice A2 n2 c2]) (by simp [results, Try.results76, go_sem, *]) rfl ?_
  exact ⟨_, rfl, ⟨A2, n2, c2, rfl, (HO.out.put3 Kt.out (by decide) _ _ _).mono (by have := HY.out.size; omega)⟩, ((HX.out.setCell (Nat.le_refl _) _).setCell (Nat.le_refl _) _).setCell (Nat.le_refl _) _⟩

set_option maxRecDepth 100000 in
set_option maxHeartbeats 2000000 in
theorem offerR_r3n (g na nl z : Nat) (wn : Int) (A0 : Option Addr) (c0 : Nat) (w : World) (f1 : w.cell? ⟨g, 1, none⟩ = some (.int .i64 wn)) (f2 : w.cell? ⟨g, 2, none⟩ = some (.int .i64 (na : Int))) (f3 : w.cell? ⟨g, 3, none⟩ = some (.slice A0 nl c0)) (hz : Hid (nl = na + z)) (hn : nl ≤ 1000000) (hw : (z : Int) < wn) (a : Act) (Q : Exit → Act → World → Prop) (hsize : 25 ≤ a.tmps.size)
    (s0 : a.tmps[0]? = some (.pointer (some ⟨g, 0, none⟩)))
    (hend : ∀ (xv0 xv1 xv2 xv3 xv4 xv5 xv6 xv7 xv8 xv9 xv10 xv11 xv12 xv13 xv14 : Value) (W : World), (xv0 = .pointer (some ⟨g, 0, none⟩)) → (xv1 = .pointer (some ⟨g, 0, none⟩)) → (xv2 = .pointer (some ⟨g, 3, none⟩)) → (xv3 = .slice A0 nl c0) → (xv4 = .int .i64 (nl : Int)) → (xv5 = .pointer (some ⟨g, 0, none⟩)) → (xv6 = .pointer (some ⟨g, 0, none⟩)) → (xv7 = .pointer (some ⟨g, 2, none⟩)) → (xv8 = .int .i64 (na : Int)) → (xv9 = .int .i64 (z : Int)) → (xv10 = .pointer (some ⟨g, 0, none⟩)) → (xv11 = .pointer (some ⟨g, 0, none⟩)) → (xv12 = .pointer (some ⟨g, 1, none⟩)) → (xv13 = .int .i64 wn) → (xv14 = .bool false) → Ext w W → wpList Try.prog (rops Try.f37 3).toArray Q ((rops Try.f37 3).drop 15) (((((((((((((((a.put (some 10) xv0).put (some 11) xv1).put (some 12) xv2).put (some 13) xv3).put (some 14) xv4).put (some 15) xv5).put (some 16) xv6).put (some 17) xv7).put (some 18) xv8).put (some 19) xv9).put (some 20) xv10).put (some 21) xv11).put (some 22) xv12).put (some 23) xv13).put (some 24) xv14) W) :
    (Code.region 3 (rops Try.f37 3).toArray true).wp Try.prog Q a w := by
  have hmono : ∀ (W W' : World) (j : Nat) (u : Value), Ext W W' → (fun (i : Nat) (v : Value) (W : World) => match i with
    | 0 => v = .pointer (some ⟨g, 0, none⟩)
    | 1 => v = .pointer (some ⟨g, 0, none⟩)
    | 2 => v = .pointer (some ⟨g, 3, none⟩)
    | 3 => v = .slice A0 nl c0
    | 4 => v = .int .i64 (nl : Int)
    | 5 => v = .pointer (some ⟨g, 0, none⟩)
    | 6 => v = .pointer (some ⟨g, 0, none⟩)
    | 7 => v = .pointer (some ⟨g, 2, none⟩)
    | 8 => v = .int .i64 (na : Int)
    | 9 => v = .int .i64 (z : Int)
    | 10 => v = .pointer (some ⟨g, 0, none⟩)
    | 11 => v = .pointer (some ⟨g, 0, none⟩)
    | 12 => v = .pointer (some ⟨g, 1, none⟩)
    | 13 => v = .int .i64 wn
    | 14 => v = .bool false
    | _ => True) j u W → (fun (i : Nat) (v : Value) (W : World) => match i with
    | 0 => v = .pointer (some ⟨g, 0, none⟩)
    | 1 => v = .pointer (some ⟨g, 0, none⟩)
    | 2 => v = .pointer (some ⟨g, 3, none⟩)
    | 3 => v = .slice A0 nl c0
    | 4 => v = .int .i64 (nl : Int)
    | 5 => v = .pointer (some ⟨g, 0, none⟩)
    | 6 => v = .pointer (some ⟨g, 0, none⟩)
    | 7 => v = .pointer (some ⟨g, 2, none⟩)
    | 8 => v = .int .i64 (na : Int)
    | 9 => v = .int .i64 (z : Int)
    | 10 => v = .pointer (some ⟨g, 0, none⟩)
    | 11 => v = .pointer (some ⟨g, 0, none⟩)
    | 12 => v = .pointer (some ⟨g, 1, none⟩)
    | 13 => v = .int .i64 wn
    | 14 => v = .bool false
    | _ => True) j u W' := by
    intro W W' j u hX h
    match j, h with
    | 0, h => exact h
    | 1, h => exact h
    | 2, h => exact h
    | 3, h => exact h
    | 4, h => exact h
    | 5, h => exact h
    | 6, h => exact h
    | 7, h => exact h
    | 8, h => exact h
    | 9, h => exact h
    | 10, h => exact h
    | 11, h => exact h
    | 12, h => exact h
    | 13, h => exact h
    | 14, h => exact h
    | _ + 15, h => exact h
  have hsz : ∀ d, some d ∈ ([some 10, some 11, some 12, some 13, some 14, some 15, some 16, some 17, some 18, some 19, some 20, some 21, some 22, some 23, some 24] : List (Option Tmp)) → d < a.tmps.size := slots_lt (by decide) hsize
  refine wp_region_j 15 [some 10, some 11, some 12, some 13, some 14, some 15, some 16, some 17, some 18, some 19, some 20, some 21, some 22, some 23, some 24] [[], [0], [1], [2], [3], [], [5], [6], [7], [4, 8], [], [10], [11], [12], [9, 13]] [[], [], [], [], [], [], [], [], [], [], [], [], [], [], []] (fun (i : Nat) (v : Value) (W : World) => match i with
    | 0 => v = .pointer (some ⟨g, 0, none⟩)
    | 1 => v = .pointer (some ⟨g, 0, none⟩)
    | 2 => v = .pointer (some ⟨g, 3, none⟩)
    | 3 => v = .slice A0 nl c0
    | 4 => v = .int .i64 (nl : Int)
    | 5 => v = .pointer (some ⟨g, 0, none⟩)
    | 6 => v = .pointer (some ⟨g, 0, none⟩)
    | 7 => v = .pointer (some ⟨g, 2, none⟩)
    | 8 => v = .int .i64 (na : Int)
    | 9 => v = .int .i64 (z : Int)
    | 10 => v = .pointer (some ⟨g, 0, none⟩)
    | 11 => v = .pointer (some ⟨g, 0, none⟩)
    | 12 => v = .pointer (some ⟨g, 1, none⟩)
    | 13 => v = .int .i64 wn
    | 14 => v = .bool false
    | _ => True) (fun _ W => Ext w W) (by kernel_rfl) (by kernel_rfl) hsz (fun _ _ _ _ h => h) ((Ext.refl w).drew) ?_ ?_
  · clear hend
    simp only [rops, Try.f37, regOf, Option.bind_some, Nat.reduceBEq, if_true, if_false, Bool.false_eq_true, Option.getD_some]
    simp only [List.take_succ_cons, List.take_zero]
    refine ⟨?_, ?_, ?_, ?_, ?_, ?_, ?_, ?_, ?_, ?_, ?_, ?_, ?_, ?_, ?_, trivial⟩
    · intro done us W hJ hdep haft hnot b hb hb' K hK Q'
      have e0 := (hb' 0 (by simp)).trans s0
      clear hb hb'
      go_simp
      exact hK _ _ rfl (fun _ _ _ h => h) hJ
    · intro done us W hJ hdep haft hnot b hb hb' K hK Q'
      simp only [List.getD_cons_succ, List.getD_cons_zero, List.mem_cons, List.not_mem_nil, or_false, forall_eq_or_imp, forall_eq] at hdep
      have e10 := hb 0 10 rfl
      have d0 := hdep
      rw [d0.1] at e10
      clear hb hb' hdep d0
      go_simp
      exact hK _ _ rfl (fun _ _ _ h => h) hJ
    · intro done us W hJ hdep haft hnot b hb hb' K hK Q'
      simp only [List.getD_cons_succ, List.getD_cons_zero, List.mem_cons, List.not_mem_nil, or_false, forall_eq_or_imp, forall_eq] at hdep
      have e11 := hb 1 11 rfl
      have d1 := hdep
      rw [d1.1] at e11
      clear hb hb' hdep d1
      go_simp
      exact hK _ _ rfl (fun _ _ _ h => h) hJ
    · intro done us W hJ hdep haft hnot b hb hb' K hK Q'
      simp only [List.getD_cons_succ, List.getD_cons_zero, List.mem_cons, List.not_mem_nil, or_false, forall_eq_or_imp, forall_eq] at hdep
      have e12 := hb 2 12 rfl
      have d2 := hdep
      rw [d2.1] at e12
      clear hb hb' hdep d2
      have q := Ext.cell hJ f3
      go_simp
      exact hK _ _ rfl (fun _ _ _ h => h) hJ
    · intro done us W hJ hdep haft hnot b hb hb' K hK Q'
      simp only [List.getD_cons_succ, List.getD_cons_zero, List.mem_cons, List.not_mem_nil, or_false, forall_eq_or_imp, forall_eq] at hdep
      have e13 := hb 3 13 rfl
      have d3 := hdep
      rw [d3.1] at e13
      clear hb hb' hdep d3
      go_simp
      exact hK _ _ rfl (fun _ _ _ h => h) hJ
    · intro done us W hJ hdep haft hnot b hb hb' K hK Q'
      have e0 := (hb' 0 (by simp)).trans s0
      clear hb hb'
      go_simp
      exact hK _ _ rfl (fun _ _ _ h => h) hJ
    · intro done us W hJ hdep haft hnot b hb hb' K hK Q'
      simp only [List.getD_cons_succ, List.getD_cons_zero, List.mem_cons, List.not_mem_nil, or_false, forall_eq_or_imp, forall_eq] at hdep
      have e15 := hb 5 15 rfl
      have d5 := hdep
      rw [d5.1] at e15
      clear hb hb' hdep d5
      go_simp
      exact hK _ _ rfl (fun _ _ _ h => h) hJ
    · intro done us W hJ hdep haft hnot b hb hb' K hK Q'
      simp only [List.getD_cons_succ, List.getD_cons_zero, List.mem_cons, List.not_mem_nil, or_false, forall_eq_or_imp, forall_eq] at hdep
      have e16 := hb 6 16 rfl
      have d6 := hdep
      rw [d6.1] at e16
      clear hb hb' hdep d6
      go_simp
      exact hK _ _ rfl (fun _ _ _ h => h) hJ
    · intro done us W hJ hdep haft hnot b hb hb' K hK Q'
      simp only [List.getD_cons_succ, List.getD_cons_zero, List.mem_cons, List.not_mem_nil, or_false, forall_eq_or_imp, forall_eq] at hdep
      have e17 := hb 7 17 rfl
      have d7 := hdep
      rw [d7.1] at e17
      clear hb hb' hdep d7
      have q := Ext.cell hJ f2
      go_simp
      exact hK _ _ rfl (fun _ _ _ h => h) hJ
    · intro done us W hJ hdep haft hnot b hb hb' K hK Q'
      simp only [List.getD_cons_succ, List.getD_cons_zero, List.mem_cons, List.not_mem_nil, or_false, forall_eq_or_imp, forall_eq] at hdep
      have e14 := hb 4 14 rfl
      have e18 := hb 8 18 rfl
      have d4 := hdep.1
      have d8 := hdep.2
      rw [d4.1] at e14
      rw [d8.1] at e18
      clear hb hb' hdep d4 d8
      have qw : IntKind.i64.wrap ((nl : Int) - (na : Int)) = (z : Int) := (IntWalk.i64_in _ (by have := hz.out; omega)).trans (by have := hz.out; omega)
      go_simp
      exact hK _ _ rfl (fun _ _ _ h => h) hJ
    · intro done us W hJ hdep haft hnot b hb hb' K hK Q'
      have e0 := (hb' 0 (by simp)).trans s0
      clear hb hb'
      go_simp
      exact hK _ _ rfl (fun _ _ _ h => h) hJ
    · intro done us W hJ hdep haft hnot b hb hb' K hK Q'
      simp only [List.getD_cons_succ, List.getD_cons_zero, List.mem_cons, List.not_mem_nil, or_false, forall_eq_or_imp, forall_eq] at hdep
      have e20 := hb 10 20 rfl
      have d10 := hdep
      rw [d10.1] at e20
      clear hb hb' hdep d10
      go_simp
      exact hK _ _ rfl (fun _ _ _ h => h) hJ
    · intro done us W hJ hdep haft hnot b hb hb' K hK Q'
      simp only [List.getD_cons_succ, List.getD_cons_zero, List.mem_cons, List.not_mem_nil, or_false, forall_eq_or_imp, forall_eq] at hdep
      have e21 := hb 11 21 rfl
      have d11 := hdep
      rw [d11.1] at e21
      clear hb hb' hdep d11
      go_simp
      exact hK _ _ rfl (fun _ _ _ h => h) hJ
    · intro done us W hJ hdep haft hnot b hb hb' K hK Q'
      simp only [List.getD_cons_succ, List.getD_cons_zero, List.mem_cons, List.not_mem_nil, or_false, forall_eq_or_imp, forall_eq] at hdep
      have e22 := hb 12 22 rfl
      have d12 := hdep
      rw [d12.1] at e22
      clear hb hb' hdep d12
      have q := Ext.cell hJ f1
      go_simp
      exact hK _ _ rfl (fun _ _ _ h => h) hJ
    · intro done us W hJ hdep haft hnot b hb hb' K hK Q'
      simp only [List.getD_cons_succ, List.getD_cons_zero, List.mem_cons, List.not_mem_nil, or_false, forall_eq_or_imp, forall_eq] at hdep
      have e19 := hb 9 19 rfl
      have e23 := hb 13 23 rfl
      have d9 := hdep.1
      have d13 := hdep.2
      rw [d9.1] at e19
      rw [d13.1] at e23
      clear hb hb' hdep d9 d13
      go_simp
      exact hK _ _ (by first | rfl | (congr 1; exact decide_eq_false (by omega))) (fun _ _ _ h => h) hJ
  · intro us W hV hJ
    exact hend (us 0) (us 1) (us 2) (us 3) (us 4) (us 5) (us 6) (us 7) (us 8) (us 9) (us 10) (us 11) (us 12) (us 13) (us 14) W (hV 0 (by omega)) (hV 1 (by omega)) (hV 2 (by omega)) (hV 3 (by omega)) (hV 4 (by omega)) (hV 5 (by omega)) (hV 6 (by omega)) (hV 7 (by omega)) (hV 8 (by omega)) (hV 9 (by omega)) (hV 10 (by omega)) (hV 11 (by omega)) (hV 12 (by omega)) (hV 13 (by omega)) (hV 14 (by omega)) hJ
set_option maxRecDepth 100000 in
set_option maxHeartbeats 2000000 in
theorem offerR_r3y (g na nl z : Nat) (wn : Int) (A0 : Option Addr) (c0 : Nat) (w : World) (f1 : w.cell? ⟨g, 1, none⟩ = some (.int .i64 wn)) (f2 : w.cell? ⟨g, 2, none⟩ = some (.int .i64 (na : Int))) (f3 : w.cell? ⟨g, 3, none⟩ = some (.slice A0 nl c0)) (hz : Hid (nl = na + z)) (hn : nl ≤ 1000000) (hw : wn ≤ (z : Int)) (a : Act) (Q : Exit → Act → World → Prop) (hsize : 25 ≤ a.tmps.size)
    (s0 : a.tmps[0]? = some (.pointer (some ⟨g, 0, none⟩)))
    (hend : ∀ (xv0 xv1 xv2 xv3 xv4 xv5 xv6 xv7 xv8 xv9 xv10 xv11 xv12 xv13 xv14 : Value) (W : World), (xv0 = .pointer (some ⟨g, 0, none⟩)) → (xv1 = .pointer (some ⟨g, 0, none⟩)) → (xv2 = .pointer (some ⟨g, 3, none⟩)) → (xv3 = .slice A0 nl c0) → (xv4 = .int .i64 (nl : Int)) → (xv5 = .pointer (some ⟨g, 0, none⟩)) → (xv6 = .pointer (some ⟨g, 0, none⟩)) → (xv7 = .pointer (some ⟨g, 2, none⟩)) → (xv8 = .int .i64 (na : Int)) → (xv9 = .int .i64 (z : Int)) → (xv10 = .pointer (some ⟨g, 0, none⟩)) → (xv11 = .pointer (some ⟨g, 0, none⟩)) → (xv12 = .pointer (some ⟨g, 1, none⟩)) → (xv13 = .int .i64 wn) → (xv14 = .bool true) → Ext w W → wpList Try.prog (rops Try.f37 3).toArray Q ((rops Try.f37 3).drop 15) (((((((((((((((a.put (some 10) xv0).put (some 11) xv1).put (some 12) xv2).put (some 13) xv3).put (some 14) xv4).put (some 15) xv5).put (some 16) xv6).put (some 17) xv7).put (some 18) xv8).put (some 19) xv9).put (some 20) xv10).put (some 21) xv11).put (some 22) xv12).put (some 23) xv13).put (some 24) xv14) W) :
    (Code.region 3 (rops Try.f37 3).toArray true).wp Try.prog Q a w := by
  have hmono : ∀ (W W' : World) (j : Nat) (u : Value), Ext W W' → (fun (i : Nat) (v : Value) (W : World) => match i with
    | 0 => v = .pointer (some ⟨g, 0, none⟩)
    | 1 => v = .pointer (some ⟨g, 0, none⟩)
    | 2 => v = .pointer (some ⟨g, 3, none⟩)
    | 3 => v = .slice A0 nl c0
    | 4 => v = .int .i64 (nl : Int)
    | 5 => v = .pointer (some ⟨g, 0, none⟩)
    | 6 => v = .pointer (some ⟨g, 0, none⟩)
    | 7 => v = .pointer (some ⟨g, 2, none⟩)
    | 8 => v = .int .i64 (na : Int)
    | 9 => v = .int .i64 (z : Int)
    | 10 => v = .pointer (some ⟨g, 0, none⟩)
    | 11 => v = .pointer (some ⟨g, 0, none⟩)
    | 12 => v = .pointer (some ⟨g, 1, none⟩)
    | 13 => v = .int .i64 wn
    | 14 => v = .bool true
    | _ => True) j u W → (fun (i : Nat) (v : Value) (W : World) => match i with
    | 0 => v = .pointer (some ⟨g, 0, none⟩)
    | 1 => v = .pointer (some ⟨g, 0, none⟩)
    | 2 => v = .pointer (some ⟨g, 3, none⟩)
    | 3 => v = .slice A0 nl c0
    | 4 => v = .int .i64 (nl : Int)
    | 5 => v = .pointer (some ⟨g, 0, none⟩)
    | 6 => v = .pointer (some ⟨g, 0, none⟩)
    | 7 => v = .pointer (some ⟨g, 2, none⟩)
    | 8 => v = .int .i64 (na : Int)
    | 9 => v = .int .i64 (z : Int)
    | 10 => v = .pointer (some ⟨g, 0, none⟩)
    | 11 => v = .pointer (some ⟨g, 0, none⟩)
    | 12 => v = .pointer (some ⟨g, 1, none⟩)
    | 13 => v = .int .i64 wn
    | 14 => v = .bool true
    | _ => True) j u W' := by
    intro W W' j u hX h
    match j, h with
    | 0, h => exact h
    | 1, h => exact h
    | 2, h => exact h
    | 3, h => exact h
    | 4, h => exact h
    | 5, h => exact h
    | 6, h => exact h
    | 7, h => exact h
    | 8, h => exact h
    | 9, h => exact h
    | 10, h => exact h
    | 11, h => exact h
    | 12, h => exact h
    | 13, h => exact h
    | 14, h => exact h
    | _ + 15, h => exact h
  have hsz : ∀ d, some d ∈ ([some 10, some 11, some 12, some 13, some 14, some 15, some 16, some 17, some 18, some 19, some 20, some 21, some 22, some 23, some 24] : List (Option Tmp)) → d < a.tmps.size := slots_lt (by decide) hsize
  refine wp_region_j 15 [some 10, some 11, some 12, some 13, some 14, some 15, some 16, some 17, some 18, some 19, some 20, some 21, some 22, some 23, some 24] [[], [0], [1], [2], [3], [], [5], [6], [7], [4, 8], [], [10], [11], [12], [9, 13]] [[], [], [], [], [], [], [], [], [], [], [], [], [], [], []] (fun (i : Nat) (v : Value) (W : World) => match i with
    | 0 => v = .pointer (some ⟨g, 0, none⟩)
    | 1 => v = .pointer (some ⟨g, 0, none⟩)
    | 2 => v = .pointer (some ⟨g, 3, none⟩)
    | 3 => v = .slice A0 nl c0
    | 4 => v = .int .i64 (nl : Int)
    | 5 => v = .pointer (some ⟨g, 0, none⟩)
    | 6 => v = .pointer (some ⟨g, 0, none⟩)
    | 7 => v = .pointer (some ⟨g, 2, none⟩)
    | 8 => v = .int .i64 (na : Int)
    | 9 => v = .int .i64 (z : Int)
    | 10 => v = .pointer (some ⟨g, 0, none⟩)
    | 11 => v = .pointer (some ⟨g, 0, none⟩)
    | 12 => v = .pointer (some ⟨g, 1, none⟩)
    | 13 => v = .int .i64 wn
    | 14 => v = .bool true
    | _ => True) (fun _ W => Ext w W) (by kernel_rfl) (by kernel_rfl) hsz (fun _ _ _ _ h => h) ((Ext.refl w).drew) ?_ ?_
  · clear hend
    simp only [rops, Try.f37, regOf, Option.bind_some, Nat.reduceBEq, if_true, if_false, Bool.false_eq_true, Option.getD_some]
    simp only [List.take_succ_cons, List.take_zero]
    refine ⟨?_, ?_, ?_, ?_, ?_, ?_, ?_, ?_, ?_, ?_, ?_, ?_, ?_, ?_, ?_, trivial⟩
    · intro done us W hJ hdep haft hnot b hb hb' K hK Q'
      have e0 := (hb' 0 (by simp)).trans s0
      clear hb hb'
      go_simp
      exact hK _ _ rfl (fun _ _ _ h => h) hJ
    · intro done us W hJ hdep haft hnot b hb hb' K hK Q'
      simp only [List.getD_cons_succ, List.getD_cons_zero, List.mem_cons, List.not_mem_nil, or_false, forall_eq_or_imp, forall_eq] at hdep
      have e10 := hb 0 10 rfl
      have d0 := hdep
      rw [d0.1] at e10
      clear hb hb' hdep d0
      go_simp
      exact hK _ _ rfl (fun _ _ _ h => h) hJ
    · intro done us W hJ hdep haft hnot b hb hb' K hK Q'
      simp only [List.getD_cons_succ, List.getD_cons_zero, List.mem_cons, List.not_mem_nil, or_false, forall_eq_or_imp, forall_eq] at hdep
      have e11 := hb 1 11 rfl
      have d1 := hdep
      rw [d1.1] at e11
      clear hb hb' hdep d1
      go_simp
      exact hK _ _ rfl (fun _ _ _ h => h) hJ
    · intro done us W hJ hdep haft hnot b hb hb' K hK Q'
      simp only [List.getD_cons_succ, List.getD_cons_zero, List.mem_cons, List.not_mem_nil, or_false, forall_eq_or_imp, forall_eq] at hdep
      have e12 := hb 2 12 rfl
      have d2 := hdep
      rw [d2.1] at e12
      clear hb hb' hdep d2
      have q := Ext.cell hJ f3
      go_simp
      exact hK _ _ rfl (fun _ _ _ h => h) hJ
    · intro done us W hJ hdep haft hnot b hb hb' K hK Q'
      simp only [List.getD_cons_succ, List.getD_cons_zero, List.mem_cons, List.not_mem_nil, or_false, forall_eq_or_imp, forall_eq] at hdep
      have e13 := hb 3 13 rfl
      have d3 := hdep
      rw [d3.1] at e13
      clear hb hb' hdep d3
      go_simp
      exact hK _ _ rfl (fun _ _ _ h => h) hJ
    · intro done us W hJ hdep haft hnot b hb hb' K hK Q'
      have e0 := (hb' 0 (by simp)).trans s0
      clear hb hb'
      go_simp
      exact hK _ _ rfl (fun _ _ _ h => h) hJ
    · intro done us W hJ hdep haft hnot b hb hb' K hK Q'
      simp only [List.getD_cons_succ, List.getD_cons_zero, List.mem_cons, List.not_mem_nil, or_false, forall_eq_or_imp, forall_eq] at hdep
      have e15 := hb 5 15 rfl
      have d5 := hdep
      rw [d5.1] at e15
      clear hb hb' hdep d5
      go_simp
      exact hK _ _ rfl (fun _ _ _ h => h) hJ
    · intro done us W hJ hdep haft hnot b hb hb' K hK Q'
      simp only [List.getD_cons_succ, List.getD_cons_zero, List.mem_cons, List.not_mem_nil, or_false, forall_eq_or_imp, forall_eq] at hdep
      have e16 := hb 6 16 rfl
      have d6 := hdep
      rw [d6.1] at e16
      clear hb hb' hdep d6
      go_simp
      exact hK _ _ rfl (fun _ _ _ h => h) hJ
    · intro done us W hJ hdep haft hnot b hb hb' K hK Q'
      simp only [List.getD_cons_succ, List.getD_cons_zero, List.mem_cons, List.not_mem_nil, or_false, forall_eq_or_imp, forall_eq] at hdep
      have e17 := hb 7 17 rfl
      have d7 := hdep
      rw [d7.1] at e17
      clear hb hb' hdep d7
      have q := Ext.cell hJ f2
      go_simp
      exact hK _ _ rfl (fun _ _ _ h => h) hJ
    · intro done us W hJ hdep haft hnot b hb hb' K hK Q'
      simp only [List.getD_cons_succ, List.getD_cons_zero, List.mem_cons, List.not_mem_nil, or_false, forall_eq_or_imp, forall_eq] at hdep
      have e14 := hb 4 14 rfl
      have e18 := hb 8 18 rfl
      have d4 := hdep.1
      have d8 := hdep.2
      rw [d4.1] at e14
      rw [d8.1] at e18
      clear hb hb' hdep d4 d8
      have qw : IntKind.i64.wrap ((nl : Int) - (na : Int)) = (z : Int) := (IntWalk.i64_in _ (by have := hz.out; omega)).trans (by have := hz.out; omega)
      go_simp
      exact hK _ _ rfl (fun _ _ _ h => h) hJ
    · intro done us W hJ hdep haft hnot b hb hb' K hK Q'
      have e0 := (hb' 0 (by simp)).trans s0
      clear hb hb'
      go_simp
      exact hK _ _ rfl (fun _ _ _ h => h) hJ
    · intro done us W hJ hdep haft hnot b hb hb' K hK Q'
      simp only [List.getD_cons_succ, List.getD_cons_zero, List.mem_cons, List.not_mem_nil, or_false, forall_eq_or_imp, forall_eq] at hdep
      have e20 := hb 10 20 rfl
      have d10 := hdep
      rw [d10.1] at e20
      clear hb hb' hdep d10
      go_simp
      exact hK _ _ rfl (fun _ _ _ h => h) hJ
    · intro done us W hJ hdep haft hnot b hb hb' K hK Q'
      simp only [List.getD_cons_succ, List.getD_cons_zero, List.mem_cons, List.not_mem_nil, or_false, forall_eq_or_imp, forall_eq] at hdep
      have e21 := hb 11 21 rfl
      have d11 := hdep
      rw [d11.1] at e21
      clear hb hb' hdep d11
      go_simp
      exact hK _ _ rfl (fun _ _ _ h => h) hJ
    · intro done us W hJ hdep haft hnot b hb hb' K hK Q'
      simp only [List.getD_cons_succ, List.getD_cons_zero, List.mem_cons, List.not_mem_nil, or_false, forall_eq_or_imp, forall_eq] at hdep
      have e22 := hb 12 22 rfl
      have d12 := hdep
      rw [d12.1] at e22
      clear hb hb' hdep d12
      have q := Ext.cell hJ f1
      go_simp
      exact hK _ _ rfl (fun _ _ _ h => h) hJ
    · intro done us W hJ hdep haft hnot b hb hb' K hK Q'
      simp only [List.getD_cons_succ, List.getD_cons_zero, List.mem_cons, List.not_mem_nil, or_false, forall_eq_or_imp, forall_eq] at hdep
      have e19 := hb 9 19 rfl
      have e23 := hb 13 23 rfl
      have d9 := hdep.1
      have d13 := hdep.2
      rw [d9.1] at e19
      rw [d13.1] at e23
      clear hb hb' hdep d9 d13
      go_simp
      exact hK _ _ (by first | rfl | (congr 1; exact decide_eq_true (by omega))) (fun _ _ _ h => h) hJ
  · intro us W hV hJ
    exact hend (us 0) (us 1) (us 2) (us 3) (us 4) (us 5) (us 6) (us 7) (us 8) (us 9) (us 10) (us 11) (us 12) (us 13) (us 14) W (hV 0 (by omega)) (hV 1 (by omega)) (hV 2 (by omega)) (hV 3 (by omega)) (hV 4 (by omega)) (hV 5 (by omega)) (hV 6 (by omega)) (hV 7 (by omega)) (hV 8 (by omega)) (hV 9 (by omega)) (hV 10 (by omega)) (hV 11 (by omega)) (hV 12 (by omega)) (hV 13 (by omega)) (hV 14 (by omega)) hJ
set_option maxRecDepth 100000 in
set_option maxHeartbeats 2000000 in
theorem offerR_r5 (base g nl : Nat) (A0 : Option Addr) (c0 : Nat) (Ab : Option Addr) (n c : Nat) (xs : List Int) (bs : List (List Int)) (vs : List Value) (w : World) (f3 : w.cell? ⟨g, 3, none⟩ = some (.slice A0 nl c0)) (hI : Ints .u8 w Ab n xs) (hc1 : n ≤ c) (hc2 : c ≤ 9223372036854775807) (hn : n ≤ 1000000) (hnl : nl ≤ 1000000) (hown : w.ownsRow base 22 1 (.slice A0 nl c0) nl vs) (hF : F2 (BodyV base w) vs bs) (hb : base ≤ w.heap.size) (hLb : ∀ k ∈ (Value.slice A0 nl c0).ownBlock.toList, k < w.heap.size) (a : Act) (Q : Exit → Act → World → Prop) (hsize : 38 ≤ a.tmps.size)
    (s0 : a.tmps[0]? = some (.pointer (some ⟨g, 0, none⟩)))
    (s1 : a.tmps[1]? = some (.slice Ab n c))
    (hend : ∀ (xv0 xv1 xv2 xv3 xv4 xv5 xv6 xv7 xv8 xv9 xv10 xv11 : Value) (W : World), (xv0 = .pointer (some ⟨g, 0, none⟩)) → (xv1 = .pointer (some ⟨g, 0, none⟩)) → (xv2 = .pointer (some ⟨g, 0, none⟩)) → (xv3 = .pointer (some ⟨g, 3, none⟩)) → (xv4 = .slice A0 nl c0) → (xv5 = .slice Ab n c) → (∃ g', xv6 = .slice (some ⟨g', 0, none⟩) 1 1 ∧ w.heap.size ≤ g' ∧ Blk W g' 22 #[.slice Ab n c]) → (BodyV w.heap.size W xv7 xs) → (∃ g', xv8 = .slice (some ⟨g', 0, none⟩) 1 1 ∧ w.heap.size ≤ g' ∧ ∃ u, Blk W g' 22 #[u] ∧ BodyV w.heap.size W u xs) → (∃ vs', W.ownsRow base 22 1 xv9 (nl + 1) vs' ∧ F2 (BodyV base W) vs' (bs ++ [xs])) → (xv10 = .pointer (some ⟨g, 0, none⟩)) → (xv11 = .pointer (some ⟨g, 3, none⟩)) → Keeps ((Value.slice A0 nl c0).ownBlock.toList) w W → wpList Try.prog (rops Try.f37 5).toArray Q ((rops Try.f37 5).drop 12) ((((((((((((a.put (some 26) xv0).put (some 27) xv1).put (some 28) xv2).put (some 29) xv3).put (some 30) xv4).put (some 31) xv5).put (some 32) xv6).put (some 33) xv7).put (some 34) xv8).put (some 35) xv9).put (some 36) xv10).put (some 37) xv11) W) :
    (Code.region 5 (rops Try.f37 5).toArray true).wp Try.prog Q a w := by
  have hmono : ∀ (W W' : World) (j : Nat) (u : Value), Ext W W' → (fun (i : Nat) (v : Value) (W : World) => match i with
    | 0 => v = .pointer (some ⟨g, 0, none⟩)
    | 1 => v = .pointer (some ⟨g, 0, none⟩)
    | 2 => v = .pointer (some ⟨g, 0, none⟩)
    | 3 => v = .pointer (some ⟨g, 3, none⟩)
    | 4 => v = .slice A0 nl c0
    | 5 => v = .slice Ab n c
    | 6 => ∃ g', v = .slice (some ⟨g', 0, none⟩) 1 1 ∧ w.heap.size ≤ g' ∧ Blk W g' 22 #[.slice Ab n c]
    | 7 => BodyV w.heap.size W v xs
    | 8 => ∃ g', v = .slice (some ⟨g', 0, none⟩) 1 1 ∧ w.heap.size ≤ g' ∧ ∃ u, Blk W g' 22 #[u] ∧ BodyV w.heap.size W u xs
    | 9 => ∃ vs', W.ownsRow base 22 1 v (nl + 1) vs' ∧ F2 (BodyV base W) vs' (bs ++ [xs])
    | 10 => v = .pointer (some ⟨g, 0, none⟩)
    | 11 => v = .pointer (some ⟨g, 3, none⟩)
    | _ => True) j u W → (fun (i : Nat) (v : Value) (W : World) => match i with
    | 0 => v = .pointer (some ⟨g, 0, none⟩)
    | 1 => v = .pointer (some ⟨g, 0, none⟩)
    | 2 => v = .pointer (some ⟨g, 0, none⟩)
    | 3 => v = .pointer (some ⟨g, 3, none⟩)
    | 4 => v = .slice A0 nl c0
    | 5 => v = .slice Ab n c
    | 6 => ∃ g', v = .slice (some ⟨g', 0, none⟩) 1 1 ∧ w.heap.size ≤ g' ∧ Blk W g' 22 #[.slice Ab n c]
    | 7 => BodyV w.heap.size W v xs
    | 8 => ∃ g', v = .slice (some ⟨g', 0, none⟩) 1 1 ∧ w.heap.size ≤ g' ∧ ∃ u, Blk W g' 22 #[u] ∧ BodyV w.heap.size W u xs
    | 9 => ∃ vs', W.ownsRow base 22 1 v (nl + 1) vs' ∧ F2 (BodyV base W) vs' (bs ++ [xs])
    | 10 => v = .pointer (some ⟨g, 0, none⟩)
    | 11 => v = .pointer (some ⟨g, 3, none⟩)
    | _ => True) j u W' := by
    intro W W' j u hX h
    match j, h with
    | 0, h => exact h
    | 1, h => exact h
    | 2, h => exact h
    | 3, h => exact h
    | 4, h => exact h
    | 5, h => exact h
    | 6, h => obtain ⟨g', h1, h2, h3⟩ := h; exact ⟨g', h1, h2, h3.ext hX⟩
    | 7, h => exact BodyV.ext h hX
    | 8, h => obtain ⟨g', h1, h2, u, h3, h4⟩ := h; exact ⟨g', h1, h2, u, h3.ext hX, h4.ext hX⟩
    | 9, h => obtain ⟨vs', h1, h2⟩ := h; exact ⟨vs', World.ownsRow.ext' h1 hX, h2.imp fun _ _ _ h => h.ext hX⟩
    | 10, h => exact h
    | 11, h => exact h
    | _ + 12, h => exact h
  have hmonoK : ∀ (W W' : World) (j : Nat) (u : Value), Keeps ((Value.slice A0 nl c0).ownBlock.toList) W W' → (∀ k ∈ ((Value.slice A0 nl c0).ownBlock.toList), NoRow 5 W k) → j ≠ 9 → (fun (i : Nat) (v : Value) (W : World) => match i with
    | 0 => v = .pointer (some ⟨g, 0, none⟩)
    | 1 => v = .pointer (some ⟨g, 0, none⟩)
    | 2 => v = .pointer (some ⟨g, 0, none⟩)
    | 3 => v = .pointer (some ⟨g, 3, none⟩)
    | 4 => v = .slice A0 nl c0
    | 5 => v = .slice Ab n c
    | 6 => ∃ g', v = .slice (some ⟨g', 0, none⟩) 1 1 ∧ w.heap.size ≤ g' ∧ Blk W g' 22 #[.slice Ab n c]
    | 7 => BodyV w.heap.size W v xs
    | 8 => ∃ g', v = .slice (some ⟨g', 0, none⟩) 1 1 ∧ w.heap.size ≤ g' ∧ ∃ u, Blk W g' 22 #[u] ∧ BodyV w.heap.size W u xs
    | 9 => ∃ vs', W.ownsRow base 22 1 v (nl + 1) vs' ∧ F2 (BodyV base W) vs' (bs ++ [xs])
    | 10 => v = .pointer (some ⟨g, 0, none⟩)
    | 11 => v = .pointer (some ⟨g, 3, none⟩)
    | _ => True) j u W → (fun (i : Nat) (v : Value) (W : World) => match i with
    | 0 => v = .pointer (some ⟨g, 0, none⟩)
    | 1 => v = .pointer (some ⟨g, 0, none⟩)
    | 2 => v = .pointer (some ⟨g, 0, none⟩)
    | 3 => v = .pointer (some ⟨g, 3, none⟩)
    | 4 => v = .slice A0 nl c0
    | 5 => v = .slice Ab n c
    | 6 => ∃ g', v = .slice (some ⟨g', 0, none⟩) 1 1 ∧ w.heap.size ≤ g' ∧ Blk W g' 22 #[.slice Ab n c]
    | 7 => BodyV w.heap.size W v xs
    | 8 => ∃ g', v = .slice (some ⟨g', 0, none⟩) 1 1 ∧ w.heap.size ≤ g' ∧ ∃ u, Blk W g' 22 #[u] ∧ BodyV w.heap.size W u xs
    | 9 => ∃ vs', W.ownsRow base 22 1 v (nl + 1) vs' ∧ F2 (BodyV base W) vs' (bs ++ [xs])
    | 10 => v = .pointer (some ⟨g, 0, none⟩)
    | 11 => v = .pointer (some ⟨g, 3, none⟩)
    | _ => True) j u W' := by
    intro W W' j u hk hN hne h
    match j, h with
    | 0, h => exact h
    | 1, h => exact h
    | 2, h => exact h
    | 3, h => exact h
    | 4, h => exact h
    | 5, h => exact h
    | 6, h => obtain ⟨g', h1, h2, h3⟩ := h; exact ⟨g', h1, h2, h3.keeps hk (fun hl => by have := hLb _ hl; omega)⟩
    | 7, h => exact BodyV.keeps h hk hN
    | 8, h => obtain ⟨g', h1, h2, u, h3, h4⟩ := h; exact ⟨g', h1, h2, u, h3.keeps hk (fun hl => by have := hLb _ hl; omega), h4.keeps hk hN⟩
    | 9, h => exact absurd rfl hne
    | 10, h => exact h
    | 11, h => exact h
    | _ + 12, h => exact h
  have hsz : ∀ d, some d ∈ ([some 26, some 27, some 28, some 29, some 30, some 31, some 32, some 33, some 34, some 35, some 36, some 37] : List (Option Tmp)) → d < a.tmps.size := slots_lt (by decide) hsize
  refine wp_region_j 12 [some 26, some 27, some 28, some 29, some 30, some 31, some 32, some 33, some 34, some 35, some 36, some 37] [[], [], [1], [2], [3], [], [5], [6], [7], [4, 8], [0], [10]] [[], [], [], [], [9], [], [], [9], [9], [], [], []] (fun (i : Nat) (v : Value) (W : World) => match i with
    | 0 => v = .pointer (some ⟨g, 0, none⟩)
    | 1 => v = .pointer (some ⟨g, 0, none⟩)
    | 2 => v = .pointer (some ⟨g, 0, none⟩)
    | 3 => v = .pointer (some ⟨g, 3, none⟩)
    | 4 => v = .slice A0 nl c0
    | 5 => v = .slice Ab n c
    | 6 => ∃ g', v = .slice (some ⟨g', 0, none⟩) 1 1 ∧ w.heap.size ≤ g' ∧ Blk W g' 22 #[.slice Ab n c]
    | 7 => BodyV w.heap.size W v xs
    | 8 => ∃ g', v = .slice (some ⟨g', 0, none⟩) 1 1 ∧ w.heap.size ≤ g' ∧ ∃ u, Blk W g' 22 #[u] ∧ BodyV w.heap.size W u xs
    | 9 => ∃ vs', W.ownsRow base 22 1 v (nl + 1) vs' ∧ F2 (BodyV base W) vs' (bs ++ [xs])
    | 10 => v = .pointer (some ⟨g, 0, none⟩)
    | 11 => v = .pointer (some ⟨g, 3, none⟩)
    | _ => True) (fun done W => Keeps ((Value.slice A0 nl c0).ownBlock.toList) w W ∧ (¬ done 9 → Ext w W)) (by kernel_rfl) (by kernel_rfl) hsz (fun p q W h hj => ⟨hj.1, fun hn => hj.2 fun hp => hn ((h _).1 hp)⟩) ⟨Keeps.of_ext (Ext.refl w).drew _, fun _ => (Ext.refl w).drew⟩ ?_ ?_
  · clear hend
    simp only [rops, Try.f37, regOf, Option.bind_some, Nat.reduceBEq, if_true, if_false, Bool.false_eq_true, Option.getD_some]
    simp only [List.take_succ_cons, List.take_zero]
    refine ⟨?_, ?_, ?_, ?_, ?_, ?_, ?_, ?_, ?_, ?_, ?_, ?_, trivial⟩
    · intro done us W hJ hdep haft hnot b hb hb' K hK Q'
      have e0 := (hb' 0 (by simp)).trans s0
      clear hb hb'
      go_simp
      exact hK _ _ rfl (fun _ _ _ h => h) ⟨hJ.1, fun h => hJ.2 fun d => h (.inl d)⟩
    · intro done us W hJ hdep haft hnot b hb hb' K hK Q'
      have e0 := (hb' 0 (by simp)).trans s0
      clear hb hb'
      go_simp
      exact hK _ _ rfl (fun _ _ _ h => h) ⟨hJ.1, fun h => hJ.2 fun d => h (.inl d)⟩
    · intro done us W hJ hdep haft hnot b hb hb' K hK Q'
      simp only [List.getD_cons_succ, List.getD_cons_zero, List.mem_cons, List.not_mem_nil, or_false, forall_eq_or_imp, forall_eq] at hdep
      have e27 := hb 1 27 rfl
      have d1 := hdep
      rw [d1.1] at e27
      clear hb hb' hdep d1
      go_simp
      exact hK _ _ rfl (fun _ _ _ h => h) ⟨hJ.1, fun h => hJ.2 fun d => h (.inl d)⟩
    · intro done us W hJ hdep haft hnot b hb hb' K hK Q'
      simp only [List.getD_cons_succ, List.getD_cons_zero, List.mem_cons, List.not_mem_nil, or_false, forall_eq_or_imp, forall_eq] at hdep
      have e28 := hb 2 28 rfl
      have d2 := hdep
      rw [d2.1] at e28
      clear hb hb' hdep d2
      go_simp
      exact hK _ _ rfl (fun _ _ _ h => h) ⟨hJ.1, fun h => hJ.2 fun d => h (.inl d)⟩
    · intro done us W hJ hdep haft hnot b hb hb' K hK Q'
      simp only [List.getD_cons_succ, List.getD_cons_zero, List.mem_cons, List.not_mem_nil, or_false, forall_eq_or_imp, forall_eq] at hdep
      simp only [List.getD_cons_succ, List.getD_cons_zero, List.mem_cons, List.not_mem_nil, or_false, forall_eq_or_imp, forall_eq] at haft
      have e29 := hb 3 29 rfl
      have d3 := hdep
      rw [d3.1] at e29
      clear hb hb' hdep d3
      have hJE := hJ.2 haft
      have q := Ext.cell hJE f3
      go_simp
      exact hK _ _ rfl (fun _ _ _ h => h) ⟨hJ.1, fun h => hJ.2 fun d => h (.inl d)⟩
    · intro done us W hJ hdep haft hnot b hb hb' K hK Q'
      have e1 := (hb' 1 (by simp)).trans s1
      clear hb hb'
      go_simp
      exact hK _ _ rfl (fun _ _ _ h => h) ⟨hJ.1, fun h => hJ.2 fun d => h (.inl d)⟩
    · intro done us W hJ hdep haft hnot b hb hb' K hK Q'
      simp only [List.getD_cons_succ, List.getD_cons_zero, List.mem_cons, List.not_mem_nil, or_false, forall_eq_or_imp, forall_eq] at hdep
      have e31 := hb 5 31 rfl
      have d5 := hdep
      rw [d5.1] at e31
      clear hb hb' hdep d5
      have hb1 := Blk.new W 22 #[.slice Ab n c]
      have hX := (Ext.refl W).alloc (.cells #[.slice Ab n c] 22)
      have hs := hJ.1.size
      go_simp
      exact hK _ _ (⟨_, rfl, hs, hb1⟩) (fun j u _ h => hmono _ _ j u hX h) ⟨hJ.1.trans (Keeps.of_ext hX _), fun h => (hJ.2 fun d => h (.inl d)).trans hX⟩
    · intro done us W hJ hdep haft hnot b hb hb' K hK Q'
      simp only [List.getD_cons_succ, List.getD_cons_zero, List.mem_cons, List.not_mem_nil, or_false, forall_eq_or_imp, forall_eq] at hdep
      simp only [List.getD_cons_succ, List.getD_cons_zero, List.mem_cons, List.not_mem_nil, or_false, forall_eq_or_imp, forall_eq] at haft
      have e32 := hb 6 32 rfl
      have d6 := hdep
      clear hb hb' hdep 
      have hJE := hJ.2 haft
      obtain ⟨g', e', hg', hb1⟩ := d6.1
      rw [e'] at e32
      have hl : Lists .u8 W (some ⟨g', 0, none⟩) 1 [xs] := Lists.one (fun _ => ⟨g', 0, rfl, fun j u hu => by match j with | 0 => (simp at hu; subst hu; exact hb1.cell 0) | j + 1 => simp at hu⟩) ⟨Ab, n, c, rfl, hI.ext hJE, hc1, hc2⟩
      go_simp
      refine (joined_any _ 1 1 _ W hl (by omega) (by rw [flat_one, hI.1]; omega)).mono ?_
      rintro e w' ⟨A2, n2, c2, rfl, ho, hX⟩
      rw [flat_one] at ho
      exact hK _ _ (⟨A2, n2, c2, rfl, ho.mono (Ext.size hJE)⟩) (fun j u _ h => hmono _ _ j u hX h) ⟨hJ.1.trans (Keeps.of_ext hX _), fun h => (hJ.2 fun d => h (.inl d)).trans hX⟩
    · intro done us W hJ hdep haft hnot b hb hb' K hK Q'
      simp only [List.getD_cons_succ, List.getD_cons_zero, List.mem_cons, List.not_mem_nil, or_false, forall_eq_or_imp, forall_eq] at hdep
      simp only [List.getD_cons_succ, List.getD_cons_zero, List.mem_cons, List.not_mem_nil, or_false, forall_eq_or_imp, forall_eq] at haft
      have e33 := hb 7 33 rfl
      have d7 := hdep
      clear hb hb' hdep 
      have hJE := hJ.2 haft
      obtain ⟨A', n', c', e', ho⟩ := d7.1
      rw [e'] at e33
      have hb1 := Blk.new W 22 #[.slice A' n' c']
      have hX := (Ext.refl W).alloc (.cells #[.slice A' n' c'] 22)
      have hs := Ext.size hJE
      have hv : BodyV w.heap.size (W.alloc (.cells #[.slice A' n' c'] 22)) (.slice A' n' c') xs := ⟨A', n', c', rfl, ho.ext hX⟩
      go_simp
      exact hK _ _ (⟨_, rfl, hs, _, hb1, hv⟩) (fun j u _ h => hmono _ _ j u hX h) ⟨hJ.1.trans (Keeps.of_ext hX _), fun h => (hJ.2 fun d => h (.inl d)).trans hX⟩
    · intro done us W hJ hdep haft hnot b hb hb' K hK Q'
      simp only [List.getD_cons_succ, List.getD_cons_zero, List.mem_cons, List.not_mem_nil, or_false, forall_eq_or_imp, forall_eq] at hdep
      have e30 := hb 4 30 rfl
      have e34 := hb 8 34 rfl
      have d4 := hdep.1
      have d8 := hdep.2
      rw [d4.1] at e30
      clear hb hb' hdep d4
      have hJE := hJ.2 hnot
      obtain ⟨g', e', hg', u, hb1, hu⟩ := d8.1
      rw [e'] at e34
      have hoW := World.ownsRow.ext' hown hJE
      have hone : u.oneCell' = true := by obtain ⟨_, _, _, rfl, _⟩ := hu; rfl
      have hs := Ext.size hJE
      obtain ⟨v', W', q, ho, hG, _⟩ := run_app (P := Try.prog) W elL 22 base (.slice A0 nl c0) nl vs hoW (some ⟨g', 0, none⟩) 1 1 [u] rfl (fun _ => ⟨g', 0, rfl, fun j y hy => by match j with | 0 => (simp at hy; subst hy; exact hb1.cell 0) | j + 1 => simp at hy⟩) (by simpa using hone) (by omega) (by unfold maxLen; omega) (by omega)
      have hk : Keeps ((Value.slice A0 nl c0).ownBlock.toList) W W' := Keeps.of_grown hG (fun k hk => by rw [hk]; simp)
      have hN : ∀ k ∈ ((Value.slice A0 nl c0).ownBlock.toList), NoRow 5 W k := fun k hk => NoRow.of_own hoW (by simpa using hk) (by decide)
      have hF' : F2 (BodyV base W') (vs ++ [u]) (bs ++ [xs]) := (hF.imp fun _ _ _ h => (BodyV.ext h hJE).keeps hk hN).snoc ((hu.keeps hk hN).mono (by omega))
      exact jop_app rfl rfl e30 e34 q (hK _ _ ⟨_, ho, hF'⟩ (fun j u hd h => hmonoK _ _ j u hk hN (by intro e; subst e; exact hnot hd) h) ⟨hJ.1.trans hk, fun h => absurd (.inr rfl) h⟩)
    · intro done us W hJ hdep haft hnot b hb hb' K hK Q'
      simp only [List.getD_cons_succ, List.getD_cons_zero, List.mem_cons, List.not_mem_nil, or_false, forall_eq_or_imp, forall_eq] at hdep
      have e26 := hb 0 26 rfl
      have d0 := hdep
      rw [d0.1] at e26
      clear hb hb' hdep d0
      go_simp
      exact hK _ _ rfl (fun _ _ _ h => h) ⟨hJ.1, fun h => hJ.2 fun d => h (.inl d)⟩
    · intro done us W hJ hdep haft hnot b hb hb' K hK Q'
      simp only [List.getD_cons_succ, List.getD_cons_zero, List.mem_cons, List.not_mem_nil, or_false, forall_eq_or_imp, forall_eq] at hdep
      have e36 := hb 10 36 rfl
      have d10 := hdep
      rw [d10.1] at e36
      clear hb hb' hdep d10
      go_simp
      exact hK _ _ rfl (fun _ _ _ h => h) ⟨hJ.1, fun h => hJ.2 fun d => h (.inl d)⟩
  · intro us W hV hJ
    exact hend (us 0) (us 1) (us 2) (us 3) (us 4) (us 5) (us 6) (us 7) (us 8) (us 9) (us 10) (us 11) W (hV 0 (by omega)) (hV 1 (by omega)) (hV 2 (by omega)) (hV 3 (by omega)) (hV 4 (by omega)) (hV 5 (by omega)) (hV 6 (by omega)) (hV 7 (by omega)) (hV 8 (by omega)) (hV 9 (by omega)) (hV 10 (by omega)) (hV 11 (by omega)) (by simpa using hJ)
end Go.Proofs.Ytekhmfliaojabaa
