/- Lemmas of the proof that follows (Equations, part 14): walks of functions by contract, and plain lemmas. Conditions: none. -/
import Derived.Test.YtikhlcgnlbinfaaEquationsM
namespace Go.Proofs.Ytikhlcgnlbinfaa
open Go.RowKit

theorem own_apart {w : World} {b1 b2 s1 s2 n1 n2 g : Nat} {t1 t2 : TypeId} {v1 v2 : Value} {l1 l2 : List Value} (h1 : w.ownsRow b1 t1 s1 v1 n1 l1) (h2 : w.ownsRow b2 t2 s2 v2 n2 l2) (hne : t1 ≠ t2) (e1 : v1.ownBlock = some g) : v2.ownBlock ≠ some g := fun e2 => by
  rcases h2.2 with ⟨rfl, _⟩ | ⟨g', cap, cur, rfl, _, hb, _⟩
  · simp [Value.ownBlock] at e2
  · simp [Value.ownBlock] at e2
    subst e2
    exact NoRow.of_own h1 e1 hne _ _ hb
theorem elBo : Elem Try.prog 81 4 1 1 (.bool false) := Elem.mk' (by kernel_rfl) (by kernel_rfl) rfl (by decide)
/-- A list of bools in memory. -/
def BoolR (base : Nat) (w : World) (v : Value) (n : Nat) (f : Nat → Bool) : Prop := w.ownsRow base 4 1 v n ((List.range n).map fun j => .bool (f j))
theorem BoolR.ext {base n : Nat} {w w' : World} {v : Value} {f : Nat → Bool} (h : BoolR base w v n f) (he : Ext w w') : BoolR base w' v n f := World.ownsRow.ext' h he
/-- What is pivot in the reduced form. -/
def pivB (n : Nat) (ms : List Mt) (j : Nat) : Bool := decide (0 ≤ pivI ((redG n (tabM ms n) n).piv[j]?))
def TabI (base nn : Nat) (ms : List Mt) (v : Value) (w : World) : Prop := ∃ go ct vs, v = .agg #[.slice (some ⟨go, 0, none⟩) nn ct] ∧ TabG 3 (Tri fun w v q => NumX w v q 53) 217 226 base w go ct nn (nn + 1) vs (tabM ms nn)
theorem TabI.ext {base nn : Nat} {ms : List Mt} {v : Value} {w w' : World} (h : TabI base nn ms v w) (he : Ext w w') : TabI base nn ms v w' := by
  obtain ⟨go, ct, vs, h1, h2⟩ := h
  exact ⟨go, ct, vs, h1, h2.ext (kindNum 53) he⟩
def PivR (base nn : Nat) (ms : List Mt) (v : Value) (w : World) : Prop := ∃ gp, v = .slice (some ⟨gp, 0, none⟩) nn nn ∧ RowI base w gp nn nn (fun j => pivI ((redG nn (tabM ms nn) nn).piv[j]?))
theorem PivR.ext {base nn : Nat} {ms : List Mt} {v : Value} {w w' : World} (h : PivR base nn ms v w) (he : Ext w w') : PivR base nn ms v w' := by
  obtain ⟨gp, h1, h2⟩ := h
  exact ⟨gp, h1, h2.ext he⟩

set_option maxRecDepth 100000 in
set_option maxHeartbeats 4000000 in
theorem piv_r4 (gp S nn n c : Nat) (A : Option Addr) (ms : List Mt) (w : World) (h : MsAt w A n ms) (hv : VP S ms) (hN : Hid (nn = 3 * S)) (hn24 : nn ≤ 24) (_hS8 : S ≤ 8) (hfit : ∀ j, j ≤ nn → ∀ i, i < nn → ∀ c, c ≤ nn → FitQ ((redG nn (tabM ms nn) j).tab i c) 53) (p0 : w.cell? ⟨gp, 0, none⟩ = some (.int .i64 (S : Int))) (p1 : w.cell? ⟨gp, 1, none⟩ = some (.slice A n c)) (a : Act) (Q : Exit → Act → World → Prop) (hsize : 18 ≤ a.tmps.size)
    (s1 : a.tmps[1]? = some (.pointer (some ⟨gp, 0, none⟩)))
    (hend : ∀ (xv0 xv1 xv2 xv3 xv4 xv5 xv6 xv7 : Value) (W : World), (xv0 = .agg #[.int .i64 (S : Int), .slice A n c]) → (xv2 = .pointer (some ⟨gp, 0, none⟩)) → (xv3 = .int .i64 (S : Int)) → (xv4 = .int .i64 (nn : Int)) → (PivR w.heap.size nn ms (xv5) W) → (xv6 = .int .i64 (nn : Int)) → (xv7 = .int .i64 (0)) → Ext w W → wpList Try.prog (rops Try.f41 4).toArray Q ((rops Try.f41 4).drop 8) ((((((((a.put (some 10) xv0).put (some 11) xv1).put (some 12) xv2).put (some 13) xv3).put (some 14) xv4).put (some 15) xv5).put (some 16) xv6).put (some 17) xv7) W) :
    (Code.region 4 (rops Try.f41 4).toArray true).wp Try.prog Q a w := by
  have hsz : ∀ d, some d ∈ ([some 10, some 11, some 12, some 13, some 14, some 15, some 16, some 17] : List (Option Tmp)) → d < a.tmps.size := slots_lt (by decide) hsize
  refine wp_region_g 8 [some 10, some 11, some 12, some 13, some 14, some 15, some 16, some 17] [[], [0], [], [2], [3], [1, 4], [5], []] [[], [], [], [], [], [], [], []] (fun (done : Nat → Prop) (us : Nat → Value) (W : World) => Ext w W ∧ (done 0 → us 0 = .agg #[.int .i64 (S : Int), .slice A n c]) ∧ (done 1 → ¬ done 5 → TabI w.heap.size nn ms (us 1) W) ∧ (done 2 → us 2 = .pointer (some ⟨gp, 0, none⟩)) ∧ (done 3 → us 3 = .int .i64 (S : Int)) ∧ (done 4 → us 4 = .int .i64 (nn : Int)) ∧ (done 5 → PivR w.heap.size nn ms (us 5) W) ∧ (done 6 → us 6 = .int .i64 (nn : Int)) ∧ (done 7 → us 7 = .int .i64 (0))) (by kernel_rfl) (by kernel_rfl) hsz (fun p q us W h => by have e : p = q := funext fun k => propext (h k); rw [e]; exact id) (fun us => ⟨(Ext.refl w).drew, fun h => h.elim, fun h => h.elim, fun h => h.elim, fun h => h.elim, fun h => h.elim, fun h => h.elim, fun h => h.elim, fun h => h.elim⟩) ?_ ?_
  · clear hend
    simp only [rops, Try.f41, regOf, Option.bind_some, Nat.reduceBEq, if_true, if_false, Bool.false_eq_true, Option.getD_some]
    simp only [List.take_succ_cons, List.take_zero]
    refine ⟨?_, ?_, ?_, ?_, ?_, ?_, ?_, ?_, trivial⟩
    · intro done us W hJ hdep haft hnot b hb hb' K hK Q'
      obtain ⟨hX0, cc0, cc1, cc2, cc3, cc4, cc5, cc6, cc7⟩ := hJ
      have e1 := (hb' 1 (by simp)).trans s1
      clear hb hb'
      have q0 := hX0.cell p0
      have q1 := hX0.cell p1
      have hfin := hK (.agg #[.int .i64 (S : Int), .slice A n c]) _ ⟨hX0, fun _ => rfl, fun h h5 => (cc1 (h.resolve_right (by decide)) (fun d => h5 (.inl d))), fun h => cc2 (h.resolve_right (by decide)), fun h => cc3 (h.resolve_right (by decide)), fun h => cc4 (h.resolve_right (by decide)), fun h => (cc5 (h.resolve_right (by decide))), fun h => cc6 (h.resolve_right (by decide)), fun h => cc7 (h.resolve_right (by decide))⟩
      clear hK cc0 cc1 cc2 cc3 cc4 cc5 cc6 cc7
      go_simp
      exact hfin
    · intro done us W hJ hdep haft hnot b hb hb' K hK Q'
      obtain ⟨hX0, cc0, cc1, cc2, cc3, cc4, cc5, cc6, cc7⟩ := hJ
      simp only [List.getD_cons_succ, List.getD_cons_zero, List.mem_cons, List.not_mem_nil, or_false, forall_eq] at hdep
      have e10 := hb 0 10 rfl
      rw [cc0 hdep] at e10
      clear hb hb'
      go_simp
      refine (build_ok S nn A n c ms W (h.ext hX0) hv hN.out).mono ?_
      rintro e w' ⟨go, ct, vs, rfl, hT, _, hX⟩
      have hI : TabI w.heap.size nn ms (.agg #[.slice (some ⟨go, 0, none⟩) nn ct]) w' := ⟨go, ct, vs, rfl, (hT.impl (fun i j cs _ _ hc => by
        obtain ⟨s, A, l, c, B, m, k, e, hx⟩ := hc
        exact ⟨s, A, l, c, B, m, k, e, hx.mono (by omega)⟩)).mono hX0.size⟩
      exact hK _ _ ⟨hX0.trans hX, fun h => cc0 (h.resolve_right (by decide)), fun _ _ => hI, fun h => cc2 (h.resolve_right (by decide)), fun h => cc3 (h.resolve_right (by decide)), fun h => cc4 (h.resolve_right (by decide)), fun h => (cc5 (h.resolve_right (by decide))).ext hX, fun h => cc6 (h.resolve_right (by decide)), fun h => cc7 (h.resolve_right (by decide))⟩
    · intro done us W hJ hdep haft hnot b hb hb' K hK Q'
      obtain ⟨hX0, cc0, cc1, cc2, cc3, cc4, cc5, cc6, cc7⟩ := hJ
      have e1 := (hb' 1 (by simp)).trans s1
      clear hb hb'
      have hfin := hK (.pointer (some ⟨gp, 0, none⟩)) _ ⟨hX0, fun h => cc0 (h.resolve_right (by decide)), fun h h5 => (cc1 (h.resolve_right (by decide)) (fun d => h5 (.inl d))), fun _ => rfl, fun h => cc3 (h.resolve_right (by decide)), fun h => cc4 (h.resolve_right (by decide)), fun h => (cc5 (h.resolve_right (by decide))), fun h => cc6 (h.resolve_right (by decide)), fun h => cc7 (h.resolve_right (by decide))⟩
      clear hK hX0 cc0 cc1 cc2 cc3 cc4 cc5 cc6 cc7
      go_simp
      exact hfin
    · intro done us W hJ hdep haft hnot b hb hb' K hK Q'
      obtain ⟨hX0, cc0, cc1, cc2, cc3, cc4, cc5, cc6, cc7⟩ := hJ
      simp only [List.getD_cons_succ, List.getD_cons_zero, List.mem_cons, List.not_mem_nil, or_false, forall_eq] at hdep
      have e12 := hb 2 12 rfl
      rw [cc2 hdep] at e12
      clear hb hb'
      have q0 := hX0.cell p0
      have hfin := hK (.int .i64 (S : Int)) _ ⟨hX0, fun h => cc0 (h.resolve_right (by decide)), fun h h5 => (cc1 (h.resolve_right (by decide)) (fun d => h5 (.inl d))), fun h => cc2 (h.resolve_right (by decide)), fun _ => rfl, fun h => cc4 (h.resolve_right (by decide)), fun h => (cc5 (h.resolve_right (by decide))), fun h => cc6 (h.resolve_right (by decide)), fun h => cc7 (h.resolve_right (by decide))⟩
      clear hK cc0 cc1 cc2 cc3 cc4 cc5 cc6 cc7
      go_simp
      exact hfin
    · intro done us W hJ hdep haft hnot b hb hb' K hK Q'
      obtain ⟨hX0, cc0, cc1, cc2, cc3, cc4, cc5, cc6, cc7⟩ := hJ
      simp only [List.getD_cons_succ, List.getD_cons_zero, List.mem_cons, List.not_mem_nil, or_false, forall_eq] at hdep
      have e13 := hb 3 13 rfl
      rw [cc3 hdep] at e13
      clear hb hb'
      have qw : IntKind.i64.wrap (3 * (S : Int)) = (nn : Int) := by have := hN.out; rw [IntWalk.i64_in _ (by omega)]; omega
      have hfin := hK (.int .i64 (nn : Int)) _ ⟨hX0, fun h => cc0 (h.resolve_right (by decide)), fun h h5 => (cc1 (h.resolve_right (by decide)) (fun d => h5 (.inl d))), fun h => cc2 (h.resolve_right (by decide)), fun h => cc3 (h.resolve_right (by decide)), fun _ => rfl, fun h => (cc5 (h.resolve_right (by decide))), fun h => cc6 (h.resolve_right (by decide)), fun h => cc7 (h.resolve_right (by decide))⟩
      clear hK cc0 cc1 cc2 cc3 cc4 cc5 cc6 cc7
      go_simp
      exact hfin
    · intro done us W hJ hdep haft hnot b hb hb' K hK Q'
      obtain ⟨hX0, cc0, cc1, cc2, cc3, cc4, cc5, cc6, cc7⟩ := hJ
      simp only [List.getD_cons_succ, List.getD_cons_zero, List.mem_cons, List.not_mem_nil, or_false, forall_eq_or_imp, forall_eq] at hdep
      have e11 := hb 1 11 rfl
      have e14 := hb 4 14 rfl
      rw [cc4 hdep.2] at e14
      clear hb hb'
      obtain ⟨go, ct, vs, e1, hT⟩ := cc1 hdep.1 hnot
      rw [e1] at e11
      have hLS := hT.tabL_low
      go_simp
      refine (reduce_v 53 w.heap.size go ct nn vs (tabM ms nn) W hT (by omega) hfit (by omega) hX0.size).mono ?_
      rintro e w' ⟨gq, rfl, hgq, ⟨up, hup, hpn⟩, ⟨vs2, hsub, hT2⟩, hk⟩
      have hXE : Ext w w' := hk.ext hX0 (fun g hg => (hLS g hg).1)
      have hP : PivR w.heap.size nn ms (.slice (some ⟨gq, 0, none⟩) nn nn) w' := ⟨gq, rfl, up, World.ownsRow.mono' hup hX0.size, hpn⟩
      exact hK _ _ ⟨hXE, fun h => cc0 (h.resolve_right (by decide)), fun _ h => absurd (.inr rfl) h, fun h => cc2 (h.resolve_right (by decide)), fun h => cc3 (h.resolve_right (by decide)), fun h => cc4 (h.resolve_right (by decide)), fun _ => hP, fun h => cc6 (h.resolve_right (by decide)), fun h => cc7 (h.resolve_right (by decide))⟩
    · intro done us W hJ hdep haft hnot b hb hb' K hK Q'
      obtain ⟨hX0, cc0, cc1, cc2, cc3, cc4, cc5, cc6, cc7⟩ := hJ
      simp only [List.getD_cons_succ, List.getD_cons_zero, List.mem_cons, List.not_mem_nil, or_false, forall_eq] at hdep
      have e15 := hb 5 15 rfl
      clear hb hb'
      obtain ⟨gq, e1, _⟩ := cc5 hdep
      rw [e1] at e15
      have hfin := hK (.int .i64 (nn : Int)) _ ⟨hX0, fun h => cc0 (h.resolve_right (by decide)), fun h h5 => (cc1 (h.resolve_right (by decide)) (fun d => h5 (.inl d))), fun h => cc2 (h.resolve_right (by decide)), fun h => cc3 (h.resolve_right (by decide)), fun h => cc4 (h.resolve_right (by decide)), fun h => (cc5 (h.resolve_right (by decide))), fun _ => rfl, fun h => cc7 (h.resolve_right (by decide))⟩
      clear hK cc0 cc1 cc2 cc3 cc4 cc5 cc6 cc7
      go_simp
      exact hfin
    · intro done us W hJ hdep haft hnot b hb hb' K hK Q'
      obtain ⟨hX0, cc0, cc1, cc2, cc3, cc4, cc5, cc6, cc7⟩ := hJ
      clear hb hb'
      have hfin := hK (.int .i64 (0)) _ ⟨hX0, fun h => cc0 (h.resolve_right (by decide)), fun h h5 => (cc1 (h.resolve_right (by decide)) (fun d => h5 (.inl d))), fun h => cc2 (h.resolve_right (by decide)), fun h => cc3 (h.resolve_right (by decide)), fun h => cc4 (h.resolve_right (by decide)), fun h => (cc5 (h.resolve_right (by decide))), fun h => cc6 (h.resolve_right (by decide)), fun _ => rfl⟩
      clear hK hX0 cc0 cc1 cc2 cc3 cc4 cc5 cc6 cc7
      go_simp
      exact hfin
  · intro us W hJ
    obtain ⟨hX0, cc0, cc1, cc2, cc3, cc4, cc5, cc6, cc7⟩ := hJ
    exact hend (us 0) (us 1) (us 2) (us 3) (us 4) (us 5) (us 6) (us 7) W (cc0 (show 0 < 8 by decide)) (cc2 (show 2 < 8 by decide)) (cc3 (show 3 < 8 by decide)) (cc4 (show 4 < 8 by decide)) (cc5 (show 5 < 8 by decide)) (cc6 (show 6 < 8 by decide)) (cc7 (show 7 < 8 by decide)) hX0
set_option maxRecDepth 100000 in
set_option maxHeartbeats 4000000 in
theorem pivots_no (S : Int) (A : Option Addr) (n c : Nat) (ms : List Mt) (w : World) (h : MsAt w A n ms) (hv : ¬ VP S ms) :
    Calls Try.prog 41 #[.agg #[.int .i64 S, .slice A n c]] w (fun e w' => e = .returned (.tuple #[.slice none 0 0, .int .i64 50]) ∧ Ext w w') := by
  have H := Lib.hid h
  have HR : Hid (vpB S ms = false) := Lib.hid (by rcases hb : vpB S ms with _ | _; rfl; exact absurd (vpB_iff.1 hb) hv)
  have HX := Lib.hid ((Ext.refl w).alloc (.cells #[.int .i64 S, .slice A n c] 76))
  have HP := Lib.hid (Blk.new w 76 #[.int .i64 S, .slice A n c])
  clear h hv
  go_enter Try.func41, Try.ntmps41
  go_upto_region 1 with (fail)
  generalize w.alloc (.cells #[.int .i64 S, .slice A n c] 76) = w1 at HX HP ⊢
  have p0 := HP.out.cell 0
  have p1 := HP.out.cell 1
  simp only [List.getElem?_toArray, List.getElem?_cons_zero, List.getElem?_cons_succ] at p0 p1
  go_wp2_with fail
  refine (valid5_any S A n c ms _ (H.out.ext HX.out)).mono ?_
  rw [HR.out]
  rintro e w2 ⟨rfl, hX⟩
  replace HX := Lib.hid (HX.out.trans hX)
  clear hX p0 p1
  go_wp2
  go_ret2
  exact ⟨rfl, HX.out⟩
/-- What is pivot: the first k unknowns. -/
def pivL (n : Nat) (ms : List Mt) (k : Nat) : List Value := (List.range k).map fun j => .bool (pivB n ms j)
theorem pivL_succ (n : Nat) (ms : List Mt) (k : Nat) : pivL n ms (k + 1) = pivL n ms k ++ [.bool (pivB n ms k)] := by unfold pivL; rw [List.range_succ, List.map_append]; rfl
set_option maxRecDepth 100000 in
set_option maxHeartbeats 8000000 in
theorem pivots_v (S nn : Nat) (A : Option Addr) (n c : Nat) (ms : List Mt) (w : World) (h : MsAt w A n ms) (hv : VP (S : Int) ms) (hN : nn = 3 * S) :
    Calls Try.prog 41 #[.agg #[.int .i64 (S : Int), .slice A n c]] w (fun e w' => ∃ v, e = .returned (.tuple #[v, .int .i64 0]) ∧ BoolR w.heap.size w' v nn (pivB nn ms) ∧ Ext w w') := by
  have H := Lib.hid h
  have HV := Lib.hid hv
  have HN := Lib.hid hN
  have HR : Hid (vpB (S : Int) ms = true) := Lib.hid (vpB_iff.2 hv)
  have hS1 : 1 ≤ S := by have := hv.1; omega
  have hS8 : S ≤ 8 := by have := hv.2.1; omega
  have hn24 : nn ≤ 24 := by omega
  have HFIT : Hid (∀ j, j ≤ nn → ∀ i, i < nn → ∀ c, c ≤ nn → FitQ ((redG nn (tabM ms nn) j).tab i c) 53) := Lib.hid (fun j hj i hi c hc => redG_fit hv.2.2.2 hv.2.2.1 hn24 j hj i hi c hc)
  have HX := Lib.hid ((Ext.refl w).alloc (.cells #[.int .i64 (S : Int), .slice A n c] 76))
  have HP := Lib.hid (Blk.new w 76 #[.int .i64 (S : Int), .slice A n c])
  clear h hv hN
  go_enter Try.func41, Try.ntmps41
  go_upto_region 1 with (fail)
  generalize w.alloc (.cells #[.int .i64 (S : Int), .slice A n c] 76) = w1 at HX HP ⊢
  have p0 := HP.out.cell 0
  have p1 := HP.out.cell 1
  simp only [List.getElem?_toArray, List.getElem?_cons_zero, List.getElem?_cons_succ] at p0 p1
  go_wp2_with fail
  refine (valid5_any (S : Int) A n c ms _ (H.out.ext HX.out)).mono ?_
  rw [HR.out]
  rintro e w2 ⟨rfl, hX⟩
  replace HX := Lib.hid (HX.out.trans hX)
  replace HP := Lib.hid (HP.out.ext hX)
  clear hX p0 p1
  have p0 := HP.out.cell 0
  have p1 := HP.out.cell 1
  simp only [List.getElem?_toArray, List.getElem?_cons_zero, List.getElem?_cons_succ] at p0 p1
  go_upto_region 4 with (fail)
  refine piv_r4 w.heap.size S nn n c A ms w2 (H.out.ext HX.out) HV.out HN hn24 hS8 HFIT.out p0 p1 _ _ (by simp) rfl ?_
  rintro xv0 xv1 xv2 xv3 xv4 xv5 xv6 xv7 W rfl rfl rfl rfl ⟨gq, rfl, hrow⟩ rfl rfl hX
  simp only [rops, Try.f41, regOf, Option.bind_some, Nat.reduceBEq, if_true, if_false, Bool.false_eq_true, Option.getD_some, List.drop_succ_cons, List.drop_zero]
  simp only [Act.put, List.setIfInBounds_toArray, List.set_cons_succ, List.set_cons_zero]
  have HQ := Lib.hid hrow
  have hlw := (RowI.low hrow)
  have hsz := HX.out.size
  have hwz := hX.size
  replace HX := Lib.hid (HX.out.trans hX)
  clear hrow hX p0 p1
  go_wp2_with fail
  go_loopg [4, 17] nn (fun fu ov iv wr => ∃ k : Nat, fu = nn - k ∧ k ≤ nn ∧ iv = .int .i64 (k : Int) ∧ Hid (wr.ownsRow w.heap.size 4 1 ov k (pivL nn ms k)) ∧ Hid (RowI w2.heap.size wr gq nn nn (fun j => pivI ((redG nn (tabM ms nn) nn).piv[j]?))) ∧ Hid (Ext w wr))
  case atStart => exact ⟨0, rfl, by omega, rfl, Lib.hid (World.ownsRow_nil _ _ _ _), HQ, HX⟩
  case round =>
    clear HQ HX
    obtain ⟨k, rfl, hk, rfl, HO, HQ, HX⟩ := hrel
    obtain ⟨Ao, co, rfl⟩ := own_slice HO.out
    by_cases hlt : k < nn
    · have q1 : decide (k < nn) = true := decide_eq_true hlt
      obtain ⟨z, hz⟩ : ∃ z, pivI ((redG nn (tabM ms nn) nn).piv[k]?) = z := ⟨_, rfl⟩
      have x0 := RowI.cell HQ.out hlt
      rw [hz] at x0
      have HZ : Hid (pivB nn ms k = decide (0 ≤ z)) := Lib.hid (by unfold pivB; rw [hz])
      clear hz
      obtain ⟨b, hb⟩ : ∃ b, decide (0 ≤ z) = b := ⟨_, rfl⟩
      rw [hb] at HZ
      have hgq : gq < wr.heap.size := (RowI.low HQ.out).2
      go_wp2_with (at_builtin; refine wpList_app _ elBo rfl _ _ rfl w.heap.size (.slice Ao k co) k (pivL nn ms k) rfl (HO.out.alloc _) _ 1 1 [.bool b] rfl rfl (At.new' _ [_] _ rfl) (by simp [Value.oneCell']) (by omega) (by unfold maxLen; omega) (by simp; omega) ?_; intro v8 w8 hown8 hgr8 _; have HG8 := Lib.hid hgr8; have HO8 := Lib.hid hown8; clear hgr8 hown8)
      go_roundg (nn - (k + 1))
      case rel =>
        have hgl : ∀ g, (Value.slice Ao k co).ownBlock = some g → w.heap.size ≤ g := fun g hg => (HO.out.lt g hg).1
        refine ⟨k + 1, rfl, by omega, by go_num, Lib.hid ?_, Lib.hid ?_, Lib.hid ((HX.out.alloc _).grown HG8.out (fun b hb => hgl _ hb))⟩
        · rw [pivL_succ, HZ.out]
          exact HO8.out
        · exact (RowI.keeps (RowI.ext HQ.out ((Ext.refl _).alloc _)) (keeps_own HG8.out) (fun hg => by
            obtain ⟨us, hq1, _⟩ := RowI.ext HQ.out ((Ext.refl _).alloc (.cells #[.bool b] 4))
            exact own_apart ((HO.out.alloc (.cells #[.bool b] 4))) hq1 (by decide) (by simpa using hg) rfl))
      case measure => omega
    · obtain rfl : nn = k := by omega
      have q1 : decide (nn < nn) = false := by simp
      go_wp2
      go_ret2
      exact ⟨_, rfl, HO.out, HX.out⟩

end Go.Proofs.Ytikhlcgnlbinfaa
namespace Go.Proofs.Ytikhlcgnlbinfaa
open Go.RowKit

theorem Keeps.cell {L : List Nat} {w W : World} {q : Addr} {v : Value} (hk : Keeps L w W) (h : w.cell? q = some v) (hn : q.block ∉ L) : W.cell? q = some v := by
  rw [← h]
  exact World.cell?_of_block (w := w) (hk.block _ (World.block_lt_of_cell? w _ h) hn)
theorem boolR_put {base g n : Nat} {w : World} {f : Nat → Bool} (h : BoolR base w (.slice (some ⟨g, 0, none⟩) n n) n f) {j : Nat} (b : Bool) : BoolR base (w.setCell ⟨g, j, none⟩ (.bool b)) (.slice (some ⟨g, 0, none⟩) n n) n (fun i => if i = j then b else f i) := by
  have h' := rowPut (i := j) (u := .bool b) h
  have e : ((List.range n).map fun i => Value.bool (f i)).set j (.bool b) = (List.range n).map fun i => Value.bool (if i = j then b else f i) := by
    apply List.ext_getElem
    · simp
    · intro i h1 h2
      rw [List.getElem_set]
      simp only [List.getElem_map, List.getElem_range]
      by_cases e : j = i
      · rw [if_pos e, if_pos e.symm]
      · rw [if_neg e, if_neg (Ne.symm e)]
  unfold BoolR
  rw [← e]
  exact h'
theorem boolR_cell {base g n : Nat} {w : World} {f : Nat → Bool} (h : BoolR base w (.slice (some ⟨g, 0, none⟩) n n) n f) {j : Nat} (hj : j < n) : w.cell? ⟨g, j, none⟩ = some (.bool (f j)) :=
  own_cell h (by rw [List.getElem?_map, List.getElem?_range hj]; rfl)
theorem boolR_free {base g n : Nat} {w : World} {f : Nat → Bool} (h : BoolR base w (.slice (some ⟨g, 0, none⟩) n n) n f) (j : Nat) : w.frozen? ⟨g, j, none⟩ = false := own_free h j
theorem boolR_congr {base n : Nat} {w : World} {v : Value} {f h : Nat → Bool} (k : BoolR base w v n f) (e : ∀ j, j < n → f j = h j) : BoolR base w v n h := by
  unfold BoolR at k ⊢
  rw [show ((List.range n).map fun j => Value.bool (h j)) = (List.range n).map fun j => Value.bool (f j) from List.map_congr_left (fun j hj => by rw [e j (List.mem_range.1 hj)])]
  exact k

end Go.Proofs.Ytikhlcgnlbinfaa
namespace Go.Proofs.Ytikhlcgnlbinfaa
open Go.RowKit

/-- Column i of the pivots. -/
theorem ColR.get {base : Nat} {w : World} {A : Option Addr} {c : Nat} {l : List Nat} (h : ColR base w (.slice A l.length c) l) {i j : Nat} (hi : l[i]? = some j) : ∃ g, A = some ⟨g, 0, none⟩ ∧ base ≤ g ∧ w.cell? ⟨g, i, none⟩ = some (.int .i64 (j : Int)) := by
  have hl : 0 < l.length := by have := (List.getElem?_eq_some_iff.1 hi).1; omega
  obtain ⟨g, rfl, h1, h2⟩ := rowAt h hl
  exact ⟨g, rfl, h1, own_cell h (by rw [List.getElem?_map, hi]; rfl)⟩
set_option maxRecDepth 100000 in
set_option maxHeartbeats 8000000 in
theorem pivotsR (S nn : Nat) (A : Option Addr) (n c : Nat) (ms : List Mt) (w : World) (h : MsAt w A n ms) (hv : VP S ms) (hN : nn = 3 * S) :
    Calls Try.prog 45 #[.agg #[.int .i64 (S : Int), .slice A n c]] w (fun e w' => ∃ g, e = .returned (.slice (some ⟨g, 0, none⟩) nn nn) ∧ BoolR w.heap.size w' (.slice (some ⟨g, 0, none⟩) nn nn) nn (pivB nn ms) ∧ Ext w w') := by
  have hS1 : 1 ≤ S := by have := hv.1; omega
  have hS8 : S ≤ 8 := by have := hv.2.1; omega
  have hNb : nn ≤ 24 := by omega
  have hqN : IntKind.i64.wrap (3 * (S : Int)) = (nn : Int) := by rw [IntWalk.i64_in _ (by omega)]; omega
  have HX := Lib.hid ((Ext.refl w).alloc (.cells #[.int .i64 (S : Int), .slice A n c] 76))
  have HP := Lib.hid (Blk.new w 76 #[.int .i64 (S : Int), .slice A n c])
  have H := Lib.hid h
  have HV := Lib.hid hv
  have HNN := Lib.hid hN
  clear h hv hN
  go_enter Try.func45, Try.ntmps45
  go_upto_region 1 with (fail)
  generalize w.alloc (.cells #[.int .i64 (S : Int), .slice A n c] 76) = w1 at HX HP ⊢
  have p0 := HP.out.cell 0
  have p1 := HP.out.cell 1
  simp only [List.getElem?_toArray, List.getElem?_cons_zero, List.getElem?_cons_succ] at p0 p1
  have hs1 := HX.out.size
  go_upto_region 2 with (at_make; refine wpList_mk w1 elBo rfl rfl _ _ rfl w.heap.size _ _ _ _ nn nn rfl rfl (by first | rfl | omega) (by first | rfl | omega) (Nat.le_refl _) (by omega) (by unfold maxLen; omega) hs1 ?_; intro w2 hown hext hsz)
  clear p0 p1
  have HO : Hid (BoolR w.heap.size w2 (.slice (some ⟨w1.heap.size, 0, none⟩) nn nn) nn (fun _ => false)) := Lib.hid (by
    have e : (List.replicate nn (Value.bool false)) = (List.range nn).map fun _ => .bool false := by
      refine List.ext_getElem? fun j => ?_
      rw [List.getElem?_replicate, List.getElem?_map]
      by_cases hj : j < nn
      · rw [if_pos hj, List.getElem?_range hj]; rfl
      · rw [if_neg hj, List.getElem?_eq_none (by simp; omega)]; rfl
    unfold BoolR
    rw [← e]
    exact hown)
  replace HX := Lib.hid (HX.out.trans hext)
  replace HP := Lib.hid (HP.out.ext hext)
  generalize w1.heap.size = gb at HO hs1 hsz ⊢
  clear hown hext
  have p0 := HP.out.cell 0
  have p1 := HP.out.cell 1
  simp only [List.getElem?_toArray, List.getElem?_cons_zero, List.getElem?_cons_succ] at p0 p1
  go_wp2_with fail
  refine (reducedR S nn A n c ms _ (H.out.ext HX.out) HV.out HNN.out).mono ?_
  rintro e w3 ⟨gm, ct, vs, cv, sl, Al, ll, cl, rfl, hT, hC, hI, hX⟩
  replace HX := Lib.hid (HX.out.trans hX)
  replace HO := Lib.hid (HO.out.ext hX)
  clear hX p0 p1 hT hI
  go_upto_region 3 with (fail)
  have hXa : Ext w3 (w3.alloc (.cells #[.bool sl, .slice Al ll cl] 63)) := (Ext.refl _).alloc _
  replace HX := Lib.hid (HX.out.trans hXa)
  replace HO := Lib.hid (HO.out.ext hXa)
  replace hC := hC.ext hXa
  generalize w3.alloc (.cells #[.bool sl, .slice Al ll cl] 63) = w4 at HX HO hC ⊢
  clear hXa
  obtain ⟨tp, htp⟩ : ∃ tp, (kR ms nn nn).length = tp := ⟨_, rfl⟩
  have hC2 : w4.ownsRow w2.heap.size 3 1 cv (kR ms nn nn).length ((kR ms nn nn).map fun j : Nat => .int .i64 (j : Int)) := hC
  rw [htp] at hC2
  obtain ⟨Ac, cc, rfl⟩ := own_slice hC2
  have HC := Lib.hid hC
  have HTP := Lib.hid htp
  have HCO := Lib.hid hC2
  have htn : tp ≤ nn := by rw [← htp]; exact kR_le HV.out.2.2.2 (Nat.le_refl _)
  clear hC hC2 htp
  have hgb : ∀ g, Ac = some ⟨g, 0, none⟩ → 0 < tp → g ≠ gb := fun g hg h0 e => by
    subst hg
    rcases own_ne HCO.out HO.out (by decide) with q | q
    · simp [Value.ownBlock] at q
    · exact q (by simp [Value.ownBlock, e])
  have HGB := Lib.hid hgb
  clear hgb
  go_wp2_with fail
  go_loopg [7] tp (fun fu iv wr => ∃ i : Nat, fu = tp - i ∧ i ≤ tp ∧ iv = .int .i64 (i : Int) ∧ Hid (BoolR w.heap.size wr (.slice (some ⟨gb, 0, none⟩) nn nn) nn (fun j => decide (j ∈ (kR ms nn nn).take i))) ∧ Hid (Ext w wr) ∧ Hid (Keeps [gb] w4 wr))
  case atStart => exact ⟨0, by omega, by omega, rfl, Lib.hid (boolR_congr HO.out (fun j _ => by simp)), HX, Lib.hid (Keeps.refl _ _)⟩
  case round =>
    clear HO HX
    obtain ⟨i, rfl, hi, rfl, HO, HX, HK⟩ := hrel
    by_cases hil : i < tp
    · have q1 : decide (i < tp) = true := decide_eq_true hil
      have q1b : decide ((i : Int) < (tp : Int)) = true := decide_eq_true (by omega)
      obtain ⟨j, hj⟩ : ∃ j, (kR ms nn nn)[i]? = some j := ⟨_, List.getElem?_eq_getElem (by rw [HTP.out]; exact hil)⟩
      have hC5 : ColR w2.heap.size w4 (.slice Ac (kR ms nn nn).length cc) (kR ms nn nn) := by rw [HTP.out]; exact HC.out
      obtain ⟨gc, rfl, hgc, hcell⟩ := hC5.get hj
      have xc := keeps_c HK.out hcell (by have := HGB.out gc rfl (by omega); simpa using this)
      have hjn : j < nn := kR_lt HV.out.2.2.2 (Nat.le_refl _) (List.mem_of_getElem? hj)
      have HJ := Lib.hid hj
      clear hj hC5 hcell
      have xb := boolR_cell HO.out hjn
      have fb := boolR_free HO.out j
      obtain ⟨vb, hvb⟩ : ∃ vb, decide (j ∈ (kR ms nn nn).take i) = vb := ⟨_, rfl⟩
      rw [hvb] at xb
      clear hvb
      have HPUT := Lib.hid (boolR_put HO.out (j := j) true)
      have HX2 := Lib.hid (HX.out.setCell (p := ⟨gb, j, none⟩) (by simp only; omega) (.bool true))
      have HK2 := Lib.hid (HK.out.setCell (p := ⟨gb, j, none⟩) (.inl (by simp)) (.bool true))
      go_wp2
      go_roundg (tp - (i + 1))
      case rel =>
        refine ⟨i + 1, rfl, by omega, by go_num, Lib.hid (boolR_congr HPUT.out (fun k _ => ?_)), HX2, HK2⟩
        rw [List.take_add_one, HJ.out]
        by_cases e : k = j
        · rw [if_pos e, e]; simp
        · rw [if_neg e]; simp [e]
      case measure => omega
    · obtain rfl : i = tp := by omega
      have q1 : decide (i < i) = false := by simp
      have q1b : decide ((i : Int) < (i : Int)) = false := by simp
      have HF : Hid (BoolR w.heap.size wr (.slice (some ⟨gb, 0, none⟩) nn nn) nn (pivB nn ms)) := Lib.hid (boolR_congr HO.out (fun k hk => by
        unfold pivB
        rw [piv_col HV.out.2.2.2 hk, List.take_of_length_le (by rw [HTP.out]; omega)]))
      go_wp2
      go_ret
      exact ⟨gb, rfl, HF.out, HX.out⟩

end Go.Proofs.Ytikhlcgnlbinfaa
namespace Go.Proofs.Ytikhlcgnlbinfaa
open Go.RowKit

set_option maxRecDepth 100000 in
set_option maxHeartbeats 2000000 in
theorem eqns_r14 (g1 g2 a1 a2 b1 b2 c1 c2 d1 d2 nn kk : Nat) (pv : Bool) (xs : List Int) (w : World) (h1 : w.cell? ⟨g1, kk, none⟩ = some (.slice (some ⟨a1, 0, none⟩) nn c1)) (h2 : w.cell? ⟨g2, kk, none⟩ = some (.slice (some ⟨a2, 0, none⟩) nn c2)) (h3 : w.cell? ⟨b1, kk, none⟩ = some (.bool pv)) (h4 : w.cell? ⟨b2, kk, none⟩ = some (.bool pv)) (k1 : Ints .i64 w (some ⟨a1, 0, none⟩) nn xs) (k2 : Ints .i64 w (some ⟨a2, 0, none⟩) nn xs) (hn : nn ≤ 1000) (hkn : kk < nn) (a : Act) (Q : Exit → Act → World → Prop) (hsize : 123 ≤ a.tmps.size)
    (s3 : a.tmps[3]? = some (.slice (some ⟨g1, 0, none⟩) nn nn))
    (s6 : a.tmps[6]? = some (.slice (some ⟨b1, 0, none⟩) nn d1))
    (s8 : a.tmps[8]? = some (.slice (some ⟨g2, 0, none⟩) nn nn))
    (s10 : a.tmps[10]? = some (.slice (some ⟨b2, 0, none⟩) nn d2))
    (s11 : a.tmps[11]? = some (.int .i64 (kk : Int)))
    (hend : ∀ (xv0 xv1 xv2 xv3 xv4 xv5 xv6 xv7 xv8 xv9 xv10 xv11 xv12 xv13 xv14 xv15 xv16 xv17 xv18 xv19 xv20 : Value) (W : World), (xv0 = .slice (some ⟨g1, 0, none⟩) nn nn) → (xv1 = .int .i64 (kk : Int)) → (xv2 = .pointer (some ⟨g1, kk, none⟩)) → (xv3 = .slice (some ⟨a1, 0, none⟩) nn c1) → (xv4 = .slice (some ⟨g2, 0, none⟩) nn nn) → (xv5 = .int .i64 (kk : Int)) → (xv6 = .pointer (some ⟨g2, kk, none⟩)) → (xv7 = .slice (some ⟨a2, 0, none⟩) nn c2) → (xv8 = .bool true) → (xv9 = .bool false) → (xv10 = .bool false) → (xv11 = .slice (some ⟨b1, 0, none⟩) nn d1) → (xv12 = .int .i64 (kk : Int)) → (xv13 = .pointer (some ⟨b1, kk, none⟩)) → (xv14 = .bool pv) → (xv15 = .slice (some ⟨b2, 0, none⟩) nn d2) → (xv16 = .int .i64 (kk : Int)) → (xv17 = .pointer (some ⟨b2, kk, none⟩)) → (xv18 = .bool pv) → (xv19 = .bool false) → (xv20 = .bool false) → Ext w W → wpList Try.prog (rops Try.f4 14).toArray Q ((rops Try.f4 14).drop 21) (((((((((((((((((((((a.put (some 102) xv0).put (some 103) xv1).put (some 104) xv2).put (some 105) xv3).put (some 106) xv4).put (some 107) xv5).put (some 108) xv6).put (some 109) xv7).put (some 110) xv8).put (some 111) xv9).put (some 112) xv10).put (some 113) xv11).put (some 114) xv12).put (some 115) xv13).put (some 116) xv14).put (some 117) xv15).put (some 118) xv16).put (some 119) xv17).put (some 120) xv18).put (some 121) xv19).put (some 122) xv20) W) :
    (Code.region 14 (rops Try.f4 14).toArray true).wp Try.prog Q a w := by
  refine wp_region_k 21 [some 102, some 103, some 104, some 105, some 106, some 107, some 108, some 109, some 110, some 111, some 112, some 113, some 114, some 115, some 116, some 117, some 118, some 119, some 120, some 121, some 122] [[], [], [0, 1], [2], [], [], [4, 5], [6], [3, 7], [8], [9], [10], [10], [10, 11, 12], [10, 13], [10], [10], [10, 15, 16], [10, 17], [10, 14, 18], [10, 19]] [eqv (.slice (some ⟨g1, 0, none⟩) nn nn), eqv (.int .i64 (kk : Int)), eqv (.pointer (some ⟨g1, kk, none⟩)), eqv (.slice (some ⟨a1, 0, none⟩) nn c1), eqv (.slice (some ⟨g2, 0, none⟩) nn nn), eqv (.int .i64 (kk : Int)), eqv (.pointer (some ⟨g2, kk, none⟩)), eqv (.slice (some ⟨a2, 0, none⟩) nn c2), eqv (.bool true), eqv (.bool false), eqv (.bool false), eqv (.slice (some ⟨b1, 0, none⟩) nn d1), eqv (.int .i64 (kk : Int)), eqv (.pointer (some ⟨b1, kk, none⟩)), eqv (.bool pv), eqv (.slice (some ⟨b2, 0, none⟩) nn d2), eqv (.int .i64 (kk : Int)), eqv (.pointer (some ⟨b2, kk, none⟩)), eqv (.bool pv), eqv (.bool false), eqv (.bool false)] (by kernel_rfl) (by kernel_rfl) rfl (by decide) hsize ⟨monC, monC, monC, monC, monC, monC, monC, monC, monC, monC, monC, monC, monC, monC, monC, monC, monC, monC, monC, monC, monC, trivial⟩ ?_ ?_
  · clear hend
    simp only [rops, Try.f4, regOf, Option.bind_some, Nat.reduceBEq, if_true, if_false, Bool.false_eq_true, Option.getD_some]
    simp only [List.take_succ_cons, List.take_zero]
    refine ⟨?_, ?_, ?_, ?_, ?_, ?_, ?_, ?_, ?_, ?_, ?_, ?_, ?_, ?_, ?_, ?_, ?_, ?_, ?_, ?_, ?_, trivial⟩
    · rintro us W hJ _ b hb hbz K hK0 hK Qz
      have e3 := (hbz 3 (by simp)).trans s3
      clear hb hbz
      go_simp
      exact hK0 _ rfl
    · rintro us W hJ _ b hb hbz K hK0 hK Qz
      have e11 := (hbz 11 (by simp)).trans s11
      clear hb hbz
      go_simp
      exact hK0 _ rfl
    · rintro us W hJ ⟨d0, d1⟩ b hb hbz K hK0 hK Qz
      have e102 := slotV (hb 0 102 rfl) d0
      have e103 := slotV (hb 1 103 rfl) d1
      clear hb hbz d0 d1
      go_simp
      exact hK0 _ rfl
    · rintro us W hJ d2 b hb hbz K hK0 hK Qz
      have e104 := slotV (hb 2 104 rfl) d2
      clear hb hbz d2
      have q := Ext.cell hJ h1
      go_simp
      exact hK0 _ rfl
    · rintro us W hJ _ b hb hbz K hK0 hK Qz
      have e8 := (hbz 8 (by simp)).trans s8
      clear hb hbz
      go_simp
      exact hK0 _ rfl
    · rintro us W hJ _ b hb hbz K hK0 hK Qz
      have e11 := (hbz 11 (by simp)).trans s11
      clear hb hbz
      go_simp
      exact hK0 _ rfl
    · rintro us W hJ ⟨d4, d5⟩ b hb hbz K hK0 hK Qz
      have e106 := slotV (hb 4 106 rfl) d4
      have e107 := slotV (hb 5 107 rfl) d5
      clear hb hbz d4 d5
      go_simp
      exact hK0 _ rfl
    · rintro us W hJ d6 b hb hbz K hK0 hK Qz
      have e108 := slotV (hb 6 108 rfl) d6
      clear hb hbz d6
      have q := Ext.cell hJ h2
      go_simp
      exact hK0 _ rfl
    · rintro us W hJ ⟨d3, d7⟩ b hb hbz K hK0 hK Qz
      have e105 := slotV (hb 3 105 rfl) d3
      have e109 := slotV (hb 7 109 rfl) d7
      clear hb hbz d3 d7
      go_simp
      refine (samI5_eq _ _ nn c1 c2 xs W (k1.ext hJ) (k2.ext hJ) (by omega)).mono ?_
      rintro e w' ⟨rfl, hX⟩
      exact hK _ _ rfl hX
    · rintro us W hJ d8 b hb hbz K hK0 hK Qz
      have e110 := slotV (hb 8 110 rfl) d8
      clear hb hbz d8
      go_simp
      exact hK0 _ rfl
    · rintro us W hJ d9 b hb hbz K hK0 hK Qz
      have e111 := slotV (hb 9 111 rfl) d9
      clear hb hbz d9
      go_simp
      exact hK0 _ rfl
    · rintro us W hJ d10 b hb hbz K hK0 hK Qz
      have e6 := (hbz 6 (by simp)).trans s6
      have e112 := slotV (hb 10 112 rfl) d10
      clear hb hbz d10
      go_simp
      exact hK0 _ rfl
    · rintro us W hJ d10 b hb hbz K hK0 hK Qz
      have e11 := (hbz 11 (by simp)).trans s11
      have e112 := slotV (hb 10 112 rfl) d10
      clear hb hbz d10
      go_simp
      exact hK0 _ rfl
    · rintro us W hJ ⟨d10, d11, d12⟩ b hb hbz K hK0 hK Qz
      have e112 := slotV (hb 10 112 rfl) d10
      have e113 := slotV (hb 11 113 rfl) d11
      have e114 := slotV (hb 12 114 rfl) d12
      clear hb hbz d10 d11 d12
      go_simp
      exact hK0 _ rfl
    · rintro us W hJ ⟨d10, d13⟩ b hb hbz K hK0 hK Qz
      have e112 := slotV (hb 10 112 rfl) d10
      have e115 := slotV (hb 13 115 rfl) d13
      clear hb hbz d10 d13
      have q := Ext.cell hJ h3
      go_simp
      exact hK0 _ rfl
    · rintro us W hJ d10 b hb hbz K hK0 hK Qz
      have e10 := (hbz 10 (by simp)).trans s10
      have e112 := slotV (hb 10 112 rfl) d10
      clear hb hbz d10
      go_simp
      exact hK0 _ rfl
    · rintro us W hJ d10 b hb hbz K hK0 hK Qz
      have e11 := (hbz 11 (by simp)).trans s11
      have e112 := slotV (hb 10 112 rfl) d10
      clear hb hbz d10
      go_simp
      exact hK0 _ rfl
    · rintro us W hJ ⟨d10, d15, d16⟩ b hb hbz K hK0 hK Qz
      have e112 := slotV (hb 10 112 rfl) d10
      have e117 := slotV (hb 15 117 rfl) d15
      have e118 := slotV (hb 16 118 rfl) d16
      clear hb hbz d10 d15 d16
      go_simp
      exact hK0 _ rfl
    · rintro us W hJ ⟨d10, d17⟩ b hb hbz K hK0 hK Qz
      have e112 := slotV (hb 10 112 rfl) d10
      have e119 := slotV (hb 17 119 rfl) d17
      clear hb hbz d10 d17
      have q := Ext.cell hJ h4
      go_simp
      exact hK0 _ rfl
    · rintro us W hJ ⟨d10, d14, d18⟩ b hb hbz K hK0 hK Qz
      have e112 := slotV (hb 10 112 rfl) d10
      have e116 := slotV (hb 14 116 rfl) d14
      have e120 := slotV (hb 18 120 rfl) d18
      clear hb hbz d10 d14 d18
      go_simp
      exact hK0 _ rfl
    · rintro us W hJ ⟨d10, d19⟩ b hb hbz K hK0 hK Qz
      have e112 := slotV (hb 10 112 rfl) d10
      have e121 := slotV (hb 19 121 rfl) d19
      clear hb hbz d10 d19
      go_simp
      exact hK0 _ rfl
  · rintro us W ⟨v0, v1, v2, v3, v4, v5, v6, v7, v8, v9, v10, v11, v12, v13, v14, v15, v16, v17, v18, v19, v20, _⟩ hJ
    exact hend _ _ _ _ _ _ _ _ _ _ _ _ _ _ _ _ _ _ _ _ _ W v0 v1 v2 v3 v4 v5 v6 v7 v8 v9 v10 v11 v12 v13 v14 v15 v16 v17 v18 v19 v20 hJ
set_option maxRecDepth 100000 in
set_option maxHeartbeats 8000000 in
theorem eqns_heavy (S : Int) (A : Option Addr) (n c : Nat) (ms : List Mt) (w : World) (h : MsAt w A n ms) (hhv : hvB S ms = true) :
    Calls Try.prog 4 #[.agg #[.int .i64 S, .slice A n c]] w (fun e w' => e = .returned (.bool true) ∧ Ext w w') := by
  have H := Lib.hid h
  have HX := Lib.hid ((Ext.refl w).alloc (.cells #[.int .i64 S, .slice A n c] 76))
  have HP := Lib.hid (Blk.new w 76 #[.int .i64 S, .slice A n c])
  clear h
  go_enter Try.func4, Try.ntmps4
  go_upto_region 1 with (fail)
  generalize w.alloc (.cells #[.int .i64 S, .slice A n c] 76) = w1 at HX HP ⊢
  have p0 := HP.out.cell 0
  have p1 := HP.out.cell 1
  simp only [List.getElem?_toArray, List.getElem?_cons_zero, List.getElem?_cons_succ] at p0 p1
  have hh := heavy_any5 S A n c ms _ (H.out.ext HX.out)
  rw [hhv] at hh
  go_wp2_with fail
  refine hh.mono ?_
  rintro e w2 ⟨rfl, hX⟩
  clear hh
  replace HP := Lib.hid (HP.out.ext hX)
  replace HX := Lib.hid (HX.out.trans hX)
  clear hX p0 p1
  go_wp2_with fail
  refine (first_any _).mono ?_
  rintro e w19 ⟨rfl, hX⟩
  replace HX := Lib.hid (HX.out.trans hX)
  clear hX
  go_wp2
  go_ret
  exact ⟨rfl, HX.out⟩

set_option maxRecDepth 100000 in
set_option maxHeartbeats 8000000 in
theorem eqns_inv (S : Int) (A : Option Addr) (n c : Nat) (ms : List Mt) (w : World) (h : MsAt w A n ms) (hhv : hvB S ms = false) (hV : ¬ VP S ms) :
    Calls Try.prog 4 #[.agg #[.int .i64 S, .slice A n c]] w (fun e w' => e = .returned (.bool true) ∧ Ext w w') := by
  have H := Lib.hid h
  have HX := Lib.hid ((Ext.refl w).alloc (.cells #[.int .i64 S, .slice A n c] 76))
  have HP := Lib.hid (Blk.new w 76 #[.int .i64 S, .slice A n c])
  clear h
  go_enter Try.func4, Try.ntmps4
  go_upto_region 1 with (fail)
  generalize w.alloc (.cells #[.int .i64 S, .slice A n c] 76) = w1 at HX HP ⊢
  have p0 := HP.out.cell 0
  have p1 := HP.out.cell 1
  simp only [List.getElem?_toArray, List.getElem?_cons_zero, List.getElem?_cons_succ] at p0 p1
  have hh := heavy_any5 S A n c ms _ (H.out.ext HX.out)
  rw [hhv] at hh
  go_wp2_with fail
  refine hh.mono ?_
  rintro e w2 ⟨rfl, hX⟩
  clear hh
  replace HP := Lib.hid (HP.out.ext hX)
  replace HX := Lib.hid (HX.out.trans hX)
  clear hX p0 p1
  have p0 := HP.out.cell 0
  have p1 := HP.out.cell 1
  simp only [List.getElem?_toArray, List.getElem?_cons_zero, List.getElem?_cons_succ] at p0 p1
  go_wp2_with fail
  refine (equations_no S A n c ms _ (H.out.ext HX.out) hV).mono ?_
  rintro e w3 ⟨rfl, hX⟩
  replace HP := Lib.hid (HP.out.ext hX)
  replace HX := Lib.hid (HX.out.trans hX)
  clear hX p0 p1
  have p0 := HP.out.cell 0
  have p1 := HP.out.cell 1
  simp only [List.getElem?_toArray, List.getElem?_cons_zero, List.getElem?_cons_succ] at p0 p1
  go_wp2_with fail
  refine (pivots_no S A n c ms _ (H.out.ext HX.out) hV).mono ?_
  rintro e w3 ⟨rfl, hX⟩
  replace HP := Lib.hid (HP.out.ext hX)
  replace HX := Lib.hid (HX.out.trans hX)
  clear hX p0 p1
  have p0 := HP.out.cell 0
  have p1 := HP.out.cell 1
  simp only [List.getElem?_toArray, List.getElem?_cons_zero, List.getElem?_cons_succ] at p0 p1
  have hv := valid5R_any S A n c ms _ (H.out.ext HX.out)
  rw [vpB_no hV] at hv
  go_wp2_with fail
  refine hv.mono ?_
  rintro e w3 ⟨rfl, hX⟩
  clear hv
  replace HP := Lib.hid (HP.out.ext hX)
  replace HX := Lib.hid (HX.out.trans hX)
  clear hX p0 p1
  have p0 := HP.out.cell 0
  have p1 := HP.out.cell 1
  simp only [List.getElem?_toArray, List.getElem?_cons_zero, List.getElem?_cons_succ] at p0 p1
  have hv := valid5_any S A n c ms _ (H.out.ext HX.out)
  rw [vpB_no hV] at hv
  go_wp2_with fail
  refine hv.mono ?_
  rintro e w3 ⟨rfl, hX⟩
  clear hv
  replace HP := Lib.hid (HP.out.ext hX)
  replace HX := Lib.hid (HX.out.trans hX)
  clear hX p0 p1
  go_wp2_with fail
  refine (first_any _).mono ?_
  rintro e w19 ⟨rfl, hX⟩
  replace HX := Lib.hid (HX.out.trans hX)
  clear hX
  go_wp2
  go_ret
  exact ⟨rfl, HX.out⟩
  
theorem boolR_at {base g n c : Nat} {w : World} {f : Nat → Bool} (h : BoolR base w (.slice (some ⟨g, 0, none⟩) n c) n f) {j : Nat} (hj : j < n) : w.cell? ⟨g, j, none⟩ = some (.bool (f j)) :=
  own_cell h (by rw [List.getElem?_map, List.getElem?_range hj]; rfl)
set_option maxRecDepth 100000 in
set_option maxHeartbeats 8000000 in
theorem eqns_ok (S : Nat) (A : Option Addr) (n c : Nat) (ms : List Mt) (w : World) (h : MsAt w A n ms) (hhv : hvB (S : Int) ms = false) (hV : VP (S : Int) ms) :
    Calls Try.prog 4 #[.agg #[.int .i64 (S : Int), .slice A n c]] w (fun e w' => e = .returned (.bool true) ∧ Ext w w') := by
  have H := Lib.hid h
  have HX := Lib.hid ((Ext.refl w).alloc (.cells #[.int .i64 (S : Int), .slice A n c] 76))
  have HP := Lib.hid (Blk.new w 76 #[.int .i64 (S : Int), .slice A n c])
  clear h
  go_enter Try.func4, Try.ntmps4
  go_upto_region 1 with (fail)
  generalize w.alloc (.cells #[.int .i64 (S : Int), .slice A n c] 76) = w1 at HX HP ⊢
  have p0 := HP.out.cell 0
  have p1 := HP.out.cell 1
  simp only [List.getElem?_toArray, List.getElem?_cons_zero, List.getElem?_cons_succ] at p0 p1
  have hh := heavy_any5 (S : Int) A n c ms _ (H.out.ext HX.out)
  rw [hhv] at hh
  go_wp2_with fail
  refine hh.mono ?_
  rintro e w2 ⟨rfl, hX⟩
  clear hh
  replace HP := Lib.hid (HP.out.ext hX)
  replace HX := Lib.hid (HX.out.trans hX)
  clear hX p0 p1
  have HV := Lib.hid hV
  obtain ⟨nn, hN⟩ : ∃ nn, nn = 3 * S := ⟨_, rfl⟩
  have hS8 : S ≤ 8 := by have := hV.2.1; omega
  have hS1 : 1 ≤ S := by have := hV.1; omega
  have hnn : nn ≤ 24 := by omega
  have hn0 : 0 < nn := by omega
  have HNN := Lib.hid hN
  have HNB : Hid (∀ i j, -9223372036854775808 ≤ eqN ms i j ∧ eqN ms i j ≤ 9223372036854775807) := Lib.hid (fun i j => by
    have h1 := eqN_bound hV.2.2.2 i j
    have := hV.2.2.1
    omega)
  have HRB : Hid (∀ i, -9223372036854775808 ≤ eqR ms i ∧ eqR ms i ≤ 9223372036854775807) := Lib.hid (fun i => by
    have h1 := eqR_bound hV.2.2.2 i
    have := hV.2.2.1
    omega)
  clear hV hN
  have p0 := HP.out.cell 0
  have p1 := HP.out.cell 1
  simp only [List.getElem?_toArray, List.getElem?_cons_zero, List.getElem?_cons_succ] at p0 p1
  go_wp2_with fail
  refine (equations_ok S nn A n c ms _ (H.out.ext HX.out) HV.out HNN.out).mono ?_
  rintro e w3 ⟨g1, r1, vs1, rfl, hT1, hR1, hgr, hful, hX⟩
  have HT1 := Lib.hid (hT1)
  have HR1 := Lib.hid hR1
  clear hT1 hR1 hgr hful
  replace HP := Lib.hid (HP.out.ext hX)
  replace HX := Lib.hid (HX.out.trans hX)
  clear hX p0 p1
  have p0 := HP.out.cell 0
  have p1 := HP.out.cell 1
  simp only [List.getElem?_toArray, List.getElem?_cons_zero, List.getElem?_cons_succ] at p0 p1
  go_wp2_with fail
  refine (pivots_v S nn A n c ms _ (H.out.ext HX.out) HV.out HNN.out).mono ?_
  rintro e w3 ⟨v, rfl, hB, hX⟩
  obtain ⟨A1, d1, rfl⟩ := own_slice hB
  obtain ⟨b1, rfl, hb11, hb12⟩ := rowAt hB hn0
  have HB1 := Lib.hid hB
  clear hB hb11 hb12
  replace HT1 := Lib.hid (HT1.out.ext kindUno hX)
  replace HR1 := Lib.hid (HR1.out.ext hX)
  replace HP := Lib.hid (HP.out.ext hX)
  replace HX := Lib.hid (HX.out.trans hX)
  clear hX p0 p1
  have p0 := HP.out.cell 0
  have p1 := HP.out.cell 1
  simp only [List.getElem?_toArray, List.getElem?_cons_zero, List.getElem?_cons_succ] at p0 p1
  have hv := valid5R_any (S : Int) A n c ms _ (H.out.ext HX.out)
  rw [vpB_iff.2 HV.out] at hv
  go_wp2_with fail
  refine hv.mono ?_
  rintro e w3 ⟨rfl, hX⟩
  clear hv
  replace HT1 := Lib.hid (HT1.out.ext kindUno hX)
  replace HR1 := Lib.hid (HR1.out.ext hX)
  replace HB1 := Lib.hid (HB1.out.ext hX)
  replace HP := Lib.hid (HP.out.ext hX)
  replace HX := Lib.hid (HX.out.trans hX)
  clear hX p0 p1
  have p0 := HP.out.cell 0
  have p1 := HP.out.cell 1
  simp only [List.getElem?_toArray, List.getElem?_cons_zero, List.getElem?_cons_succ] at p0 p1
  go_wp2_with fail
  refine (equationsR S nn A n c ms _ (H.out.ext HX.out) HV.out HNN.out).mono ?_
  rintro e w3 ⟨g2, r2, vs2, rfl, hT2, hR2, hgr, hful, hX⟩
  have HT2 := Lib.hid (hT2)
  have HR2 := Lib.hid hR2
  clear hT2 hR2 hgr hful
  replace HT1 := Lib.hid (HT1.out.ext kindUno hX)
  replace HR1 := Lib.hid (HR1.out.ext hX)
  replace HB1 := Lib.hid (HB1.out.ext hX)
  replace HP := Lib.hid (HP.out.ext hX)
  replace HX := Lib.hid (HX.out.trans hX)
  clear hX p0 p1
  have p0 := HP.out.cell 0
  have p1 := HP.out.cell 1
  simp only [List.getElem?_toArray, List.getElem?_cons_zero, List.getElem?_cons_succ] at p0 p1
  go_wp2_with fail
  refine (pivotsR S nn A n c ms _ (H.out.ext HX.out) HV.out HNN.out).mono ?_
  rintro e w3 ⟨b2, rfl, hB, hX⟩
  have HB2 := Lib.hid hB
  clear hB
  replace HT1 := Lib.hid (HT1.out.ext kindUno hX)
  replace HR1 := Lib.hid (HR1.out.ext hX)
  replace HB1 := Lib.hid (HB1.out.ext hX)
  replace HT2 := Lib.hid (HT2.out.ext kindUno hX)
  replace HR2 := Lib.hid (HR2.out.ext hX)
  replace HP := Lib.hid (HP.out.ext hX)
  replace HX := Lib.hid (HX.out.trans hX)
  clear hX p0 p1
  have p0 := HP.out.cell 0
  have p1 := HP.out.cell 1
  simp only [List.getElem?_toArray, List.getElem?_cons_zero, List.getElem?_cons_succ] at p0 p1
  have hv := valid5_any (S : Int) A n c ms _ (H.out.ext HX.out)
  rw [vpB_iff.2 HV.out] at hv
  go_wp2_with fail
  refine hv.mono ?_
  rintro e w3 ⟨rfl, hX⟩
  clear hv p0 p1
  replace HT1 := Lib.hid (HT1.out.ext kindUno hX)
  replace HR1 := Lib.hid (HR1.out.ext hX)
  replace HB1 := Lib.hid (HB1.out.ext hX)
  replace HT2 := Lib.hid (HT2.out.ext kindUno hX)
  replace HR2 := Lib.hid (HR2.out.ext hX)
  replace HB2 := Lib.hid (HB2.out.ext hX)
  replace HP := Lib.hid (HP.out.ext hX)
  replace HX := Lib.hid (HX.out.trans hX)
  clear hX
  have hnn2 : ((nn : Int) != (nn : Int)) = false := by simp
  have p0 := HP.out.cell 0
  have p1 := HP.out.cell 1
  simp only [List.getElem?_toArray, List.getElem?_cons_zero, List.getElem?_cons_succ] at p0 p1
  go_wp2_with fail
  refine (samI5_eq _ _ nn _ _ _ _ (HR1.out.ints (fun j _ => HRB.out j)) (HR2.out.ints (fun j _ => HRB.out j)) (by omega)).mono ?_
  rintro e w3 ⟨rfl, hX⟩
  clear p0 p1
  replace HT1 := Lib.hid (HT1.out.ext kindUno hX)
  replace HR1 := Lib.hid (HR1.out.ext hX)
  replace HB1 := Lib.hid (HB1.out.ext hX)
  replace HT2 := Lib.hid (HT2.out.ext kindUno hX)
  replace HR2 := Lib.hid (HR2.out.ext hX)
  replace HB2 := Lib.hid (HB2.out.ext hX)
  replace HP := Lib.hid (HP.out.ext hX)
  replace HX := Lib.hid (HX.out.trans hX)
  clear hX
  clear HR1 HR2
  go_wp2_with fail
  go_loopg [11] nn (fun f iv wr => ∃ k : Nat, f = nn - k ∧ k ≤ nn ∧ iv = .int .i64 (k : Int) ∧ Hid (Ext w3 wr))
  case atStart => exact ⟨0, by omega, by omega, rfl, Lib.hid (Ext.refl _)⟩
  case round =>
    obtain ⟨k, rfl, hk, rfl, HXL⟩ := hrel
    by_cases hkn : k < nn
    · have q1 : decide ((k : Int) < (nn : Int)) = true := decide_eq_true (by omega)
      have q2 : decide (k < nn) = true := decide_eq_true hkn
      obtain ⟨a1, c1, x1, hr1⟩ := (HT1.out.ext kindUno HXL.out).rowI hn0 hkn
      obtain ⟨a2, c2, x2, hr2⟩ := (HT2.out.ext kindUno HXL.out).rowI hn0 hkn
      have y1 := boolR_at (HB1.out.ext HXL.out) hkn
      have y2 := boolR_at (HB2.out.ext HXL.out) hkn
      have i1 := hr1.ints (fun j _ => HNB.out k j)
      have i2 := hr2.ints (fun j _ => HNB.out k j)
      go_upto_region 14 with (fail)
      refine eqns_r14 g1 g2 a1 a2 b1 b2 c1 c2 d1 nn nn k (pivB nn ms k) _ wr x1 x2 y1 y2 i1 i2 (by omega) hkn _ _ (by simp) rfl rfl rfl rfl rfl ?_
      rintro xv0 xv1 xv2 xv3 xv4 xv5 xv6 xv7 xv8 xv9 xv10 xv11 xv12 xv13 xv14 xv15 xv16 xv17 xv18 xv19 xv20 W rfl rfl rfl rfl rfl rfl rfl rfl rfl rfl rfl rfl rfl rfl rfl rfl rfl rfl rfl rfl rfl hX
      simp only [rops, Try.f4, regOf, Option.bind_some, Nat.reduceBEq, if_true, if_false, Bool.false_eq_true, Option.getD_some, List.drop_succ_cons, List.drop_zero]
      simp only [Act.put, List.setIfInBounds_toArray, List.set_cons_succ, List.set_cons_zero]
      replace HXL := Lib.hid (HXL.out.trans hX)
      clear hX x1 x2 y1 y2 i1 i2 hr1 hr2
      go_wp2
      go_roundg (nn - (k + 1))
      case rel => exact ⟨k + 1, rfl, by omega, by go_num, HXL⟩
      case measure => omega
    · obtain rfl : nn = k := by omega
      have q1 : decide ((nn : Int) < (nn : Int)) = false := by simp
      have q2 : decide (nn < nn) = false := by simp
      replace HX := Lib.hid (HX.out.trans HXL.out)
      go_wp2_with fail
      refine (first_any _).mono ?_
      rintro e w19 ⟨rfl, hX⟩
      replace HX := Lib.hid (HX.out.trans hX)
      clear hX
      go_wp2
      go_ret
      exact ⟨rfl, HX.out⟩
theorem stripEquations_walk (S : Int) (A : Option Addr) (n c : Nat) (ms : List Mt) (w : World) (h : MsAt w A n ms) :
    Calls Try.prog 4 #[.agg #[.int .i64 S, .slice A n c]] w (fun e w' => e = .returned (.bool true) ∧ Ext w w') := by
  cases hhv : hvB S ms with
  | true => exact eqns_heavy S A n c ms w h hhv
  | false =>
    by_cases hv : VP S ms
    · obtain ⟨s, rfl⟩ : ∃ s : Nat, S = s := ⟨S.toNat, by have := hv.1; omega⟩
      exact eqns_ok s A n c ms w h hhv hv
    · exact eqns_inv S A n c ms w h hhv hv
end Go.Proofs.Ytikhlcgnlbinfaa
