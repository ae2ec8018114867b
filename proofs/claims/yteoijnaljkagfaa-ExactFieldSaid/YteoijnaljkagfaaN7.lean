/- Walks: div and gcd of natural numbers (program). -/
import Derived.Test.YteoijnaljkagfaaN6
import Derived.Test.YteoijnaljkagfaaDivP
namespace Go.Proofs.Yteoijnaljkagfaa
open Go.RowKit

/-- What div leaves: the quotient and the rest. -/
def RetD (w : World) (q r : Nat) (e : Ending) (w' : World) : Prop := ∃ v1 v2, e = .returned (.tuple #[v1, v2]) ∧ W32 w' v1 q ∧ W32 w' v2 r ∧ Ext w w'

set_option maxRecDepth 100000 in
set_option maxHeartbeats 1000000 in
theorem div_less (va vb : Value) (n m : Nat) (w : World) (ha : W32 w va n) (hb : W32 w vb m) (hlt : n < m) :
    Calls Try.prog 133 #[va, vb] w (RetD w (n / m) (n % m)) := by
  have hc := cmp_any va vb n m w ha hb
  rw [cmpI_lt hlt] at hc
  have HC := Lib.hid hc
  have HA := Lib.hid ha
  have E1 : Hid (n / m = 0) := Nat.div_eq_of_lt hlt
  have E2 : Hid (n % m = n) := Nat.mod_eq_of_lt hlt
  clear hc ha hb hlt
  go_enter Try.func133, Try.ntmps133
  go_wp2_with fail
  refine HC.out.mono ?_
  rintro e w1 ⟨rfl, hX⟩
  have HX := Lib.hid hX
  clear hX
  go_wp2
  go_ret2
  exact ⟨_, _, rfl, by rw [E1.out]; exact NatV.zero, by rw [E2.out]; exact HA.out.ext HX.out, HX.out⟩

theorem one_digit {B : Int} (hB : 1 < B) {xs : List Int} {m : Nat} (h : Rep B xs m) (hl : xs.length = 1) : ∃ x, xs = [x] ∧ x = (m : Int) ∧ 0 < x ∧ x < B := by
  match xs, hl with
  | [x], _ =>
    have h1 := h.single hB
    have h2 := h.1 x (List.mem_singleton.2 rfl)
    exact ⟨x, rfl, h1.1, by omega, h2.2⟩

set_option maxRecDepth 100000 in
set_option maxHeartbeats 1000000 in
theorem div_one (va : Value) (B : Option Addr) (cb : Nat) (ys : List Int) (n m La : Nat) (w : World) (ha : W32 w va n) (hB : Ints .u32 w B 1 ys) (hry : Rep 4294967296 ys m) (hcb : 1 ≤ cb) (hcbm : cb ≤ 9223372036854775807) (hle : m ≤ n) (hn : Fit 4294967296 n La) (hL : La ≤ 1099511627776) :
    Calls Try.prog 133 #[va, .slice B 1 cb] w (RetD w (n / m) (n % m)) := by
  obtain ⟨x, rfl, hxm, hx0, hx1⟩ := one_digit (by omega) hry hB.1
  have hb : W32 w (.slice B 1 cb) m := ⟨B, 1, cb, [x], rfl, hB, hry, hcb, hcbm⟩
  have hc := cmp_any va _ n m w ha hb
  have hge : 0 ≤ cmpI n m := by unfold cmpI; rw [if_neg (by omega)]; split <;> omega
  obtain ⟨cr, hcr⟩ : ∃ cr, cmpI n m = cr := ⟨_, rfl⟩
  rw [hcr] at hc hge
  obtain ⟨b2, o2, y, rfl, hy, _, hcy⟩ := hB.get (j := 0) (by omega)
  obtain rfl : x = y := by simpa using hy
  rw [Nat.add_zero] at hcy
  have HC := Lib.hid hc
  have HA := Lib.hid ha
  have HCY := Lib.hid hcy
  have hdm : x.toNat = m := by omega
  have E2 : Hid ((n : Int) % x = ((n % m : Nat) : Int)) := by show _ = _; rw [hxm]; simp
  have hn2 : (n : Int) % x < x := Int.emod_lt_of_pos _ hx0
  have hn3 : 0 ≤ (n : Int) % x := Int.emod_nonneg _ (by omega)
  have HDM := Lib.hid hdm
  clear hc ha hb hy hB hry hcr hcy hdm hxm
  go_enter Try.func133, Try.ntmps133
  go_wp2_with fail
  refine HC.out.mono ?_
  rintro e w1 ⟨rfl, hX⟩
  have hcy := hX.cell HCY.out
  have HX := Lib.hid hX
  clear hX
  go_wp2_with fail
  refine (word_any va n La x _ (HA.out.ext HX.out) hn hL hx0 (by omega)).mono ?_
  rintro e w2 ⟨v1, rfl, hv1, hX2⟩
  rw [HDM.out] at hv1
  have HV1 := Lib.hid hv1
  have HX2 := Lib.hid (HX.out.trans hX2)
  clear hv1 hX2 hcy
  obtain ⟨r, hr⟩ : ∃ r, (n : Int) % x = r := ⟨_, rfl⟩
  rw [hr] at E2 hn2 hn3 ⊢
  clear hr
  have HE2 := Lib.hid E2.out
  clear E2
  go_wp2_with fail
  refine (natOf_any r _ hn3 (by omega)).mono ?_
  rintro e w3 ⟨v2, rfl, hv2, hX3⟩
  have e3 : r.toNat = n % m := by have := HE2.out; omega
  rw [e3] at hv2
  have HV2 := Lib.hid hv2
  have HX3 := Lib.hid hX3
  clear hv2 hX3 e3
  go_wp2
  go_ret2
  exact ⟨_, _, rfl, HV1.out.ext HX3.out, HV2.out, HX2.out.trans HX3.out⟩

/-- 'x[l:h]' of a slice whose address is known, elements of one cell. -/
theorem wpList_cutAt {P : Program} (w : World) {t e : TypeId} {bytes : Nat} {z : Value} (E : Elem P t e 1 bytes z) {ops : Array Oper} {rest : List Oper} {o : Oper} {a : Act} {Q : Exit → Act → World → Prop}
    (hgd : o.guard = none) (x lo hi' : Operand) (ho : o.op = .slice t x (some lo) (some hi') none) (g off n c : Nat) (hx : a.eval x = .slice (some ⟨g, off, none⟩) n c) (kl kh : IntKind) (L Hv : Int) (l k : Nat) (hl : a.eval lo = .int kl L) (hh : a.eval hi' = .int kh Hv) (hL : L = l) (m : Nat) (hH : Hv = (m : Int)) (hm : m = l + k) (hk : 0 < k) (hc : m ≤ c)
    (h : wpList P ops Q rest (a.put o.dst (.slice (some ⟨g, off + l, none⟩) k (c - l))) w) :
    wpList P ops Q (o :: rest) a w :=
  wpList_plain hgd fun K hK => by
    subst hL hH
    obtain ⟨i, hi, hz, hs, hby⟩ := E.info
    have h1 : l ≤ m := by omega
    have h2 : ¬ c = l := by omega
    have h3 : m - l = k := by omega
    have hrun : (Instr.sliceAt t (.slice (some ⟨g, off, none⟩) n c) (some (.int kl l)) (some (.int kh m)) none).run P w = .ok (.slice (some ⟨g, off + l, none⟩) k (c - l)) w := by
      simp [Instr.sliceAt, Instr.slice, run_underlying E.und, Instr.sliceBounds, run_sliceBound, sizeOf, typeInfo, hi, hs, h1, hc, h2, h3, Addr.add_lit]
    unfold Oper.wp
    simp [execOp, ho, hx, hl, hh, hrun, Result.andThen]
    exact hK _ _ h

theorem OwnS.at {k : IntKind} {e : TypeId} {base : Nat} {w : World} {A : Option Addr} {n c : Nat} {xs : List Int} (h : OwnS k e base w A n c xs) (hn : 0 < n) : ∃ g, A = some ⟨g, 0, none⟩ ∧ base ≤ g ∧ g < w.heap.size := by
  obtain ⟨g, x, hA, _, _, hc, _, hg, _⟩ := h.store hn
  exact ⟨g, hA, hg, World.block_lt_of_cell? w _ hc⟩

set_option maxRecDepth 100000 in
set_option maxHeartbeats 4000000 in
theorem div_long (A B : Option Addr) (la ca cb p : Nat) (xs ys : List Int) (n m La : Nat) (w : World) (hA : Ints .u32 w A la xs) (hrx : Rep 4294967296 xs n) (hca : la ≤ ca) (hcam : ca ≤ 9223372036854775807) (hB : Ints .u32 w B (p + 2) ys) (hry : Rep 4294967296 ys m) (hcb : p + 2 ≤ cb) (hcbm : cb ≤ 9223372036854775807) (hle : m ≤ n) (hn : Fit 4294967296 n La) (hL : La ≤ 1099511627775) :
    Calls Try.prog 133 #[.slice A la ca, .slice B (p + 2) cb] w (RetD w (n / m) (n % m)) := by
  have ha : W32 w (.slice A la ca) n := ⟨A, la, ca, xs, rfl, hA, hrx, hca, hcam⟩
  have hb : W32 w (.slice B (p + 2) cb) m := ⟨B, p + 2, cb, ys, rfl, hB, hry, hcb, hcbm⟩
  have hc := cmp_any _ _ n m w ha hb
  have hge : 0 ≤ cmpI n m := by unfold cmpI; rw [if_neg (by omega)]; split <;> omega
  obtain ⟨cr, hcr⟩ : ∃ cr, cmpI n m = cr := ⟨_, rfl⟩
  rw [hcr] at hc hge
  have hla := hn.len (by omega) hrx
  rw [hA.1] at hla
  have hlb := (hn.le hle).len (by omega) hry
  rw [hB.1] at hlb
  have hmpos : 0 < m := by
    rcases Nat.eq_zero_or_pos m with h | h
    · have := (hry.pos (by omega)).1 h
      have h2 := hB.1
      rw [this] at h2; simp at h2
    · exact h
  obtain ⟨b2, o2, x, rfl, hx, hwx, hcx⟩ := hB.get (j := p + 1) (by omega)
  obtain ⟨hx0, hx1⟩ := u32_bounds hwx
  have hxp : 0 < x := by
    rcases Int.lt_or_le 0 x with h | h
    · exact h
    · have hx00 : x = 0 := by omega
      subst hx00
      exfalso
      refine hry.2.1 ?_
      rw [List.getLast?_eq_getElem?, hB.1]
      exact hx
  obtain ⟨s, hs, hs1, hs2, hcallL⟩ := lead_any x hxp hx1
  have hpl : (p : Int) + 1 < (p : Int) + 2 := by omega
  have hcrb : decide (cr < 0) = false := by simp; omega
  have HC := Lib.hid hc
  have HA := Lib.hid ha
  have HB := Lib.hid hb
  have HRX := Lib.hid hrx
  have HRY := Lib.hid hry
  have HCL := Lib.hid hcallL
  have HXX := Lib.hid hx
  have HS1 := Lib.hid hs1
  have HS2 := Lib.hid hs2
  have HCX := Lib.hid hcx
  have HLB : Hid (ys.length = p + 1 + 1) := hB.1
  have HLA : Hid (xs.length = la) := hA.1
  clear hc ha hb hx hA hB hrx hry hcr hcx hwx hcallL hs1 hs2
  go_enter Try.func133, Try.ntmps133
  go_wp2_with fail
  refine HC.out.mono ?_
  rintro e w1 ⟨rfl, hX⟩
  have hcx := hX.cell HCX.out
  have HX1 := Lib.hid hX
  clear hX
  go_wp2_with fail
  refine (HCL.out _).mono ?_
  rintro e w' ⟨rfl, rfl⟩
  go_wp2_with fail
  refine (shl_any _ m La s _ (HB.out.ext HX1.out) (hn.le hle) (by omega) hs).mono ?_
  rintro e w3 ⟨Av, nv, cv, vs, rfl, hOv, hRv, hXv⟩
  obtain ⟨hlv, vt, hvt, hvb⟩ := shl_len HRY.out HLB.out HXX.out hs HS1.out HS2.out hRv
  obtain rfl : nv = p + 2 := by rw [← hOv.len, hlv]
  obtain ⟨gv, rfl, hgv0, hgv1⟩ := hOv.at (by omega)
  have HOv := Lib.hid (hOv.mono HX1.out.size)
  have HRv := Lib.hid hRv
  have HX3 := Lib.hid (HX1.out.trans hXv)
  have HVT := Lib.hid hvt
  have HLV := Lib.hid hlv
  clear hOv hRv hXv hcx hvt hlv
  go_wp2_with fail
  refine (shl_any _ n La s _ (HA.out.ext HX3.out) hn (by omega) hs).mono ?_
  rintro e w4 ⟨Au, nu, cu, us, rfl, hOu, hRu, hXu⟩
  have hnu : la ≤ nu := by
    have h1 : Fit 4294967296 n us.length := (Fit.of_rep (by omega) hRu).le (Nat.le_mul_of_pos_right _ (Nat.pow_pos (by omega)))
    have h2 := h1.len (by omega) HRX.out
    rw [HLA.out, hOu.len] at h2; exact h2
  have hnu2 : nu ≤ la + 1 := by
    have h1 : Fit 4294967296 (n * 2 ^ s) (la + 1) := by
      have f1 : Fit 4294967296 n la := by have := Fit.of_rep (B := 4294967296) (by omega) HRX.out; rw [HLA.out] at this; exact this
      have f2 : Fit 4294967296 (2 ^ s) 1 := by
        unfold Fit
        have : 2 ^ s ≤ 2 ^ 31 := Nat.pow_le_pow_right (by omega) hs
        omega
      exact f1.mul (by omega) f2
    have h2 := h1.len (by omega) hRu
    rw [hOu.len] at h2; exact h2
  have hlap : p + 2 ≤ la := by
    have h1 := Fit.len (by omega) ((Fit.of_rep (by omega) HRX.out).le hle) HRY.out
    rw [HLA.out, HLB.out] at h1; exact h1
  obtain ⟨mq, rfl⟩ : ∃ mq, nu = mq + (p + 1) := ⟨nu - (p + 1), by omega⟩
  obtain ⟨gu, rfl, hgu0, hgu1⟩ := hOu.at (by omega)
  have HOu := Lib.hid (hOu.mono HX3.out.size)
  have HRu := Lib.hid hRu
  have HX4 := Lib.hid (HX3.out.trans hXu)
  have HOv4 := Lib.hid (HOv.out.ext hXu)
  have hown4 := hOu.own
  have hsz4 := hXu.size
  clear hOu hRu hXu
  go_wp2_with (first | (at_builtin; refine wpList_app (o := ⟨some 47, _, _, _, _, _⟩) _ elW rfl _ _ rfl w3.heap.size (.slice (some ⟨gu, 0, none⟩) (mq + (p + 1)) cu) (mq + (p + 1)) _ rfl (hown4.alloc _) _ 1 1 [.int .u32 0] rfl rfl (At.new _ [_] _) (by simp [Value.oneCell']) (by omega) (by unfold maxLen; omega) (by simp; omega) ?_; intro v5 w5 hown5 hgr5 hloc; obtain ⟨A5, c5, hv5⟩ := own_slice hown5; rw [hv5] at hown5 hloc ⊢; clear hv5; have hnla : (((mq + (p + 1) + 1 : Nat) : Int) == (la : Int)) = false := (by simp; omega)) | (at_make; refine wpList_mk _ elW rfl rfl _ _ rfl w5.heap.size _ _ _ _ mq mq rfl rfl (by omega) (by omega) (Nat.le_refl _) (by omega) (by unfold maxLen; omega) (Nat.le_refl _) ?_; intro w6 hown6 hext6 hsz6))
  have hXa : Ext w4 (w4.alloc (.cells #[.int .u32 0] 79)) := (Ext.refl w4).alloc _
  have hO5 : OwnS .u32 79 w3.heap.size w5 A5 (mq + (p + 1) + 1) c5 (us ++ [0]) := by
    refine ⟨by simpa using hown5, by rw [List.length_append, HOu.out.len]; rfl, fun y hy => ?_⟩
    rcases List.mem_append.1 hy with hy | hy
    · exact HOu.out.wf y hy
    · simp at hy; subst hy; exact wf32 (by omega)
  obtain ⟨g5, rfl, hg50, hg51⟩ := hO5.at (by omega)
  have hne5 : g5 ≠ gv := by omega
  have hOv5 : OwnS .u32 79 w.heap.size w5 (some ⟨gv, 0, none⟩) (p + 2) cv vs := (HOv4.out.ext hXa).other hgr5 (show gu ≠ gv by omega)
  have hX5 : Ext w w5 := (HX4.out.trans hXa).grown hgr5 fun k hk => by
    simp [Value.ownBlock] at hk; have := HX3.out.size; omega
  have HO6 := Lib.hid ((hO5.mono HX3.out.size).ext hext6)
  have HV6 := Lib.hid (hOv5.ext hext6)
  have HQ6 := Lib.hid ((OwnS.made hown6).mono hX5.size)
  have HX6 := Lib.hid (hX5.trans hext6)
  have hw5 : gv < w5.heap.size := by have := hgr5.size; simp at this; omega
  have hw5' : Hid (w.heap.size ≤ w5.heap.size) := hX5.size
  have hg5w : Hid (w.heap.size ≤ g5) := by have := HX3.out.size; exact (by omega : w.heap.size ≤ g5)
  have HVB : Hid (((m * 2 ^ s : Nat) : Int) < 4294967296 ^ (p + 2)) := by have := HRv.out.lt (by omega); rw [HLV.out] at this; exact this
  have HVL : Hid ((4294967296 : Int) ^ (p + 1) ≤ ((m * 2 ^ s : Nat) : Int)) := by
    have := nm_low (B := 4294967296) (by omega) HRv.out.1 HRv.out.2.1 (by intro e; have := HLV.out; rw [e] at this; simp at this)
    rw [HLV.out, HRv.out.2.2] at this; exact this
  obtain ⟨gq, hgq⟩ : ∃ gq, gq = w5.heap.size := ⟨_, rfl⟩
  rw [← hgq] at HQ6 ⊢
  have hne6 : g5 ≠ gq := by omega
  have hne7 : gq ≠ gv := by omega
  have hgqw : Hid (w.heap.size ≤ gq) := by rw [hgq]; exact hw5'
  clear hown5 hgr5 hloc hown6 hext6 hsz6 hXa hO5 hOv5 hX5 hown4 hgq hnla
  go_loopg [12] (mq + 1) (fun g' i wr => ∃ (j : Nat) (zs qs : List Int), g' = j + 1 ∧ j ≤ mq ∧ i = .int .i64 ((j : Int) - 1) ∧ OwnS .u32 79 w.heap.size wr (some ⟨g5, 0, none⟩) (mq + (p + 1) + 1) c5 zs ∧ OwnS .u32 79 w.heap.size wr (some ⟨gv, 0, none⟩) (p + 2) cv vs ∧ OwnS .u32 79 w.heap.size wr (some ⟨gq, 0, none⟩) mq mq qs ∧ Hid (DivI ((n * 2 ^ s : Nat) : Int) ((m * 2 ^ s : Nat) : Int) j zs qs) ∧ Ext w wr)
  case atStart =>
    refine ⟨mq, _, _, rfl, Nat.le_refl _, rfl, HO6.out, HV6.out, HQ6.out, DivI.start ?_ (by simp) ?_, HX6.out⟩
    · rw [val_append, val_one, HRu.out.2.2]; omega
    · have hl := HOu.out.len
      rw [List.drop_append_of_le_length (by omega), val_snoc]
      have := val_lt (B := 4294967296) (by omega) (HRu.out.1.drop mq)
      rw [List.length_drop, hl, show mq + (p + 1) - mq = p + 1 by omega] at this
      have := HVL.out
      omega
  case round =>
    obtain ⟨j, zs, qs, rfl, hj, rfl, hO, hV, hQ, hI, hX⟩ := hrel
    have HO := Lib.hid hO
    have HV := Lib.hid hV
    have HQ := Lib.hid hQ
    have HX := Lib.hid hX
    clear hO hV hQ hX
    rcases Nat.eq_zero_or_pos j with h0 | h0
    · subst h0
      rw [show (((0 : Nat) : Int) - 1) = -1 by omega]
      obtain ⟨hq, hz⟩ := DivI.fin hmpos hI.out (dg32 HO.out.ints) (dg32 HQ.out.ints)
      have HQV := Lib.hid hq
      have HZV := Lib.hid hz
      have hc5 := HO.out.cap
      obtain ⟨hc50, hc51⟩ := hc5
      clear hq hz
      go_wp2_with fail
      refine (norm_any _ _ _ _ _ HQ.out.ints (Nat.le_refl _) (by omega)).mono ?_
      rintro e w' ⟨k1, hk1, hN1, hv1, rfl, rfl⟩
      have HW1 := Lib.hid (RetNorm.natv (N := n / m) (c := mq) HQ.out.ints hk1 hN1 hv1 HQV.out (Nat.le_refl _) (by omega))
      clear hk1 hN1 hv1
      go_wp2_with fail
      refine (norm_any _ _ _ _ _ HO.out.ints hc50 hc51).mono ?_
      rintro e w' ⟨k2, hk2, hN2, hv2, rfl, rfl⟩
      have HW2 := Lib.hid (RetNorm.natv (N := n % m * 2 ^ s) (c := c5) HO.out.ints hk2 hN2 hv2 HZV.out hc50 hc51)
      clear hk2 hN2 hv2
      go_wp2_with fail
      refine (shr_any _ (n % m * 2 ^ s) (La + 1) s _ HW2.out ?_ (by omega) hs).mono ?_
      · have f2 : Fit 4294967296 (2 ^ s) 1 := by
          unfold Fit
          have : 2 ^ s ≤ 2 ^ 31 := Nat.pow_le_pow_right (by omega) hs
          omega
        exact (hn.le (Nat.le_trans (Nat.le_of_lt (Nat.mod_lt _ hmpos)) hle)).mul (by omega) f2
      rintro e w7 ⟨v2, rfl, hv2, hX7⟩
      rw [Nat.mul_div_cancel _ (Nat.pow_pos (by omega))] at hv2
      have HV2 := Lib.hid hv2
      have HX7 := Lib.hid hX7
      clear hv2 hX7
      go_wp2
      go_ret2
      exact ⟨_, _, rfl, HW1.out.ext HX7.out, HV2.out, HX.out.trans HX7.out⟩
    · obtain ⟨i, rfl⟩ : ∃ i, j = i + 1 := ⟨j - 1, by omega⟩
      rw [show (((i + 1 : Nat) : Int) - 1) = (i : Int) by omega]
      have hwin := div_win (lb := p + 2) (dg32 HO.out.ints) (i := i) (by rw [HO.out.len]; omega) hI.out.2 HVB.out
      have hcall := quotient_any w.heap.size g5 i (mq + (p + 1) + 1) c5 (c5 - i) gv p cv zs vs wr HO.out HV.out hne5 (by omega) (by omega) vt HVT.out hvb (by rw [hwin.1, HRv.out.2.2]; exact hwin.2)
      have HCQ := Lib.hid hcall
      have hcc := HO.out.cap
      obtain ⟨hc50, hc51⟩ := hcc
      have hi0 : (0 : Int) ≤ (i : Int) := by omega
      have hi1 : (i : Int) < (mq : Int) := by omega
      clear hwin hcall
      go_wp2_with (first | (refine wpList_cutAt (o := ⟨some 78, _, _, _, _, _⟩) _ elW rfl _ _ _ rfl g5 0 (mq + (p + 1) + 1) c5 rfl _ _ _ _ i (p + 3) rfl rfl rfl (i + (p + 3)) (by omega) rfl (by omega) (by omega) ?_))
      refine HCQ.out.mono ?_
      rintro e w7 ⟨q, zs', rfl, hq0, hq1, hO7, hgr, h1, h2, h3, h4, h5⟩
      obtain ⟨z, hz, _, hcz, hfz, _, hst⟩ := (HQ.out.other hgr hne6).store' (j := i) (by omega)
      obtain ⟨hQ8, hg8⟩ := hst.out q (wf32 ⟨hq0, hq1⟩)
      have HQ8 := Lib.hid hQ8
      have HO8 := Lib.hid (hO7.other hg8 (Ne.symm hne6))
      have HV8 := Lib.hid ((HV.out.other hgr hne5).other hg8 hne7)
      have HX8 := Lib.hid ((HX.out.grown hgr (fun k hk => by injection hk with hk; rw [← hk]; exact hg5w.out)).grown hg8 (fun k hk => by injection hk with hk; rw [← hk]; exact hgqw.out))
      have HI8 := Lib.hid (DivI.step (lb := p + 2) hI.out (dg32 HO.out.ints) (by rw [HO.out.len]; omega) HVB.out (by rw [hO7.len, HO.out.len]) (by rw [HQ.out.len]; omega) (by rw [← HRv.out.2.2]; exact h1) h2 (by rw [← HRv.out.2.2]; exact h3) (by rw [← HRv.out.2.2]; exact h5))
      clear hz hst hQ8 hg8 hO7 hgr h1 h2 h3 h4 h5
      go_wp2
      go_roundg (i + 1)
      case rel => exact ⟨i, zs', _, rfl, by omega, by go_num, HO8.out, HV8.out, HQ8.out, HI8.out, HX8.out⟩
      case measure => omega

/-- The quotient and the rest of two numbers. -/
theorem div_any (va vb : Value) (n m La : Nat) (w : World) (ha : W32 w va n) (hb : W32 w vb m) (hm : 0 < m) (hn : Fit 4294967296 n La) (hL : La ≤ 1099511627775) :
    Calls Try.prog 133 #[va, vb] w (RetD w (n / m) (n % m)) := by
  rcases Nat.lt_or_ge n m with hlt | hge
  · exact div_less va vb n m w ha hb hlt
  · obtain ⟨B, lb, cb, ys, rfl, hB, hry, hcb, hcbm⟩ := hb
    have hl0 : 0 < lb := by
      rcases Nat.eq_zero_or_pos lb with h | h
      · have h1 := hB.1
        rw [h] at h1
        have := (hry.pos (by omega)).2 (List.eq_nil_of_length_eq_zero h1)
        omega
      · exact h
    rcases (by omega : lb = 1 ∨ 2 ≤ lb) with h1 | h2
    · subst h1
      exact div_one va B cb ys n m La w ha hB hry hcb hcbm hge hn (by omega)
    · obtain ⟨p, rfl⟩ : ∃ p, lb = p + 2 := ⟨lb - 2, by omega⟩
      obtain ⟨A, la, ca, xs, rfl, hA, hrx, hca, hcam⟩ := ha
      exact div_long A B la ca cb p xs ys n m La w hA hrx hca hcam hB hry hcb hcbm hge hn hL

set_option maxHeartbeats 1000000 in
theorem gcd_any (va vb : Value) (n m La : Nat) (w : World) (ha : W32 w va n) (hb : W32 w vb m) (hn : Fit 4294967296 n La) (hm : Fit 4294967296 m La) (hL : La ≤ 1099511627775) :
    Calls Try.prog 132 #[va, vb] w (RetN .u32 4294967296 w (Nat.gcd n m)) := by
  have HA := Lib.hid ha
  have HB := Lib.hid hb
  clear ha hb
  go_enter Try.func132, Try.ntmps132
  go_wp2
  go_loopg [0, 1] m (fun g va vb wr => ∃ a b : Nat, g = b + 0 ∧ W32 wr va a ∧ W32 wr vb b ∧ Hid (Nat.gcd a b = Nat.gcd n m ∧ Fit 4294967296 a La ∧ Fit 4294967296 b La) ∧ Ext w wr)
  case atStart => exact ⟨n, m, rfl, HA.out, HB.out, ⟨rfl, hn, hm⟩, Ext.refl w⟩
  case round =>
    obtain ⟨a, b, hg, hA, hB, hG, hX⟩ := hrel
    have HA1 := Lib.hid hA
    have HX := Lib.hid hX
    have HG := Lib.hid hg
    obtain ⟨B, lb, cb, ys, hvb, hBi, hry, hcb, hcbm⟩ := hB
    subst hvb
    have HB1 := Lib.hid (⟨B, lb, cb, ys, rfl, hBi, hry, hcb, hcbm⟩ : W32 wr (.slice B lb cb) b)
    have HLB : Hid (ys.length = lb) := hBi.1
    have HRY := Lib.hid hry
    clear hA hX hBi hry hg
    rcases Nat.eq_zero_or_pos b with h0 | h0
    · have hl0 : lb = 0 := by
        have := (HRY.out.pos (by omega)).1 h0
        have h2 := HLB.out
        rw [this] at h2; simpa using h2.symm
      subst hl0
      have H0 := Lib.hid h0
      clear h0
      go_wp2
      go_ret
      refine ⟨_, rfl, ?_, HX.out⟩
      have := hG.out.1
      rw [H0.out, Nat.gcd_zero_right] at this
      rw [← this]
      exact HA1.out
    · have hl0 : 0 < lb := by
        rcases Nat.eq_zero_or_pos lb with h | h
        · have h1 := HLB.out
          rw [h] at h1
          have := (HRY.out.pos (by omega)).2 (List.eq_nil_of_length_eq_zero h1)
          omega
        · exact h
      go_wp2_with fail
      refine (div_any _ _ a b La _ HA1.out HB1.out h0 hG.out.2.1 hL).mono ?_
      rintro e w1 ⟨v1, v2, rfl, _, hv2, hX1⟩
      have HV2 := Lib.hid hv2
      have HX1 := Lib.hid hX1
      clear hv2 hX1
      go_wp2
      go_roundg (a % b)
      case rel =>
        refine ⟨b, a % b, rfl, W32.ext HB1.out HX1.out, HV2.out, ⟨?_, hG.out.2.2, hG.out.2.2.le (Nat.le_of_lt (Nat.mod_lt _ h0))⟩, HX.out.trans HX1.out⟩
        rw [← hG.out.1, Nat.gcd_comm b, ← Nat.gcd_rec, Nat.gcd_comm]
      case measure => rw [HG.out]; exact Nat.mod_lt _ h0
end Go.Proofs.Yteoijnaljkagfaa
