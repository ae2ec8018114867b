/- Walk: quotient of natural numbers (program): one digit of a long division. -/
import Derived.Test.YteoijnaljkagfaaN4
import Derived.Test.YteoijnaljkagfaaKnuth
import Derived.Test.YteoijnaljkagfaaN5a
import Derived.Deep.CutBlock
namespace Go.Proofs.Yteoijnaljkagfaa
open Go.RowKit

theorem OwnS.store' {k : IntKind} {e : TypeId} {base g : Nat} {w : World} {n c : Nat} {xs : List Int} (h : OwnS k e base w (some ⟨g, 0, none⟩) n c xs) {j : Nat} (hj : j < n) :
    ∃ x, xs[j]? = some x ∧ (Lit.int k x).wf = true ∧ w.cell? ⟨g, j, none⟩ = some (.int k x) ∧ w.frozen? ⟨g, j, none⟩ = false ∧ base ≤ g ∧
      Hid (∀ u, (Lit.int k u).wf = true → OwnS k e base (w.setCell ⟨g, j, none⟩ (.int k u)) (some ⟨g, 0, none⟩) n c (xs.set j u) ∧ w.grownBy (w.setCell ⟨g, j, none⟩ (.int k u)) (some g)) := by
  obtain ⟨g', x, hg, h1, h2, h3, h4, h5, h6⟩ := h.store hj
  obtain rfl : g = g' := by injection hg with hg; injection hg
  exact ⟨x, h1, h2, h3, h4, h5, fun u hu => ⟨h6.out u hu, (h.own.stored j (.int k u)).2⟩⟩
/-- A row of another block. -/
theorem OwnS.other {k : IntKind} {e : TypeId} {base g gv : Nat} {w w' : World} {n c : Nat} {xs : List Int} (h : OwnS k e base w (some ⟨gv, 0, none⟩) n c xs) (hg : w.grownBy w' (some g)) (hne : g ≠ gv) : OwnS k e base w' (some ⟨gv, 0, none⟩) n c xs :=
  ⟨h.own.kept hg (.inr (by simp [Value.ownBlock]; exact fun e => hne e.symm)), h.len, h.wf⟩

/-- What quotient leaves. -/
def RetQ (w : World) (base g off N c n : Nat) (zs : List Int) (V : Int) (e : Ending) (w' : World) : Prop :=
  ∃ (q : Int) (zs' : List Int), e = .returned (.int .u32 q) ∧ 0 ≤ q ∧ q < 4294967296 ∧ OwnS .u32 79 base w' (some ⟨g, 0, none⟩) N c zs' ∧ w.grownBy w' (some g) ∧
    val 4294967296 (zs'.drop off) = val 4294967296 (zs.drop off) - q * V ∧ zs'.take off = zs.take off ∧ val 4294967296 ((zs'.drop off).take (n + 1)) = val 4294967296 ((zs.drop off).take (n + 1)) - q * V ∧ 0 ≤ val 4294967296 ((zs'.drop off).take (n + 1)) ∧ val 4294967296 ((zs'.drop off).take (n + 1)) < V


theorem val_three {B : Int} {xs : List Int} {p : Nat} {a b c : Int} (ha : xs[p]? = some a) (hb : xs[p + 1]? = some b) (hc : xs[p + 2]? = some c) : val B (xs.take (p + 3)) = ((c * B + b) * B + a) * B ^ p + val B (xs.take p) := by
  rw [val_take_succ hc, val_take_succ hb, val_take_succ ha, Int.pow_succ, Int.pow_succ]; grind
theorem val_two {B : Int} {xs : List Int} {p : Nat} {a b : Int} (ha : xs[p]? = some a) (hb : xs[p + 1]? = some b) : val B (xs.take (p + 2)) = (b * B + a) * B ^ p + val B (xs.take p) := by
  rw [val_take_succ hb, val_take_succ ha, Int.pow_succ]; grind

/-- What is known of the digits and the numbers. -/
structure QF (P vt v2 Vl V un un1 u2 Ul U : Int) : Prop where
  hp : 0 < P
  vb : 2147483648 ≤ vt ∧ vt < 4294967296
  v2b : 0 ≤ v2 ∧ v2 < 4294967296
  vl : 0 ≤ Vl ∧ Vl < P
  v : V = (vt * 4294967296 + v2) * P + Vl
  ub : 0 ≤ un ∧ un < 4294967296
  u1b : 0 ≤ un1 ∧ un1 < 4294967296
  u2b : 0 ≤ u2 ∧ u2 < 4294967296
  ul : 0 ≤ Ul ∧ Ul < P
  u : U = ((un * 4294967296 + un1) * 4294967296 + u2) * P + Ul
  lt : U < 4294967296 * V
section
variable {P vt v2 Vl V un un1 u2 Ul U q r : Int}
theorem QF.top (h : QF P vt v2 Vl V un un1 u2 Ul U) : un ≤ vt := est_top rfl h.hp (by omega) h.u1b.1 h.u2b.1 h.v2b.2 h.vl.2 h.v h.ul.1 h.u h.lt
theorem QF.start (h : QF P vt v2 Vl V un un1 u2 Ul U) : U < ((un * 4294967296 + un1) / vt + 1) * V ∧ 0 ≤ (un * 4294967296 + un1) / vt ∧ (un * 4294967296 + un1) / vt ≤ 4294967297 := by
  have hb := h.vb
  have h0 := h.ub
  have h1 := h.u1b
  have ht := h.top
  refine ⟨est_start (by omega) h.hp (by omega) h.v2b.1 h.vl.1 h.v (by omega) h.u2b.2 h.ul.2 h.u, Int.ediv_nonneg (by omega) (by omega), ?_⟩
  have : (un * 4294967296 + un1) / vt < 4294967298 := Int.ediv_lt_of_lt_mul (by omega) (by omega)
  omega
theorem QF.big (h : QF P vt v2 Vl V un un1 u2 Ul U) (hr : q * vt + r = un * 4294967296 + un1) (hq : 4294967296 ≤ q) : r < 4294967296 ∧ U < q * V := by
  have hb := h.vb
  refine ⟨est_rest rfl h.top h.u1b.2 (by omega) hr hq (by omega), ?_⟩
  have hV : 0 ≤ V := by
    have h1 := h.v
    have h2 : 0 ≤ (vt * 4294967296 + v2) * P := Int.mul_nonneg (by have := h.v2b; omega) (by have := h.hp; omega)
    have := h.vl; omega
  have := Int.mul_le_mul_of_nonneg_right hq hV
  have := h.lt
  omega
theorem QF.down (h : QF P vt v2 Vl V un un1 u2 Ul U) (hr : q * vt + r = un * 4294967296 + un1) (hq : 0 ≤ q) (hd : r * 4294967296 + u2 < q * v2) : U < q * V :=
  est_down h.hp hq h.vl.1 h.v h.ul.2 h.u hr hd
theorem QF.stop (h : QF P vt v2 Vl V un un1 u2 Ul U) (hr : q * vt + r = un * 4294967296 + un1) (hq : 0 ≤ q) (hq1 : q < 4294967296) (hd : q * v2 ≤ r * 4294967296 + u2) : (q - 1) * V ≤ U :=
  est_stop (by omega) h.hp (by have := h.vb; omega) h.v2b.1 hq hq1 h.vl.1 h.vl.2 h.v h.ul.1 h.u hr hd
theorem QF.past (h : QF P vt v2 Vl V un un1 u2 Ul U) (hr : q * vt + r = un * 4294967296 + un1) (hq : 0 ≤ q) (hq1 : q < 4294967296) (hd : 4294967296 ≤ r) : (q - 1) * V ≤ U := by
  refine h.stop hr hq hq1 ?_
  have hb := h.v2b
  have h1 : q * v2 ≤ 4294967295 * v2 := Int.mul_le_mul_of_nonneg_right (by omega) hb.1
  have := h.u2b
  omega
theorem step_down (hr : q * vt + r = un * 4294967296 + un1) : (q - 1) * vt + (r + vt) = un * 4294967296 + un1 := by grind
end

theorem int_val {k : IntKind} {a b : Int} (h : a = b) : Value.int k a = .int k b := by rw [h]
/-- What the multiplication and subtraction have done so far. -/
def MS (off p : Nat) (q : Int) (k : Nat) (b : Int) (zs zs1 vs : List Int) : Prop :=
  val 4294967296 (zs1.drop off) = val 4294967296 (zs.drop off) - q * val 4294967296 (vs.take k) + b * 4294967296 ^ k ∧ zs1.take off = zs.take off ∧ zs1.drop (off + p + 3) = zs.drop (off + p + 3)
theorem drop_set_val {zs : List Int} {off k : Nat} {x : Int} (h : zs[off + k]? = some x) (u : Int) : val 4294967296 ((zs.set (off + k) u).drop off) = val 4294967296 (zs.drop off) + 4294967296 ^ k * (u - x) := by
  rw [List.drop_set, if_neg (by omega), show off + k - off = k by omega]
  exact val_set (by rw [List.getElem?_drop]; exact h) u
theorem MS.step {off p : Nat} {q : Int} {k : Nat} {ca bo ca' bo' : Int} {zs zs1 vs : List Int} {vk uk u' : Int} (h : MS off p q k (ca + bo) zs zs1 vs) (hvk : vs[k]? = some vk) (huk : zs1[off + k]? = some uk) (hk : k < p + 3)
    (hu : u' = uk - (q * vk + ca - ca' * 4294967296) - bo + bo' * 4294967296) : MS off p q (k + 1) (ca' + bo') zs (zs1.set (off + k) u') vs := by
  obtain ⟨h1, h2, h3⟩ := h
  refine ⟨?_, by rw [List.take_set_of_le (by omega), h2], by rw [List.drop_set_of_lt (by omega), h3]⟩
  rw [drop_set_val huk, h1, val_take_succ hvk, Int.pow_succ]
  grind

/-- What has been done behind the last digit. -/
def MF (off p : Nat) (T e : Int) (zs zs2 : List Int) : Prop :=
  val 4294967296 (zs2.drop off) = val 4294967296 (zs.drop off) - T + e * 4294967296 ^ (p + 3) ∧ zs2.take off = zs.take off ∧ zs2.drop (off + p + 3) = zs.drop (off + p + 3)
theorem MS.fin {off p : Nat} {q b e V uk u' : Int} {zs zs1 vs : List Int} (h : MS off p q (p + 2) b zs zs1 vs) (hv : val 4294967296 vs = V) (hl : vs.length = p + 2) (huk : zs1[off + (p + 2)]? = some uk) (hu : u' = uk - b + e * 4294967296) : MF off p (q * V) e zs (zs1.set (off + (p + 2)) u') := by
  obtain ⟨h1, h2, h3⟩ := h
  rw [val_take_all (by omega), hv] at h1
  refine ⟨?_, by rw [List.take_set_of_le (by omega), h2], by rw [List.drop_set_of_lt (by omega), h3]⟩
  rw [drop_set_val huk, h1, Int.pow_succ]
  grind
theorem MF.window {off p : Nat} {T e : Int} {zs zs2 : List Int} (h : MF off p T e zs zs2) (hl : off + p + 3 ≤ zs.length) (hl2 : zs2.length = zs.length) : val 4294967296 ((zs2.drop off).take (p + 3)) = val 4294967296 ((zs.drop off).take (p + 3)) - T + e * 4294967296 ^ (p + 3) := by
  obtain ⟨h1, h2, h3⟩ := h
  rw [val_split (zs2.drop off) (k := p + 3) (by rw [List.length_drop]; omega), val_split (zs.drop off) (k := p + 3) (by rw [List.length_drop]; omega), List.drop_drop, List.drop_drop, show off + (p + 3) = off + p + 3 by omega, h3] at h1
  omega
theorem window_range {off p : Nat} {zs : List Int} (hd : Dg 4294967296 zs) (hl : off + p + 3 ≤ zs.length) : 0 ≤ val 4294967296 ((zs.drop off).take (p + 3)) ∧ val 4294967296 ((zs.drop off).take (p + 3)) < 4294967296 ^ (p + 3) := by
  have h1 := val_lt (B := 4294967296) (by omega) ((hd.drop off).take (p + 3))
  rw [List.length_take, List.length_drop, Nat.min_eq_left (by omega)] at h1
  exact ⟨val_nonneg (by omega) ((hd.drop off).take _), h1⟩
/-- Behind the adding back. -/
theorem back_fin {off p : Nat} {q cc V U un u' : Int} {zs zs2 zs3 vs : List Int} (h2 : MF off p (q * V) 1 zs zs2) (h3 : MS off p (-1) (p + 2) (-cc) zs2 zs3 vs) (hv : val 4294967296 vs = V) (hl : vs.length = p + 2) (hun : zs3[off + (p + 2)]? = some un) (hub : 0 ≤ un ∧ un < 4294967296) (hcc : 0 ≤ cc ∧ cc ≤ 1)
    (hu : u' = (un + cc) % 4294967296) (hU : val 4294967296 ((zs.drop off).take (p + 3)) = U) (hqU : (q - 1) * V ≤ U) (hlz : off + p + 3 ≤ zs.length) (hl2 : zs2.length = zs.length) (hl3 : zs3.length = zs.length) (hd2 : Dg 4294967296 zs2) (hd4 : Dg 4294967296 (zs3.set (off + (p + 2)) u')) :
    MF off p ((q - 1) * V) 0 zs (zs3.set (off + (p + 2)) u') ∧ U < q * V := by
  have hw2 := h2.window hlz hl2
  rw [hU] at hw2
  have hr2 := window_range hd2 (off := off) (p := p) (by omega)
  have hlt : U < q * V := by omega
  refine ⟨?_, hlt⟩
  have key : ∀ e : Int, u' = un - -cc + e * 4294967296 → MF off p (-1 * V) e zs2 (zs3.set (off + (p + 2)) u') := fun e he => h3.fin hv hl hun he
  have hr4 := window_range hd4 (off := off) (p := p) (by rw [List.length_set]; omega)
  rcases Int.lt_or_le (un + cc) 4294967296 with h | h
  · exfalso
    have h4 := (key 0 (by omega)).window (by omega) (by rw [List.length_set, hl3, hl2])
    have e1 : (q - 1) * V = q * V - V := by grind
    omega
  · have h4 := key (-1) (by omega)
    obtain ⟨a1, a2, a3⟩ := h4
    obtain ⟨b1, b2, b3⟩ := h2
    exact ⟨by rw [a1, b1]; grind, a2.trans b2, a3.trans b3⟩

set_option maxRecDepth 100000 in
set_option maxHeartbeats 4000000 in
theorem quotient_any (base g off N c cu gv p cv : Nat) (zs vs : List Int) (w : World) (hO : OwnS .u32 79 base w (some ⟨g, 0, none⟩) N c zs) (hV : OwnS .u32 79 base w (some ⟨gv, 0, none⟩) (p + 2) cv vs) (hne : g ≠ gv)
    (hoff : off + p + 2 < N) (hN : N ≤ 4398046511104) (vt : Int) (hvt : vs[p + 1]? = some vt) (hvb : 2147483648 ≤ vt) (hU : val 4294967296 ((zs.drop off).take (p + 3)) < 4294967296 * val 4294967296 vs) :
    Calls Try.prog 140 #[.slice (some ⟨g, off, none⟩) (p + 3) cu, .slice (some ⟨gv, 0, none⟩) (p + 2) cv] w (RetQ w base g off N c (p + 2) zs (val 4294967296 vs)) := by
  obtain ⟨u2, hu2, hwu2, hcu2, _⟩ := hO.store' (j := off + p) (by omega)
  obtain ⟨un1, hun1, hwun1, hcun1, _⟩ := hO.store' (j := off + (p + 1)) (by omega)
  obtain ⟨un, hun, hwun, hcun, _⟩ := hO.store' (j := off + (p + 2)) (by omega)
  obtain ⟨v2, hv2, hwv2, hcv2, _⟩ := hV.store' (j := p) (by omega)
  obtain ⟨vt', hvt', hwvt, hcvt, _⟩ := hV.store' (j := p + 1) (by omega)
  obtain rfl : vt = vt' := by rw [hvt] at hvt'; exact Option.some.inj hvt'
  obtain ⟨hu20, hu21⟩ := u32_bounds hwu2
  obtain ⟨hun10, hun11⟩ := u32_bounds hwun1
  obtain ⟨hun0, hunn⟩ := u32_bounds hwun
  obtain ⟨hv20, hv21⟩ := u32_bounds hwv2
  obtain ⟨hvt0, hvt1⟩ := u32_bounds hwvt
  obtain ⟨U, hUe⟩ : ∃ U, val 4294967296 ((zs.drop off).take (p + 3)) = U := ⟨_, rfl⟩
  obtain ⟨V, hVe⟩ : ∃ V, val 4294967296 vs = V := ⟨_, rfl⟩
  rw [hUe, hVe] at hU
  have hF : QF (4294967296 ^ p) vt v2 (val 4294967296 (vs.take p)) V un un1 u2 (val 4294967296 ((zs.drop off).take p)) U := by
    have hdz := (dg32 hO.ints).drop off
    have hdv := dg32 hV.ints
    have l1 := val_lt (B := 4294967296) (by omega) (hdv.take p)
    have l2 := val_lt (B := 4294967296) (by omega) (hdz.take p)
    rw [List.length_take, hV.len, Nat.min_eq_left (by omega)] at l1
    rw [List.length_take, List.length_drop, hO.len, Nat.min_eq_left (by omega)] at l2
    refine ⟨pow_pos' (by omega) p, by omega, by omega, ⟨val_nonneg (by omega) (hdv.take p), l1⟩, ?_, by omega, by omega, by omega, ⟨val_nonneg (by omega) (hdz.take p), l2⟩, ?_, hU⟩
    · rw [← hVe, ← val_two hv2 hvt, val_take_all (by rw [hV.len]; exact Nat.le_refl _)]
    · rw [← hUe]
      exact val_three (by rw [List.getElem?_drop]; exact hu2) (by rw [List.getElem?_drop]; exact hun1) (by rw [List.getElem?_drop]; exact hun)
  have hor : bits .or .u64 (un * 4294967296) un1 = un * 4294967296 + un1 := or64_add 32 (by omega) (by omega) (by omega) (by omega)
  obtain ⟨hs1, hs2, hs3⟩ := hF.start
  have hrt := Int.emod_add_mul_ediv (un * 4294967296 + un1) vt
  have hrt0 := Int.emod_nonneg (un * 4294967296 + un1) (show vt ≠ 0 by omega)
  have hrt1 := Int.emod_lt_of_pos (un * 4294967296 + un1) (show 0 < vt by omega)
  obtain ⟨top, htop⟩ : ∃ t, un * 4294967296 + un1 = t := ⟨_, rfl⟩
  have htp0 : 0 ≤ top := by omega
  have htp1 : top ≤ 18446744073709551615 := by omega
  rw [htop] at hor hs1 hs2 hs3 hrt hrt0 hrt1
  have HTOP := Lib.hid htop
  have HF := Lib.hid hF
  have HUe := Lib.hid hUe
  have HVe := Lib.hid hVe
  have HS1 := Lib.hid hs1
  have HRT : Hid (top / vt * vt + top % vt = un * 4294967296 + un1) := by show _ = _; rw [Int.mul_comm, Int.add_comm, hrt, htop]
  have HO := Lib.hid hO
  have HV := Lib.hid hV
  clear hO hV hU hu2 hun1 hun hv2 hvt hvt' hwu2 hwun1 hwun hwv2 hwvt hUe hVe hF hs1 htop hrt
  go_enter Try.func140, Try.ntmps140
  go_wp2_with fail
  go_quiet (fail)
  go_upto_block 0 with (fail)
  simp only [show p + 2 - 1 = p + 1 from rfl]
  go_cut [7] (fun s7 wx => ∃ q : Int, s7 = .int .u64 q ∧ 0 ≤ q ∧ q ≤ 4294967295 ∧ Hid ((q - 1) * V ≤ U ∧ U < (q + 1) * V) ∧ Ext w wx)
  case first =>
    go_wp2_with fail
    go_loopg [7, 8] (top / vt).toNat (fun g s7 s8 wr => ∃ q r : Int, g = q.toNat ∧ s7 = .int .u64 q ∧ s8 = .int .u64 r ∧ 0 ≤ q ∧ q ≤ 4294967297 ∧ 0 ≤ r ∧ r ≤ 4294967295 ∧ Hid (q * vt + r = un * 4294967296 + un1 ∧ U < (q + 1) * V) ∧ Ext w wr)
    case atStart => exact ⟨_, _, rfl, rfl, rfl, hs2, hs3, hrt0, by omega, ⟨HRT.out, HS1.out⟩, (Ext.refl w).drewN _⟩
    case round =>
      obtain ⟨q, r, rfl, rfl, rfl, hq0, hq1, hr0, hr1, hqr, hX⟩ := hrel
      have hcu2' := hX.cell hcu2
      have hcv2' := hX.cell hcv2
      have hcvt' := hX.cell hcvt
      have HX := Lib.hid hX
      clear hX hcu2 hcun1 hcun hcv2 hcvt hor hs2 hs3 hrt0 hrt1
      have hp0 : (0 : Int) ≤ (p : Int) := by omega
      by_cases hbig : 4294967296 ≤ q
      · have hgd : decide ((4294967296 : Int) ≤ q) = true := by simpa using hbig
        obtain ⟨hbr, hbU⟩ := HF.out.big hqr.out.1 hbig
        have hstep := step_down hqr.out.1
        have HN : Hid ((q - 1) * vt + (r + vt) = un * 4294967296 + un1 ∧ U < (q - 1 + 1) * V) := ⟨hstep, by rw [show q - 1 + 1 = q by omega]; exact hbU⟩
        have hlow : 4294967296 ≤ r + vt → q - 1 ≤ 4294967295 := fun h => by
          rcases Int.lt_or_le (q - 1) 4294967296 with h1 | h1
          · omega
          · have := (HF.out.big hstep h1).1; omega
        clear hbr hbU hstep
        go_wp2_with fail
        go_quiet (fail)
        by_cases hbk : 4294967296 ≤ r + vt
        · have hq2 := hlow hbk
          clear hlow
          go_wp2
          go_meet
          exact ⟨q - 1, rfl, by omega, hq2, ⟨HF.out.past HN.out.1 (by omega) (by omega) hbk, HN.out.2⟩, HX.out.drewN _⟩
        · clear hlow
          go_wp2
          go_roundg (q - 1).toNat
          case rel => exact ⟨q - 1, r + vt, rfl, rfl, rfl, by omega, by omega, by omega, by omega, HN, HX.out.drewN _⟩
          case measure => omega
      · have hgd : decide ((4294967296 : Int) ≤ q) = false := by simpa using hbig
        have hqb : q ≤ 4294967295 := by omega
        obtain ⟨hm0, hm1⟩ := prod_range ⟨hq0, hqb⟩ ⟨hv20, hv21⟩
        have hor : bits .or .u64 (r * 4294967296) u2 = r * 4294967296 + u2 := or64_add 32 (by omega) (by omega) (by omega) (by omega)
        by_cases hdn : r * 4294967296 + u2 < q * v2
        · have hq1' : 1 ≤ q := by
            rcases Int.lt_or_le q 1 with h | h
            · have : q = 0 := by omega
              subst this; simp at hdn; omega
            · exact h
          have hbU := HF.out.down hqr.out.1 hq0 hdn
          have HN : Hid ((q - 1) * vt + (r + vt) = un * 4294967296 + un1 ∧ U < (q - 1 + 1) * V) := ⟨step_down hqr.out.1, by rw [show q - 1 + 1 = q by omega]; exact hbU⟩
          clear hbU
          go_wp2_with fail
          go_quiet (fail)
          by_cases hbk : 4294967296 ≤ r + vt
          · go_wp2
            go_meet
            exact ⟨q - 1, rfl, by omega, by omega, ⟨HF.out.past HN.out.1 (by omega) (by omega) hbk, HN.out.2⟩, HX.out.drewN _⟩
          · go_wp2
            go_roundg (q - 1).toNat
            case rel => exact ⟨q - 1, r + vt, rfl, rfl, rfl, by omega, by omega, by omega, by omega, HN, HX.out.drewN _⟩
            case measure => omega
        · have HN : Hid ((q - 1) * V ≤ U ∧ U < (q + 1) * V) := ⟨HF.out.stop hqr.out.1 hq0 (by omega) (by omega), hqr.out.2⟩
          go_wp2_with fail
          go_quiet (fail)
          go_wp2
          go_meet
          exact ⟨q, rfl, hq0, hqb, HN, HX.out.drewN _⟩
  case rest =>
    obtain ⟨q, rfl, hq0, hq1, hqV, hX⟩ := hcut
    have HX := Lib.hid hX
    clear hX hcu2 hcun1 hcun hcv2 hcvt hor hs2 hs3 hrt0 hrt1 HRT HS1
    go_wp2_with fail
    go_loopg [9, 10, 84] (p + 2) (fun g' s9 s10 s84 wr => ∃ (k : Nat) (bo ca : Int) (zs1 : List Int), g' = p + 2 - k ∧ k ≤ p + 2 ∧ s9 = .int .u64 bo ∧ s10 = .int .u64 ca ∧ s84 = .int .i64 k ∧ 0 ≤ bo ∧ bo ≤ 1 ∧ 0 ≤ ca ∧ ca ≤ 4294967295 ∧ OwnS .u32 79 base wr (some ⟨g, 0, none⟩) N c zs1 ∧ Hid (MS off p q k (ca + bo) zs zs1 vs) ∧ wc.grownBy wr (some g))
    case atStart => exact ⟨0, 0, 0, zs, rfl, by omega, rfl, rfl, rfl, by omega, by omega, by omega, by omega, HO.out.ext HX.out, ⟨by simp [val], rfl, rfl⟩, World.grownBy.refl _ _⟩
    case round =>
      obtain ⟨k, bo, ca, zs1, rfl, hk, rfl, rfl, rfl, hb0, hb1, hc0, hc1, hO1, hM, hgr⟩ := hrel
      have HO1 := Lib.hid hO1
      have HG := Lib.hid hgr
      have HV1 := Lib.hid ((HV.out.ext HX.out).other hgr hne)
      clear hO1 hgr
      by_cases hlt : k < p + 2
      · obtain ⟨vk, hvk, hwv, hcv, _⟩ := HV1.out.store' hlt
        obtain ⟨uk, huk, hwu, hcu, hfu, _, hst⟩ := HO1.out.store' (j := off + k) (by omega)
        obtain ⟨hvk0, hvk1⟩ := u32_bounds hwv
        obtain ⟨huk0, huk1⟩ := u32_bounds hwu
        obtain ⟨hm0, hm1⟩ := prod_range ⟨hq0, hq1⟩ ⟨hvk0, hvk1⟩
        have hk0 : (0 : Int) ≤ (k : Int) := by omega
        have hk1 : (k : Int) < (p : Int) + 2 := by omega
        have hk2 : (k : Int) < (p : Int) + 3 := by omega
        obtain ⟨pk, hpk⟩ : ∃ pk, q * vk + ca = pk := ⟨_, rfl⟩
        have hpk0 : 0 ≤ pk := by omega
        have hpk1 : pk ≤ 18446744069414584320 := by omega
        have HVK := Lib.hid hvk
        have HUK := Lib.hid huk
        have HPK := Lib.hid hpk
        clear hvk hwv huk hwu
        by_cases hn : 0 ≤ uk - pk % 4294967296 - bo
        · obtain ⟨hS, hSg⟩ := hst.out (uk - pk % 4294967296 - bo) (wf32 (by omega))
          have HS := Lib.hid hS
          have HSg := Lib.hid (HG.out.trans hSg)
          clear hS hSg hst
          go_wp2
          go_roundg (p + 2 - (k + 1))
          case rel => exact ⟨k + 1, 0, pk / 4294967296, _, rfl, by omega, int_val (by omega), rfl, by go_num, by omega, by omega, by omega, by omega, HS.out, MS.step hM.out HVK.out HUK.out (by omega) (by rw [HPK.out]; omega), HSg.out⟩
          case measure => omega
        · obtain ⟨hS, hSg⟩ := hst.out (uk - pk % 4294967296 - bo + 4294967296) (wf32 (by omega))
          have HS := Lib.hid hS
          have HSg := Lib.hid (HG.out.trans hSg)
          obtain ⟨t, ht⟩ : ∃ t, IntKind.u64.wrap (IntKind.u64.wrap (uk - pk % 4294967296) - bo) = t := ⟨_, rfl⟩
          have ht0 : t = uk - pk % 4294967296 - bo + 18446744073709551616 := by
            rw [← ht, IntKind.wrap_u64, IntKind.wrap_u64]; omega
          have ht1 : 9223372036854775808 ≤ t := by omega
          have ht2 : t ≤ 18446744073709551615 := by omega
          have ht3 : t % 4294967296 = uk - pk % 4294967296 - bo + 4294967296 := by omega
          have HT3 := Lib.hid ht3
          clear hS hSg hst ht0 ht3
          go_wp2
          go_roundg (p + 2 - (k + 1))
          case rel => exact ⟨k + 1, 1, pk / 4294967296, _, rfl, by omega, int_val (by omega), rfl, by go_num, by omega, by omega, by omega, by omega, by rw [HT3.out]; exact HS.out, MS.step hM.out HVK.out HUK.out (by omega) (by rw [HPK.out]; omega), by rw [HT3.out]; exact HSg.out⟩
          case measure => omega
      · obtain rfl : k = p + 2 := by omega
        obtain ⟨uk, huk, hwu, hcu, hfu, _, hst⟩ := HO1.out.store' (j := off + (p + 2)) (by omega)
        obtain ⟨huk0, huk1⟩ := u32_bounds hwu
        have HUK := Lib.hid huk
        clear huk hwu
        by_cases hn : 0 ≤ uk - ca - bo
        · obtain ⟨hS, hSg⟩ := hst.out (uk - ca - bo) (wf32 (by omega))
          have HS := Lib.hid hS
          have HSg' := Lib.hid (((Ext.row HX.out (some g)).trans HG.out).trans hSg)
          have hz : ((uk - ca - bo) / 9223372036854775808 == 0) = true := by simp; omega
          clear hS hSg hst
          go_wp2
          go_ret
          have hfin := hM.out.fin (e := 0) HVe.out HV.out.len HUK.out (u' := uk - ca - bo) (by omega)
          have hwin := hfin.window (by rw [HO.out.len]; omega) (by rw [List.length_set, HO1.out.len, HO.out.len])
          have hrng := window_range (off := off) (p := p) (dg32 HS.out.ints) (by rw [HS.out.len]; omega)
          rw [HUe.out] at hwin
          have hq2 := hqV.out.2
          have e1 : (q + 1) * V = q * V + V := by grind
          refine ⟨q, _, rfl, hq0, by omega, HS.out, HSg'.out, ?_, hfin.2.1, ?_, hrng.1, ?_⟩
          · rw [HVe.out, hfin.1]; omega
          · rw [HVe.out, HUe.out, hwin]; omega
          · rw [HVe.out, hwin]; omega
        · obtain ⟨hS, hSg⟩ := hst.out (uk - ca - bo + 4294967296) (wf32 (by omega))
          have HS := Lib.hid hS
          have HSg := Lib.hid (HG.out.trans hSg)
          obtain ⟨t, ht⟩ : ∃ t, IntKind.u64.wrap (IntKind.u64.wrap (uk - ca) - bo) = t := ⟨_, rfl⟩
          have ht0 : t = uk - ca - bo + 18446744073709551616 := by
            rw [← ht, IntKind.wrap_u64, IntKind.wrap_u64]; omega
          have ht1 : 9223372036854775808 ≤ t := by omega
          have ht2 : t ≤ 18446744073709551615 := by omega
          have ht3 : t % 4294967296 = uk - ca - bo + 4294967296 := by omega
          have hz : (t / 9223372036854775808 == 0) = false := by simp; omega
          have HT3 := Lib.hid ht3
          have HMF := Lib.hid (hM.out.fin (e := 1) HVe.out HV.out.len HUK.out (u' := uk - ca - bo + 4294967296) (by omega))
          clear hS hSg hst ht0 ht3
          go_wp2_with fail
          rw [HT3.out]
          obtain ⟨w2, hw2⟩ : ∃ w2, w2 = wr.setCell ⟨g, off + (p + 2), none⟩ (.int .u32 (uk - ca - bo + 4294967296)) := ⟨_, rfl⟩
          rw [← hw2] at HS HSg ⊢
          have HZL : Hid (zs.length = N) := HO.out.len
          obtain ⟨zs2, hz2⟩ : ∃ zs2, zs1.set (off + (p + 2)) (uk - ca - bo + 4294967296) = zs2 := ⟨_, rfl⟩
          rw [hz2] at HS HMF
          clear hw2 hz2 hcu hfu HUK hz ht ht1 ht2 HT3
          have hp3 : (p : Int) + 2 < (p : Int) + 3 := by omega
          go_loopg [15, 138] (p + 2) (fun g' s15 s138 wq => ∃ (k : Nat) (cc : Int) (zs3 : List Int), g' = p + 2 - k ∧ k ≤ p + 2 ∧ s15 = .int .u32 cc ∧ s138 = .int .i64 k ∧ 0 ≤ cc ∧ cc ≤ 1 ∧ OwnS .u32 79 base wq (some ⟨g, 0, none⟩) N c zs3 ∧ Hid (MS off p (-1) k (-cc) zs2 zs3 vs) ∧ wc.grownBy wq (some g))
          case atStart => exact ⟨0, 0, zs2, rfl, by omega, rfl, rfl, by omega, by omega, HS.out, ⟨by simp [val], rfl, rfl⟩, HSg.out⟩
          case round =>
            obtain ⟨k, cc, zs3, rfl, hk, rfl, rfl, hcc0, hcc1, hO3, hM3, hgr⟩ := hrel
            have HO3 := Lib.hid hO3
            have HG3 := Lib.hid hgr
            have HV3 := Lib.hid ((HV.out.ext HX.out).other hgr hne)
            clear hO3 hgr
            by_cases hlt : k < p + 2
            · obtain ⟨vk, hvk, hwv, hcv, _⟩ := HV3.out.store' hlt
              obtain ⟨uk', huk, hwu, hcu, hfu, _, hst⟩ := HO3.out.store' (j := off + k) (by omega)
              obtain ⟨hvk0, hvk1⟩ := u32_bounds hwv
              obtain ⟨huk0, huk1⟩ := u32_bounds hwu
              have hk0 : (0 : Int) ≤ (k : Int) := by omega
              have hk1 : (k : Int) < (p : Int) + 2 := by omega
              have hk2 : (k : Int) < (p : Int) + 3 := by omega
              obtain ⟨hS3, hSg3⟩ := hst.out ((uk' + vk + cc) % 4294967296) (wf32 (by omega))
              have HS3 := Lib.hid hS3
              have HSg3 := Lib.hid (HG3.out.trans hSg3)
              have HM4 := Lib.hid (MS.step (ca := -cc) (bo := 0) (ca' := -((uk' + vk + cc) / 4294967296)) (bo' := 0) (u' := (uk' + vk + cc) % 4294967296) (by have := hM3.out; rw [Int.add_zero]; exact this) hvk huk (by omega) (by omega))
              clear hS3 hSg3 hst hvk huk hwv hwu
              go_wp2_with fail
              refine quotient_r27 g off gv p cu cv k uk' vk cc wr hcu hcv hfu huk0 huk1 hvk0 hvk1 hcc0 hcc1 hk0 hk1 hk2 _ _ (by simp) rfl rfl rfl rfl ?_
              rintro _ _ _ _ _ _ _ _ _ _ _ _ _ _ _ _ x16 _ rfl rfl rfl rfl rfl rfl rfl rfl rfl rfl rfl rfl rfl rfl rfl rfl _ rfl
              simp only [rops, Try.f140, regOf, Option.bind_some, Nat.reduceBEq, if_true, if_false, Bool.false_eq_true, Option.getD_some, List.drop_succ_cons, List.drop_zero]
              simp only [Act.put, List.setIfInBounds_toArray, List.set_cons_succ, List.set_cons_zero]
              go_wp2
              go_roundg (p + 2 - (k + 1))
              case rel => exact ⟨k + 1, (uk' + vk + cc) / 4294967296, _, rfl, by omega, rfl, by go_num, by omega, by omega, HS3.out.ext ((Ext.refl _).drew), by have := HM4.out; rw [Int.add_zero] at this; exact this, HSg3.out.trans (Ext.row ((Ext.refl _).drew) _)⟩
              case measure => omega
            · obtain rfl : k = p + 2 := by omega
              obtain ⟨uk', huk, hwu, hcu, hfu, _, hst⟩ := HO3.out.store' (j := off + (p + 2)) (by omega)
              obtain ⟨huk0, huk1⟩ := u32_bounds hwu
              obtain ⟨hS3, hSg3⟩ := hst.out ((uk' + cc) % 4294967296) (wf32 (by omega))
              obtain ⟨hfin, hUq⟩ := back_fin HMF.out hM3.out HVe.out HV.out.len huk ⟨huk0, by omega⟩ ⟨hcc0, hcc1⟩ rfl HUe.out hqV.out.1 (by rw [HZL.out]; omega) (by rw [HS.out.len, HZL.out]) (by rw [HO3.out.len, HZL.out]) (dg32 HS.out.ints) (dg32 hS3.ints)
              have hq1' : 1 ≤ q := by
                rcases Int.lt_or_le q 1 with h | h
                · have hq00 : q = 0 := by omega
                  subst hq00
                  have := (HF.out.lt)
                  have h1 := hqV.out.1
                  rw [Int.zero_mul] at hUq
                  have h2 := window_range (off := off) (p := p) (dg32 HO.out.ints) (by rw [HO.out.len]; omega)
                  rw [HUe.out] at h2
                  omega
                · exact h
              have HS3 := Lib.hid hS3
              have HSg3 := Lib.hid (((Ext.row HX.out (some g)).trans HG3.out).trans hSg3)
              have HFIN := Lib.hid hfin
              have HUQ := Lib.hid hUq
              clear hS3 hSg3 hst huk hwu hfin hUq
              go_wp2
              go_ret
              have hwin := HFIN.out.window (by rw [HZL.out]; omega) (by rw [List.length_set, HO3.out.len, HZL.out])
              have hrng := window_range (off := off) (p := p) (dg32 HS3.out.ints) (by rw [HS3.out.len]; omega)
              rw [HUe.out] at hwin
              have hq2 := HUQ.out
              have e1 : (q - 1) * V = q * V - V := by grind
              refine ⟨q - 1, _, rfl, by omega, by omega, HS3.out, HSg3.out, ?_, HFIN.out.2.1, ?_, hrng.1, ?_⟩
              · rw [HVe.out, HFIN.out.1]; omega
              · rw [HVe.out, HUe.out, hwin]; omega
              · rw [HVe.out, hwin]; omega
end Go.Proofs.Yteoijnaljkagfaa
