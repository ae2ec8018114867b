/- Lemmas of the proof that follows (Circles, part 3): walks of functions by contract, and plain lemmas. Conditions: none. -/
import Derived.Test.YteoijnaljkagfaaCirclesB
namespace Go.Proofs.Yteoijnaljkagfaa
open Go.RowKit

theorem OwnS.store' {k : IntKind} {e : TypeId} {base g : Nat} {w : World} {n c : Nat} {xs : List Int} (h : OwnS k e base w (some ⟨g, 0, none⟩) n c xs) {j : Nat} (hj : j < n) :
    ∃ x, xs[j]? = some x ∧ (Lit.int k x).wf = true ∧ w.cell? ⟨g, j, none⟩ = some (.int k x) ∧ w.frozen? ⟨g, j, none⟩ = false ∧ base ≤ g ∧
      Hid (∀ u, (Lit.int k u).wf = true → OwnS k e base (w.setCell ⟨g, j, none⟩ (.int k u)) (some ⟨g, 0, none⟩) n c (xs.set j u) ∧ w.grownBy (w.setCell ⟨g, j, none⟩ (.int k u)) (some g)) := by
  obtain ⟨g', x, hg, h1, h2, h3, h4, h5, h6⟩ := h.store hj
  obtain rfl : g = g' := by injection hg with hg; injection hg
  exact ⟨x, h1, h2, h3, h4, h5, fun u hu => ⟨h6.out u hu, (h.own.stored j (.int k u)).2⟩⟩
/-- A row of another block. -/
theorem OwnS.other {k : IntKind} {e : TypeId} {base g gv : Nat} {w w' : World} {n c : Nat} {xs : List Int} (h : OwnS k e base w (some ⟨gv, 0, none⟩) n c xs) (hg : w.grownBy w' (some g)) (hne : g ≠ gv) : OwnS k e base w' (some ⟨gv, 0, none⟩) n c xs :=
  ⟨h.own.kept hg (.inr (by simp [Value.ownBlock]; exact fun e => hne e.symm)), h.len, h.wf⟩

/-- What quotient leaves. -/
def RetQ (w : World) (base g off N c n : Nat) (zs : List Int) (V : Int) (e : Ending) (w' : World) : Prop :=
  ∃ (q : Int) (zs' : List Int), e = .returned (.int .u32 q) ∧ 0 ≤ q ∧ q < 4294967296 ∧ OwnS .u32 79 base w' (some ⟨g, 0, none⟩) N c zs' ∧ w.grownBy w' (some g) ∧
    val 4294967296 (zs'.drop off) = val 4294967296 (zs.drop off) - q * V ∧ zs'.take off = zs.take off ∧ val 4294967296 ((zs'.drop off).take (n + 1)) = val 4294967296 ((zs.drop off).take (n + 1)) - q * V ∧ 0 ≤ val 4294967296 ((zs'.drop off).take (n + 1)) ∧ val 4294967296 ((zs'.drop off).take (n + 1)) < V


theorem val_three {B : Int} {xs : List Int} {p : Nat} {a b c : Int} (ha : xs[p]? = some a) (hb : xs[p + 1]? = some b) (hc : xs[p + 2]? = some c) : val B (xs.take (p + 3)) = ((c * B + b) * B + a) * B ^ p + val B (xs.take p) := by
  rw [val_take_succ hc, val_take_succ hb, val_take_succ ha, Int.pow_succ, Int.pow_succ]; grind
theorem val_two {B : Int} {xs : List Int} {p : Nat} {a b : Int} (ha : xs[p]? = some a) (hb : xs[p + 1]? = some b) : val B (xs.take (p + 2)) = (b * B + a) * B ^ p + val B (xs.take p) := by
  rw [val_take_succ hb, val_take_succ ha, Int.pow_succ]; grind

/-- What is known of the digits and the numbers. -/
structure QF (P vt v2 Vl V un un1 u2 Ul U : Int) : Prop where
  hp : 0 < P
  vb : 2147483648 ≤ vt ∧ vt < 4294967296
  v2b : 0 ≤ v2 ∧ v2 < 4294967296
  vl : 0 ≤ Vl ∧ Vl < P
  v : V = (vt * 4294967296 + v2) * P + Vl
  ub : 0 ≤ un ∧ un < 4294967296
  u1b : 0 ≤ un1 ∧ un1 < 4294967296
  u2b : 0 ≤ u2 ∧ u2 < 4294967296
  ul : 0 ≤ Ul ∧ Ul < P
  u : U = ((un * 4294967296 + un1) * 4294967296 + u2) * P + Ul
  lt : U < 4294967296 * V
section
variable {P vt v2 Vl V un un1 u2 Ul U q r : Int}
theorem QF.top (h : QF P vt v2 Vl V un un1 u2 Ul U) : un ≤ vt := est_top rfl h.hp (by omega) h.u1b.1 h.u2b.1 h.v2b.2 h.vl.2 h.v h.ul.1 h.u h.lt
theorem QF.start (h : QF P vt v2 Vl V un un1 u2 Ul U) : U < ((un * 4294967296 + un1) / vt + 1) * V ∧ 0 ≤ (un * 4294967296 + un1) / vt ∧ (un * 4294967296 + un1) / vt ≤ 4294967297 := by
  have hb := h.vb
  have h0 := h.ub
  have h1 := h.u1b
  have ht := h.top
  refine ⟨est_start (by omega) h.hp (by omega) h.v2b.1 h.vl.1 h.v (by omega) h.u2b.2 h.ul.2 h.u, Int.ediv_nonneg (by omega) (by omega), ?_⟩
  have : (un * 4294967296 + un1) / vt < 4294967298 := Int.ediv_lt_of_lt_mul (by omega) (by omega)
  omega
theorem QF.big (h : QF P vt v2 Vl V un un1 u2 Ul U) (hr : q * vt + r = un * 4294967296 + un1) (hq : 4294967296 ≤ q) : r < 4294967296 ∧ U < q * V := by
  have hb := h.vb
  refine ⟨est_rest rfl h.top h.u1b.2 (by omega) hr hq (by omega), ?_⟩
  have hV : 0 ≤ V := by
    have h1 := h.v
    have h2 : 0 ≤ (vt * 4294967296 + v2) * P := Int.mul_nonneg (by have := h.v2b; omega) (by have := h.hp; omega)
    have := h.vl; omega
  have := Int.mul_le_mul_of_nonneg_right hq hV
  have := h.lt
  omega
theorem QF.down (h : QF P vt v2 Vl V un un1 u2 Ul U) (hr : q * vt + r = un * 4294967296 + un1) (hq : 0 ≤ q) (hd : r * 4294967296 + u2 < q * v2) : U < q * V :=
  est_down h.hp hq h.vl.1 h.v h.ul.2 h.u hr hd
theorem QF.stop (h : QF P vt v2 Vl V un un1 u2 Ul U) (hr : q * vt + r = un * 4294967296 + un1) (hq : 0 ≤ q) (hq1 : q < 4294967296) (hd : q * v2 ≤ r * 4294967296 + u2) : (q - 1) * V ≤ U :=
  est_stop (by omega) h.hp (by have := h.vb; omega) h.v2b.1 hq hq1 h.vl.1 h.vl.2 h.v h.ul.1 h.u hr hd
theorem QF.past (h : QF P vt v2 Vl V un un1 u2 Ul U) (hr : q * vt + r = un * 4294967296 + un1) (hq : 0 ≤ q) (hq1 : q < 4294967296) (hd : 4294967296 ≤ r) : (q - 1) * V ≤ U := by
  refine h.stop hr hq hq1 ?_
  have hb := h.v2b
  have h1 : q * v2 ≤ 4294967295 * v2 := Int.mul_le_mul_of_nonneg_right (by omega) hb.1
  have := h.u2b
  omega
theorem step_down (hr : q * vt + r = un * 4294967296 + un1) : (q - 1) * vt + (r + vt) = un * 4294967296 + un1 := by grind
end

theorem int_val {k : IntKind} {a b : Int} (h : a = b) : Value.int k a = .int k b := by rw [h]
/-- What the multiplication and subtraction have done so far. -/
def MS (off p : Nat) (q : Int) (k : Nat) (b : Int) (zs zs1 vs : List Int) : Prop :=
  val 4294967296 (zs1.drop off) = val 4294967296 (zs.drop off) - q * val 4294967296 (vs.take k) + b * 4294967296 ^ k ∧ zs1.take off = zs.take off ∧ zs1.drop (off + p + 3) = zs.drop (off + p + 3)
theorem drop_set_val {zs : List Int} {off k : Nat} {x : Int} (h : zs[off + k]? = some x) (u : Int) : val 4294967296 ((zs.set (off + k) u).drop off) = val 4294967296 (zs.drop off) + 4294967296 ^ k * (u - x) := by
  rw [List.drop_set, if_neg (by omega), show off + k - off = k by omega]
  exact val_set (by rw [List.getElem?_drop]; exact h) u
theorem MS.step {off p : Nat} {q : Int} {k : Nat} {ca bo ca' bo' : Int} {zs zs1 vs : List Int} {vk uk u' : Int} (h : MS off p q k (ca + bo) zs zs1 vs) (hvk : vs[k]? = some vk) (huk : zs1[off + k]? = some uk) (hk : k < p + 3)
    (hu : u' = uk - (q * vk + ca - ca' * 4294967296) - bo + bo' * 4294967296) : MS off p q (k + 1) (ca' + bo') zs (zs1.set (off + k) u') vs := by
  obtain ⟨h1, h2, h3⟩ := h
  refine ⟨?_, by rw [List.take_set_of_le (by omega), h2], by rw [List.drop_set_of_lt (by omega), h3]⟩
  rw [drop_set_val huk, h1, val_take_succ hvk, Int.pow_succ]
  grind

/-- What has been done behind the last digit. -/
def MF (off p : Nat) (T e : Int) (zs zs2 : List Int) : Prop :=
  val 4294967296 (zs2.drop off) = val 4294967296 (zs.drop off) - T + e * 4294967296 ^ (p + 3) ∧ zs2.take off = zs.take off ∧ zs2.drop (off + p + 3) = zs.drop (off + p + 3)
theorem MS.fin {off p : Nat} {q b e V uk u' : Int} {zs zs1 vs : List Int} (h : MS off p q (p + 2) b zs zs1 vs) (hv : val 4294967296 vs = V) (hl : vs.length = p + 2) (huk : zs1[off + (p + 2)]? = some uk) (hu : u' = uk - b + e * 4294967296) : MF off p (q * V) e zs (zs1.set (off + (p + 2)) u') := by
  obtain ⟨h1, h2, h3⟩ := h
  rw [val_take_all (by omega), hv] at h1
  refine ⟨?_, by rw [List.take_set_of_le (by omega), h2], by rw [List.drop_set_of_lt (by omega), h3]⟩
  rw [drop_set_val huk, h1, Int.pow_succ]
  grind
theorem MF.window {off p : Nat} {T e : Int} {zs zs2 : List Int} (h : MF off p T e zs zs2) (hl : off + p + 3 ≤ zs.length) (hl2 : zs2.length = zs.length) : val 4294967296 ((zs2.drop off).take (p + 3)) = val 4294967296 ((zs.drop off).take (p + 3)) - T + e * 4294967296 ^ (p + 3) := by
  obtain ⟨h1, h2, h3⟩ := h
  rw [val_split (zs2.drop off) (k := p + 3) (by rw [List.length_drop]; omega), val_split (zs.drop off) (k := p + 3) (by rw [List.length_drop]; omega), List.drop_drop, List.drop_drop, show off + (p + 3) = off + p + 3 by omega, h3] at h1
  omega
theorem window_range {off p : Nat} {zs : List Int} (hd : Dg 4294967296 zs) (hl : off + p + 3 ≤ zs.length) : 0 ≤ val 4294967296 ((zs.drop off).take (p + 3)) ∧ val 4294967296 ((zs.drop off).take (p + 3)) < 4294967296 ^ (p + 3) := by
  have h1 := val_lt (B := 4294967296) (by omega) ((hd.drop off).take (p + 3))
  rw [List.length_take, List.length_drop, Nat.min_eq_left (by omega)] at h1
  exact ⟨val_nonneg (by omega) ((hd.drop off).take _), h1⟩
/-- Behind the adding back. -/
theorem back_fin {off p : Nat} {q cc V U un u' : Int} {zs zs2 zs3 vs : List Int} (h2 : MF off p (q * V) 1 zs zs2) (h3 : MS off p (-1) (p + 2) (-cc) zs2 zs3 vs) (hv : val 4294967296 vs = V) (hl : vs.length = p + 2) (hun : zs3[off + (p + 2)]? = some un) (hub : 0 ≤ un ∧ un < 4294967296) (hcc : 0 ≤ cc ∧ cc ≤ 1)
    (hu : u' = (un + cc) % 4294967296) (hU : val 4294967296 ((zs.drop off).take (p + 3)) = U) (hqU : (q - 1) * V ≤ U) (hlz : off + p + 3 ≤ zs.length) (hl2 : zs2.length = zs.length) (hl3 : zs3.length = zs.length) (hd2 : Dg 4294967296 zs2) (hd4 : Dg 4294967296 (zs3.set (off + (p + 2)) u')) :
    MF off p ((q - 1) * V) 0 zs (zs3.set (off + (p + 2)) u') ∧ U < q * V := by
  have hw2 := h2.window hlz hl2
  rw [hU] at hw2
  have hr2 := window_range hd2 (off := off) (p := p) (by omega)
  have hlt : U < q * V := by omega
  refine ⟨?_, hlt⟩
  have key : ∀ e : Int, u' = un - -cc + e * 4294967296 → MF off p (-1 * V) e zs2 (zs3.set (off + (p + 2)) u') := fun e he => h3.fin hv hl hun he
  have hr4 := window_range hd4 (off := off) (p := p) (by rw [List.length_set]; omega)
  rcases Int.lt_or_le (un + cc) 4294967296 with h | h
  · exfalso
    have h4 := (key 0 (by omega)).window (by omega) (by rw [List.length_set, hl3, hl2])
    have e1 : (q - 1) * V = q * V - V := by grind
    omega
  · have h4 := key (-1) (by omega)
    obtain ⟨a1, a2, a3⟩ := h4
    obtain ⟨b1, b2, b3⟩ := h2
    exact ⟨by rw [a1, b1]; grind, a2.trans b2, a3.trans b3⟩

set_option maxRecDepth 100000 in
set_option maxHeartbeats 4000000 in
theorem quotient_any (base g off N c cu gv p cv : Nat) (zs vs : List Int) (w : World) (hO : OwnS .u32 79 base w (some ⟨g, 0, none⟩) N c zs) (hV : OwnS .u32 79 base w (some ⟨gv, 0, none⟩) (p + 2) cv vs) (hne : g ≠ gv)
    (hoff : off + p + 2 < N) (hN : N ≤ 4398046511104) (vt : Int) (hvt : vs[p + 1]? = some vt) (hvb : 2147483648 ≤ vt) (hU : val 4294967296 ((zs.drop off).take (p + 3)) < 4294967296 * val 4294967296 vs) :
    Calls Try.prog 140 #[.slice (some ⟨g, off, none⟩) (p + 3) cu, .slice (some ⟨gv, 0, none⟩) (p + 2) cv] w (RetQ w base g off N c (p + 2) zs (val 4294967296 vs)) := by
  obtain ⟨u2, hu2, hwu2, hcu2, _⟩ := hO.store' (j := off + p) (by omega)
  obtain ⟨un1, hun1, hwun1, hcun1, _⟩ := hO.store' (j := off + (p + 1)) (by omega)
  obtain ⟨un, hun, hwun, hcun, _⟩ := hO.store' (j := off + (p + 2)) (by omega)
  obtain ⟨v2, hv2, hwv2, hcv2, _⟩ := hV.store' (j := p) (by omega)
  obtain ⟨vt', hvt', hwvt, hcvt, _⟩ := hV.store' (j := p + 1) (by omega)
  obtain rfl : vt = vt' := by rw [hvt] at hvt'; exact Option.some.inj hvt'
  obtain ⟨hu20, hu21⟩ := u32_bounds hwu2
  obtain ⟨hun10, hun11⟩ := u32_bounds hwun1
  obtain ⟨hun0, hunn⟩ := u32_bounds hwun
  obtain ⟨hv20, hv21⟩ := u32_bounds hwv2
  obtain ⟨hvt0, hvt1⟩ := u32_bounds hwvt
  obtain ⟨U, hUe⟩ : ∃ U, val 4294967296 ((zs.drop off).take (p + 3)) = U := ⟨_, rfl⟩
  obtain ⟨V, hVe⟩ : ∃ V, val 4294967296 vs = V := ⟨_, rfl⟩
  rw [hUe, hVe] at hU
  have hF : QF (4294967296 ^ p) vt v2 (val 4294967296 (vs.take p)) V un un1 u2 (val 4294967296 ((zs.drop off).take p)) U := by
    have hdz := (dg32 hO.ints).drop off
    have hdv := dg32 hV.ints
    have l1 := val_lt (B := 4294967296) (by omega) (hdv.take p)
    have l2 := val_lt (B := 4294967296) (by omega) (hdz.take p)
    rw [List.length_take, hV.len, Nat.min_eq_left (by omega)] at l1
    rw [List.length_take, List.length_drop, hO.len, Nat.min_eq_left (by omega)] at l2
    refine ⟨pow_pos' (by omega) p, by omega, by omega, ⟨val_nonneg (by omega) (hdv.take p), l1⟩, ?_, by omega, by omega, by omega, ⟨val_nonneg (by omega) (hdz.take p), l2⟩, ?_, hU⟩
    · rw [← hVe, ← val_two hv2 hvt, val_take_all (by rw [hV.len]; exact Nat.le_refl _)]
    · rw [← hUe]
      exact val_three (by rw [List.getElem?_drop]; exact hu2) (by rw [List.getElem?_drop]; exact hun1) (by rw [List.getElem?_drop]; exact hun)
  have hor : bits .or .u64 (un * 4294967296) un1 = un * 4294967296 + un1 := or64_add 32 (by omega) (by omega) (by omega) (by omega)
  obtain ⟨hs1, hs2, hs3⟩ := hF.start
  have hrt := Int.emod_add_mul_ediv (un * 4294967296 + un1) vt
  have hrt0 := Int.emod_nonneg (un * 4294967296 + un1) (show vt ≠ 0 by omega)
  have hrt1 := Int.emod_lt_of_pos (un * 4294967296 + un1) (show 0 < vt by omega)
  obtain ⟨top, htop⟩ : ∃ t, un * 4294967296 + un1 = t := ⟨_, rfl⟩
  have htp0 : 0 ≤ top := by omega
  have htp1 : top ≤ 18446744073709551615 := by omega
  rw [htop] at hor hs1 hs2 hs3 hrt hrt0 hrt1
  have HTOP := Lib.hid htop
  have HF := Lib.hid hF
  have HUe := Lib.hid hUe
  have HVe := Lib.hid hVe
  have HS1 := Lib.hid hs1
  have HRT : Hid (top / vt * vt + top % vt = un * 4294967296 + un1) := by show _ = _; rw [Int.mul_comm, Int.add_comm, hrt, htop]
  have HO := Lib.hid hO
  have HV := Lib.hid hV
  clear hO hV hU hu2 hun1 hun hv2 hvt hvt' hwu2 hwun1 hwun hwv2 hwvt hUe hVe hF hs1 htop hrt
  go_enter Try.func140, Try.ntmps140
  go_wp2_with fail
  go_quiet (fail)
  go_upto_block 0 with (fail)
  simp only [show p + 2 - 1 = p + 1 from rfl]
  go_cut [7] (fun s7 wx => ∃ q : Int, s7 = .int .u64 q ∧ 0 ≤ q ∧ q ≤ 4294967295 ∧ Hid ((q - 1) * V ≤ U ∧ U < (q + 1) * V) ∧ Ext w wx)
  case first =>
    go_wp2_with fail
    go_loopg [7, 8] (top / vt).toNat (fun g s7 s8 wr => ∃ q r : Int, g = q.toNat ∧ s7 = .int .u64 q ∧ s8 = .int .u64 r ∧ 0 ≤ q ∧ q ≤ 4294967297 ∧ 0 ≤ r ∧ r ≤ 4294967295 ∧ Hid (q * vt + r = un * 4294967296 + un1 ∧ U < (q + 1) * V) ∧ Ext w wr)
    case atStart => exact ⟨_, _, rfl, rfl, rfl, hs2, hs3, hrt0, by omega, ⟨HRT.out, HS1.out⟩, (Ext.refl w).drewN _⟩
    case round =>
      obtain ⟨q, r, rfl, rfl, rfl, hq0, hq1, hr0, hr1, hqr, hX⟩ := hrel
      have hcu2' := hX.cell hcu2
      have hcv2' := hX.cell hcv2
      have hcvt' := hX.cell hcvt
      have HX := Lib.hid hX
      clear hX hcu2 hcun1 hcun hcv2 hcvt hor hs2 hs3 hrt0 hrt1
      have hp0 : (0 : Int) ≤ (p : Int) := by omega
      by_cases hbig : 4294967296 ≤ q
      · have hgd : decide ((4294967296 : Int) ≤ q) = true := by simpa using hbig
        obtain ⟨hbr, hbU⟩ := HF.out.big hqr.out.1 hbig
        have hstep := step_down hqr.out.1
        have HN : Hid ((q - 1) * vt + (r + vt) = un * 4294967296 + un1 ∧ U < (q - 1 + 1) * V) := ⟨hstep, by rw [show q - 1 + 1 = q by omega]; exact hbU⟩
        have hlow : 4294967296 ≤ r + vt → q - 1 ≤ 4294967295 := fun h => by
          rcases Int.lt_or_le (q - 1) 4294967296 with h1 | h1
          · omega
          · have := (HF.out.big hstep h1).1; omega
        clear hbr hbU hstep
        go_wp2_with fail
        go_quiet (fail)
        by_cases hbk : 4294967296 ≤ r + vt
        · have hq2 := hlow hbk
          clear hlow
          go_wp2
          go_meet
          exact ⟨q - 1, rfl, by omega, hq2, ⟨HF.out.past HN.out.1 (by omega) (by omega) hbk, HN.out.2⟩, HX.out.drewN _⟩
        · clear hlow
          go_wp2
          go_roundg (q - 1).toNat
          case rel => exact ⟨q - 1, r + vt, rfl, rfl, rfl, by omega, by omega, by omega, by omega, HN, HX.out.drewN _⟩
          case measure => omega
      · have hgd : decide ((4294967296 : Int) ≤ q) = false := by simpa using hbig
        have hqb : q ≤ 4294967295 := by omega
        obtain ⟨hm0, hm1⟩ := prod_range ⟨hq0, hqb⟩ ⟨hv20, hv21⟩
        have hor : bits .or .u64 (r * 4294967296) u2 = r * 4294967296 + u2 := or64_add 32 (by omega) (by omega) (by omega) (by omega)
        by_cases hdn : r * 4294967296 + u2 < q * v2
        · have hq1' : 1 ≤ q := by
            rcases Int.lt_or_le q 1 with h | h
            · have : q = 0 := by omega
              subst this; simp at hdn; omega
            · exact h
          have hbU := HF.out.down hqr.out.1 hq0 hdn
          have HN : Hid ((q - 1) * vt + (r + vt) = un * 4294967296 + un1 ∧ U < (q - 1 + 1) * V) := ⟨step_down hqr.out.1, by rw [show q - 1 + 1 = q by omega]; exact hbU⟩
          clear hbU
          go_wp2_with fail
          go_quiet (fail)
          by_cases hbk : 4294967296 ≤ r + vt
          · go_wp2
            go_meet
            exact ⟨q - 1, rfl, by omega, by omega, ⟨HF.out.past HN.out.1 (by omega) (by omega) hbk, HN.out.2⟩, HX.out.drewN _⟩
          · go_wp2
            go_roundg (q - 1).toNat
            case rel => exact ⟨q - 1, r + vt, rfl, rfl, rfl, by omega, by omega, by omega, by omega, HN, HX.out.drewN _⟩
            case measure => omega
        · have HN : Hid ((q - 1) * V ≤ U ∧ U < (q + 1) * V) := ⟨HF.out.stop hqr.out.1 hq0 (by omega) (by omega), hqr.out.2⟩
          go_wp2_with fail
          go_quiet (fail)
          go_wp2
          go_meet
          exact ⟨q, rfl, hq0, hqb, HN, HX.out.drewN _⟩
  case rest =>
    obtain ⟨q, rfl, hq0, hq1, hqV, hX⟩ := hcut
    have HX := Lib.hid hX
    clear hX hcu2 hcun1 hcun hcv2 hcvt hor hs2 hs3 hrt0 hrt1 HRT HS1
    go_wp2_with fail
    go_loopg [9, 10, 84] (p + 2) (fun g' s9 s10 s84 wr => ∃ (k : Nat) (bo ca : Int) (zs1 : List Int), g' = p + 2 - k ∧ k ≤ p + 2 ∧ s9 = .int .u64 bo ∧ s10 = .int .u64 ca ∧ s84 = .int .i64 k ∧ 0 ≤ bo ∧ bo ≤ 1 ∧ 0 ≤ ca ∧ ca ≤ 4294967295 ∧ OwnS .u32 79 base wr (some ⟨g, 0, none⟩) N c zs1 ∧ Hid (MS off p q k (ca + bo) zs zs1 vs) ∧ wc.grownBy wr (some g))
    case atStart => exact ⟨0, 0, 0, zs, rfl, by omega, rfl, rfl, rfl, by omega, by omega, by omega, by omega, HO.out.ext HX.out, ⟨by simp [val], rfl, rfl⟩, World.grownBy.refl _ _⟩
    case round =>
      obtain ⟨k, bo, ca, zs1, rfl, hk, rfl, rfl, rfl, hb0, hb1, hc0, hc1, hO1, hM, hgr⟩ := hrel
      have HO1 := Lib.hid hO1
      have HG := Lib.hid hgr
      have HV1 := Lib.hid ((HV.out.ext HX.out).other hgr hne)
      clear hO1 hgr
      by_cases hlt : k < p + 2
      · obtain ⟨vk, hvk, hwv, hcv, _⟩ := HV1.out.store' hlt
        obtain ⟨uk, huk, hwu, hcu, hfu, _, hst⟩ := HO1.out.store' (j := off + k) (by omega)
        obtain ⟨hvk0, hvk1⟩ := u32_bounds hwv
        obtain ⟨huk0, huk1⟩ := u32_bounds hwu
        obtain ⟨hm0, hm1⟩ := prod_range ⟨hq0, hq1⟩ ⟨hvk0, hvk1⟩
        have hk0 : (0 : Int) ≤ (k : Int) := by omega
        have hk1 : (k : Int) < (p : Int) + 2 := by omega
        have hk2 : (k : Int) < (p : Int) + 3 := by omega
        obtain ⟨pk, hpk⟩ : ∃ pk, q * vk + ca = pk := ⟨_, rfl⟩
        have hpk0 : 0 ≤ pk := by omega
        have hpk1 : pk ≤ 18446744069414584320 := by omega
        have HVK := Lib.hid hvk
        have HUK := Lib.hid huk
        have HPK := Lib.hid hpk
        clear hvk hwv huk hwu
        by_cases hn : 0 ≤ uk - pk % 4294967296 - bo
        · obtain ⟨hS, hSg⟩ := hst.out (uk - pk % 4294967296 - bo) (wf32 (by omega))
          have HS := Lib.hid hS
          have HSg := Lib.hid (HG.out.trans hSg)
          clear hS hSg hst
          go_wp2
          go_roundg (p + 2 - (k + 1))
          case rel => exact ⟨k + 1, 0, pk / 4294967296, _, rfl, by omega, int_val (by omega), rfl, by go_num, by omega, by omega, by omega, by omega, HS.out, MS.step hM.out HVK.out HUK.out (by omega) (by rw [HPK.out]; omega), HSg.out⟩
          case measure => omega
        · obtain ⟨hS, hSg⟩ := hst.out (uk - pk % 4294967296 - bo + 4294967296) (wf32 (by omega))
          have HS := Lib.hid hS
          have HSg := Lib.hid (HG.out.trans hSg)
          obtain ⟨t, ht⟩ : ∃ t, IntKind.u64.wrap (IntKind.u64.wrap (uk - pk % 4294967296) - bo) = t := ⟨_, rfl⟩
          have ht0 : t = uk - pk % 4294967296 - bo + 18446744073709551616 := by
            rw [← ht, IntKind.wrap_u64, IntKind.wrap_u64]; omega
          have ht1 : 9223372036854775808 ≤ t := by omega
          have ht2 : t ≤ 18446744073709551615 := by omega
          have ht3 : t % 4294967296 = uk - pk % 4294967296 - bo + 4294967296 := by omega
          have HT3 := Lib.hid ht3
          clear hS hSg hst ht0 ht3
          go_wp2
          go_roundg (p + 2 - (k + 1))
          case rel => exact ⟨k + 1, 1, pk / 4294967296, _, rfl, by omega, int_val (by omega), rfl, by go_num, by omega, by omega, by omega, by omega, by rw [HT3.out]; exact HS.out, MS.step hM.out HVK.out HUK.out (by omega) (by rw [HPK.out]; omega), by rw [HT3.out]; exact HSg.out⟩
          case measure => omega
      · obtain rfl : k = p + 2 := by omega
        obtain ⟨uk, huk, hwu, hcu, hfu, _, hst⟩ := HO1.out.store' (j := off + (p + 2)) (by omega)
        obtain ⟨huk0, huk1⟩ := u32_bounds hwu
        have HUK := Lib.hid huk
        clear huk hwu
        by_cases hn : 0 ≤ uk - ca - bo
        · obtain ⟨hS, hSg⟩ := hst.out (uk - ca - bo) (wf32 (by omega))
          have HS := Lib.hid hS
          have HSg' := Lib.hid (((Ext.row HX.out (some g)).trans HG.out).trans hSg)
          have hz : ((uk - ca - bo) / 9223372036854775808 == 0) = true := by simp; omega
          clear hS hSg hst
          go_wp2
          go_ret
          have hfin := hM.out.fin (e := 0) HVe.out HV.out.len HUK.out (u' := uk - ca - bo) (by omega)
          have hwin := hfin.window (by rw [HO.out.len]; omega) (by rw [List.length_set, HO1.out.len, HO.out.len])
          have hrng := window_range (off := off) (p := p) (dg32 HS.out.ints) (by rw [HS.out.len]; omega)
          rw [HUe.out] at hwin
          have hq2 := hqV.out.2
          have e1 : (q + 1) * V = q * V + V := by grind
          refine ⟨q, _, rfl, hq0, by omega, HS.out, HSg'.out, ?_, hfin.2.1, ?_, hrng.1, ?_⟩
          · rw [HVe.out, hfin.1]; omega
          · rw [HVe.out, HUe.out, hwin]; omega
          · rw [HVe.out, hwin]; omega
        · obtain ⟨hS, hSg⟩ := hst.out (uk - ca - bo + 4294967296) (wf32 (by omega))
          have HS := Lib.hid hS
          have HSg := Lib.hid (HG.out.trans hSg)
          obtain ⟨t, ht⟩ : ∃ t, IntKind.u64.wrap (IntKind.u64.wrap (uk - ca) - bo) = t := ⟨_, rfl⟩
          have ht0 : t = uk - ca - bo + 18446744073709551616 := by
            rw [← ht, IntKind.wrap_u64, IntKind.wrap_u64]; omega
          have ht1 : 9223372036854775808 ≤ t := by omega
          have ht2 : t ≤ 18446744073709551615 := by omega
          have ht3 : t % 4294967296 = uk - ca - bo + 4294967296 := by omega
          have hz : (t / 9223372036854775808 == 0) = false := by simp; omega
          have HT3 := Lib.hid ht3
          have HMF := Lib.hid (hM.out.fin (e := 1) HVe.out HV.out.len HUK.out (u' := uk - ca - bo + 4294967296) (by omega))
          clear hS hSg hst ht0 ht3
          go_wp2_with fail
          rw [HT3.out]
          obtain ⟨w2, hw2⟩ : ∃ w2, w2 = wr.setCell ⟨g, off + (p + 2), none⟩ (.int .u32 (uk - ca - bo + 4294967296)) := ⟨_, rfl⟩
          rw [← hw2] at HS HSg ⊢
          have HZL : Hid (zs.length = N) := HO.out.len
          obtain ⟨zs2, hz2⟩ : ∃ zs2, zs1.set (off + (p + 2)) (uk - ca - bo + 4294967296) = zs2 := ⟨_, rfl⟩
          rw [hz2] at HS HMF
          clear hw2 hz2 hcu hfu HUK hz ht ht1 ht2 HT3
          have hp3 : (p : Int) + 2 < (p : Int) + 3 := by omega
          go_loopg [15, 138] (p + 2) (fun g' s15 s138 wq => ∃ (k : Nat) (cc : Int) (zs3 : List Int), g' = p + 2 - k ∧ k ≤ p + 2 ∧ s15 = .int .u32 cc ∧ s138 = .int .i64 k ∧ 0 ≤ cc ∧ cc ≤ 1 ∧ OwnS .u32 79 base wq (some ⟨g, 0, none⟩) N c zs3 ∧ Hid (MS off p (-1) k (-cc) zs2 zs3 vs) ∧ wc.grownBy wq (some g))
          case atStart => exact ⟨0, 0, zs2, rfl, by omega, rfl, rfl, by omega, by omega, HS.out, ⟨by simp [val], rfl, rfl⟩, HSg.out⟩
          case round =>
            obtain ⟨k, cc, zs3, rfl, hk, rfl, rfl, hcc0, hcc1, hO3, hM3, hgr⟩ := hrel
            have HO3 := Lib.hid hO3
            have HG3 := Lib.hid hgr
            have HV3 := Lib.hid ((HV.out.ext HX.out).other hgr hne)
            clear hO3 hgr
            by_cases hlt : k < p + 2
            · obtain ⟨vk, hvk, hwv, hcv, _⟩ := HV3.out.store' hlt
              obtain ⟨uk', huk, hwu, hcu, hfu, _, hst⟩ := HO3.out.store' (j := off + k) (by omega)
              obtain ⟨hvk0, hvk1⟩ := u32_bounds hwv
              obtain ⟨huk0, huk1⟩ := u32_bounds hwu
              have hk0 : (0 : Int) ≤ (k : Int) := by omega
              have hk1 : (k : Int) < (p : Int) + 2 := by omega
              have hk2 : (k : Int) < (p : Int) + 3 := by omega
              obtain ⟨hS3, hSg3⟩ := hst.out ((uk' + vk + cc) % 4294967296) (wf32 (by omega))
              have HS3 := Lib.hid hS3
              have HSg3 := Lib.hid (HG3.out.trans hSg3)
              have HM4 := Lib.hid (MS.step (ca := -cc) (bo := 0) (ca' := -((uk' + vk + cc) / 4294967296)) (bo' := 0) (u' := (uk' + vk + cc) % 4294967296) (by have := hM3.out; rw [Int.add_zero]; exact this) hvk huk (by omega) (by omega))
              clear hS3 hSg3 hst hvk huk hwv hwu
              go_wp2_with fail
              refine quotient_r27 g off gv p cu cv k uk' vk cc wr hcu hcv hfu huk0 huk1 hvk0 hvk1 hcc0 hcc1 hk0 hk1 hk2 _ _ (by simp) rfl rfl rfl rfl ?_
              rintro _ _ _ _ _ _ _ _ _ _ _ _ _ _ _ _ x16 _ rfl rfl rfl rfl rfl rfl rfl rfl rfl rfl rfl rfl rfl rfl rfl rfl _ rfl
              simp only [rops, Try.f140, regOf, Option.bind_some, Nat.reduceBEq, if_true, if_false, Bool.false_eq_true, Option.getD_some, List.drop_succ_cons, List.drop_zero]
              simp only [Act.put, List.setIfInBounds_toArray, List.set_cons_succ, List.set_cons_zero]
              go_wp2
              go_roundg (p + 2 - (k + 1))
              case rel => exact ⟨k + 1, (uk' + vk + cc) / 4294967296, _, rfl, by omega, rfl, by go_num, by omega, by omega, HS3.out.ext ((Ext.refl _).drew), by have := HM4.out; rw [Int.add_zero] at this; exact this, HSg3.out.trans (Ext.row ((Ext.refl _).drew) _)⟩
              case measure => omega
            · obtain rfl : k = p + 2 := by omega
              obtain ⟨uk', huk, hwu, hcu, hfu, _, hst⟩ := HO3.out.store' (j := off + (p + 2)) (by omega)
              obtain ⟨huk0, huk1⟩ := u32_bounds hwu
              obtain ⟨hS3, hSg3⟩ := hst.out ((uk' + cc) % 4294967296) (wf32 (by omega))
              obtain ⟨hfin, hUq⟩ := back_fin HMF.out hM3.out HVe.out HV.out.len huk ⟨huk0, by omega⟩ ⟨hcc0, hcc1⟩ rfl HUe.out hqV.out.1 (by rw [HZL.out]; omega) (by rw [HS.out.len, HZL.out]) (by rw [HO3.out.len, HZL.out]) (dg32 HS.out.ints) (dg32 hS3.ints)
              have hq1' : 1 ≤ q := by
                rcases Int.lt_or_le q 1 with h | h
                · have hq00 : q = 0 := by omega
                  subst hq00
                  have := (HF.out.lt)
                  have h1 := hqV.out.1
                  rw [Int.zero_mul] at hUq
                  have h2 := window_range (off := off) (p := p) (dg32 HO.out.ints) (by rw [HO.out.len]; omega)
                  rw [HUe.out] at h2
                  omega
                · exact h
              have HS3 := Lib.hid hS3
              have HSg3 := Lib.hid (((Ext.row HX.out (some g)).trans HG3.out).trans hSg3)
              have HFIN := Lib.hid hfin
              have HUQ := Lib.hid hUq
              clear hS3 hSg3 hst huk hwu hfin hUq
              go_wp2
              go_ret
              have hwin := HFIN.out.window (by rw [HZL.out]; omega) (by rw [List.length_set, HO3.out.len, HZL.out])
              have hrng := window_range (off := off) (p := p) (dg32 HS3.out.ints) (by rw [HS3.out.len]; omega)
              rw [HUe.out] at hwin
              have hq2 := HUQ.out
              have e1 : (q - 1) * V = q * V - V := by grind
              refine ⟨q - 1, _, rfl, by omega, by omega, HS3.out, HSg3.out, ?_, HFIN.out.2.1, ?_, hrng.1, ?_⟩
              · rw [HVe.out, HFIN.out.1]; omega
              · rw [HVe.out, HUe.out, hwin]; omega
              · rw [HVe.out, hwin]; omega
end Go.Proofs.Yteoijnaljkagfaa
namespace Go.Proofs.Yteoijnaljkagfaa
open Go.RowKit

set_option maxHeartbeats 4000000 in
set_option maxRecDepth 100000 in
theorem len32_any (x : Int) (w : World) (h0 : 0 ≤ x) (h1 : x ≤ 4294967295) :
    Calls Try.prog 142 #[.int .u32 x] w fun e w' => e = .returned (.int .i64 (Lib.bitLen x.toNat)) ∧ w = w' := by
  rcases (by omega : x ≤ 255 ∨ (256 ≤ x ∧ x < 65536) ∨ (65536 ≤ x ∧ x / 65536 ≤ 255) ∨ (65536 ≤ x ∧ 256 ≤ x / 65536)) with hx | ⟨hx, hy⟩ | ⟨hx, hy⟩ | ⟨hx, hy⟩
  · have hi1 : x ≤ 255 := hx
    have hl8 := Lib.len8_of (x) (by omega) (by omega)
    have hle := Lib.bitLen_le8' (x) (by omega) (by omega)
    have hsp : Hid (((0 : Nat) : Int) + Lib.len8 (x) = (Lib.bitLen x.toNat : Int)) := by
      show _ = _
      rw [hl8]
      have e : (x).toNat = x.toNat / 1 := by omega
      rw [e]
      rw [Nat.div_one]; omega
    have hn0 : 0 ≤ Lib.len8 (x) := by rw [hl8]; omega
    have hn1 : Lib.len8 (x) ≤ 8 := by rw [hl8]; omega
    clear hl8 hle
    go_enter Try.func142, Try.ntmps142
    go_wp2
    go_ret
    refine ⟨congrArg Ending.returned (congrArg (Value.int IntKind.i64) ?_), rfl⟩
    have := hsp.out
    omega
  · have hi0 : 0 ≤ x / 256 := by omega
    have hi1 : x / 256 ≤ 255 := by omega
    have hl8 := Lib.len8_of (x / 256) (by omega) (by omega)
    have hle := Lib.bitLen_le8' (x / 256) (by omega) (by omega)
    have hsp : Hid (((8 : Nat) : Int) + Lib.len8 (x / 256) = (Lib.bitLen x.toNat : Int)) := by
      show _ = _
      rw [hl8]
      have e : (x / 256).toNat = x.toNat / 256 := by omega
      rw [e]
      have := Lib.bitLen_shift8 x.toNat (by omega) (by omega); omega
    have hn0 : 0 ≤ Lib.len8 (x / 256) := by rw [hl8]; omega
    have hn1 : Lib.len8 (x / 256) ≤ 8 := by rw [hl8]; omega
    clear hl8 hle
    go_enter Try.func142, Try.ntmps142
    go_wp2
    go_ret
    refine ⟨congrArg Ending.returned (congrArg (Value.int IntKind.i64) ?_), rfl⟩
    have := hsp.out
    omega
  · have hi0 : 0 ≤ x / 65536 := by omega
    have hi1 : x / 65536 ≤ 255 := by omega
    have hl8 := Lib.len8_of (x / 65536) (by omega) (by omega)
    have hle := Lib.bitLen_le8' (x / 65536) (by omega) (by omega)
    have hsp : Hid (((16 : Nat) : Int) + Lib.len8 (x / 65536) = (Lib.bitLen x.toNat : Int)) := by
      show _ = _
      rw [hl8]
      have e : (x / 65536).toNat = x.toNat / 65536 := by omega
      rw [e]
      have := Lib.bitLen_shift16 x.toNat (by omega) (by omega); omega
    have hn0 : 0 ≤ Lib.len8 (x / 65536) := by rw [hl8]; omega
    have hn1 : Lib.len8 (x / 65536) ≤ 8 := by rw [hl8]; omega
    clear hl8 hle
    go_enter Try.func142, Try.ntmps142
    go_wp2
    go_ret
    refine ⟨congrArg Ending.returned (congrArg (Value.int IntKind.i64) ?_), rfl⟩
    have := hsp.out
    omega
  · have hi0 : 0 ≤ x / 65536 / 256 := by omega
    have hi1 : x / 65536 / 256 ≤ 255 := by omega
    have hl8 := Lib.len8_of (x / 65536 / 256) (by omega) (by omega)
    have hle := Lib.bitLen_le8' (x / 65536 / 256) (by omega) (by omega)
    have hsp : Hid (((24 : Nat) : Int) + Lib.len8 (x / 65536 / 256) = (Lib.bitLen x.toNat : Int)) := by
      show _ = _
      rw [hl8]
      have e : (x / 65536 / 256).toNat = x.toNat / 16777216 := by omega
      rw [e]
      have := Lib.bitLen_shift24 x.toNat (by omega) (by omega); omega
    have hn0 : 0 ≤ Lib.len8 (x / 65536 / 256) := by rw [hl8]; omega
    have hn1 : Lib.len8 (x / 65536 / 256) ≤ 8 := by rw [hl8]; omega
    clear hl8 hle
    go_enter Try.func142, Try.ntmps142
    go_wp2
    go_ret
    refine ⟨congrArg Ending.returned (congrArg (Value.int IntKind.i64) ?_), rfl⟩
    have := hsp.out
    omega

theorem bitLen_spec : ∀ (k x : Nat), x < 2 ^ k → k ≤ 64 → 0 < x → 1 ≤ Lib.bitLen x ∧ 2 ^ (Lib.bitLen x - 1) ≤ x ∧ x < 2 ^ Lib.bitLen x := by
  intro k
  induction k with
  | zero => intro x h _ h0; simp at h; omega
  | succ k ih =>
    intro x h hk h0
    have h64 : x < 2 ^ 64 := Nat.lt_of_lt_of_le h (Nat.pow_le_pow_right (by omega) hk)
    have hh := Lib.bitLen_half x (by omega) h64
    rcases Nat.eq_zero_or_pos (x / 2) with h2 | h2
    · have : x = 1 := by omega
      subst this
      have e : Lib.bitLen 1 = 1 := by decide
      rw [e]; decide
    · have hi := ih (x / 2) (by rw [Nat.pow_succ] at h; omega) (by omega) h2
      rw [hh]
      generalize Lib.bitLen (x / 2) = b at *
      obtain ⟨c, rfl⟩ : ∃ c, b = c + 1 := ⟨b - 1, by omega⟩
      simp only [Nat.add_sub_cancel] at hi
      rw [show 1 + (c + 1) - 1 = c + 1 by omega, show 1 + (c + 1) = c + 2 by omega, Nat.pow_succ, Nat.pow_succ]
      rw [Nat.pow_succ] at hi
      omega

/-- What LeadingZeros32 returns for a word that is not 0. -/
theorem lead_any (x : Int) (h0 : 0 < x) (h1 : x ≤ 4294967295) :
    ∃ s : Nat, s ≤ 31 ∧ 2147483648 ≤ x * 2 ^ s ∧ x * 2 ^ s < 4294967296 ∧ ∀ w : World, Calls Try.prog 138 #[.int .u32 x] w fun e w' => e = .returned (.int .i64 s) ∧ w = w' := by
  have hb := bitLen_spec 32 x.toNat (by omega) (by omega) (by omega)
  have hl := Lib.bitLen_le x.toNat 32 (by omega) (by omega)
  have hcall := fun w => len32_any x w (by omega) h1
  obtain ⟨b, hbe⟩ : ∃ b, Lib.bitLen x.toNat = b := ⟨_, rfl⟩
  rw [hbe] at hb hl
  simp only [hbe] at hcall
  have e1 : (2 : Nat) ^ (b - 1) * 2 ^ (32 - b) = 2 ^ 31 := by rw [← Nat.pow_add]; congr 1; omega
  have e2 : (2 : Nat) ^ b * 2 ^ (32 - b) = 2 ^ 32 := by rw [← Nat.pow_add]; congr 1; omega
  have hp : 0 < 2 ^ (32 - b) := Nat.pow_pos (by omega)
  have g1 := Nat.mul_le_mul_right (2 ^ (32 - b)) hb.2.1
  have g2 := Nat.mul_lt_mul_of_pos_right hb.2.2 hp
  rw [e1] at g1
  rw [e2] at g2
  have e3 : ((x.toNat * 2 ^ (32 - b) : Nat) : Int) = x * 2 ^ (32 - b) := by rw [Int.natCast_mul, Int.toNat_of_nonneg (by omega)]; simp
  refine ⟨32 - b, by omega, by rw [← e3]; omega, by rw [← e3]; omega, ?_⟩
  intro w
  have HC := Lib.hid (hcall w)
  clear hcall hbe hb e1 e2 hp g1 g2 e3
  go_enter Try.func138, Try.ntmps138
  go_wp2_with fail
  refine HC.out.mono ?_
  rintro e w' ⟨rfl, rfl⟩
  go_wp2
  go_ret
  refine ⟨congrArg Ending.returned (congrArg (Value.int IntKind.i64) ?_), rfl⟩
  omega
end Go.Proofs.Yteoijnaljkagfaa
namespace Go.Proofs.Yteoijnaljkagfaa

theorem pow2_dvd {s : Nat} (hs : s ≤ 31) : ∃ q : Int, (4294967296 : Int) = 2 ^ s * q ∧ 0 < q := ⟨2 ^ (32 - s), by rw [← Int.pow_add, show s + (32 - s) = 32 by omega]; decide, Int.pow_pos (by omega)⟩

/-- The divisor, shifted so that its first bit is 1, has as many digits as before. -/
theorem shl_len {ys vs : List Int} {m lb s : Nat} {x : Int} (hy : Rep 4294967296 ys m) (hl : ys.length = lb + 1) (hx : ys[lb]? = some x) (hs : s ≤ 31) (h1 : 2147483648 ≤ x * 2 ^ s) (h2 : x * 2 ^ s < 4294967296) (hv : Rep 4294967296 vs (m * 2 ^ s)) :
    vs.length = lb + 1 ∧ ∃ vt, vs[lb]? = some vt ∧ 2147483648 ≤ vt := by
  obtain ⟨q, hq, hq0⟩ := pow2_dvd hs
  have hp : (0 : Int) < 2 ^ s := Int.pow_pos (by omega)
  have hP := pow_pos' (B := 4294967296) (by omega) lb
  have e1 := val_take_succ (B := 4294967296) hx
  rw [val_take_all (by omega), hy.2.2] at e1
  have l0 := val_nonneg (B := 4294967296) (by omega) (hy.1.take lb)
  have l1 := val_lt (B := 4294967296) (by omega) (hy.1.take lb)
  rw [List.length_take, Nat.min_eq_left (by omega)] at l1
  generalize val 4294967296 (ys.take lb) = lo at *
  have hxq : x + 1 ≤ q := by
    rcases Int.lt_or_le x q with h | h
    · omega
    · have := Int.mul_le_mul_of_nonneg_right h (Int.le_of_lt hp)
      rw [Int.mul_comm q] at this; omega
  obtain ⟨M, hM⟩ : ∃ M : Int, ((m * 2 ^ s : Nat) : Int) = M := ⟨_, rfl⟩
  have hM' : M = (lo + 4294967296 ^ lb * x) * 2 ^ s := by rw [← hM, Int.natCast_mul, e1]; simp
  have low : 4294967296 ^ lb * 2147483648 ≤ M := by
    have a1 : 4294967296 ^ lb * 2147483648 ≤ 4294967296 ^ lb * (x * 2 ^ s) := Int.mul_le_mul_of_nonneg_left h1 (Int.le_of_lt hP)
    have a2 : 0 ≤ lo * 2 ^ s := Int.mul_nonneg l0 (Int.le_of_lt hp)
    have a3 : M = lo * 2 ^ s + 4294967296 ^ lb * (x * 2 ^ s) := by rw [hM']; grind
    omega
  have high : M < 4294967296 ^ (lb + 1) := by
    have a1 : lo * 2 ^ s < 4294967296 ^ lb * 2 ^ s := Int.mul_lt_mul_of_pos_right l1 hp
    have a2 : (4294967296 ^ lb * 2 ^ s) * (x + 1) ≤ (4294967296 ^ lb * 2 ^ s) * q := Int.mul_le_mul_of_nonneg_left hxq (Int.mul_nonneg (Int.le_of_lt hP) (Int.le_of_lt hp))
    have a3 : M = lo * 2 ^ s + (4294967296 ^ lb * 2 ^ s) * x := by rw [hM']; grind
    have a4 : (4294967296 : Int) ^ (lb + 1) = (4294967296 ^ lb * 2 ^ s) * q := by rw [Int.pow_succ]; grind
    have a5 : (4294967296 ^ lb * 2 ^ s) * (x + 1) = (4294967296 ^ lb * 2 ^ s) * x + 4294967296 ^ lb * 2 ^ s := by grind
    omega
  have hle : vs.length ≤ lb + 1 := hv.len_le (by omega) (by rw [hM]; exact high)
  have hge : lb < vs.length := by
    rcases Nat.lt_or_ge lb vs.length with h | h
    · exact h
    · have g := hv.lt (by omega)
      rw [hM] at g
      have := pow_le (B := 4294967296) (by omega) h
      omega
  refine ⟨by omega, vs[lb], List.getElem?_eq_getElem hge, ?_⟩
  have f1 := val_take_succ (B := 4294967296) (List.getElem?_eq_getElem hge)
  rw [val_take_all (by omega), hv.2.2, hM] at f1
  have g1 := val_lt (B := 4294967296) (by omega) (hv.1.take lb)
  rw [List.length_take, Nat.min_eq_left (by omega)] at g1
  generalize vs[lb] = vt at *
  rcases Int.lt_or_le vt 2147483648 with h | h
  · exfalso
    have a1 : 4294967296 ^ lb * (vt + 1) ≤ 4294967296 ^ lb * 2147483648 := Int.mul_le_mul_of_nonneg_left (by omega) (Int.le_of_lt hP)
    have a2 : 4294967296 ^ lb * (vt + 1) = 4294967296 ^ lb * vt + 4294967296 ^ lb := by grind
    omega
  · exact h

/-- The state of the loop. -/
def DivI (N V : Int) (j : Nat) (zs qs : List Int) : Prop := N = val 4294967296 zs + V * 4294967296 ^ j * val 4294967296 (qs.drop j) ∧ val 4294967296 (zs.drop j) < V

theorem div_win {zs : List Int} {i lb : Nat} {V : Int} (hd : Dg 4294967296 zs) (hi : i + lb + 1 ≤ zs.length) (h : val 4294967296 (zs.drop (i + 1)) < V) (hV : V < 4294967296 ^ lb) :
    val 4294967296 ((zs.drop i).take (lb + 1)) = val 4294967296 (zs.drop i) ∧ val 4294967296 (zs.drop i) < 4294967296 * V := by
  have hz : zs[i]? = some zs[i] := List.getElem?_eq_getElem (by omega)
  have hzd := hd.get hz
  have e := val_drop (B := 4294967296) hz
  have hlt : val 4294967296 (zs.drop i) < 4294967296 * V := by
    have : 4294967296 * (val 4294967296 (zs.drop (i + 1)) + 1) ≤ 4294967296 * V := Int.mul_le_mul_of_nonneg_left (by omega) (by omega)
    rw [e]; omega
  refine ⟨?_, hlt⟩
  have s := val_split (B := 4294967296) (zs.drop i) (k := lb + 1) (by rw [List.length_drop]; omega)
  have h0 := val_nonneg (B := 4294967296) (by omega) ((hd.drop i).take (lb + 1))
  have h1 := val_nonneg (B := 4294967296) (by omega) ((hd.drop i).drop (lb + 1))
  have hP := pow_pos' (B := 4294967296) (by omega) (lb + 1)
  rcases Int.lt_or_le 0 (val 4294967296 ((zs.drop i).drop (lb + 1))) with hp | hp
  · exfalso
    have a1 : 4294967296 ^ (lb + 1) * 1 ≤ 4294967296 ^ (lb + 1) * val 4294967296 ((zs.drop i).drop (lb + 1)) := Int.mul_le_mul_of_nonneg_left (by omega) (Int.le_of_lt hP)
    have a2 : (4294967296 : Int) ^ (lb + 1) = 4294967296 ^ lb * 4294967296 := Int.pow_succ ..
    have a3 : 4294967296 * (V + 1) ≤ 4294967296 * 4294967296 ^ lb := Int.mul_le_mul_of_nonneg_left (by omega) (by omega)
    have a4 : (4294967296 : Int) * 4294967296 ^ lb = 4294967296 ^ lb * 4294967296 := Int.mul_comm _ _
    omega
  · have : val 4294967296 ((zs.drop i).drop (lb + 1)) = 0 := by omega
    rw [this, Int.mul_zero] at s
    omega
theorem DivI.step {N V q : Int} {i lb : Nat} {zs qs zs' : List Int} (h : DivI N V (i + 1) zs qs) (hd : Dg 4294967296 zs) (hi : i + lb + 1 ≤ zs.length) (hV : V < 4294967296 ^ lb) (hl : zs'.length = zs.length) (hq : i < qs.length)
    (h1 : val 4294967296 (zs'.drop i) = val 4294967296 (zs.drop i) - q * V) (h2 : zs'.take i = zs.take i) (h3 : val 4294967296 ((zs'.drop i).take (lb + 1)) = val 4294967296 ((zs.drop i).take (lb + 1)) - q * V) (h4 : val 4294967296 ((zs'.drop i).take (lb + 1)) < V) :
    DivI N V i zs' (qs.set i q) := by
  obtain ⟨a1, a2⟩ := h
  have hw := div_win hd hi a2 hV
  refine ⟨?_, by rw [h1]; omega⟩
  have e1 := val_split (B := 4294967296) zs' (k := i) (by omega)
  have e2 := val_split (B := 4294967296) zs (k := i) (by omega)
  have e3 : (qs.set i q)[i]? = some q := by simp [hq]
  have e4 : (qs.set i q).drop (i + 1) = qs.drop (i + 1) := by rw [List.drop_set_of_lt (by omega)]
  rw [val_drop e3, e4, e1, h2, h1]
  rw [e2, Int.pow_succ] at a1
  rw [a1]
  grind
theorem DivI.start {N V : Int} {j : Nat} {zs qs : List Int} (hz : val 4294967296 zs = N) (hq : qs.length ≤ j) (h : val 4294967296 (zs.drop j) < V) : DivI N V j zs qs :=
  ⟨by rw [hz, List.drop_eq_nil_of_le hq]; simp [val], h⟩
theorem DivI.fin {n m s : Nat} {zs qs : List Int} (hm : 0 < m) (h : DivI ((n * 2 ^ s : Nat) : Int) ((m * 2 ^ s : Nat) : Int) 0 zs qs) (hz : Dg 4294967296 zs) (hq : Dg 4294967296 qs) :
    val 4294967296 qs = ((n / m : Nat) : Int) ∧ val 4294967296 zs = ((n % m * 2 ^ s : Nat) : Int) := by
  obtain ⟨a1, a2⟩ := h
  simp only [List.drop_zero, Int.pow_zero, Int.mul_one] at a1 a2
  have z0 := val_nonneg (B := 4294967296) (by omega) hz
  have q0 := val_nonneg (B := 4294967296) (by omega) hq
  obtain ⟨Z, hZ⟩ := Int.eq_ofNat_of_zero_le z0
  obtain ⟨Q, hQ⟩ := Int.eq_ofNat_of_zero_le q0
  rw [hZ] at a1 a2 ⊢
  rw [hQ] at a1 ⊢
  have b1 : n * 2 ^ s = Z + (m * 2 ^ s) * Q := by exact_mod_cast a1
  have b2 : Z < m * 2 ^ s := by exact_mod_cast a2
  have hp : 0 < 2 ^ s := Nat.pow_pos (by omega)
  have c1 : n * 2 ^ s / (m * 2 ^ s) = Q := by
    rw [b1, Nat.add_mul_div_left _ _ (Nat.mul_pos hm hp), Nat.div_eq_of_lt b2]; omega
  have c2 : n * 2 ^ s % (m * 2 ^ s) = Z := by
    rw [b1, Nat.add_mul_mod_self_left, Nat.mod_eq_of_lt b2]
  rw [Nat.mul_div_mul_right _ _ hp] at c1
  rw [Nat.mul_mod_mul_right] at c2
  rw [← c1, ← c2]
  exact ⟨rfl, rfl⟩
end Go.Proofs.Yteoijnaljkagfaa
namespace Go.Proofs.Yteoijnaljkagfaa
open Go.RowKit

/-- What div leaves: the quotient and the rest. -/
def RetD (w : World) (q r : Nat) (e : Ending) (w' : World) : Prop := ∃ v1 v2, e = .returned (.tuple #[v1, v2]) ∧ W32 w' v1 q ∧ W32 w' v2 r ∧ Ext w w'

set_option maxRecDepth 100000 in
set_option maxHeartbeats 1000000 in
theorem div_less (va vb : Value) (n m : Nat) (w : World) (ha : W32 w va n) (hb : W32 w vb m) (hlt : n < m) :
    Calls Try.prog 133 #[va, vb] w (RetD w (n / m) (n % m)) := by
  have hc := cmp_any va vb n m w ha hb
  rw [cmpI_lt hlt] at hc
  have HC := Lib.hid hc
  have HA := Lib.hid ha
  have E1 : Hid (n / m = 0) := Nat.div_eq_of_lt hlt
  have E2 : Hid (n % m = n) := Nat.mod_eq_of_lt hlt
  clear hc ha hb hlt
  go_enter Try.func133, Try.ntmps133
  go_wp2_with fail
  refine HC.out.mono ?_
  rintro e w1 ⟨rfl, hX⟩
  have HX := Lib.hid hX
  clear hX
  go_wp2
  go_ret2
  exact ⟨_, _, rfl, by rw [E1.out]; exact NatV.zero, by rw [E2.out]; exact HA.out.ext HX.out, HX.out⟩

theorem one_digit {B : Int} (hB : 1 < B) {xs : List Int} {m : Nat} (h : Rep B xs m) (hl : xs.length = 1) : ∃ x, xs = [x] ∧ x = (m : Int) ∧ 0 < x ∧ x < B := by
  match xs, hl with
  | [x], _ =>
    have h1 := h.single hB
    have h2 := h.1 x (List.mem_singleton.2 rfl)
    exact ⟨x, rfl, h1.1, by omega, h2.2⟩

set_option maxRecDepth 100000 in
set_option maxHeartbeats 1000000 in
theorem div_one (va : Value) (B : Option Addr) (cb : Nat) (ys : List Int) (n m La : Nat) (w : World) (ha : W32 w va n) (hB : Ints .u32 w B 1 ys) (hry : Rep 4294967296 ys m) (hcb : 1 ≤ cb) (hcbm : cb ≤ 9223372036854775807) (hle : m ≤ n) (hn : Fit 4294967296 n La) (hL : La ≤ 1099511627776) :
    Calls Try.prog 133 #[va, .slice B 1 cb] w (RetD w (n / m) (n % m)) := by
  obtain ⟨x, rfl, hxm, hx0, hx1⟩ := one_digit (by omega) hry hB.1
  have hb : W32 w (.slice B 1 cb) m := ⟨B, 1, cb, [x], rfl, hB, hry, hcb, hcbm⟩
  have hc := cmp_any va _ n m w ha hb
  have hge : 0 ≤ cmpI n m := by unfold cmpI; rw [if_neg (by omega)]; split <;> omega
  obtain ⟨cr, hcr⟩ : ∃ cr, cmpI n m = cr := ⟨_, rfl⟩
  rw [hcr] at hc hge
  obtain ⟨b2, o2, y, rfl, hy, _, hcy⟩ := hB.get (j := 0) (by omega)
  obtain rfl : x = y := by simpa using hy
  rw [Nat.add_zero] at hcy
  have HC := Lib.hid hc
  have HA := Lib.hid ha
  have HCY := Lib.hid hcy
  have hdm : x.toNat = m := by omega
  have E2 : Hid ((n : Int) % x = ((n % m : Nat) : Int)) := by show _ = _; rw [hxm]; simp
  have hn2 : (n : Int) % x < x := Int.emod_lt_of_pos _ hx0
  have hn3 : 0 ≤ (n : Int) % x := Int.emod_nonneg _ (by omega)
  have HDM := Lib.hid hdm
  clear hc ha hb hy hB hry hcr hcy hdm hxm
  go_enter Try.func133, Try.ntmps133
  go_wp2_with fail
  refine HC.out.mono ?_
  rintro e w1 ⟨rfl, hX⟩
  have hcy := hX.cell HCY.out
  have HX := Lib.hid hX
  clear hX
  go_wp2_with fail
  refine (word_any va n La x _ (HA.out.ext HX.out) hn hL hx0 (by omega)).mono ?_
  rintro e w2 ⟨v1, rfl, hv1, hX2⟩
  rw [HDM.out] at hv1
  have HV1 := Lib.hid hv1
  have HX2 := Lib.hid (HX.out.trans hX2)
  clear hv1 hX2 hcy
  obtain ⟨r, hr⟩ : ∃ r, (n : Int) % x = r := ⟨_, rfl⟩
  rw [hr] at E2 hn2 hn3 ⊢
  clear hr
  have HE2 := Lib.hid E2.out
  clear E2
  go_wp2_with fail
  refine (natOf_any r _ hn3 (by omega)).mono ?_
  rintro e w3 ⟨v2, rfl, hv2, hX3⟩
  have e3 : r.toNat = n % m := by have := HE2.out; omega
  rw [e3] at hv2
  have HV2 := Lib.hid hv2
  have HX3 := Lib.hid hX3
  clear hv2 hX3 e3
  go_wp2
  go_ret2
  exact ⟨_, _, rfl, HV1.out.ext HX3.out, HV2.out, HX2.out.trans HX3.out⟩

/-- 'x[l:h]' of a slice whose address is known, elements of one cell. -/
theorem wpList_cutAt {P : Program} (w : World) {t e : TypeId} {bytes : Nat} {z : Value} (E : Elem P t e 1 bytes z) {ops : Array Oper} {rest : List Oper} {o : Oper} {a : Act} {Q : Exit → Act → World → Prop}
    (hgd : o.guard = none) (x lo hi' : Operand) (ho : o.op = .slice t x (some lo) (some hi') none) (g off n c : Nat) (hx : a.eval x = .slice (some ⟨g, off, none⟩) n c) (kl kh : IntKind) (L Hv : Int) (l k : Nat) (hl : a.eval lo = .int kl L) (hh : a.eval hi' = .int kh Hv) (hL : L = l) (m : Nat) (hH : Hv = (m : Int)) (hm : m = l + k) (hk : 0 < k) (hc : m ≤ c)
    (h : wpList P ops Q rest (a.put o.dst (.slice (some ⟨g, off + l, none⟩) k (c - l))) w) :
    wpList P ops Q (o :: rest) a w :=
  wpList_plain hgd fun K hK => by
    subst hL hH
    obtain ⟨i, hi, hz, hs, hby⟩ := E.info
    have h1 : l ≤ m := by omega
    have h2 : ¬ c = l := by omega
    have h3 : m - l = k := by omega
    have hrun : (Instr.sliceAt t (.slice (some ⟨g, off, none⟩) n c) (some (.int kl l)) (some (.int kh m)) none).run P w = .ok (.slice (some ⟨g, off + l, none⟩) k (c - l)) w := by
      simp [Instr.sliceAt, Instr.slice, run_underlying E.und, Instr.sliceBounds, run_sliceBound, sizeOf, typeInfo, hi, hs, h1, hc, h2, h3, Addr.add_lit]
    unfold Oper.wp
    simp [execOp, ho, hx, hl, hh, hrun, Result.andThen]
    exact hK _ _ h

theorem OwnS.at {k : IntKind} {e : TypeId} {base : Nat} {w : World} {A : Option Addr} {n c : Nat} {xs : List Int} (h : OwnS k e base w A n c xs) (hn : 0 < n) : ∃ g, A = some ⟨g, 0, none⟩ ∧ base ≤ g ∧ g < w.heap.size := by
  obtain ⟨g, x, hA, _, _, hc, _, hg, _⟩ := h.store hn
  exact ⟨g, hA, hg, World.block_lt_of_cell? w _ hc⟩

set_option maxRecDepth 100000 in
set_option maxHeartbeats 4000000 in
theorem div_long (A B : Option Addr) (la ca cb p : Nat) (xs ys : List Int) (n m La : Nat) (w : World) (hA : Ints .u32 w A la xs) (hrx : Rep 4294967296 xs n) (hca : la ≤ ca) (hcam : ca ≤ 9223372036854775807) (hB : Ints .u32 w B (p + 2) ys) (hry : Rep 4294967296 ys m) (hcb : p + 2 ≤ cb) (hcbm : cb ≤ 9223372036854775807) (hle : m ≤ n) (hn : Fit 4294967296 n La) (hL : La ≤ 1099511627775) :
    Calls Try.prog 133 #[.slice A la ca, .slice B (p + 2) cb] w (RetD w (n / m) (n % m)) := by
  have ha : W32 w (.slice A la ca) n := ⟨A, la, ca, xs, rfl, hA, hrx, hca, hcam⟩
  have hb : W32 w (.slice B (p + 2) cb) m := ⟨B, p + 2, cb, ys, rfl, hB, hry, hcb, hcbm⟩
  have hc := cmp_any _ _ n m w ha hb
  have hge : 0 ≤ cmpI n m := by unfold cmpI; rw [if_neg (by omega)]; split <;> omega
  obtain ⟨cr, hcr⟩ : ∃ cr, cmpI n m = cr := ⟨_, rfl⟩
  rw [hcr] at hc hge
  have hla := hn.len (by omega) hrx
  rw [hA.1] at hla
  have hlb := (hn.le hle).len (by omega) hry
  rw [hB.1] at hlb
  have hmpos : 0 < m := by
    rcases Nat.eq_zero_or_pos m with h | h
    · have := (hry.pos (by omega)).1 h
      have h2 := hB.1
      rw [this] at h2; simp at h2
    · exact h
  obtain ⟨b2, o2, x, rfl, hx, hwx, hcx⟩ := hB.get (j := p + 1) (by omega)
  obtain ⟨hx0, hx1⟩ := u32_bounds hwx
  have hxp : 0 < x := by
    rcases Int.lt_or_le 0 x with h | h
    · exact h
    · have hx00 : x = 0 := by omega
      subst hx00
      exfalso
      refine hry.2.1 ?_
      rw [List.getLast?_eq_getElem?, hB.1]
      exact hx
  obtain ⟨s, hs, hs1, hs2, hcallL⟩ := lead_any x hxp hx1
  have hpl : (p : Int) + 1 < (p : Int) + 2 := by omega
  have hcrb : decide (cr < 0) = false := by simp; omega
  have HC := Lib.hid hc
  have HA := Lib.hid ha
  have HB := Lib.hid hb
  have HRX := Lib.hid hrx
  have HRY := Lib.hid hry
  have HCL := Lib.hid hcallL
  have HXX := Lib.hid hx
  have HS1 := Lib.hid hs1
  have HS2 := Lib.hid hs2
  have HCX := Lib.hid hcx
  have HLB : Hid (ys.length = p + 1 + 1) := hB.1
  have HLA : Hid (xs.length = la) := hA.1
  clear hc ha hb hx hA hB hrx hry hcr hcx hwx hcallL hs1 hs2
  go_enter Try.func133, Try.ntmps133
  go_wp2_with fail
  refine HC.out.mono ?_
  rintro e w1 ⟨rfl, hX⟩
  have hcx := hX.cell HCX.out
  have HX1 := Lib.hid hX
  clear hX
  go_wp2_with fail
  refine (HCL.out _).mono ?_
  rintro e w' ⟨rfl, rfl⟩
  go_wp2_with fail
  refine (shl_any _ m La s _ (HB.out.ext HX1.out) (hn.le hle) (by omega) hs).mono ?_
  rintro e w3 ⟨Av, nv, cv, vs, rfl, hOv, hRv, hXv⟩
  obtain ⟨hlv, vt, hvt, hvb⟩ := shl_len HRY.out HLB.out HXX.out hs HS1.out HS2.out hRv
  obtain rfl : nv = p + 2 := by rw [← hOv.len, hlv]
  obtain ⟨gv, rfl, hgv0, hgv1⟩ := hOv.at (by omega)
  have HOv := Lib.hid (hOv.mono HX1.out.size)
  have HRv := Lib.hid hRv
  have HX3 := Lib.hid (HX1.out.trans hXv)
  have HVT := Lib.hid hvt
  have HLV := Lib.hid hlv
  clear hOv hRv hXv hcx hvt hlv
  go_wp2_with fail
  refine (shl_any _ n La s _ (HA.out.ext HX3.out) hn (by omega) hs).mono ?_
  rintro e w4 ⟨Au, nu, cu, us, rfl, hOu, hRu, hXu⟩
  have hnu : la ≤ nu := by
    have h1 : Fit 4294967296 n us.length := (Fit.of_rep (by omega) hRu).le (Nat.le_mul_of_pos_right _ (Nat.pow_pos (by omega)))
    have h2 := h1.len (by omega) HRX.out
    rw [HLA.out, hOu.len] at h2; exact h2
  have hnu2 : nu ≤ la + 1 := by
    have h1 : Fit 4294967296 (n * 2 ^ s) (la + 1) := by
      have f1 : Fit 4294967296 n la := by have := Fit.of_rep (B := 4294967296) (by omega) HRX.out; rw [HLA.out] at this; exact this
      have f2 : Fit 4294967296 (2 ^ s) 1 := by
        unfold Fit
        have : 2 ^ s ≤ 2 ^ 31 := Nat.pow_le_pow_right (by omega) hs
        omega
      exact f1.mul (by omega) f2
    have h2 := h1.len (by omega) hRu
    rw [hOu.len] at h2; exact h2
  have hlap : p + 2 ≤ la := by
    have h1 := Fit.len (by omega) ((Fit.of_rep (by omega) HRX.out).le hle) HRY.out
    rw [HLA.out, HLB.out] at h1; exact h1
  obtain ⟨mq, rfl⟩ : ∃ mq, nu = mq + (p + 1) := ⟨nu - (p + 1), by omega⟩
  obtain ⟨gu, rfl, hgu0, hgu1⟩ := hOu.at (by omega)
  have HOu := Lib.hid (hOu.mono HX3.out.size)
  have HRu := Lib.hid hRu
  have HX4 := Lib.hid (HX3.out.trans hXu)
  have HOv4 := Lib.hid (HOv.out.ext hXu)
  have hown4 := hOu.own
  have hsz4 := hXu.size
  clear hOu hRu hXu
  go_wp2_with (first | (at_builtin; refine wpList_app (o := ⟨some 47, _, _, _, _, _⟩) _ elW rfl _ _ rfl w3.heap.size (.slice (some ⟨gu, 0, none⟩) (mq + (p + 1)) cu) (mq + (p + 1)) _ rfl (hown4.alloc _) _ 1 1 [.int .u32 0] rfl rfl (At.new _ [_] _) (by simp [Value.oneCell']) (by omega) (by unfold maxLen; omega) (by simp; omega) ?_; intro v5 w5 hown5 hgr5 hloc; obtain ⟨A5, c5, hv5⟩ := own_slice hown5; rw [hv5] at hown5 hloc ⊢; clear hv5; have hnla : (((mq + (p + 1) + 1 : Nat) : Int) == (la : Int)) = false := (by simp; omega)) | (at_make; refine wpList_mk _ elW rfl rfl _ _ rfl w5.heap.size _ _ _ _ mq mq rfl rfl (by omega) (by omega) (Nat.le_refl _) (by omega) (by unfold maxLen; omega) (Nat.le_refl _) ?_; intro w6 hown6 hext6 hsz6))
  have hXa : Ext w4 (w4.alloc (.cells #[.int .u32 0] 79)) := (Ext.refl w4).alloc _
  have hO5 : OwnS .u32 79 w3.heap.size w5 A5 (mq + (p + 1) + 1) c5 (us ++ [0]) := by
    refine ⟨by simpa using hown5, by rw [List.length_append, HOu.out.len]; rfl, fun y hy => ?_⟩
    rcases List.mem_append.1 hy with hy | hy
    · exact HOu.out.wf y hy
    · simp at hy; subst hy; exact wf32 (by omega)
  obtain ⟨g5, rfl, hg50, hg51⟩ := hO5.at (by omega)
  have hne5 : g5 ≠ gv := by omega
  have hOv5 : OwnS .u32 79 w.heap.size w5 (some ⟨gv, 0, none⟩) (p + 2) cv vs := (HOv4.out.ext hXa).other hgr5 (show gu ≠ gv by omega)
  have hX5 : Ext w w5 := (HX4.out.trans hXa).grown hgr5 fun k hk => by
    simp [Value.ownBlock] at hk; have := HX3.out.size; omega
  have HO6 := Lib.hid ((hO5.mono HX3.out.size).ext hext6)
  have HV6 := Lib.hid (hOv5.ext hext6)
  have HQ6 := Lib.hid ((OwnS.made hown6).mono hX5.size)
  have HX6 := Lib.hid (hX5.trans hext6)
  have hw5 : gv < w5.heap.size := by have := hgr5.size; simp at this; omega
  have hw5' : Hid (w.heap.size ≤ w5.heap.size) := hX5.size
  have hg5w : Hid (w.heap.size ≤ g5) := by have := HX3.out.size; exact (by omega : w.heap.size ≤ g5)
  have HVB : Hid (((m * 2 ^ s : Nat) : Int) < 4294967296 ^ (p + 2)) := by have := HRv.out.lt (by omega); rw [HLV.out] at this; exact this
  have HVL : Hid ((4294967296 : Int) ^ (p + 1) ≤ ((m * 2 ^ s : Nat) : Int)) := by
    have := nm_low (B := 4294967296) (by omega) HRv.out.1 HRv.out.2.1 (by intro e; have := HLV.out; rw [e] at this; simp at this)
    rw [HLV.out, HRv.out.2.2] at this; exact this
  obtain ⟨gq, hgq⟩ : ∃ gq, gq = w5.heap.size := ⟨_, rfl⟩
  rw [← hgq] at HQ6 ⊢
  have hne6 : g5 ≠ gq := by omega
  have hne7 : gq ≠ gv := by omega
  have hgqw : Hid (w.heap.size ≤ gq) := by rw [hgq]; exact hw5'
  clear hown5 hgr5 hloc hown6 hext6 hsz6 hXa hO5 hOv5 hX5 hown4 hgq hnla
  go_loopg [12] (mq + 1) (fun g' i wr => ∃ (j : Nat) (zs qs : List Int), g' = j + 1 ∧ j ≤ mq ∧ i = .int .i64 ((j : Int) - 1) ∧ OwnS .u32 79 w.heap.size wr (some ⟨g5, 0, none⟩) (mq + (p + 1) + 1) c5 zs ∧ OwnS .u32 79 w.heap.size wr (some ⟨gv, 0, none⟩) (p + 2) cv vs ∧ OwnS .u32 79 w.heap.size wr (some ⟨gq, 0, none⟩) mq mq qs ∧ Hid (DivI ((n * 2 ^ s : Nat) : Int) ((m * 2 ^ s : Nat) : Int) j zs qs) ∧ Ext w wr)
  case atStart =>
    refine ⟨mq, _, _, rfl, Nat.le_refl _, rfl, HO6.out, HV6.out, HQ6.out, DivI.start ?_ (by simp) ?_, HX6.out⟩
    · rw [val_append, val_one, HRu.out.2.2]; omega
    · have hl := HOu.out.len
      rw [List.drop_append_of_le_length (by omega), val_snoc]
      have := val_lt (B := 4294967296) (by omega) (HRu.out.1.drop mq)
      rw [List.length_drop, hl, show mq + (p + 1) - mq = p + 1 by omega] at this
      have := HVL.out
      omega
  case round =>
    obtain ⟨j, zs, qs, rfl, hj, rfl, hO, hV, hQ, hI, hX⟩ := hrel
    have HO := Lib.hid hO
    have HV := Lib.hid hV
    have HQ := Lib.hid hQ
    have HX := Lib.hid hX
    clear hO hV hQ hX
    rcases Nat.eq_zero_or_pos j with h0 | h0
    · subst h0
      rw [show (((0 : Nat) : Int) - 1) = -1 by omega]
      obtain ⟨hq, hz⟩ := DivI.fin hmpos hI.out (dg32 HO.out.ints) (dg32 HQ.out.ints)
      have HQV := Lib.hid hq
      have HZV := Lib.hid hz
      have hc5 := HO.out.cap
      obtain ⟨hc50, hc51⟩ := hc5
      clear hq hz
      go_wp2_with fail
      refine (norm_any _ _ _ _ _ HQ.out.ints (Nat.le_refl _) (by omega)).mono ?_
      rintro e w' ⟨k1, hk1, hN1, hv1, rfl, rfl⟩
      have HW1 := Lib.hid (RetNorm.natv (N := n / m) (c := mq) HQ.out.ints hk1 hN1 hv1 HQV.out (Nat.le_refl _) (by omega))
      clear hk1 hN1 hv1
      go_wp2_with fail
      refine (norm_any _ _ _ _ _ HO.out.ints hc50 hc51).mono ?_
      rintro e w' ⟨k2, hk2, hN2, hv2, rfl, rfl⟩
      have HW2 := Lib.hid (RetNorm.natv (N := n % m * 2 ^ s) (c := c5) HO.out.ints hk2 hN2 hv2 HZV.out hc50 hc51)
      clear hk2 hN2 hv2
      go_wp2_with fail
      refine (shr_any _ (n % m * 2 ^ s) (La + 1) s _ HW2.out ?_ (by omega) hs).mono ?_
      · have f2 : Fit 4294967296 (2 ^ s) 1 := by
          unfold Fit
          have : 2 ^ s ≤ 2 ^ 31 := Nat.pow_le_pow_right (by omega) hs
          omega
        exact (hn.le (Nat.le_trans (Nat.le_of_lt (Nat.mod_lt _ hmpos)) hle)).mul (by omega) f2
      rintro e w7 ⟨v2, rfl, hv2, hX7⟩
      rw [Nat.mul_div_cancel _ (Nat.pow_pos (by omega))] at hv2
      have HV2 := Lib.hid hv2
      have HX7 := Lib.hid hX7
      clear hv2 hX7
      go_wp2
      go_ret2
      exact ⟨_, _, rfl, HW1.out.ext HX7.out, HV2.out, HX.out.trans HX7.out⟩
    · obtain ⟨i, rfl⟩ : ∃ i, j = i + 1 := ⟨j - 1, by omega⟩
      rw [show (((i + 1 : Nat) : Int) - 1) = (i : Int) by omega]
      have hwin := div_win (lb := p + 2) (dg32 HO.out.ints) (i := i) (by rw [HO.out.len]; omega) hI.out.2 HVB.out
      have hcall := quotient_any w.heap.size g5 i (mq + (p + 1) + 1) c5 (c5 - i) gv p cv zs vs wr HO.out HV.out hne5 (by omega) (by omega) vt HVT.out hvb (by rw [hwin.1, HRv.out.2.2]; exact hwin.2)
      have HCQ := Lib.hid hcall
      have hcc := HO.out.cap
      obtain ⟨hc50, hc51⟩ := hcc
      have hi0 : (0 : Int) ≤ (i : Int) := by omega
      have hi1 : (i : Int) < (mq : Int) := by omega
      clear hwin hcall
      go_wp2_with (first | (refine wpList_cutAt (o := ⟨some 78, _, _, _, _, _⟩) _ elW rfl _ _ _ rfl g5 0 (mq + (p + 1) + 1) c5 rfl _ _ _ _ i (p + 3) rfl rfl rfl (i + (p + 3)) (by omega) rfl (by omega) (by omega) ?_))
      refine HCQ.out.mono ?_
      rintro e w7 ⟨q, zs', rfl, hq0, hq1, hO7, hgr, h1, h2, h3, h4, h5⟩
      obtain ⟨z, hz, _, hcz, hfz, _, hst⟩ := (HQ.out.other hgr hne6).store' (j := i) (by omega)
      obtain ⟨hQ8, hg8⟩ := hst.out q (wf32 ⟨hq0, hq1⟩)
      have HQ8 := Lib.hid hQ8
      have HO8 := Lib.hid (hO7.other hg8 (Ne.symm hne6))
      have HV8 := Lib.hid ((HV.out.other hgr hne5).other hg8 hne7)
      have HX8 := Lib.hid ((HX.out.grown hgr (fun k hk => by injection hk with hk; rw [← hk]; exact hg5w.out)).grown hg8 (fun k hk => by injection hk with hk; rw [← hk]; exact hgqw.out))
      have HI8 := Lib.hid (DivI.step (lb := p + 2) hI.out (dg32 HO.out.ints) (by rw [HO.out.len]; omega) HVB.out (by rw [hO7.len, HO.out.len]) (by rw [HQ.out.len]; omega) (by rw [← HRv.out.2.2]; exact h1) h2 (by rw [← HRv.out.2.2]; exact h3) (by rw [← HRv.out.2.2]; exact h5))
      clear hz hst hQ8 hg8 hO7 hgr h1 h2 h3 h4 h5
      go_wp2
      go_roundg (i + 1)
      case rel => exact ⟨i, zs', _, rfl, by omega, by go_num, HO8.out, HV8.out, HQ8.out, HI8.out, HX8.out⟩
      case measure => omega

/-- The quotient and the rest of two numbers. -/
theorem div_any (va vb : Value) (n m La : Nat) (w : World) (ha : W32 w va n) (hb : W32 w vb m) (hm : 0 < m) (hn : Fit 4294967296 n La) (hL : La ≤ 1099511627775) :
    Calls Try.prog 133 #[va, vb] w (RetD w (n / m) (n % m)) := by
  rcases Nat.lt_or_ge n m with hlt | hge
  · exact div_less va vb n m w ha hb hlt
  · obtain ⟨B, lb, cb, ys, rfl, hB, hry, hcb, hcbm⟩ := hb
    have hl0 : 0 < lb := by
      rcases Nat.eq_zero_or_pos lb with h | h
      · have h1 := hB.1
        rw [h] at h1
        have := (hry.pos (by omega)).2 (List.eq_nil_of_length_eq_zero h1)
        omega
      · exact h
    rcases (by omega : lb = 1 ∨ 2 ≤ lb) with h1 | h2
    · subst h1
      exact div_one va B cb ys n m La w ha hB hry hcb hcbm hge hn (by omega)
    · obtain ⟨p, rfl⟩ : ∃ p, lb = p + 2 := ⟨lb - 2, by omega⟩
      obtain ⟨A, la, ca, xs, rfl, hA, hrx, hca, hcam⟩ := ha
      exact div_long A B la ca cb p xs ys n m La w hA hrx hca hcam hB hry hcb hcbm hge hn hL

set_option maxHeartbeats 1000000 in
theorem gcd_any (va vb : Value) (n m La : Nat) (w : World) (ha : W32 w va n) (hb : W32 w vb m) (hn : Fit 4294967296 n La) (hm : Fit 4294967296 m La) (hL : La ≤ 1099511627775) :
    Calls Try.prog 132 #[va, vb] w (RetN .u32 4294967296 w (Nat.gcd n m)) := by
  have HA := Lib.hid ha
  have HB := Lib.hid hb
  clear ha hb
  go_enter Try.func132, Try.ntmps132
  go_wp2
  go_loopg [0, 1] m (fun g va vb wr => ∃ a b : Nat, g = b + 0 ∧ W32 wr va a ∧ W32 wr vb b ∧ Hid (Nat.gcd a b = Nat.gcd n m ∧ Fit 4294967296 a La ∧ Fit 4294967296 b La) ∧ Ext w wr)
  case atStart => exact ⟨n, m, rfl, HA.out, HB.out, ⟨rfl, hn, hm⟩, Ext.refl w⟩
  case round =>
    obtain ⟨a, b, hg, hA, hB, hG, hX⟩ := hrel
    have HA1 := Lib.hid hA
    have HX := Lib.hid hX
    have HG := Lib.hid hg
    obtain ⟨B, lb, cb, ys, hvb, hBi, hry, hcb, hcbm⟩ := hB
    subst hvb
    have HB1 := Lib.hid (⟨B, lb, cb, ys, rfl, hBi, hry, hcb, hcbm⟩ : W32 wr (.slice B lb cb) b)
    have HLB : Hid (ys.length = lb) := hBi.1
    have HRY := Lib.hid hry
    clear hA hX hBi hry hg
    rcases Nat.eq_zero_or_pos b with h0 | h0
    · have hl0 : lb = 0 := by
        have := (HRY.out.pos (by omega)).1 h0
        have h2 := HLB.out
        rw [this] at h2; simpa using h2.symm
      subst hl0
      have H0 := Lib.hid h0
      clear h0
      go_wp2
      go_ret
      refine ⟨_, rfl, ?_, HX.out⟩
      have := hG.out.1
      rw [H0.out, Nat.gcd_zero_right] at this
      rw [← this]
      exact HA1.out
    · have hl0 : 0 < lb := by
        rcases Nat.eq_zero_or_pos lb with h | h
        · have h1 := HLB.out
          rw [h] at h1
          have := (HRY.out.pos (by omega)).2 (List.eq_nil_of_length_eq_zero h1)
          omega
        · exact h
      go_wp2_with fail
      refine (div_any _ _ a b La _ HA1.out HB1.out h0 hG.out.2.1 hL).mono ?_
      rintro e w1 ⟨v1, v2, rfl, _, hv2, hX1⟩
      have HV2 := Lib.hid hv2
      have HX1 := Lib.hid hX1
      clear hv2 hX1
      go_wp2
      go_roundg (a % b)
      case rel =>
        refine ⟨b, a % b, rfl, W32.ext HB1.out HX1.out, HV2.out, ⟨?_, hG.out.2.2, hG.out.2.2.le (Nat.le_of_lt (Nat.mod_lt _ h0))⟩, HX.out.trans HX1.out⟩
        rw [← hG.out.1, Nat.gcd_comm b, ← Nat.gcd_rec, Nat.gcd_comm]
      case measure => rw [HG.out]; exact Nat.mod_lt _ h0
end Go.Proofs.Yteoijnaljkagfaa
namespace Go.Proofs.Yteoijnaljkagfaa

/-- A number with a sign. -/
def sgn (s : Bool) (n : Nat) : Int := if s then -(n : Int) else n
theorem sgn_true (n : Nat) : sgn true n = -(n : Int) := rfl
theorem sgn_false (n : Nat) : sgn false n = n := rfl
theorem sgn_abs (s : Bool) (n : Nat) : (sgn s n).natAbs = n := by cases s <;> simp [sgn]
theorem sgn_int (x : Int) : sgn (decide (x < 0)) x.natAbs = x := by
  by_cases h : x < 0 <;> simp [sgn, h] <;> omega
/-- The sign that a number bears: none if it is 0. -/
def nz (s : Bool) (n : Nat) : Bool := s && decide (n ≠ 0)
theorem nz_zero (s : Bool) : nz s 0 = false := by simp [nz]
theorem nz_false (n : Nat) : nz false n = false := rfl
theorem nz_pos (s : Bool) {n : Nat} (h : n ≠ 0) : nz s n = s := by simp [nz, h]
theorem sgn_neg_iff (s : Bool) (n : Nat) : decide (sgn s n < 0) = nz s n := by
  unfold nz
  cases s
  · simp [sgn]
  · by_cases h : n = 0
    · simp [sgn, h]
    · have : -(n : Int) < 0 := by omega
      simp [sgn, h]; omega

/-- The rational number of a sign, a numerator and a denominator. -/
def ratV (s : Bool) (n d : Nat) : Rat := mkRat (sgn s n) d

theorem sgn_div (s : Bool) {n g : Nat} (h : g ∣ n) : sgn s n / (g : Int) = sgn s (n / g) := by
  obtain ⟨k, rfl⟩ := h
  rcases Nat.eq_zero_or_pos g with h0 | h0
  · subst h0; cases s <;> simp [sgn]
  · rw [Nat.mul_div_cancel_left _ h0]
    cases s
    · simp only [sgn]; rw [if_neg (by simp), if_neg (by simp), Int.natCast_mul, Int.mul_ediv_cancel_left _ (by omega)]
    · simp only [sgn]; rw [if_pos trivial, if_pos trivial, Int.natCast_mul, ← Int.mul_neg, Int.mul_ediv_cancel_left _ (by omega)]
/-- In lowest terms. -/
theorem ratV_red (s : Bool) (n d : Nat) (hd : 0 < d) : (ratV s n d).num = sgn s (n / Nat.gcd n d) ∧ (ratV s n d).den = d / Nat.gcd n d := by
  have h : ratV s n d = Rat.normalize (sgn s n) d (by omega) := (Rat.normalize_eq_mkRat _).symm
  rw [h, Rat.normalize_eq]
  simp only [sgn_abs]
  exact ⟨sgn_div s (Nat.gcd_dvd_left n d), trivial⟩
theorem ratV_neg (s : Bool) (n d : Nat) (hd : 0 < d) : decide ((ratV s n d).num < 0) = nz s n ∧ (ratV s n d).num.natAbs = n / Nat.gcd n d := by
  rw [(ratV_red s n d hd).1, sgn_abs, sgn_neg_iff]
  refine ⟨?_, rfl⟩
  unfold nz
  have hg : 0 < Nat.gcd n d := Nat.gcd_pos_of_pos_right n hd
  congr 1
  have : n / Nat.gcd n d = 0 ↔ n = 0 := by
    constructor
    · intro h
      have hk := Nat.div_mul_cancel (Nat.gcd_dvd_left n d)
      rw [h, Nat.zero_mul] at hk
      exact hk.symm
    · rintro rfl; simp
  simp only [ne_eq, this]
theorem ratV_self (q : Rat) : ratV (decide (q.num < 0)) q.num.natAbs q.den = q := by
  unfold ratV; rw [sgn_int, Rat.mkRat_self]
theorem ratV_zero (s : Bool) (n d : Nat) (hd : 0 < d) : ratV s n d = 0 ↔ n = 0 := by
  unfold ratV
  rw [Rat.mkRat_eq_zero (by omega)]
  cases s <;> simp [sgn]

section
variable {s t : Bool} {n m d e : Nat}
theorem ratV_mul : ratV s n d * ratV t m e = ratV (s != t) (n * m) (d * e) := by
  unfold ratV
  rw [Rat.mkRat_mul_mkRat]
  congr 1
  cases s <;> cases t <;> simp [sgn, Int.natCast_mul] <;> grind
theorem ratV_add (hd : 0 < d) (he : 0 < e) : ratV s n d + ratV t m e = mkRat (sgn s n * e + sgn t m * d) (d * e) := by
  unfold ratV; exact Rat.mkRat_add_mkRat _ _ (by omega) (by omega)
theorem ratV_add_same (hd : 0 < d) (he : 0 < e) (h : s = t) : ratV s n d + ratV t m e = ratV s (n * e + m * d) (d * e) := by
  rw [ratV_add hd he, ratV]
  subst h
  congr 1
  cases s <;> simp [sgn, Int.natCast_mul] <;> grind
theorem ratV_add_ge (hd : 0 < d) (he : 0 < e) (h : s ≠ t) (hl : m * d ≤ n * e) : ratV s n d + ratV t m e = ratV s (n * e - m * d) (d * e) := by
  rw [ratV_add hd he, ratV]
  congr 1
  have hc : ((n * e - m * d : Nat) : Int) = (n : Int) * e - m * d := by rw [Int.natCast_sub hl]; simp
  cases s <;> cases t <;> simp [sgn] at h ⊢ <;> rw [hc] <;> grind
theorem ratV_add_lt (hd : 0 < d) (he : 0 < e) (h : s ≠ t) (hl : n * e ≤ m * d) : ratV s n d + ratV t m e = ratV t (m * d - n * e) (d * e) := by
  rw [ratV_add hd he, ratV]
  congr 1
  have hc : ((m * d - n * e : Nat) : Int) = (m : Int) * d - n * e := by rw [Int.natCast_sub hl]; simp
  cases s <;> cases t <;> simp [sgn] at h ⊢ <;> rw [hc] <;> grind
theorem ratV_opp : -ratV s n d = ratV (nz (!s) n) n d := by
  unfold ratV nz
  rw [Rat.neg_mkRat]
  congr 1
  cases s
  · by_cases h : n = 0 <;> simp [sgn, h]
  · simp [sgn]
theorem ratV_div (hd : 0 < d) (hm : 0 < m) : ratV s n d / ratV t m e = ratV (s != t) (n * e) (d * m) := by
  have hmz : (m : Rat) ≠ 0 := by intro h; have := (Rat.natCast_inj (a := m) (b := 0)).1 h; omega
  have hdz : (d : Rat) ≠ 0 := by intro h; have := (Rat.natCast_inj (a := d) (b := 0)).1 h; omega
  unfold ratV
  rw [Rat.mkRat_eq_div, Rat.mkRat_eq_div, Rat.mkRat_eq_div]
  have c1 : ∀ (b : Bool) (k : Nat), ((sgn b k : Int) : Rat) = if b then -(k : Rat) else (k : Rat) := fun b k => by cases b <;> simp [sgn, Rat.intCast_natCast]
  rw [c1, c1, c1, Rat.natCast_mul, Rat.natCast_mul]
  by_cases hez : (e : Rat) = 0
  · rw [hez]; cases s <;> cases t <;> simp [Rat.div_def]
  · cases s <;> cases t <;> simp <;> grind
end
theorem ratV_int (x : Int) : ratV (decide (x < 0)) x.natAbs 1 = (x : Rat) := by
  unfold ratV; rw [sgn_int, Rat.mkRat_eq_div]; simp; grind

/-- How many words a rational number has. -/
def FitQ (q : Rat) (L : Nat) : Prop := Fit 4294967296 q.num.natAbs L ∧ Fit 4294967296 q.den L
theorem fit_red {s : Bool} {n d L : Nat} (hd : 0 < d) (h1 : Fit 4294967296 n L) (h2 : Fit 4294967296 d L) : FitQ (ratV s n d) L := by
  refine ⟨?_, ?_⟩
  · rw [(ratV_neg s n d hd).2]; exact h1.le (Nat.div_le_self _ _)
  · rw [(ratV_red s n d hd).2]; exact h2.le (Nat.div_le_self _ _)
/-- The sign of a number. -/
def sgnQ (q : Rat) : Int := if q.num < 0 then -1 else if q.num = 0 then 0 else 1
theorem sgnQ_zero {s : Bool} {n d : Nat} (hd : 0 < d) (h : n = 0) : sgnQ (ratV s n d) = 0 := by
  have : (ratV s n d) = 0 := (ratV_zero s n d hd).2 h
  rw [this]; rfl
theorem sgnQ_neg {n d : Nat} (hd : 0 < d) (h : 0 < n) : sgnQ (ratV true n d) = -1 := by
  have h1 := (ratV_neg true n d hd).1
  have : (ratV true n d).num < 0 := by simpa [nz, show n ≠ 0 by omega] using h1
  simp [sgnQ, this]
theorem sgnQ_pos {n d : Nat} (hd : 0 < d) (h : 0 < n) : sgnQ (ratV false n d) = 1 := by
  have h1 := (ratV_neg false n d hd).1
  have h2 : ¬ (ratV false n d).num < 0 := by simpa [nz] using h1
  have h3 : (ratV false n d).num ≠ 0 := fun e => by
    rw [Rat.num_eq_zero, ratV_zero _ _ _ hd] at e; omega
  simp [sgnQ, h2, h3]
end Go.Proofs.Yteoijnaljkagfaa
namespace Go.Proofs.Yteoijnaljkagfaa
open Go.RowKit

/-- A value that is a rational number of the program: a sign, a numerator and a denominator. -/
def NumV (w : World) (v : Value) (s : Bool) (n d : Nat) : Prop := ∃ vn vd, v = .agg #[.bool s, vn, vd] ∧ W32 w vn n ∧ W32 w vd d
theorem NumV.ext {w w' : World} {v : Value} {s : Bool} {n d : Nat} (h : NumV w v s n d) (he : Ext w w') : NumV w' v s n d := by
  obtain ⟨a, b, h1, h2, h3⟩ := h
  exact ⟨a, b, h1, h2.ext he, h3.ext he⟩
theorem W32.open {w : World} {v : Value} {n : Nat} (h : W32 w v n) : ∃ A l c, v = .slice A l c ∧ W32 w (.slice A l c) n ∧ (l = 0 ↔ n = 0) := by
  obtain ⟨A, l, c, xs, rfl, hI, hr, rest⟩ := h
  refine ⟨A, l, c, rfl, ⟨A, l, c, xs, rfl, hI, hr, rest⟩, ?_⟩
  rw [hr.pos (by omega), ← hI.1]
  exact List.length_eq_zero_iff
theorem W32.one (w : World) (t : TypeId) : W32 (w.alloc (.cells #[.int .u32 1] t)) (.slice (some ⟨w.heap.size, 0, none⟩) 1 1) 1 :=
  ⟨_, 1, 1, [1], rfl, ⟨rfl, fun x hx => by simp at hx; subst hx; exact wf32 (by omega), At.new w [_] t⟩, Rep.one (by omega), by omega, by omega⟩
theorem W32.one' {w w' : World} (t : TypeId) {N : Nat} (hN : N = w.heap.size) (he : w' = w.alloc (.cells #[.int .u32 1] t)) : W32 w' (.slice (some ⟨N, 0, none⟩) 1 1) 1 := by
  subst hN he; exact W32.one w t

/-- A value that is no integer. -/
def NoInt (v : Value) : Prop := ∀ k x, v ≠ .int k x
theorem noInt_bool (b : Bool) : NoInt (.bool b) := fun _ _ h => by cases h
theorem noInt_slice (A : Option Addr) (l c : Nat) : NoInt (.slice A l c) := fun _ _ h => by cases h
/-- Storing into a block that holds no integers changes no slice of integers. -/
theorem Ints.past {k : IntKind} {w : World} {A : Option Addr} {n : Nat} {xs : List Int} {g : Nat} (h : Ints k w A n xs) (hg : ∀ i v, w.cell? ⟨g, i, none⟩ = some v → NoInt v) (i : Nat) (u : Value) : Ints k (w.setCell ⟨g, i, none⟩ u) A n xs := by
  refine ⟨h.1, h.2.1, fun hne => ?_⟩
  obtain ⟨b, off, hA, hc⟩ := h.2.2 hne
  have hb : b ≠ g := by
    intro e
    subst e
    have h0 : ∃ v, (xs.map (Value.int k))[0]? = some v := by
      cases hm : xs.map (Value.int k) with
      | nil => exact absurd hm hne
      | cons v vs => exact ⟨v, rfl⟩
    obtain ⟨v, hv⟩ := h0
    have h1 := hg _ _ (hc 0 v hv)
    rw [List.getElem?_map] at hv
    cases hx : xs[0]? with
    | none => rw [hx] at hv; simp at hv
    | some x => rw [hx] at hv; simp at hv; exact h1 k x hv.symm
  refine ⟨b, off, hA, fun j v hv => ?_⟩
  have hlt := World.block_lt_of_cell? w _ (hc j v hv)
  have hh : (w.setCell ⟨g, i, none⟩ u).heap[b]? = w.heap[b]? := Below.heap_setCell w ⟨g, i, none⟩ u b hb
  have := hc j v hv
  unfold World.cell? at this ⊢
  simp only [hh]
  exact this
/-- A block that holds no integers. -/
def NoInts (w : World) (g : Nat) : Prop := ∃ t cs, Blk w g t cs ∧ ∀ v ∈ cs, NoInt v
theorem NoInts.cell {w : World} {g : Nat} (h : NoInts w g) : ∀ i v, w.cell? ⟨g, i, none⟩ = some v → NoInt v := by
  obtain ⟨t, cs, hB, hv⟩ := h
  intro i v hc
  rw [hB.cell i] at hc
  exact hv v (Array.mem_of_getElem? hc)
theorem NoInts.set {w : World} {g : Nat} (h : NoInts w g) (i : Nat) {u : Value} (hu : NoInt u) : NoInts (w.setCell ⟨g, i, none⟩ u) g := by
  obtain ⟨t, cs, hB, hv⟩ := h
  refine ⟨t, _, hB.set i u, fun v hm => ?_⟩
  rcases Array.mem_or_eq_of_mem_setIfInBounds hm with h | h
  · exact hv v h
  · subst h; exact hu
theorem NoInts.alloc {w : World} {g : Nat} (h : NoInts w g) (o : Obj) : NoInts (w.alloc o) g := by
  obtain ⟨t, cs, hB, hv⟩ := h
  exact ⟨t, cs, hB.alloc o, hv⟩
theorem NoInts.ext {w w' : World} {g : Nat} (h : NoInts w g) (he : Ext w w') : NoInts w' g := by
  obtain ⟨t, cs, hB, hv⟩ := h
  exact ⟨t, cs, hB.ext he, hv⟩
theorem NoInts.three {w : World} {g : Nat} {t : TypeId} {b : Bool} {A1 A2 : Option Addr} {l1 c1 l2 c2 : Nat} (h : Blk w g t #[.bool b, .slice A1 l1 c1, .slice A2 l2 c2]) : NoInts w g :=
  ⟨t, _, h, fun v hv => by
    simp at hv
    rcases hv with rfl | rfl | rfl
    · exact noInt_bool _
    · exact noInt_slice _ _ _
    · exact noInt_slice _ _ _⟩
theorem W32.past {w : World} {v : Value} {n g : Nat} (h : W32 w v n) (hg : NoInts w g) (i : Nat) (u : Value) : W32 (w.setCell ⟨g, i, none⟩ u) v n := by
  obtain ⟨A, l, c, xs, rfl, hI, rest⟩ := h
  exact ⟨A, l, c, xs, rfl, hI.past hg.cell i u, rest⟩
/-- Behind the store of a result with a sign and two slices. -/
theorem W32.boxed {w : World} {v : Value} {n g : Nat} (h : W32 w v n) (hg : NoInts w g) (b : Bool) (A1 A2 : Option Addr) (l1 c1 l2 c2 : Nat) :
    W32 (((w.setCell ⟨g, 0, none⟩ (.bool b)).setCell ⟨g, 1, none⟩ (.slice A1 l1 c1)).setCell ⟨g, 2, none⟩ (.slice A2 l2 c2)) v n :=
  ((h.past hg 0 _).past (hg.set 0 (noInt_bool b)) 1 _).past ((hg.set 0 (noInt_bool b)).set 1 (noInt_slice _ _ _)) 2 _
theorem Ext.boxed {w0 w : World} {g : Nat} (h : Ext w0 w) (hg : w0.heap.size ≤ g) (x y z : Value) : Ext w0 (((w.setCell ⟨g, 0, none⟩ x).setCell ⟨g, 1, none⟩ y).setCell ⟨g, 2, none⟩ z) :=
  ((h.setCell hg x).setCell hg y).setCell hg z

/-- What a call returns that makes a rational number. -/
def RetR (w : World) (s : Bool) (n d : Nat) (e : Ending) (w' : World) : Prop := ∃ v, e = .returned v ∧ NumV w' v s n d ∧ Ext w w'

set_option maxHeartbeats 1000000 in
theorem int_any (x : Int) (w : World) (h0 : -9223372036854775808 ≤ x) (h1 : x ≤ 9223372036854775807) :
    Calls Try.prog 75 #[.int .i64 x] w (RetR w (decide (x < 0)) x.natAbs 1) := by
  by_cases hn : x < 0
  · have hd : decide (x < 0) = true := by simpa using hn
    have hw : IntKind.u64.wrap (-(x + 1)) = -(x + 1) := IntWalk.u64_in _ (by omega)
    rw [hd]
    clear hd
    go_enter Try.func75, Try.ntmps75
    go_wp2_with fail
    refine (natOf_any (-(x + 1) + 1) _ (by omega) (by omega)).mono ?_
    rintro e w1 ⟨v, rfl, hv, hX⟩
    have e1 : (-(x + 1) + 1).toNat = x.natAbs := by omega
    rw [e1] at hv
    obtain ⟨A, l, c, rfl, hw1, _⟩ := W32.open hv
    have HV := Lib.hid hw1
    have HX := Lib.hid hX
    have hB := (Blk.new w 96 #[.bool false, .slice none 0 0, .slice none 0 0]).ext hX
    have HB := Lib.hid hB
    obtain ⟨z0, z1, z2, f0, f1, f2⟩ := hB.three
    have hlt : w.heap.size < w1.heap.size := by have := hX.size; simp at this; omega
    clear hv hw1 hX e1 hB
    go_wp2
    refine bodyPost_ret (v := .agg #[.bool true, .slice A l c, .slice (some ⟨w1.heap.size, 0, none⟩) 1 1]) (by simp [results, Try.results75, go_sem, *]) rfl ?_
    exact ⟨_, rfl, ⟨_, _, rfl, (HV.out.boxed (NoInts.three HB.out) _ _ _ _ _ _ _).ext ((Ext.refl _).alloc _), W32.one' _ (by simp) rfl⟩, (Ext.boxed (((Ext.refl w).alloc _).trans HX.out) (Nat.le_refl _) _ _ _).alloc _⟩
  · have hd : decide (x < 0) = false := by simpa using hn
    have hw : IntKind.u64.wrap x = x := IntWalk.u64_in _ (by omega)
    rw [hd]
    clear hd
    go_enter Try.func75, Try.ntmps75
    go_wp2_with fail
    refine (natOf_any (x) _ (by omega) (by omega)).mono ?_
    rintro e w1 ⟨v, rfl, hv, hX⟩
    have e1 : (x).toNat = x.natAbs := by omega
    rw [e1] at hv
    obtain ⟨A, l, c, rfl, hw1, _⟩ := W32.open hv
    have HV := Lib.hid hw1
    have HX := Lib.hid hX
    have hB := (Blk.new w 96 #[.bool false, .slice none 0 0, .slice none 0 0]).ext hX
    have HB := Lib.hid hB
    obtain ⟨z0, z1, z2, f0, f1, f2⟩ := hB.three
    have hlt : w.heap.size < w1.heap.size := by have := hX.size; simp at this; omega
    clear hv hw1 hX e1 hB
    go_wp2
    refine bodyPost_ret (v := .agg #[.bool false, .slice A l c, .slice (some ⟨w1.heap.size, 0, none⟩) 1 1]) (by simp [results, Try.results75, go_sem, *]) rfl ?_
    exact ⟨_, rfl, ⟨_, _, rfl, (HV.out.boxed (NoInts.three HB.out) _ _ _ _ _ _ _).ext ((Ext.refl _).alloc _), W32.one' _ (by simp) rfl⟩, (Ext.boxed (((Ext.refl w).alloc _).trans HX.out) (Nat.le_refl _) _ _ _).alloc _⟩

end Go.Proofs.Yteoijnaljkagfaa
namespace Go.Proofs.Yteoijnaljkagfaa
open Go.RowKit
theorem Blk.at_ {W : World} {t : TypeId} {cs : Array Value} {g : Nat} (hg : W.heap.size = g) : Blk (W.alloc (.cells cs t)) g t cs := hg ▸ Blk.new W t cs
theorem ret_ii {a b c d : Int} (h : a = c) (k : b = d) : Ending.returned (.tuple #[.int .i64 a, .int .i64 b]) = .returned (.tuple #[.int .i64 c, .int .i64 d]) := by rw [h, k]
theorem Ext.two {w0 w : World} {g : Nat} (h : Ext w0 w) (hg : w0.heap.size ≤ g) (x y : Value) : Ext w0 ((w.setCell ⟨g, 0, none⟩ x).setCell ⟨g, 1, none⟩ y) := (h.setCell hg x).setCell hg y
end Go.Proofs.Yteoijnaljkagfaa
namespace Go.Proofs.Yteoijnaljkagfaa
open Go.RowKit

/-- An integer of the reference. -/
def IntZ (w : World) (v : Value) (z : Int) : Prop := ∃ A l c, v = .agg #[.bool (decide (z < 0)), .slice A l c] ∧ Z16 w (.slice A l c) z.natAbs
theorem IntZ.ext {w w' : World} {v : Value} {z : Int} (h : IntZ w v z) (he : Ext w w') : IntZ w' v z := by
  obtain ⟨A, l, c, h1, h2⟩ := h
  exact ⟨A, l, c, h1, h2.ext he⟩
/-- What a call returns that makes an integer. -/
def RetZ (w : World) (z : Int) (e : Ending) (w' : World) : Prop := ∃ v, e = .returned v ∧ IntZ w' v z ∧ Ext w w'
theorem nats_past {w : World} {v : Value} {n g : Nat} {k : IntKind} {B : Int} (h : NatV k B w v n) (hN : NoInts w g) (i : Nat) (x : Value) : NatV k B (w.setCell ⟨g, i, none⟩ x) v n := by
  obtain ⟨A, m, c, xs, h1, h2, h3⟩ := h
  exact ⟨A, m, c, xs, h1, h2.past hN.cell i x, h3⟩
theorem NoInts.two {w : World} {g : Nat} {t : TypeId} {b : Bool} {A1 : Option Addr} {l1 c1 : Nat} (h : Blk w g t #[.bool b, .slice A1 l1 c1]) : NoInts w g :=
  ⟨t, _, h, fun v hv => by
    simp at hv
    rcases hv with rfl | rfl
    · exact noInt_bool _
    · exact noInt_slice _ _ _⟩
theorem small_step {out : List Int} {k : Nat} {u N : Int} (hl : out.length = k) (hI : val 65536 out + u * 65536 ^ k = N) : val 65536 (out ++ [u % 65536]) + u / 65536 * 65536 ^ (k + 1) = N := by
  rw [val_snoc, hl, Int.pow_succ, ← hI]
  have h := Int.mul_ediv_add_emod u 65536
  generalize u / 65536 = q at *
  generalize u % 65536 = r at *
  grind

set_option maxRecDepth 100000 in
set_option maxHeartbeats 2000000 in
theorem small_any (n : Int) (w : World) (h0 : -9223372036854775808 ≤ n) (h1 : n ≤ 9223372036854775807) :
    Calls Try.prog 79 #[.int .i64 n] w (RetZ w n) := by
  obtain ⟨N, U, hN0, hN1, hNn, hu, hNu, hNp⟩ : ∃ N U : Int, 0 ≤ N ∧ N ≤ 9223372036854775808 ∧ Hid (N = (n.natAbs : Int)) ∧ IntKind.u64.wrap n = U ∧ (n < 0 → IntKind.u64.wrap (-U) = N) ∧ (¬ n < 0 → U = N) := by
    refine ⟨(n.natAbs : Int), IntKind.u64.wrap n, by omega, by omega, rfl, rfl, fun h => ?_, fun h => ?_⟩
    · rw [IntKind.wrap_u64, IntKind.wrap_u64]; omega
    · rw [IntKind.wrap_u64]; omega
  by_cases hneg : n < 0
  · have hw := hNu hneg
    have hb : decide (n < 0) = true := decide_eq_true hneg
    clear hNu hNp
    go_enter Try.func79, Try.ntmps79
    go_wp2_with fail
    clear hu hw
    go_loopg [3, 4] N.toNat (fun g s v wr => ∃ (k : Nat) (u : Int) (out : List Int), g = u.toNat ∧ s = .int .u64 u ∧ 0 ≤ u ∧ u ≤ 9223372036854775808 ∧ k ≤ 4 ∧ Hid (u * 65536 ^ k ≤ 9223372036854775808) ∧ Hid (wr.ownsRow (w.heap.size + 1) 3 1 v k (out.map (.int .i64))) ∧ Hid (Dg 65536 out) ∧ Hid (out.length = k) ∧ Hid (u = 0 → Nm out) ∧ Hid (val 65536 out + u * 65536 ^ k = N) ∧ Hid (Blk wr w.heap.size 40 #[.bool false, .slice none 0 0]) ∧ Hid (Ext w wr))
    case atStart => exact ⟨0, N, [], rfl, rfl, hN0, hN1, by omega, by simp [Hid]; omega, World.ownsRow_nil _ _ _ _, Dg.nil, rfl, fun _ => Nm.nil, by simp [Hid, val], Blk.new _ _ _, (Ext.refl w).alloc _⟩
    case round =>
      obtain ⟨k, u, out, rfl, rfl, hu0, hu1, hk4, HB, HO, HD, HLO, HNM, HI, KR, HX⟩ := hrel
      by_cases hz : u = 0
      · subst hz
        have hI := HI.out
        rw [Int.zero_mul, Int.add_zero] at hI
        obtain ⟨A2, c2, rfl⟩ := own_slice HO.out
        have HOS : Hid (OwnS .i64 3 (w.heap.size + 1) wr A2 k c2 out) := ⟨HO.out, HLO.out, dg_wf HD.out⟩
        have HV : Hid (Z16 wr (.slice A2 k c2) n.natAbs) := ⟨A2, k, c2, out, rfl, HOS.out.ints, ⟨HD.out, HNM.out rfl, by rw [hI, hNn.out]⟩, HOS.out.cap.1, HOS.out.cap.2⟩
        clear hI HI HNM
        have r0 : wr.cell? ⟨w.heap.size, 0, none⟩ = some (.bool false) := KR.out.cell 0
        have r1 : wr.cell? ⟨w.heap.size, 1, none⟩ = some (.slice none 0 0) := KR.out.cell 1
        have f0 : wr.frozen? ⟨w.heap.size, 0, none⟩ = false := KR.out.free 0
        have f1 : wr.frozen? ⟨w.heap.size, 1, none⟩ = false := KR.out.free 1
        go_wp2
        refine bodyPost_ret (v := .agg #[.bool true, .slice A2 k c2]) (by simp [results, Try.results79, go_sem, *]) rfl ?_
        refine ⟨_, rfl, ⟨A2, k, c2, by rw [hb], ?_⟩, HX.out.two (Nat.le_refl _) _ _⟩
        have hNI := NoInts.two KR.out
        exact nats_past (nats_past HV.out hNI 0 _) (hNI.set 0 (noInt_bool _)) 1 _
      · have hup : 0 < u := by omega
        have hkl : k < 4 := by
          apply Nat.lt_of_not_le
          intro h
          obtain rfl : k = 4 := by omega
          have := HB.out
          rw [show (65536 : Int) ^ 4 = 18446744073709551616 by decide] at this
          omega
        have hm0 := Int.emod_nonneg u (show (65536 : Int) ≠ 0 by omega)
        have hm1 := Int.emod_lt_of_pos u (show (0 : Int) < 65536 by omega)
        have hw2 : IntKind.i64.wrap (u % 65536) = u % 65536 := IntWalk.i64_in _ (by omega)
        have HST := Lib.hid (small_step HLO.out HI.out)
        have HDD := Lib.hid (HD.out.append (Dg.one ⟨hm0, hm1⟩))
        have HBB : Hid (u / 65536 * 65536 ^ (k + 1) ≤ 9223372036854775808) := by
          show _ ≤ _
          have h2 := HB.out
          have h3 : u / 65536 * 65536 ≤ u := Int.ediv_mul_le u (by omega)
          have h4 : u / 65536 * 65536 * 65536 ^ k ≤ u * 65536 ^ k := Int.mul_le_mul_of_nonneg_right h3 (Int.le_of_lt (pow_pos' (by omega) k))
          have h5 : u / 65536 * 65536 ^ (k + 1) = u / 65536 * 65536 * 65536 ^ k := by rw [Int.pow_succ]; grind
          omega
        have HNN : Hid (u / 65536 = 0 → Nm (out ++ [u % 65536])) := fun h => Nm.snoc (by omega)
        have hown := HO.out
        clear hm0 hm1
        go_wp2_with (at_builtin; refine wpList_app _ elI rfl _ _ rfl (w.heap.size + 1) _ k _ rfl (hown.alloc _) _ 1 1 [.int .i64 (u % 65536)] rfl rfl (At.new _ [_] _) (by simp [Value.oneCell']) (by omega) (by unfold maxLen; omega) (by have := KR.out.lt; simp; omega) ?_; intro v1 w1 hown1 hgr1 _; have HO1 := Lib.hid hown1; have HX1 := Lib.hid (Ext.push HX.out (World.ownsRow.mono' HO.out (Nat.le_succ _)) hgr1); have KR1 := Lib.hid ((KR.out.alloc _).grown hgr1 (fun e => by have := (HO.out.lt _ e.symm).1; omega)); clear hown1 hgr1)
        go_roundg (u / 65536).toNat
        case rel => exact ⟨k + 1, u / 65536, out ++ [u % 65536], rfl, rfl, by omega, by omega, by omega, HBB.out, by rw [List.map_append]; exact HO1.out, HDD.out, by rw [List.length_append, HLO.out]; rfl, HNN.out, HST.out, KR1.out, HX1.out⟩
        case measure => omega
  · obtain rfl := hNp hneg
    have hb : decide (n < 0) = false := decide_eq_false hneg
    clear hNu hNp
    go_enter Try.func79, Try.ntmps79
    go_wp2_with fail
    clear hu
    go_loopg [3, 4] U.toNat (fun g s v wr => ∃ (k : Nat) (u : Int) (out : List Int), g = u.toNat ∧ s = .int .u64 u ∧ 0 ≤ u ∧ u ≤ 9223372036854775808 ∧ k ≤ 4 ∧ Hid (u * 65536 ^ k ≤ 9223372036854775808) ∧ Hid (wr.ownsRow (w.heap.size + 1) 3 1 v k (out.map (.int .i64))) ∧ Hid (Dg 65536 out) ∧ Hid (out.length = k) ∧ Hid (u = 0 → Nm out) ∧ Hid (val 65536 out + u * 65536 ^ k = U) ∧ Hid (Blk wr w.heap.size 40 #[.bool false, .slice none 0 0]) ∧ Hid (Ext w wr))
    case atStart => exact ⟨0, U, [], rfl, rfl, hN0, hN1, by omega, by simp [Hid]; omega, World.ownsRow_nil _ _ _ _, Dg.nil, rfl, fun _ => Nm.nil, by simp [Hid, val], Blk.new _ _ _, (Ext.refl w).alloc _⟩
    case round =>
      obtain ⟨k, u, out, rfl, rfl, hu0, hu1, hk4, HB, HO, HD, HLO, HNM, HI, KR, HX⟩ := hrel
      by_cases hz : u = 0
      · subst hz
        have hI := HI.out
        rw [Int.zero_mul, Int.add_zero] at hI
        obtain ⟨A2, c2, rfl⟩ := own_slice HO.out
        have HOS : Hid (OwnS .i64 3 (w.heap.size + 1) wr A2 k c2 out) := ⟨HO.out, HLO.out, dg_wf HD.out⟩
        have HV : Hid (Z16 wr (.slice A2 k c2) n.natAbs) := ⟨A2, k, c2, out, rfl, HOS.out.ints, ⟨HD.out, HNM.out rfl, by rw [hI, hNn.out]⟩, HOS.out.cap.1, HOS.out.cap.2⟩
        clear hI HI HNM
        have r0 : wr.cell? ⟨w.heap.size, 0, none⟩ = some (.bool false) := KR.out.cell 0
        have r1 : wr.cell? ⟨w.heap.size, 1, none⟩ = some (.slice none 0 0) := KR.out.cell 1
        have f0 : wr.frozen? ⟨w.heap.size, 0, none⟩ = false := KR.out.free 0
        have f1 : wr.frozen? ⟨w.heap.size, 1, none⟩ = false := KR.out.free 1
        go_wp2
        refine bodyPost_ret (v := .agg #[.bool false, .slice A2 k c2]) (by simp [results, Try.results79, go_sem, *]) rfl ?_
        refine ⟨_, rfl, ⟨A2, k, c2, by rw [hb], ?_⟩, HX.out.two (Nat.le_refl _) _ _⟩
        have hNI := NoInts.two KR.out
        exact nats_past (nats_past HV.out hNI 0 _) (hNI.set 0 (noInt_bool _)) 1 _
      · have hup : 0 < u := by omega
        have hkl : k < 4 := by
          apply Nat.lt_of_not_le
          intro h
          obtain rfl : k = 4 := by omega
          have := HB.out
          rw [show (65536 : Int) ^ 4 = 18446744073709551616 by decide] at this
          omega
        have hm0 := Int.emod_nonneg u (show (65536 : Int) ≠ 0 by omega)
        have hm1 := Int.emod_lt_of_pos u (show (0 : Int) < 65536 by omega)
        have hw2 : IntKind.i64.wrap (u % 65536) = u % 65536 := IntWalk.i64_in _ (by omega)
        have HST := Lib.hid (small_step HLO.out HI.out)
        have HDD := Lib.hid (HD.out.append (Dg.one ⟨hm0, hm1⟩))
        have HBB : Hid (u / 65536 * 65536 ^ (k + 1) ≤ 9223372036854775808) := by
          show _ ≤ _
          have h2 := HB.out
          have h3 : u / 65536 * 65536 ≤ u := Int.ediv_mul_le u (by omega)
          have h4 : u / 65536 * 65536 * 65536 ^ k ≤ u * 65536 ^ k := Int.mul_le_mul_of_nonneg_right h3 (Int.le_of_lt (pow_pos' (by omega) k))
          have h5 : u / 65536 * 65536 ^ (k + 1) = u / 65536 * 65536 * 65536 ^ k := by rw [Int.pow_succ]; grind
          omega
        have HNN : Hid (u / 65536 = 0 → Nm (out ++ [u % 65536])) := fun h => Nm.snoc (by omega)
        have hown := HO.out
        clear hm0 hm1
        go_wp2_with (at_builtin; refine wpList_app _ elI rfl _ _ rfl (w.heap.size + 1) _ k _ rfl (hown.alloc _) _ 1 1 [.int .i64 (u % 65536)] rfl rfl (At.new _ [_] _) (by simp [Value.oneCell']) (by omega) (by unfold maxLen; omega) (by have := KR.out.lt; simp; omega) ?_; intro v1 w1 hown1 hgr1 _; have HO1 := Lib.hid hown1; have HX1 := Lib.hid (Ext.push HX.out (World.ownsRow.mono' HO.out (Nat.le_succ _)) hgr1); have KR1 := Lib.hid ((KR.out.alloc _).grown hgr1 (fun e => by have := (HO.out.lt _ e.symm).1; omega)); clear hown1 hgr1)
        go_roundg (u / 65536).toNat
        case rel => exact ⟨k + 1, u / 65536, out ++ [u % 65536], rfl, rfl, by omega, by omega, by omega, HBB.out, by rw [List.map_append]; exact HO1.out, HDD.out, by rw [List.length_append, HLO.out]; rfl, HNN.out, HST.out, KR1.out, HX1.out⟩
        case measure => omega

end Go.Proofs.Yteoijnaljkagfaa
namespace Go.Proofs.Yteoijnaljkagfaa
open Go.RowKit

theorem grownBy_set' (w : World) (g i : Nat) (u : Value) : w.grownBy (w.setCell ⟨g, i, none⟩ u) (some g) :=
  ⟨rfl, rfl, rfl, by simp, fun k _ hk => heap_setCell_other w ⟨g, i, none⟩ k u (fun e => hk (by simp [e]))⟩
theorem OwnS.far {k : IntKind} {e : TypeId} {base g n c : Nat} {w : World} {A : Option Addr} {xs : List Int} (h : OwnS k e base w A n c xs) (hg : g < base) (i : Nat) (u : Value) : OwnS k e base (w.setCell ⟨g, i, none⟩ u) A n c xs := by
  refine ⟨World.ownsRow.kept h.own (grownBy_set' w g i u) ?_, h.len, h.wf⟩
  rcases hv : (Value.slice A n c).ownBlock with _ | b
  · exact .inl rfl
  · right
    intro e
    injection e with e
    have := (h.own.lt b hv).1
    omega
end Go.Proofs.Yteoijnaljkagfaa
namespace Go.Proofs.Yteoijnaljkagfaa
open Go.RowKit

/-- The bytes of the decimal text of n. -/
def Dec (n : Nat) (s : List Int) : Prop := (n = 0 ∧ s = [48]) ∨ (n ≠ 0 ∧ ∃ xs, Rep 10 xs n ∧ s = (xs.map (48 + ·)).reverse)
theorem Dec.unique {n : Nat} {s t : List Int} (h : Dec n s) (k : Dec n t) : s = t := by
  rcases h with ⟨h0, rfl⟩ | ⟨h0, xs, hx, rfl⟩ <;> rcases k with ⟨k0, rfl⟩ | ⟨k0, ys, hy, rfl⟩
  · rfl
  · exact absurd h0 k0
  · exact absurd k0 h0
  · rw [Rep.unique (by omega) hx hy]

/-- A slice's words do not lie in the block 'row'. -/
def Sep (v : Value) (row : Option Nat) : Prop := ∀ A n c, v = .slice A n c → 0 < n → ∀ b off, A = some ⟨b, off, none⟩ → row ≠ some b
theorem Sep.nil (v : Value) : Sep v none := fun _ _ _ _ _ _ _ _ h => by cases h
theorem NatV.grown {k : IntKind} {B : Int} {w w' : World} {v : Value} {n : Nat} {row : Option Nat} (h : NatV k B w v n) (hg : w.grownBy w' row) (hs : Sep v row) : NatV k B w' v n := by
  obtain ⟨A, m, c, xs, rfl, ⟨h1, h2, h3⟩, h4⟩ := h
  refine ⟨A, m, c, xs, rfl, ⟨h1, h2, fun hn => ?_⟩, h4⟩
  obtain ⟨b, off, hA, hc⟩ := h3 hn
  have hm : 0 < m := by
    rw [← h1]; rcases xs with _ | ⟨x, xs⟩
    · simp at hn
    · simp
  refine ⟨b, off, hA, fun j v hv => ?_⟩
  have hcell := hc j v hv
  rw [← hcell]
  exact World.cell?_of_block (w := w) (hg.block b (World.block_lt_of_cell? w _ hcell) (fun e => hs A m c rfl hm b off hA e.symm))
theorem Sep.new {k : IntKind} {B : Int} {w : World} {v : Value} {n : Nat} (h : NatV k B w v n) {s : Nat} (hs : w.heap.size ≤ s) : Sep v (some s) := by
  obtain ⟨A, m, c, xs, rfl, ⟨h1, h2, h3⟩, h4⟩ := h
  intro A' n' c' e hn b off hA hb
  injection e with e1 e2 e3
  subst e1 e2 e3
  rcases xs with _ | ⟨x, xs⟩
  · simp at h1; omega
  · obtain ⟨b', off', hA', hc⟩ := h3 (by simp)
    rw [hA] at hA'
    injection hA' with hA'
    injection hA' with hb' _ _
    subst hb'
    have := World.block_lt_of_cell? w _ (hc 0 _ rfl)
    injection hb with hb
    simp only at this
    omega
theorem Sep.fresh {w : World} {base : Nat} {e : TypeId} {size m c l : Nat} {v : Value} {vs : List Value} (h : w.ownsRow base e size v l vs) : Sep (.slice (some ⟨w.heap.size, 0, none⟩) m c) v.ownBlock := by
  intro A' n' c' e' hn b off hA hb
  injection e' with e1 e2 e3
  subst e1
  injection hA with hA
  injection hA with hA
  subst hA
  rcases h.2 with ⟨rfl, _⟩ | ⟨g, cap, cur, rfl, hg, hb', _⟩
  · cases hb
  · have : g = w.heap.size := by simpa [Value.ownBlock] using hb
    subst this
    have := Array.getElem?_eq_some_iff.1 hb'
    obtain ⟨h1, _⟩ := this
    omega

/-- What word returns, with the block of the quotient. -/
def RetWS (w : World) (q : Nat) (r : Int) (e : Ending) (w' : World) : Prop := ∃ m c, e = .returned (.tuple #[.slice (some ⟨w.heap.size, 0, none⟩) m c, .int .u32 r]) ∧ W32 w' (.slice (some ⟨w.heap.size, 0, none⟩) m c) q ∧ Ext w w'

set_option maxHeartbeats 1000000 in
theorem word_sep (va : Value) (n La : Nat) (d : Int) (w : World) (ha : W32 w va n) (hn : Fit 4294967296 n La) (hL : La ≤ 1099511627776) (hd0 : 0 < d) (hd1 : d ≤ 4294967295) :
    Calls Try.prog 135 #[va, .int .u32 d] w (RetWS w (n / d.toNat) ((n : Int) % d)) := by
  obtain ⟨A, la, ca, xs, rfl, hA, hrx, hca, hcam⟩ := ha
  have hla := hn.len (by omega) hrx
  rw [hA.1] at hla
  have HA := Lib.hid hA
  have HN := Lib.hid hrx
  have HLA : Hid (xs.length = la) := hA.1
  clear hA hrx hn
  go_enter Try.func135, Try.ntmps135
  go_wp2_with (at_make; refine wpList_mk _ elW rfl rfl _ _ rfl w.heap.size _ _ _ _ la la rfl rfl (by omega) (by omega) (Nat.le_refl _) (by omega) (by unfold maxLen; omega) (Nat.le_refl _) ?_; intro w1 hown1 hext1 hsz1)
  have HO1 := Lib.hid (OwnS.made hown1)
  have HX1 := Lib.hid hext1
  clear hown1 hext1 hsz1
  go_loopg [7, 8] (la + 1) (fun g rs i wr => ∃ (k : Nat) (r : Int) (out : List Int), g = k + 1 ∧ k ≤ la ∧ i = .int .i64 ((k : Int) - 1) ∧ rs = .int .u64 r ∧ 0 ≤ r ∧ r < d ∧ OwnS .u32 79 w.heap.size wr (some ⟨w.heap.size, 0, none⟩) la la out ∧ Hid (val 4294967296 (xs.drop k) = d * val 4294967296 (out.drop k) + r) ∧ Ext w wr)
  case atStart => exact ⟨la, 0, _, rfl, Nat.le_refl _, rfl, rfl, by omega, hd0, HO1.out, by
    rw [List.drop_eq_nil_of_le (by rw [HLA.out]; exact Nat.le_refl _), List.drop_eq_nil_of_le (by simp)]; simp [Hid, val], HX1.out⟩
  case round =>
    obtain ⟨k, r, out, rfl, hk, rfl, rfl, hr0, hr1, hO, hI, hX⟩ := hrel
    have HX := Lib.hid hX
    have HO := Lib.hid hO
    clear hX hO
    rcases Nat.eq_zero_or_pos k with h0 | h0
    · subst h0
      rw [show (((0 : Nat) : Int) - 1) = -1 by omega]
      have hv := hI.out
      rw [List.drop_zero, List.drop_zero, HN.out.2.2] at hv
      have hvn := val_nonneg (B := 4294967296) (by omega) (dg32 HO.out.ints)
      obtain ⟨q, hq⟩ := Int.eq_ofNat_of_zero_le hvn
      have e1 : (n : Int) / d = q := by rw [hv, hq, Int.add_comm, Int.add_mul_ediv_left _ _ (by omega), Int.ediv_eq_zero_of_lt hr0 hr1]; omega
      have e2 : (n : Int) % d = r := by rw [hv, Int.add_comm, Int.add_mul_emod_self_left]; exact Int.emod_eq_of_lt hr0 hr1
      have e3 : n / d.toNat = q := by
        have h1 : ((n / d.toNat : Nat) : Int) = (n : Int) / (d.toNat : Int) := Int.natCast_ediv ..
        rw [Int.toNat_of_nonneg (by omega), e1] at h1; omega
      have E2 := Lib.hid e2
      have E3 := Lib.hid e3
      have HV := Lib.hid hq
      clear hv hvn hq e1 e2 e3
      have hrw : IntKind.u32.wrap r = r := IntWalk.u32_in _ (by omega)
      go_wp2_with fail
      refine (norm_any _ _ _ _ _ HO.out.ints (by omega) (by omega)).mono ?_
      rintro e w' ⟨m, hm, hN, hv, rfl, rfl⟩
      have HW := Lib.hid (RetNorm.natv (N := q) (c := la) HO.out.ints hm hN hv HV.out (by omega) (by omega))
      clear hm hN hv
      go_wp2
      go_ret2
      exact ⟨_, _, by rw [E2.out]; rfl, by rw [E3.out]; exact HW.out, HX.out⟩
    · obtain ⟨i, rfl⟩ : ∃ i, k = i + 1 := ⟨k - 1, by omega⟩
      obtain ⟨b1, o1, x, hAe, hx, hwf, hcx⟩ := (HA.out.ext HX.out).get (j := i) (by omega)
      subst hAe
      obtain ⟨hx0, hx1⟩ := u32_bounds hwf
      obtain ⟨g, z, hg, hz, _, hcz, hfz, _, hst⟩ := HO.out.store (j := i) (by omega)
      obtain rfl : w.heap.size = g := by injection hg with hg; injection hg
      have hi1 : (((i + 1 : Nat) : Int) - 1) = (i : Int) := by omega
      have hi2 : (i : Int) < (la : Int) := by omega
      have hi0 : (0 : Int) ≤ (i : Int) := by omega
      rw [hi1]
      have hor : bits .or .u64 (r * 4294967296) x = r * 4294967296 + x := or64_add 32 (by omega) (by omega) (by omega) (by omega)
      obtain ⟨hq1, hq0⟩ := word_digit ⟨hr0, hr1⟩ ⟨hx0, hx1⟩
      have HI := Lib.hid (word_step (d := d) (r := r) (t := r * 4294967296 + x) hI.out (by rw [HO.out.len]; omega) hx rfl)
      obtain ⟨t, ht⟩ : ∃ t, r * 4294967296 + x = t := ⟨_, rfl⟩
      have ht0 : 0 ≤ t := by omega
      have ht1 : t ≤ 18446744073709551615 := by omega
      rw [ht] at hor hq1 hq0 HI
      have HS := Lib.hid (hst.out (t / d) (wf32 (by omega)))
      have hm0 := Int.emod_nonneg t (show d ≠ 0 by omega)
      have hm1 := Int.emod_lt_of_pos t hd0
      clear hx hwf hz hg hi1 hst ht
      go_wp2
      go_roundg (i + 1)
      case rel => exact ⟨i, t % d, _, rfl, by omega, by go_num, rfl, hm0, hm1, HS.out, HI.out, HX.out.setCell (Nat.le_refl _) _⟩
      case measure => omega

/-- One decimal digit more. -/
theorem dec_step {es : List Int} {r N : Int} {m j : Nat} (hd : Dg 10 es) (hr : 0 ≤ r) (hr1 : r < 10 ^ (j + 1)) (h : val 10 es + 10 ^ es.length * (r + 10 ^ (j + 1) * (m : Int)) = N) :
    Dg 10 (es ++ [r % 10]) ∧ 0 ≤ r / 10 ∧ r / 10 < 10 ^ j ∧ val 10 (es ++ [r % 10]) + 10 ^ (es ++ [r % 10]).length * (r / 10 + 10 ^ j * (m : Int)) = N := by
  refine ⟨hd.append (Dg.one (by omega)), by omega, ?_, ?_⟩
  · rw [Int.pow_succ] at hr1; omega
  · rw [val_snoc, List.length_append, List.length_singleton, Int.pow_succ, ← h]
    have e : r = r % 10 + 10 * (r / 10) := by omega
    generalize hq : r / 10 = q at *
    generalize r % 10 = s at *
    subst e
    rw [Int.pow_succ]
    grind
theorem dec_len {es : List Int} {n m L : Nat} (hn : Fit 4294967296 n L) (hd : Dg 10 es) (h : val 10 es + 10 ^ es.length * (m : Int) = n) (hm : 0 < m) : es.length < 32 * L + 1 := by
  have h0 := val_nonneg (B := 10) (by omega) hd
  have h1 : (10 : Int) ^ es.length ≤ n := by
    have : (10 : Int) ^ es.length * 1 ≤ 10 ^ es.length * (m : Int) := Int.mul_le_mul_of_nonneg_left (by omega) (Int.le_of_lt (Int.pow_pos (by omega)))
    omega
  have h2 : (2 : Int) ^ es.length ≤ 10 ^ es.length := by
    have : (2 : Nat) ^ es.length ≤ 10 ^ es.length := Nat.pow_le_pow_left (by omega) _
    exact_mod_cast this
  have h3 : (4294967296 : Int) ^ L = 2 ^ (32 * L) := by rw [Int.pow_mul]; rfl
  unfold Fit at hn
  rw [h3] at hn
  rcases Nat.lt_or_ge es.length (32 * L + 1) with h4 | h4
  · exact h4
  · have := pow_le (B := 2) (a := 32 * L) (b := es.length) (by omega) (by omega)
    omega
/-- The reversal half done. -/
def RevAt (xs ys : List Int) (i : Nat) : Prop := ys.length = xs.length ∧ ∀ k, k < xs.length → ys[k]? = if k < i ∨ xs.length - 1 - i < k then xs[xs.length - 1 - k]? else xs[k]?
theorem RevAt.zero (xs : List Int) : RevAt xs xs 0 := ⟨rfl, fun k hk => by rw [if_neg (by omega)]⟩
theorem RevAt.done {xs ys : List Int} {i : Nat} (h : RevAt xs ys i) (hi : xs.length ≤ i + (i + 1)) : ys = xs.reverse := by
  apply List.ext_getElem?
  intro k
  rcases Nat.lt_or_ge k xs.length with hk | hk
  · rw [h.2 k hk, List.getElem?_reverse hk]
    split
    · rfl
    · have : k = xs.length - 1 - k := by omega
      rw [← this]
  · rw [List.getElem?_eq_none (by rw [h.1]; exact hk), List.getElem?_eq_none (by simpa using hk)]
theorem RevAt.step {xs ys : List Int} {i j : Nat} {x y : Int} (h : RevAt xs ys i) (hij : i + j + 1 = xs.length) (hlt : i < j) (hx : ys[i]? = some x) (hy : ys[j]? = some y) : RevAt xs ((ys.set i y).set j x) (i + 1) := by
  refine ⟨by simpa using h.1, fun k hk => ?_⟩
  have hl := h.1
  rw [h.2 i (by omega), if_neg (by omega)] at hx
  rw [h.2 j (by omega), if_neg (by omega)] at hy
  rw [List.getElem?_set, List.getElem?_set]
  by_cases h1 : j = k
  · subst h1
    rw [if_pos rfl, if_pos (by simp; omega), if_pos (by omega), show xs.length - 1 - j = i by omega, hx]
  · rw [if_neg h1]
    by_cases h2 : i = k
    · subst h2
      rw [if_pos rfl, if_pos (by omega), if_pos (by omega), show xs.length - 1 - i = j by omega, hy]
    · rw [if_neg h2, h.2 k hk]
      by_cases h3 : k < i ∨ xs.length - 1 - i < k
      · rw [if_pos h3, if_pos (by omega)]
      · rw [if_neg h3, if_neg (by omega)]
end Go.Proofs.Yteoijnaljkagfaa
