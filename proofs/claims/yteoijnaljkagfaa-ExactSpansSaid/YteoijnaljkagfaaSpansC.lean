/- Lemmas of the proof that follows (Spans, part 3): walks of functions by contract, and plain lemmas. Conditions: none. -/
import Derived.Test.YteoijnaljkagfaaSpansB
namespace Go.Proofs.Yteoijnaljkagfaa

theorem pow2_dvd {s : Nat} (hs : s ≤ 31) : ∃ q : Int, (4294967296 : Int) = 2 ^ s * q ∧ 0 < q := ⟨2 ^ (32 - s), by rw [← Int.pow_add, show s + (32 - s) = 32 by omega]; decide, Int.pow_pos (by omega)⟩

/-- The divisor, shifted so that its first bit is 1, has as many digits as before. -/
theorem shl_len {ys vs : List Int} {m lb s : Nat} {x : Int} (hy : Rep 4294967296 ys m) (hl : ys.length = lb + 1) (hx : ys[lb]? = some x) (hs : s ≤ 31) (h1 : 2147483648 ≤ x * 2 ^ s) (h2 : x * 2 ^ s < 4294967296) (hv : Rep 4294967296 vs (m * 2 ^ s)) :
    vs.length = lb + 1 ∧ ∃ vt, vs[lb]? = some vt ∧ 2147483648 ≤ vt := by
  obtain ⟨q, hq, hq0⟩ := pow2_dvd hs
  have hp : (0 : Int) < 2 ^ s := Int.pow_pos (by omega)
  have hP := pow_pos' (B := 4294967296) (by omega) lb
  have e1 := val_take_succ (B := 4294967296) hx
  rw [val_take_all (by omega), hy.2.2] at e1
  have l0 := val_nonneg (B := 4294967296) (by omega) (hy.1.take lb)
  have l1 := val_lt (B := 4294967296) (by omega) (hy.1.take lb)
  rw [List.length_take, Nat.min_eq_left (by omega)] at l1
  generalize val 4294967296 (ys.take lb) = lo at *
  have hxq : x + 1 ≤ q := by
    rcases Int.lt_or_le x q with h | h
    · omega
    · have := Int.mul_le_mul_of_nonneg_right h (Int.le_of_lt hp)
      rw [Int.mul_comm q] at this; omega
  obtain ⟨M, hM⟩ : ∃ M : Int, ((m * 2 ^ s : Nat) : Int) = M := ⟨_, rfl⟩
  have hM' : M = (lo + 4294967296 ^ lb * x) * 2 ^ s := by rw [← hM, Int.natCast_mul, e1]; simp
  have low : 4294967296 ^ lb * 2147483648 ≤ M := by
    have a1 : 4294967296 ^ lb * 2147483648 ≤ 4294967296 ^ lb * (x * 2 ^ s) := Int.mul_le_mul_of_nonneg_left h1 (Int.le_of_lt hP)
    have a2 : 0 ≤ lo * 2 ^ s := Int.mul_nonneg l0 (Int.le_of_lt hp)
    have a3 : M = lo * 2 ^ s + 4294967296 ^ lb * (x * 2 ^ s) := by rw [hM']; grind
    omega
  have high : M < 4294967296 ^ (lb + 1) := by
    have a1 : lo * 2 ^ s < 4294967296 ^ lb * 2 ^ s := Int.mul_lt_mul_of_pos_right l1 hp
    have a2 : (4294967296 ^ lb * 2 ^ s) * (x + 1) ≤ (4294967296 ^ lb * 2 ^ s) * q := Int.mul_le_mul_of_nonneg_left hxq (Int.mul_nonneg (Int.le_of_lt hP) (Int.le_of_lt hp))
    have a3 : M = lo * 2 ^ s + (4294967296 ^ lb * 2 ^ s) * x := by rw [hM']; grind
    have a4 : (4294967296 : Int) ^ (lb + 1) = (4294967296 ^ lb * 2 ^ s) * q := by rw [Int.pow_succ]; grind
    have a5 : (4294967296 ^ lb * 2 ^ s) * (x + 1) = (4294967296 ^ lb * 2 ^ s) * x + 4294967296 ^ lb * 2 ^ s := by grind
    omega
  have hle : vs.length ≤ lb + 1 := hv.len_le (by omega) (by rw [hM]; exact high)
  have hge : lb < vs.length := by
    rcases Nat.lt_or_ge lb vs.length with h | h
    · exact h
    · have g := hv.lt (by omega)
      rw [hM] at g
      have := pow_le (B := 4294967296) (by omega) h
      omega
  refine ⟨by omega, vs[lb], List.getElem?_eq_getElem hge, ?_⟩
  have f1 := val_take_succ (B := 4294967296) (List.getElem?_eq_getElem hge)
  rw [val_take_all (by omega), hv.2.2, hM] at f1
  have g1 := val_lt (B := 4294967296) (by omega) (hv.1.take lb)
  rw [List.length_take, Nat.min_eq_left (by omega)] at g1
  generalize vs[lb] = vt at *
  rcases Int.lt_or_le vt 2147483648 with h | h
  · exfalso
    have a1 : 4294967296 ^ lb * (vt + 1) ≤ 4294967296 ^ lb * 2147483648 := Int.mul_le_mul_of_nonneg_left (by omega) (Int.le_of_lt hP)
    have a2 : 4294967296 ^ lb * (vt + 1) = 4294967296 ^ lb * vt + 4294967296 ^ lb := by grind
    omega
  · exact h

/-- The state of the loop. -/
def DivI (N V : Int) (j : Nat) (zs qs : List Int) : Prop := N = val 4294967296 zs + V * 4294967296 ^ j * val 4294967296 (qs.drop j) ∧ val 4294967296 (zs.drop j) < V

theorem div_win {zs : List Int} {i lb : Nat} {V : Int} (hd : Dg 4294967296 zs) (hi : i + lb + 1 ≤ zs.length) (h : val 4294967296 (zs.drop (i + 1)) < V) (hV : V < 4294967296 ^ lb) :
    val 4294967296 ((zs.drop i).take (lb + 1)) = val 4294967296 (zs.drop i) ∧ val 4294967296 (zs.drop i) < 4294967296 * V := by
  have hz : zs[i]? = some zs[i] := List.getElem?_eq_getElem (by omega)
  have hzd := hd.get hz
  have e := val_drop (B := 4294967296) hz
  have hlt : val 4294967296 (zs.drop i) < 4294967296 * V := by
    have : 4294967296 * (val 4294967296 (zs.drop (i + 1)) + 1) ≤ 4294967296 * V := Int.mul_le_mul_of_nonneg_left (by omega) (by omega)
    rw [e]; omega
  refine ⟨?_, hlt⟩
  have s := val_split (B := 4294967296) (zs.drop i) (k := lb + 1) (by rw [List.length_drop]; omega)
  have h0 := val_nonneg (B := 4294967296) (by omega) ((hd.drop i).take (lb + 1))
  have h1 := val_nonneg (B := 4294967296) (by omega) ((hd.drop i).drop (lb + 1))
  have hP := pow_pos' (B := 4294967296) (by omega) (lb + 1)
  rcases Int.lt_or_le 0 (val 4294967296 ((zs.drop i).drop (lb + 1))) with hp | hp
  · exfalso
    have a1 : 4294967296 ^ (lb + 1) * 1 ≤ 4294967296 ^ (lb + 1) * val 4294967296 ((zs.drop i).drop (lb + 1)) := Int.mul_le_mul_of_nonneg_left (by omega) (Int.le_of_lt hP)
    have a2 : (4294967296 : Int) ^ (lb + 1) = 4294967296 ^ lb * 4294967296 := Int.pow_succ ..
    have a3 : 4294967296 * (V + 1) ≤ 4294967296 * 4294967296 ^ lb := Int.mul_le_mul_of_nonneg_left (by omega) (by omega)
    have a4 : (4294967296 : Int) * 4294967296 ^ lb = 4294967296 ^ lb * 4294967296 := Int.mul_comm _ _
    omega
  · have : val 4294967296 ((zs.drop i).drop (lb + 1)) = 0 := by omega
    rw [this, Int.mul_zero] at s
    omega
theorem DivI.step {N V q : Int} {i lb : Nat} {zs qs zs' : List Int} (h : DivI N V (i + 1) zs qs) (hd : Dg 4294967296 zs) (hi : i + lb + 1 ≤ zs.length) (hV : V < 4294967296 ^ lb) (hl : zs'.length = zs.length) (hq : i < qs.length)
    (h1 : val 4294967296 (zs'.drop i) = val 4294967296 (zs.drop i) - q * V) (h2 : zs'.take i = zs.take i) (h3 : val 4294967296 ((zs'.drop i).take (lb + 1)) = val 4294967296 ((zs.drop i).take (lb + 1)) - q * V) (h4 : val 4294967296 ((zs'.drop i).take (lb + 1)) < V) :
    DivI N V i zs' (qs.set i q) := by
  obtain ⟨a1, a2⟩ := h
  have hw := div_win hd hi a2 hV
  refine ⟨?_, by rw [h1]; omega⟩
  have e1 := val_split (B := 4294967296) zs' (k := i) (by omega)
  have e2 := val_split (B := 4294967296) zs (k := i) (by omega)
  have e3 : (qs.set i q)[i]? = some q := by simp [hq]
  have e4 : (qs.set i q).drop (i + 1) = qs.drop (i + 1) := by rw [List.drop_set_of_lt (by omega)]
  rw [val_drop e3, e4, e1, h2, h1]
  rw [e2, Int.pow_succ] at a1
  rw [a1]
  grind
theorem DivI.start {N V : Int} {j : Nat} {zs qs : List Int} (hz : val 4294967296 zs = N) (hq : qs.length ≤ j) (h : val 4294967296 (zs.drop j) < V) : DivI N V j zs qs :=
  ⟨by rw [hz, List.drop_eq_nil_of_le hq]; simp [val], h⟩
theorem DivI.fin {n m s : Nat} {zs qs : List Int} (hm : 0 < m) (h : DivI ((n * 2 ^ s : Nat) : Int) ((m * 2 ^ s : Nat) : Int) 0 zs qs) (hz : Dg 4294967296 zs) (hq : Dg 4294967296 qs) :
    val 4294967296 qs = ((n / m : Nat) : Int) ∧ val 4294967296 zs = ((n % m * 2 ^ s : Nat) : Int) := by
  obtain ⟨a1, a2⟩ := h
  simp only [List.drop_zero, Int.pow_zero, Int.mul_one] at a1 a2
  have z0 := val_nonneg (B := 4294967296) (by omega) hz
  have q0 := val_nonneg (B := 4294967296) (by omega) hq
  obtain ⟨Z, hZ⟩ := Int.eq_ofNat_of_zero_le z0
  obtain ⟨Q, hQ⟩ := Int.eq_ofNat_of_zero_le q0
  rw [hZ] at a1 a2 ⊢
  rw [hQ] at a1 ⊢
  have b1 : n * 2 ^ s = Z + (m * 2 ^ s) * Q := by exact_mod_cast a1
  have b2 : Z < m * 2 ^ s := by exact_mod_cast a2
  have hp : 0 < 2 ^ s := Nat.pow_pos (by omega)
  have c1 : n * 2 ^ s / (m * 2 ^ s) = Q := by
    rw [b1, Nat.add_mul_div_left _ _ (Nat.mul_pos hm hp), Nat.div_eq_of_lt b2]; omega
  have c2 : n * 2 ^ s % (m * 2 ^ s) = Z := by
    rw [b1, Nat.add_mul_mod_self_left, Nat.mod_eq_of_lt b2]
  rw [Nat.mul_div_mul_right _ _ hp] at c1
  rw [Nat.mul_mod_mul_right] at c2
  rw [← c1, ← c2]
  exact ⟨rfl, rfl⟩
end Go.Proofs.Yteoijnaljkagfaa
namespace Go.Proofs.Yteoijnaljkagfaa
open Go.RowKit

/-- What div leaves: the quotient and the rest. -/
def RetD (w : World) (q r : Nat) (e : Ending) (w' : World) : Prop := ∃ v1 v2, e = .returned (.tuple #[v1, v2]) ∧ W32 w' v1 q ∧ W32 w' v2 r ∧ Ext w w'

set_option maxRecDepth 100000 in
set_option maxHeartbeats 1000000 in
theorem div_less (va vb : Value) (n m : Nat) (w : World) (ha : W32 w va n) (hb : W32 w vb m) (hlt : n < m) :
    Calls Try.prog 133 #[va, vb] w (RetD w (n / m) (n % m)) := by
  have hc := cmp_any va vb n m w ha hb
  rw [cmpI_lt hlt] at hc
  have HC := Lib.hid hc
  have HA := Lib.hid ha
  have E1 : Hid (n / m = 0) := Nat.div_eq_of_lt hlt
  have E2 : Hid (n % m = n) := Nat.mod_eq_of_lt hlt
  clear hc ha hb hlt
  go_enter Try.func133, Try.ntmps133
  go_wp2_with fail
  refine HC.out.mono ?_
  rintro e w1 ⟨rfl, hX⟩
  have HX := Lib.hid hX
  clear hX
  go_wp2
  go_ret2
  exact ⟨_, _, rfl, by rw [E1.out]; exact NatV.zero, by rw [E2.out]; exact HA.out.ext HX.out, HX.out⟩

theorem one_digit {B : Int} (hB : 1 < B) {xs : List Int} {m : Nat} (h : Rep B xs m) (hl : xs.length = 1) : ∃ x, xs = [x] ∧ x = (m : Int) ∧ 0 < x ∧ x < B := by
  match xs, hl with
  | [x], _ =>
    have h1 := h.single hB
    have h2 := h.1 x (List.mem_singleton.2 rfl)
    exact ⟨x, rfl, h1.1, by omega, h2.2⟩

set_option maxRecDepth 100000 in
set_option maxHeartbeats 1000000 in
theorem div_one (va : Value) (B : Option Addr) (cb : Nat) (ys : List Int) (n m La : Nat) (w : World) (ha : W32 w va n) (hB : Ints .u32 w B 1 ys) (hry : Rep 4294967296 ys m) (hcb : 1 ≤ cb) (hcbm : cb ≤ 9223372036854775807) (hle : m ≤ n) (hn : Fit 4294967296 n La) (hL : La ≤ 1099511627776) :
    Calls Try.prog 133 #[va, .slice B 1 cb] w (RetD w (n / m) (n % m)) := by
  obtain ⟨x, rfl, hxm, hx0, hx1⟩ := one_digit (by omega) hry hB.1
  have hb : W32 w (.slice B 1 cb) m := ⟨B, 1, cb, [x], rfl, hB, hry, hcb, hcbm⟩
  have hc := cmp_any va _ n m w ha hb
  have hge : 0 ≤ cmpI n m := by unfold cmpI; rw [if_neg (by omega)]; split <;> omega
  obtain ⟨cr, hcr⟩ : ∃ cr, cmpI n m = cr := ⟨_, rfl⟩
  rw [hcr] at hc hge
  obtain ⟨b2, o2, y, rfl, hy, _, hcy⟩ := hB.get (j := 0) (by omega)
  obtain rfl : x = y := by simpa using hy
  rw [Nat.add_zero] at hcy
  have HC := Lib.hid hc
  have HA := Lib.hid ha
  have HCY := Lib.hid hcy
  have hdm : x.toNat = m := by omega
  have E2 : Hid ((n : Int) % x = ((n % m : Nat) : Int)) := by show _ = _; rw [hxm]; simp
  have hn2 : (n : Int) % x < x := Int.emod_lt_of_pos _ hx0
  have hn3 : 0 ≤ (n : Int) % x := Int.emod_nonneg _ (by omega)
  have HDM := Lib.hid hdm
  clear hc ha hb hy hB hry hcr hcy hdm hxm
  go_enter Try.func133, Try.ntmps133
  go_wp2_with fail
  refine HC.out.mono ?_
  rintro e w1 ⟨rfl, hX⟩
  have hcy := hX.cell HCY.out
  have HX := Lib.hid hX
  clear hX
  go_wp2_with fail
  refine (word_any va n La x _ (HA.out.ext HX.out) hn hL hx0 (by omega)).mono ?_
  rintro e w2 ⟨v1, rfl, hv1, hX2⟩
  rw [HDM.out] at hv1
  have HV1 := Lib.hid hv1
  have HX2 := Lib.hid (HX.out.trans hX2)
  clear hv1 hX2 hcy
  obtain ⟨r, hr⟩ : ∃ r, (n : Int) % x = r := ⟨_, rfl⟩
  rw [hr] at E2 hn2 hn3 ⊢
  clear hr
  have HE2 := Lib.hid E2.out
  clear E2
  go_wp2_with fail
  refine (natOf_any r _ hn3 (by omega)).mono ?_
  rintro e w3 ⟨v2, rfl, hv2, hX3⟩
  have e3 : r.toNat = n % m := by have := HE2.out; omega
  rw [e3] at hv2
  have HV2 := Lib.hid hv2
  have HX3 := Lib.hid hX3
  clear hv2 hX3 e3
  go_wp2
  go_ret2
  exact ⟨_, _, rfl, HV1.out.ext HX3.out, HV2.out, HX2.out.trans HX3.out⟩

/-- 'x[l:h]' of a slice whose address is known, elements of one cell. -/
theorem wpList_cutAt {P : Program} (w : World) {t e : TypeId} {bytes : Nat} {z : Value} (E : Elem P t e 1 bytes z) {ops : Array Oper} {rest : List Oper} {o : Oper} {a : Act} {Q : Exit → Act → World → Prop}
    (hgd : o.guard = none) (x lo hi' : Operand) (ho : o.op = .slice t x (some lo) (some hi') none) (g off n c : Nat) (hx : a.eval x = .slice (some ⟨g, off, none⟩) n c) (kl kh : IntKind) (L Hv : Int) (l k : Nat) (hl : a.eval lo = .int kl L) (hh : a.eval hi' = .int kh Hv) (hL : L = l) (m : Nat) (hH : Hv = (m : Int)) (hm : m = l + k) (hk : 0 < k) (hc : m ≤ c)
    (h : wpList P ops Q rest (a.put o.dst (.slice (some ⟨g, off + l, none⟩) k (c - l))) w) :
    wpList P ops Q (o :: rest) a w :=
  wpList_plain hgd fun K hK => by
    subst hL hH
    obtain ⟨i, hi, hz, hs, hby⟩ := E.info
    have h1 : l ≤ m := by omega
    have h2 : ¬ c = l := by omega
    have h3 : m - l = k := by omega
    have hrun : (Instr.sliceAt t (.slice (some ⟨g, off, none⟩) n c) (some (.int kl l)) (some (.int kh m)) none).run P w = .ok (.slice (some ⟨g, off + l, none⟩) k (c - l)) w := by
      simp [Instr.sliceAt, Instr.slice, run_underlying E.und, Instr.sliceBounds, run_sliceBound, sizeOf, typeInfo, hi, hs, h1, hc, h2, h3, Addr.add_lit]
    unfold Oper.wp
    simp [execOp, ho, hx, hl, hh, hrun, Result.andThen]
    exact hK _ _ h

theorem OwnS.at {k : IntKind} {e : TypeId} {base : Nat} {w : World} {A : Option Addr} {n c : Nat} {xs : List Int} (h : OwnS k e base w A n c xs) (hn : 0 < n) : ∃ g, A = some ⟨g, 0, none⟩ ∧ base ≤ g ∧ g < w.heap.size := by
  obtain ⟨g, x, hA, _, _, hc, _, hg, _⟩ := h.store hn
  exact ⟨g, hA, hg, World.block_lt_of_cell? w _ hc⟩

set_option maxRecDepth 100000 in
set_option maxHeartbeats 4000000 in
theorem div_long (A B : Option Addr) (la ca cb p : Nat) (xs ys : List Int) (n m La : Nat) (w : World) (hA : Ints .u32 w A la xs) (hrx : Rep 4294967296 xs n) (hca : la ≤ ca) (hcam : ca ≤ 9223372036854775807) (hB : Ints .u32 w B (p + 2) ys) (hry : Rep 4294967296 ys m) (hcb : p + 2 ≤ cb) (hcbm : cb ≤ 9223372036854775807) (hle : m ≤ n) (hn : Fit 4294967296 n La) (hL : La ≤ 1099511627775) :
    Calls Try.prog 133 #[.slice A la ca, .slice B (p + 2) cb] w (RetD w (n / m) (n % m)) := by
  have ha : W32 w (.slice A la ca) n := ⟨A, la, ca, xs, rfl, hA, hrx, hca, hcam⟩
  have hb : W32 w (.slice B (p + 2) cb) m := ⟨B, p + 2, cb, ys, rfl, hB, hry, hcb, hcbm⟩
  have hc := cmp_any _ _ n m w ha hb
  have hge : 0 ≤ cmpI n m := by unfold cmpI; rw [if_neg (by omega)]; split <;> omega
  obtain ⟨cr, hcr⟩ : ∃ cr, cmpI n m = cr := ⟨_, rfl⟩
  rw [hcr] at hc hge
  have hla := hn.len (by omega) hrx
  rw [hA.1] at hla
  have hlb := (hn.le hle).len (by omega) hry
  rw [hB.1] at hlb
  have hmpos : 0 < m := by
    rcases Nat.eq_zero_or_pos m with h | h
    · have := (hry.pos (by omega)).1 h
      have h2 := hB.1
      rw [this] at h2; simp at h2
    · exact h
  obtain ⟨b2, o2, x, rfl, hx, hwx, hcx⟩ := hB.get (j := p + 1) (by omega)
  obtain ⟨hx0, hx1⟩ := u32_bounds hwx
  have hxp : 0 < x := by
    rcases Int.lt_or_le 0 x with h | h
    · exact h
    · have hx00 : x = 0 := by omega
      subst hx00
      exfalso
      refine hry.2.1 ?_
      rw [List.getLast?_eq_getElem?, hB.1]
      exact hx
  obtain ⟨s, hs, hs1, hs2, hcallL⟩ := lead_any x hxp hx1
  have hpl : (p : Int) + 1 < (p : Int) + 2 := by omega
  have hcrb : decide (cr < 0) = false := by simp; omega
  have HC := Lib.hid hc
  have HA := Lib.hid ha
  have HB := Lib.hid hb
  have HRX := Lib.hid hrx
  have HRY := Lib.hid hry
  have HCL := Lib.hid hcallL
  have HXX := Lib.hid hx
  have HS1 := Lib.hid hs1
  have HS2 := Lib.hid hs2
  have HCX := Lib.hid hcx
  have HLB : Hid (ys.length = p + 1 + 1) := hB.1
  have HLA : Hid (xs.length = la) := hA.1
  clear hc ha hb hx hA hB hrx hry hcr hcx hwx hcallL hs1 hs2
  go_enter Try.func133, Try.ntmps133
  go_wp2_with fail
  refine HC.out.mono ?_
  rintro e w1 ⟨rfl, hX⟩
  have hcx := hX.cell HCX.out
  have HX1 := Lib.hid hX
  clear hX
  go_wp2_with fail
  refine (HCL.out _).mono ?_
  rintro e w' ⟨rfl, rfl⟩
  go_wp2_with fail
  refine (shl_any _ m La s _ (HB.out.ext HX1.out) (hn.le hle) (by omega) hs).mono ?_
  rintro e w3 ⟨Av, nv, cv, vs, rfl, hOv, hRv, hXv⟩
  obtain ⟨hlv, vt, hvt, hvb⟩ := shl_len HRY.out HLB.out HXX.out hs HS1.out HS2.out hRv
  obtain rfl : nv = p + 2 := by rw [← hOv.len, hlv]
  obtain ⟨gv, rfl, hgv0, hgv1⟩ := hOv.at (by omega)
  have HOv := Lib.hid (hOv.mono HX1.out.size)
  have HRv := Lib.hid hRv
  have HX3 := Lib.hid (HX1.out.trans hXv)
  have HVT := Lib.hid hvt
  have HLV := Lib.hid hlv
  clear hOv hRv hXv hcx hvt hlv
  go_wp2_with fail
  refine (shl_any _ n La s _ (HA.out.ext HX3.out) hn (by omega) hs).mono ?_
  rintro e w4 ⟨Au, nu, cu, us, rfl, hOu, hRu, hXu⟩
  have hnu : la ≤ nu := by
    have h1 : Fit 4294967296 n us.length := (Fit.of_rep (by omega) hRu).le (Nat.le_mul_of_pos_right _ (Nat.pow_pos (by omega)))
    have h2 := h1.len (by omega) HRX.out
    rw [HLA.out, hOu.len] at h2; exact h2
  have hnu2 : nu ≤ la + 1 := by
    have h1 : Fit 4294967296 (n * 2 ^ s) (la + 1) := by
      have f1 : Fit 4294967296 n la := by have := Fit.of_rep (B := 4294967296) (by omega) HRX.out; rw [HLA.out] at this; exact this
      have f2 : Fit 4294967296 (2 ^ s) 1 := by
        unfold Fit
        have : 2 ^ s ≤ 2 ^ 31 := Nat.pow_le_pow_right (by omega) hs
        omega
      exact f1.mul (by omega) f2
    have h2 := h1.len (by omega) hRu
    rw [hOu.len] at h2; exact h2
  have hlap : p + 2 ≤ la := by
    have h1 := Fit.len (by omega) ((Fit.of_rep (by omega) HRX.out).le hle) HRY.out
    rw [HLA.out, HLB.out] at h1; exact h1
  obtain ⟨mq, rfl⟩ : ∃ mq, nu = mq + (p + 1) := ⟨nu - (p + 1), by omega⟩
  obtain ⟨gu, rfl, hgu0, hgu1⟩ := hOu.at (by omega)
  have HOu := Lib.hid (hOu.mono HX3.out.size)
  have HRu := Lib.hid hRu
  have HX4 := Lib.hid (HX3.out.trans hXu)
  have HOv4 := Lib.hid (HOv.out.ext hXu)
  have hown4 := hOu.own
  have hsz4 := hXu.size
  clear hOu hRu hXu
  go_wp2_with (first | (at_builtin; refine wpList_app (o := ⟨some 47, _, _, _, _, _⟩) _ elW rfl _ _ rfl w3.heap.size (.slice (some ⟨gu, 0, none⟩) (mq + (p + 1)) cu) (mq + (p + 1)) _ rfl (hown4.alloc _) _ 1 1 [.int .u32 0] rfl rfl (At.new _ [_] _) (by simp [Value.oneCell']) (by omega) (by unfold maxLen; omega) (by simp; omega) ?_; intro v5 w5 hown5 hgr5 hloc; obtain ⟨A5, c5, hv5⟩ := own_slice hown5; rw [hv5] at hown5 hloc ⊢; clear hv5; have hnla : (((mq + (p + 1) + 1 : Nat) : Int) == (la : Int)) = false := (by simp; omega)) | (at_make; refine wpList_mk _ elW rfl rfl _ _ rfl w5.heap.size _ _ _ _ mq mq rfl rfl (by omega) (by omega) (Nat.le_refl _) (by omega) (by unfold maxLen; omega) (Nat.le_refl _) ?_; intro w6 hown6 hext6 hsz6))
  have hXa : Ext w4 (w4.alloc (.cells #[.int .u32 0] 79)) := (Ext.refl w4).alloc _
  have hO5 : OwnS .u32 79 w3.heap.size w5 A5 (mq + (p + 1) + 1) c5 (us ++ [0]) := by
    refine ⟨by simpa using hown5, by rw [List.length_append, HOu.out.len]; rfl, fun y hy => ?_⟩
    rcases List.mem_append.1 hy with hy | hy
    · exact HOu.out.wf y hy
    · simp at hy; subst hy; exact wf32 (by omega)
  obtain ⟨g5, rfl, hg50, hg51⟩ := hO5.at (by omega)
  have hne5 : g5 ≠ gv := by omega
  have hOv5 : OwnS .u32 79 w.heap.size w5 (some ⟨gv, 0, none⟩) (p + 2) cv vs := (HOv4.out.ext hXa).other hgr5 (show gu ≠ gv by omega)
  have hX5 : Ext w w5 := (HX4.out.trans hXa).grown hgr5 fun k hk => by
    simp [Value.ownBlock] at hk; have := HX3.out.size; omega
  have HO6 := Lib.hid ((hO5.mono HX3.out.size).ext hext6)
  have HV6 := Lib.hid (hOv5.ext hext6)
  have HQ6 := Lib.hid ((OwnS.made hown6).mono hX5.size)
  have HX6 := Lib.hid (hX5.trans hext6)
  have hw5 : gv < w5.heap.size := by have := hgr5.size; simp at this; omega
  have hw5' : Hid (w.heap.size ≤ w5.heap.size) := hX5.size
  have hg5w : Hid (w.heap.size ≤ g5) := by have := HX3.out.size; exact (by omega : w.heap.size ≤ g5)
  have HVB : Hid (((m * 2 ^ s : Nat) : Int) < 4294967296 ^ (p + 2)) := by have := HRv.out.lt (by omega); rw [HLV.out] at this; exact this
  have HVL : Hid ((4294967296 : Int) ^ (p + 1) ≤ ((m * 2 ^ s : Nat) : Int)) := by
    have := nm_low (B := 4294967296) (by omega) HRv.out.1 HRv.out.2.1 (by intro e; have := HLV.out; rw [e] at this; simp at this)
    rw [HLV.out, HRv.out.2.2] at this; exact this
  obtain ⟨gq, hgq⟩ : ∃ gq, gq = w5.heap.size := ⟨_, rfl⟩
  rw [← hgq] at HQ6 ⊢
  have hne6 : g5 ≠ gq := by omega
  have hne7 : gq ≠ gv := by omega
  have hgqw : Hid (w.heap.size ≤ gq) := by rw [hgq]; exact hw5'
  clear hown5 hgr5 hloc hown6 hext6 hsz6 hXa hO5 hOv5 hX5 hown4 hgq hnla
  go_loopg [12] (mq + 1) (fun g' i wr => ∃ (j : Nat) (zs qs : List Int), g' = j + 1 ∧ j ≤ mq ∧ i = .int .i64 ((j : Int) - 1) ∧ OwnS .u32 79 w.heap.size wr (some ⟨g5, 0, none⟩) (mq + (p + 1) + 1) c5 zs ∧ OwnS .u32 79 w.heap.size wr (some ⟨gv, 0, none⟩) (p + 2) cv vs ∧ OwnS .u32 79 w.heap.size wr (some ⟨gq, 0, none⟩) mq mq qs ∧ Hid (DivI ((n * 2 ^ s : Nat) : Int) ((m * 2 ^ s : Nat) : Int) j zs qs) ∧ Ext w wr)
  case atStart =>
    refine ⟨mq, _, _, rfl, Nat.le_refl _, rfl, HO6.out, HV6.out, HQ6.out, DivI.start ?_ (by simp) ?_, HX6.out⟩
    · rw [val_append, val_one, HRu.out.2.2]; omega
    · have hl := HOu.out.len
      rw [List.drop_append_of_le_length (by omega), val_snoc]
      have := val_lt (B := 4294967296) (by omega) (HRu.out.1.drop mq)
      rw [List.length_drop, hl, show mq + (p + 1) - mq = p + 1 by omega] at this
      have := HVL.out
      omega
  case round =>
    obtain ⟨j, zs, qs, rfl, hj, rfl, hO, hV, hQ, hI, hX⟩ := hrel
    have HO := Lib.hid hO
    have HV := Lib.hid hV
    have HQ := Lib.hid hQ
    have HX := Lib.hid hX
    clear hO hV hQ hX
    rcases Nat.eq_zero_or_pos j with h0 | h0
    · subst h0
      rw [show (((0 : Nat) : Int) - 1) = -1 by omega]
      obtain ⟨hq, hz⟩ := DivI.fin hmpos hI.out (dg32 HO.out.ints) (dg32 HQ.out.ints)
      have HQV := Lib.hid hq
      have HZV := Lib.hid hz
      have hc5 := HO.out.cap
      obtain ⟨hc50, hc51⟩ := hc5
      clear hq hz
      go_wp2_with fail
      refine (norm_any _ _ _ _ _ HQ.out.ints (Nat.le_refl _) (by omega)).mono ?_
      rintro e w' ⟨k1, hk1, hN1, hv1, rfl, rfl⟩
      have HW1 := Lib.hid (RetNorm.natv (N := n / m) (c := mq) HQ.out.ints hk1 hN1 hv1 HQV.out (Nat.le_refl _) (by omega))
      clear hk1 hN1 hv1
      go_wp2_with fail
      refine (norm_any _ _ _ _ _ HO.out.ints hc50 hc51).mono ?_
      rintro e w' ⟨k2, hk2, hN2, hv2, rfl, rfl⟩
      have HW2 := Lib.hid (RetNorm.natv (N := n % m * 2 ^ s) (c := c5) HO.out.ints hk2 hN2 hv2 HZV.out hc50 hc51)
      clear hk2 hN2 hv2
      go_wp2_with fail
      refine (shr_any _ (n % m * 2 ^ s) (La + 1) s _ HW2.out ?_ (by omega) hs).mono ?_
      · have f2 : Fit 4294967296 (2 ^ s) 1 := by
          unfold Fit
          have : 2 ^ s ≤ 2 ^ 31 := Nat.pow_le_pow_right (by omega) hs
          omega
        exact (hn.le (Nat.le_trans (Nat.le_of_lt (Nat.mod_lt _ hmpos)) hle)).mul (by omega) f2
      rintro e w7 ⟨v2, rfl, hv2, hX7⟩
      rw [Nat.mul_div_cancel _ (Nat.pow_pos (by omega))] at hv2
      have HV2 := Lib.hid hv2
      have HX7 := Lib.hid hX7
      clear hv2 hX7
      go_wp2
      go_ret2
      exact ⟨_, _, rfl, HW1.out.ext HX7.out, HV2.out, HX.out.trans HX7.out⟩
    · obtain ⟨i, rfl⟩ : ∃ i, j = i + 1 := ⟨j - 1, by omega⟩
      rw [show (((i + 1 : Nat) : Int) - 1) = (i : Int) by omega]
      have hwin := div_win (lb := p + 2) (dg32 HO.out.ints) (i := i) (by rw [HO.out.len]; omega) hI.out.2 HVB.out
      have hcall := quotient_any w.heap.size g5 i (mq + (p + 1) + 1) c5 (c5 - i) gv p cv zs vs wr HO.out HV.out hne5 (by omega) (by omega) vt HVT.out hvb (by rw [hwin.1, HRv.out.2.2]; exact hwin.2)
      have HCQ := Lib.hid hcall
      have hcc := HO.out.cap
      obtain ⟨hc50, hc51⟩ := hcc
      have hi0 : (0 : Int) ≤ (i : Int) := by omega
      have hi1 : (i : Int) < (mq : Int) := by omega
      clear hwin hcall
      go_wp2_with (first | (refine wpList_cutAt (o := ⟨some 78, _, _, _, _, _⟩) _ elW rfl _ _ _ rfl g5 0 (mq + (p + 1) + 1) c5 rfl _ _ _ _ i (p + 3) rfl rfl rfl (i + (p + 3)) (by omega) rfl (by omega) (by omega) ?_))
      refine HCQ.out.mono ?_
      rintro e w7 ⟨q, zs', rfl, hq0, hq1, hO7, hgr, h1, h2, h3, h4, h5⟩
      obtain ⟨z, hz, _, hcz, hfz, _, hst⟩ := (HQ.out.other hgr hne6).store' (j := i) (by omega)
      obtain ⟨hQ8, hg8⟩ := hst.out q (wf32 ⟨hq0, hq1⟩)
      have HQ8 := Lib.hid hQ8
      have HO8 := Lib.hid (hO7.other hg8 (Ne.symm hne6))
      have HV8 := Lib.hid ((HV.out.other hgr hne5).other hg8 hne7)
      have HX8 := Lib.hid ((HX.out.grown hgr (fun k hk => by injection hk with hk; rw [← hk]; exact hg5w.out)).grown hg8 (fun k hk => by injection hk with hk; rw [← hk]; exact hgqw.out))
      have HI8 := Lib.hid (DivI.step (lb := p + 2) hI.out (dg32 HO.out.ints) (by rw [HO.out.len]; omega) HVB.out (by rw [hO7.len, HO.out.len]) (by rw [HQ.out.len]; omega) (by rw [← HRv.out.2.2]; exact h1) h2 (by rw [← HRv.out.2.2]; exact h3) (by rw [← HRv.out.2.2]; exact h5))
      clear hz hst hQ8 hg8 hO7 hgr h1 h2 h3 h4 h5
      go_wp2
      go_roundg (i + 1)
      case rel => exact ⟨i, zs', _, rfl, by omega, by go_num, HO8.out, HV8.out, HQ8.out, HI8.out, HX8.out⟩
      case measure => omega

/-- The quotient and the rest of two numbers. -/
theorem div_any (va vb : Value) (n m La : Nat) (w : World) (ha : W32 w va n) (hb : W32 w vb m) (hm : 0 < m) (hn : Fit 4294967296 n La) (hL : La ≤ 1099511627775) :
    Calls Try.prog 133 #[va, vb] w (RetD w (n / m) (n % m)) := by
  rcases Nat.lt_or_ge n m with hlt | hge
  · exact div_less va vb n m w ha hb hlt
  · obtain ⟨B, lb, cb, ys, rfl, hB, hry, hcb, hcbm⟩ := hb
    have hl0 : 0 < lb := by
      rcases Nat.eq_zero_or_pos lb with h | h
      · have h1 := hB.1
        rw [h] at h1
        have := (hry.pos (by omega)).2 (List.eq_nil_of_length_eq_zero h1)
        omega
      · exact h
    rcases (by omega : lb = 1 ∨ 2 ≤ lb) with h1 | h2
    · subst h1
      exact div_one va B cb ys n m La w ha hB hry hcb hcbm hge hn (by omega)
    · obtain ⟨p, rfl⟩ : ∃ p, lb = p + 2 := ⟨lb - 2, by omega⟩
      obtain ⟨A, la, ca, xs, rfl, hA, hrx, hca, hcam⟩ := ha
      exact div_long A B la ca cb p xs ys n m La w hA hrx hca hcam hB hry hcb hcbm hge hn hL

set_option maxHeartbeats 1000000 in
theorem gcd_any (va vb : Value) (n m La : Nat) (w : World) (ha : W32 w va n) (hb : W32 w vb m) (hn : Fit 4294967296 n La) (hm : Fit 4294967296 m La) (hL : La ≤ 1099511627775) :
    Calls Try.prog 132 #[va, vb] w (RetN .u32 4294967296 w (Nat.gcd n m)) := by
  have HA := Lib.hid ha
  have HB := Lib.hid hb
  clear ha hb
  go_enter Try.func132, Try.ntmps132
  go_wp2
  go_loopg [0, 1] m (fun g va vb wr => ∃ a b : Nat, g = b + 0 ∧ W32 wr va a ∧ W32 wr vb b ∧ Hid (Nat.gcd a b = Nat.gcd n m ∧ Fit 4294967296 a La ∧ Fit 4294967296 b La) ∧ Ext w wr)
  case atStart => exact ⟨n, m, rfl, HA.out, HB.out, ⟨rfl, hn, hm⟩, Ext.refl w⟩
  case round =>
    obtain ⟨a, b, hg, hA, hB, hG, hX⟩ := hrel
    have HA1 := Lib.hid hA
    have HX := Lib.hid hX
    have HG := Lib.hid hg
    obtain ⟨B, lb, cb, ys, hvb, hBi, hry, hcb, hcbm⟩ := hB
    subst hvb
    have HB1 := Lib.hid (⟨B, lb, cb, ys, rfl, hBi, hry, hcb, hcbm⟩ : W32 wr (.slice B lb cb) b)
    have HLB : Hid (ys.length = lb) := hBi.1
    have HRY := Lib.hid hry
    clear hA hX hBi hry hg
    rcases Nat.eq_zero_or_pos b with h0 | h0
    · have hl0 : lb = 0 := by
        have := (HRY.out.pos (by omega)).1 h0
        have h2 := HLB.out
        rw [this] at h2; simpa using h2.symm
      subst hl0
      have H0 := Lib.hid h0
      clear h0
      go_wp2
      go_ret
      refine ⟨_, rfl, ?_, HX.out⟩
      have := hG.out.1
      rw [H0.out, Nat.gcd_zero_right] at this
      rw [← this]
      exact HA1.out
    · have hl0 : 0 < lb := by
        rcases Nat.eq_zero_or_pos lb with h | h
        · have h1 := HLB.out
          rw [h] at h1
          have := (HRY.out.pos (by omega)).2 (List.eq_nil_of_length_eq_zero h1)
          omega
        · exact h
      go_wp2_with fail
      refine (div_any _ _ a b La _ HA1.out HB1.out h0 hG.out.2.1 hL).mono ?_
      rintro e w1 ⟨v1, v2, rfl, _, hv2, hX1⟩
      have HV2 := Lib.hid hv2
      have HX1 := Lib.hid hX1
      clear hv2 hX1
      go_wp2
      go_roundg (a % b)
      case rel =>
        refine ⟨b, a % b, rfl, W32.ext HB1.out HX1.out, HV2.out, ⟨?_, hG.out.2.2, hG.out.2.2.le (Nat.le_of_lt (Nat.mod_lt _ h0))⟩, HX.out.trans HX1.out⟩
        rw [← hG.out.1, Nat.gcd_comm b, ← Nat.gcd_rec, Nat.gcd_comm]
      case measure => rw [HG.out]; exact Nat.mod_lt _ h0
end Go.Proofs.Yteoijnaljkagfaa
namespace Go.Proofs.Yteoijnaljkagfaa

/-- A number with a sign. -/
def sgn (s : Bool) (n : Nat) : Int := if s then -(n : Int) else n
theorem sgn_true (n : Nat) : sgn true n = -(n : Int) := rfl
theorem sgn_false (n : Nat) : sgn false n = n := rfl
theorem sgn_abs (s : Bool) (n : Nat) : (sgn s n).natAbs = n := by cases s <;> simp [sgn]
theorem sgn_int (x : Int) : sgn (decide (x < 0)) x.natAbs = x := by
  by_cases h : x < 0 <;> simp [sgn, h] <;> omega
/-- The sign that a number bears: none if it is 0. -/
def nz (s : Bool) (n : Nat) : Bool := s && decide (n ≠ 0)
theorem nz_zero (s : Bool) : nz s 0 = false := by simp [nz]
theorem nz_false (n : Nat) : nz false n = false := rfl
theorem nz_pos (s : Bool) {n : Nat} (h : n ≠ 0) : nz s n = s := by simp [nz, h]
theorem sgn_neg_iff (s : Bool) (n : Nat) : decide (sgn s n < 0) = nz s n := by
  unfold nz
  cases s
  · simp [sgn]
  · by_cases h : n = 0
    · simp [sgn, h]
    · have : -(n : Int) < 0 := by omega
      simp [sgn, h]; omega

/-- The rational number of a sign, a numerator and a denominator. -/
def ratV (s : Bool) (n d : Nat) : Rat := mkRat (sgn s n) d

theorem sgn_div (s : Bool) {n g : Nat} (h : g ∣ n) : sgn s n / (g : Int) = sgn s (n / g) := by
  obtain ⟨k, rfl⟩ := h
  rcases Nat.eq_zero_or_pos g with h0 | h0
  · subst h0; cases s <;> simp [sgn]
  · rw [Nat.mul_div_cancel_left _ h0]
    cases s
    · simp only [sgn]; rw [if_neg (by simp), if_neg (by simp), Int.natCast_mul, Int.mul_ediv_cancel_left _ (by omega)]
    · simp only [sgn]; rw [if_pos trivial, if_pos trivial, Int.natCast_mul, ← Int.mul_neg, Int.mul_ediv_cancel_left _ (by omega)]
/-- In lowest terms. -/
theorem ratV_red (s : Bool) (n d : Nat) (hd : 0 < d) : (ratV s n d).num = sgn s (n / Nat.gcd n d) ∧ (ratV s n d).den = d / Nat.gcd n d := by
  have h : ratV s n d = Rat.normalize (sgn s n) d (by omega) := (Rat.normalize_eq_mkRat _).symm
  rw [h, Rat.normalize_eq]
  simp only [sgn_abs]
  exact ⟨sgn_div s (Nat.gcd_dvd_left n d), trivial⟩
theorem ratV_neg (s : Bool) (n d : Nat) (hd : 0 < d) : decide ((ratV s n d).num < 0) = nz s n ∧ (ratV s n d).num.natAbs = n / Nat.gcd n d := by
  rw [(ratV_red s n d hd).1, sgn_abs, sgn_neg_iff]
  refine ⟨?_, rfl⟩
  unfold nz
  have hg : 0 < Nat.gcd n d := Nat.gcd_pos_of_pos_right n hd
  congr 1
  have : n / Nat.gcd n d = 0 ↔ n = 0 := by
    constructor
    · intro h
      have hk := Nat.div_mul_cancel (Nat.gcd_dvd_left n d)
      rw [h, Nat.zero_mul] at hk
      exact hk.symm
    · rintro rfl; simp
  simp only [ne_eq, this]
theorem ratV_self (q : Rat) : ratV (decide (q.num < 0)) q.num.natAbs q.den = q := by
  unfold ratV; rw [sgn_int, Rat.mkRat_self]
theorem ratV_zero (s : Bool) (n d : Nat) (hd : 0 < d) : ratV s n d = 0 ↔ n = 0 := by
  unfold ratV
  rw [Rat.mkRat_eq_zero (by omega)]
  cases s <;> simp [sgn]

section
variable {s t : Bool} {n m d e : Nat}
theorem ratV_opp : -ratV s n d = ratV (nz (!s) n) n d := by
  unfold ratV nz
  rw [Rat.neg_mkRat]
  congr 1
  cases s
  · by_cases h : n = 0 <;> simp [sgn, h]
  · simp [sgn]
theorem ratV_div (hd : 0 < d) (hm : 0 < m) : ratV s n d / ratV t m e = ratV (s != t) (n * e) (d * m) := by
  have hmz : (m : Rat) ≠ 0 := by intro h; have := (Rat.natCast_inj (a := m) (b := 0)).1 h; omega
  have hdz : (d : Rat) ≠ 0 := by intro h; have := (Rat.natCast_inj (a := d) (b := 0)).1 h; omega
  unfold ratV
  rw [Rat.mkRat_eq_div, Rat.mkRat_eq_div, Rat.mkRat_eq_div]
  have c1 : ∀ (b : Bool) (k : Nat), ((sgn b k : Int) : Rat) = if b then -(k : Rat) else (k : Rat) := fun b k => by cases b <;> simp [sgn, Rat.intCast_natCast]
  rw [c1, c1, c1, Rat.natCast_mul, Rat.natCast_mul]
  by_cases hez : (e : Rat) = 0
  · rw [hez]; cases s <;> cases t <;> simp [Rat.div_def]
  · cases s <;> cases t <;> simp <;> grind
end
theorem ratV_int (x : Int) : ratV (decide (x < 0)) x.natAbs 1 = (x : Rat) := by
  unfold ratV; rw [sgn_int, Rat.mkRat_eq_div]; simp; grind

/-- How many words a rational number has. -/
def FitQ (q : Rat) (L : Nat) : Prop := Fit 4294967296 q.num.natAbs L ∧ Fit 4294967296 q.den L
theorem fit_red {s : Bool} {n d L : Nat} (hd : 0 < d) (h1 : Fit 4294967296 n L) (h2 : Fit 4294967296 d L) : FitQ (ratV s n d) L := by
  refine ⟨?_, ?_⟩
  · rw [(ratV_neg s n d hd).2]; exact h1.le (Nat.div_le_self _ _)
  · rw [(ratV_red s n d hd).2]; exact h2.le (Nat.div_le_self _ _)
/-- The sign of a number. -/
def sgnQ (q : Rat) : Int := if q.num < 0 then -1 else if q.num = 0 then 0 else 1
end Go.Proofs.Yteoijnaljkagfaa
namespace Go.Proofs.Yteoijnaljkagfaa
open Go.RowKit

/-- A value that is a rational number of the program: a sign, a numerator and a denominator. -/
def NumV (w : World) (v : Value) (s : Bool) (n d : Nat) : Prop := ∃ vn vd, v = .agg #[.bool s, vn, vd] ∧ W32 w vn n ∧ W32 w vd d
theorem NumV.ext {w w' : World} {v : Value} {s : Bool} {n d : Nat} (h : NumV w v s n d) (he : Ext w w') : NumV w' v s n d := by
  obtain ⟨a, b, h1, h2, h3⟩ := h
  exact ⟨a, b, h1, h2.ext he, h3.ext he⟩
theorem W32.open {w : World} {v : Value} {n : Nat} (h : W32 w v n) : ∃ A l c, v = .slice A l c ∧ W32 w (.slice A l c) n ∧ (l = 0 ↔ n = 0) := by
  obtain ⟨A, l, c, xs, rfl, hI, hr, rest⟩ := h
  refine ⟨A, l, c, rfl, ⟨A, l, c, xs, rfl, hI, hr, rest⟩, ?_⟩
  rw [hr.pos (by omega), ← hI.1]
  exact List.length_eq_zero_iff
theorem W32.one (w : World) (t : TypeId) : W32 (w.alloc (.cells #[.int .u32 1] t)) (.slice (some ⟨w.heap.size, 0, none⟩) 1 1) 1 :=
  ⟨_, 1, 1, [1], rfl, ⟨rfl, fun x hx => by simp at hx; subst hx; exact wf32 (by omega), At.new w [_] t⟩, Rep.one (by omega), by omega, by omega⟩
theorem W32.one' {w w' : World} (t : TypeId) {N : Nat} (hN : N = w.heap.size) (he : w' = w.alloc (.cells #[.int .u32 1] t)) : W32 w' (.slice (some ⟨N, 0, none⟩) 1 1) 1 := by
  subst hN he; exact W32.one w t

/-- A value that is no integer. -/
def NoInt (v : Value) : Prop := ∀ k x, v ≠ .int k x
theorem noInt_bool (b : Bool) : NoInt (.bool b) := fun _ _ h => by cases h
theorem noInt_slice (A : Option Addr) (l c : Nat) : NoInt (.slice A l c) := fun _ _ h => by cases h
/-- Storing into a block that holds no integers changes no slice of integers. -/
theorem Ints.past {k : IntKind} {w : World} {A : Option Addr} {n : Nat} {xs : List Int} {g : Nat} (h : Ints k w A n xs) (hg : ∀ i v, w.cell? ⟨g, i, none⟩ = some v → NoInt v) (i : Nat) (u : Value) : Ints k (w.setCell ⟨g, i, none⟩ u) A n xs := by
  refine ⟨h.1, h.2.1, fun hne => ?_⟩
  obtain ⟨b, off, hA, hc⟩ := h.2.2 hne
  have hb : b ≠ g := by
    intro e
    subst e
    have h0 : ∃ v, (xs.map (Value.int k))[0]? = some v := by
      cases hm : xs.map (Value.int k) with
      | nil => exact absurd hm hne
      | cons v vs => exact ⟨v, rfl⟩
    obtain ⟨v, hv⟩ := h0
    have h1 := hg _ _ (hc 0 v hv)
    rw [List.getElem?_map] at hv
    cases hx : xs[0]? with
    | none => rw [hx] at hv; simp at hv
    | some x => rw [hx] at hv; simp at hv; exact h1 k x hv.symm
  refine ⟨b, off, hA, fun j v hv => ?_⟩
  have hlt := World.block_lt_of_cell? w _ (hc j v hv)
  have hh : (w.setCell ⟨g, i, none⟩ u).heap[b]? = w.heap[b]? := Below.heap_setCell w ⟨g, i, none⟩ u b hb
  have := hc j v hv
  unfold World.cell? at this ⊢
  simp only [hh]
  exact this
/-- A block that holds no integers. -/
def NoInts (w : World) (g : Nat) : Prop := ∃ t cs, Blk w g t cs ∧ ∀ v ∈ cs, NoInt v
theorem NoInts.cell {w : World} {g : Nat} (h : NoInts w g) : ∀ i v, w.cell? ⟨g, i, none⟩ = some v → NoInt v := by
  obtain ⟨t, cs, hB, hv⟩ := h
  intro i v hc
  rw [hB.cell i] at hc
  exact hv v (Array.mem_of_getElem? hc)
theorem NoInts.set {w : World} {g : Nat} (h : NoInts w g) (i : Nat) {u : Value} (hu : NoInt u) : NoInts (w.setCell ⟨g, i, none⟩ u) g := by
  obtain ⟨t, cs, hB, hv⟩ := h
  refine ⟨t, _, hB.set i u, fun v hm => ?_⟩
  rcases Array.mem_or_eq_of_mem_setIfInBounds hm with h | h
  · exact hv v h
  · subst h; exact hu
theorem NoInts.alloc {w : World} {g : Nat} (h : NoInts w g) (o : Obj) : NoInts (w.alloc o) g := by
  obtain ⟨t, cs, hB, hv⟩ := h
  exact ⟨t, cs, hB.alloc o, hv⟩
theorem NoInts.ext {w w' : World} {g : Nat} (h : NoInts w g) (he : Ext w w') : NoInts w' g := by
  obtain ⟨t, cs, hB, hv⟩ := h
  exact ⟨t, cs, hB.ext he, hv⟩
theorem NoInts.three {w : World} {g : Nat} {t : TypeId} {b : Bool} {A1 A2 : Option Addr} {l1 c1 l2 c2 : Nat} (h : Blk w g t #[.bool b, .slice A1 l1 c1, .slice A2 l2 c2]) : NoInts w g :=
  ⟨t, _, h, fun v hv => by
    simp at hv
    rcases hv with rfl | rfl | rfl
    · exact noInt_bool _
    · exact noInt_slice _ _ _
    · exact noInt_slice _ _ _⟩
theorem W32.past {w : World} {v : Value} {n g : Nat} (h : W32 w v n) (hg : NoInts w g) (i : Nat) (u : Value) : W32 (w.setCell ⟨g, i, none⟩ u) v n := by
  obtain ⟨A, l, c, xs, rfl, hI, rest⟩ := h
  exact ⟨A, l, c, xs, rfl, hI.past hg.cell i u, rest⟩
/-- Behind the store of a result with a sign and two slices. -/
theorem W32.boxed {w : World} {v : Value} {n g : Nat} (h : W32 w v n) (hg : NoInts w g) (b : Bool) (A1 A2 : Option Addr) (l1 c1 l2 c2 : Nat) :
    W32 (((w.setCell ⟨g, 0, none⟩ (.bool b)).setCell ⟨g, 1, none⟩ (.slice A1 l1 c1)).setCell ⟨g, 2, none⟩ (.slice A2 l2 c2)) v n :=
  ((h.past hg 0 _).past (hg.set 0 (noInt_bool b)) 1 _).past ((hg.set 0 (noInt_bool b)).set 1 (noInt_slice _ _ _)) 2 _
theorem Ext.boxed {w0 w : World} {g : Nat} (h : Ext w0 w) (hg : w0.heap.size ≤ g) (x y z : Value) : Ext w0 (((w.setCell ⟨g, 0, none⟩ x).setCell ⟨g, 1, none⟩ y).setCell ⟨g, 2, none⟩ z) :=
  ((h.setCell hg x).setCell hg y).setCell hg z

/-- What a call returns that makes a rational number. -/
def RetR (w : World) (s : Bool) (n d : Nat) (e : Ending) (w' : World) : Prop := ∃ v, e = .returned v ∧ NumV w' v s n d ∧ Ext w w'

set_option maxHeartbeats 1000000 in
theorem int_any (x : Int) (w : World) (h0 : -9223372036854775808 ≤ x) (h1 : x ≤ 9223372036854775807) :
    Calls Try.prog 75 #[.int .i64 x] w (RetR w (decide (x < 0)) x.natAbs 1) := by
  by_cases hn : x < 0
  · have hd : decide (x < 0) = true := by simpa using hn
    have hw : IntKind.u64.wrap (-(x + 1)) = -(x + 1) := IntWalk.u64_in _ (by omega)
    rw [hd]
    clear hd
    go_enter Try.func75, Try.ntmps75
    go_wp2_with fail
    refine (natOf_any (-(x + 1) + 1) _ (by omega) (by omega)).mono ?_
    rintro e w1 ⟨v, rfl, hv, hX⟩
    have e1 : (-(x + 1) + 1).toNat = x.natAbs := by omega
    rw [e1] at hv
    obtain ⟨A, l, c, rfl, hw1, _⟩ := W32.open hv
    have HV := Lib.hid hw1
    have HX := Lib.hid hX
    have hB := (Blk.new w 96 #[.bool false, .slice none 0 0, .slice none 0 0]).ext hX
    have HB := Lib.hid hB
    obtain ⟨z0, z1, z2, f0, f1, f2⟩ := hB.three
    have hlt : w.heap.size < w1.heap.size := by have := hX.size; simp at this; omega
    clear hv hw1 hX e1 hB
    go_wp2
    refine bodyPost_ret (v := .agg #[.bool true, .slice A l c, .slice (some ⟨w1.heap.size, 0, none⟩) 1 1]) (by simp [results, Try.results75, go_sem, *]) rfl ?_
    exact ⟨_, rfl, ⟨_, _, rfl, (HV.out.boxed (NoInts.three HB.out) _ _ _ _ _ _ _).ext ((Ext.refl _).alloc _), W32.one' _ (by simp) rfl⟩, (Ext.boxed (((Ext.refl w).alloc _).trans HX.out) (Nat.le_refl _) _ _ _).alloc _⟩
  · have hd : decide (x < 0) = false := by simpa using hn
    have hw : IntKind.u64.wrap x = x := IntWalk.u64_in _ (by omega)
    rw [hd]
    clear hd
    go_enter Try.func75, Try.ntmps75
    go_wp2_with fail
    refine (natOf_any (x) _ (by omega) (by omega)).mono ?_
    rintro e w1 ⟨v, rfl, hv, hX⟩
    have e1 : (x).toNat = x.natAbs := by omega
    rw [e1] at hv
    obtain ⟨A, l, c, rfl, hw1, _⟩ := W32.open hv
    have HV := Lib.hid hw1
    have HX := Lib.hid hX
    have hB := (Blk.new w 96 #[.bool false, .slice none 0 0, .slice none 0 0]).ext hX
    have HB := Lib.hid hB
    obtain ⟨z0, z1, z2, f0, f1, f2⟩ := hB.three
    have hlt : w.heap.size < w1.heap.size := by have := hX.size; simp at this; omega
    clear hv hw1 hX e1 hB
    go_wp2
    refine bodyPost_ret (v := .agg #[.bool false, .slice A l c, .slice (some ⟨w1.heap.size, 0, none⟩) 1 1]) (by simp [results, Try.results75, go_sem, *]) rfl ?_
    exact ⟨_, rfl, ⟨_, _, rfl, (HV.out.boxed (NoInts.three HB.out) _ _ _ _ _ _ _).ext ((Ext.refl _).alloc _), W32.one' _ (by simp) rfl⟩, (Ext.boxed (((Ext.refl w).alloc _).trans HX.out) (Nat.le_refl _) _ _ _).alloc _⟩

end Go.Proofs.Yteoijnaljkagfaa
namespace Go.Proofs.Yteoijnaljkagfaa
open Go.RowKit
theorem Blk.at_ {W : World} {t : TypeId} {cs : Array Value} {g : Nat} (hg : W.heap.size = g) : Blk (W.alloc (.cells cs t)) g t cs := hg ▸ Blk.new W t cs
theorem ret_ii {a b c d : Int} (h : a = c) (k : b = d) : Ending.returned (.tuple #[.int .i64 a, .int .i64 b]) = .returned (.tuple #[.int .i64 c, .int .i64 d]) := by rw [h, k]
theorem Ext.two {w0 w : World} {g : Nat} (h : Ext w0 w) (hg : w0.heap.size ≤ g) (x y : Value) : Ext w0 ((w.setCell ⟨g, 0, none⟩ x).setCell ⟨g, 1, none⟩ y) := (h.setCell hg x).setCell hg y
end Go.Proofs.Yteoijnaljkagfaa
namespace Go.Proofs.Yteoijnaljkagfaa
open Go.RowKit

/-- An integer of the reference. -/
def IntZ (w : World) (v : Value) (z : Int) : Prop := ∃ A l c, v = .agg #[.bool (decide (z < 0)), .slice A l c] ∧ Z16 w (.slice A l c) z.natAbs
theorem IntZ.ext {w w' : World} {v : Value} {z : Int} (h : IntZ w v z) (he : Ext w w') : IntZ w' v z := by
  obtain ⟨A, l, c, h1, h2⟩ := h
  exact ⟨A, l, c, h1, h2.ext he⟩
/-- What a call returns that makes an integer. -/
def RetZ (w : World) (z : Int) (e : Ending) (w' : World) : Prop := ∃ v, e = .returned v ∧ IntZ w' v z ∧ Ext w w'
theorem nats_past {w : World} {v : Value} {n g : Nat} {k : IntKind} {B : Int} (h : NatV k B w v n) (hN : NoInts w g) (i : Nat) (x : Value) : NatV k B (w.setCell ⟨g, i, none⟩ x) v n := by
  obtain ⟨A, m, c, xs, h1, h2, h3⟩ := h
  exact ⟨A, m, c, xs, h1, h2.past hN.cell i x, h3⟩
theorem NoInts.two {w : World} {g : Nat} {t : TypeId} {b : Bool} {A1 : Option Addr} {l1 c1 : Nat} (h : Blk w g t #[.bool b, .slice A1 l1 c1]) : NoInts w g :=
  ⟨t, _, h, fun v hv => by
    simp at hv
    rcases hv with rfl | rfl
    · exact noInt_bool _
    · exact noInt_slice _ _ _⟩
theorem small_step {out : List Int} {k : Nat} {u N : Int} (hl : out.length = k) (hI : val 65536 out + u * 65536 ^ k = N) : val 65536 (out ++ [u % 65536]) + u / 65536 * 65536 ^ (k + 1) = N := by
  rw [val_snoc, hl, Int.pow_succ, ← hI]
  have h := Int.mul_ediv_add_emod u 65536
  generalize u / 65536 = q at *
  generalize u % 65536 = r at *
  grind

set_option maxRecDepth 100000 in
set_option maxHeartbeats 2000000 in
theorem small_any (n : Int) (w : World) (h0 : -9223372036854775808 ≤ n) (h1 : n ≤ 9223372036854775807) :
    Calls Try.prog 79 #[.int .i64 n] w (RetZ w n) := by
  obtain ⟨N, U, hN0, hN1, hNn, hu, hNu, hNp⟩ : ∃ N U : Int, 0 ≤ N ∧ N ≤ 9223372036854775808 ∧ Hid (N = (n.natAbs : Int)) ∧ IntKind.u64.wrap n = U ∧ (n < 0 → IntKind.u64.wrap (-U) = N) ∧ (¬ n < 0 → U = N) := by
    refine ⟨(n.natAbs : Int), IntKind.u64.wrap n, by omega, by omega, rfl, rfl, fun h => ?_, fun h => ?_⟩
    · rw [IntKind.wrap_u64, IntKind.wrap_u64]; omega
    · rw [IntKind.wrap_u64]; omega
  by_cases hneg : n < 0
  · have hw := hNu hneg
    have hb : decide (n < 0) = true := decide_eq_true hneg
    clear hNu hNp
    go_enter Try.func79, Try.ntmps79
    go_wp2_with fail
    clear hu hw
    go_loopg [3, 4] N.toNat (fun g s v wr => ∃ (k : Nat) (u : Int) (out : List Int), g = u.toNat ∧ s = .int .u64 u ∧ 0 ≤ u ∧ u ≤ 9223372036854775808 ∧ k ≤ 4 ∧ Hid (u * 65536 ^ k ≤ 9223372036854775808) ∧ Hid (wr.ownsRow (w.heap.size + 1) 3 1 v k (out.map (.int .i64))) ∧ Hid (Dg 65536 out) ∧ Hid (out.length = k) ∧ Hid (u = 0 → Nm out) ∧ Hid (val 65536 out + u * 65536 ^ k = N) ∧ Hid (Blk wr w.heap.size 40 #[.bool false, .slice none 0 0]) ∧ Hid (Ext w wr))
    case atStart => exact ⟨0, N, [], rfl, rfl, hN0, hN1, by omega, by simp [Hid]; omega, World.ownsRow_nil _ _ _ _, Dg.nil, rfl, fun _ => Nm.nil, by simp [Hid, val], Blk.new _ _ _, (Ext.refl w).alloc _⟩
    case round =>
      obtain ⟨k, u, out, rfl, rfl, hu0, hu1, hk4, HB, HO, HD, HLO, HNM, HI, KR, HX⟩ := hrel
      by_cases hz : u = 0
      · subst hz
        have hI := HI.out
        rw [Int.zero_mul, Int.add_zero] at hI
        obtain ⟨A2, c2, rfl⟩ := own_slice HO.out
        have HOS : Hid (OwnS .i64 3 (w.heap.size + 1) wr A2 k c2 out) := ⟨HO.out, HLO.out, dg_wf HD.out⟩
        have HV : Hid (Z16 wr (.slice A2 k c2) n.natAbs) := ⟨A2, k, c2, out, rfl, HOS.out.ints, ⟨HD.out, HNM.out rfl, by rw [hI, hNn.out]⟩, HOS.out.cap.1, HOS.out.cap.2⟩
        clear hI HI HNM
        have r0 : wr.cell? ⟨w.heap.size, 0, none⟩ = some (.bool false) := KR.out.cell 0
        have r1 : wr.cell? ⟨w.heap.size, 1, none⟩ = some (.slice none 0 0) := KR.out.cell 1
        have f0 : wr.frozen? ⟨w.heap.size, 0, none⟩ = false := KR.out.free 0
        have f1 : wr.frozen? ⟨w.heap.size, 1, none⟩ = false := KR.out.free 1
        go_wp2
        refine bodyPost_ret (v := .agg #[.bool true, .slice A2 k c2]) (by simp [results, Try.results79, go_sem, *]) rfl ?_
        refine ⟨_, rfl, ⟨A2, k, c2, by rw [hb], ?_⟩, HX.out.two (Nat.le_refl _) _ _⟩
        have hNI := NoInts.two KR.out
        exact nats_past (nats_past HV.out hNI 0 _) (hNI.set 0 (noInt_bool _)) 1 _
      · have hup : 0 < u := by omega
        have hkl : k < 4 := by
          apply Nat.lt_of_not_le
          intro h
          obtain rfl : k = 4 := by omega
          have := HB.out
          rw [show (65536 : Int) ^ 4 = 18446744073709551616 by decide] at this
          omega
        have hm0 := Int.emod_nonneg u (show (65536 : Int) ≠ 0 by omega)
        have hm1 := Int.emod_lt_of_pos u (show (0 : Int) < 65536 by omega)
        have hw2 : IntKind.i64.wrap (u % 65536) = u % 65536 := IntWalk.i64_in _ (by omega)
        have HST := Lib.hid (small_step HLO.out HI.out)
        have HDD := Lib.hid (HD.out.append (Dg.one ⟨hm0, hm1⟩))
        have HBB : Hid (u / 65536 * 65536 ^ (k + 1) ≤ 9223372036854775808) := by
          show _ ≤ _
          have h2 := HB.out
          have h3 : u / 65536 * 65536 ≤ u := Int.ediv_mul_le u (by omega)
          have h4 : u / 65536 * 65536 * 65536 ^ k ≤ u * 65536 ^ k := Int.mul_le_mul_of_nonneg_right h3 (Int.le_of_lt (pow_pos' (by omega) k))
          have h5 : u / 65536 * 65536 ^ (k + 1) = u / 65536 * 65536 * 65536 ^ k := by rw [Int.pow_succ]; grind
          omega
        have HNN : Hid (u / 65536 = 0 → Nm (out ++ [u % 65536])) := fun h => Nm.snoc (by omega)
        have hown := HO.out
        clear hm0 hm1
        go_wp2_with (at_builtin; refine wpList_app _ elI rfl _ _ rfl (w.heap.size + 1) _ k _ rfl (hown.alloc _) _ 1 1 [.int .i64 (u % 65536)] rfl rfl (At.new _ [_] _) (by simp [Value.oneCell']) (by omega) (by unfold maxLen; omega) (by have := KR.out.lt; simp; omega) ?_; intro v1 w1 hown1 hgr1 _; have HO1 := Lib.hid hown1; have HX1 := Lib.hid (Ext.push HX.out (World.ownsRow.mono' HO.out (Nat.le_succ _)) hgr1); have KR1 := Lib.hid ((KR.out.alloc _).grown hgr1 (fun e => by have := (HO.out.lt _ e.symm).1; omega)); clear hown1 hgr1)
        go_roundg (u / 65536).toNat
        case rel => exact ⟨k + 1, u / 65536, out ++ [u % 65536], rfl, rfl, by omega, by omega, by omega, HBB.out, by rw [List.map_append]; exact HO1.out, HDD.out, by rw [List.length_append, HLO.out]; rfl, HNN.out, HST.out, KR1.out, HX1.out⟩
        case measure => omega
  · obtain rfl := hNp hneg
    have hb : decide (n < 0) = false := decide_eq_false hneg
    clear hNu hNp
    go_enter Try.func79, Try.ntmps79
    go_wp2_with fail
    clear hu
    go_loopg [3, 4] U.toNat (fun g s v wr => ∃ (k : Nat) (u : Int) (out : List Int), g = u.toNat ∧ s = .int .u64 u ∧ 0 ≤ u ∧ u ≤ 9223372036854775808 ∧ k ≤ 4 ∧ Hid (u * 65536 ^ k ≤ 9223372036854775808) ∧ Hid (wr.ownsRow (w.heap.size + 1) 3 1 v k (out.map (.int .i64))) ∧ Hid (Dg 65536 out) ∧ Hid (out.length = k) ∧ Hid (u = 0 → Nm out) ∧ Hid (val 65536 out + u * 65536 ^ k = U) ∧ Hid (Blk wr w.heap.size 40 #[.bool false, .slice none 0 0]) ∧ Hid (Ext w wr))
    case atStart => exact ⟨0, U, [], rfl, rfl, hN0, hN1, by omega, by simp [Hid]; omega, World.ownsRow_nil _ _ _ _, Dg.nil, rfl, fun _ => Nm.nil, by simp [Hid, val], Blk.new _ _ _, (Ext.refl w).alloc _⟩
    case round =>
      obtain ⟨k, u, out, rfl, rfl, hu0, hu1, hk4, HB, HO, HD, HLO, HNM, HI, KR, HX⟩ := hrel
      by_cases hz : u = 0
      · subst hz
        have hI := HI.out
        rw [Int.zero_mul, Int.add_zero] at hI
        obtain ⟨A2, c2, rfl⟩ := own_slice HO.out
        have HOS : Hid (OwnS .i64 3 (w.heap.size + 1) wr A2 k c2 out) := ⟨HO.out, HLO.out, dg_wf HD.out⟩
        have HV : Hid (Z16 wr (.slice A2 k c2) n.natAbs) := ⟨A2, k, c2, out, rfl, HOS.out.ints, ⟨HD.out, HNM.out rfl, by rw [hI, hNn.out]⟩, HOS.out.cap.1, HOS.out.cap.2⟩
        clear hI HI HNM
        have r0 : wr.cell? ⟨w.heap.size, 0, none⟩ = some (.bool false) := KR.out.cell 0
        have r1 : wr.cell? ⟨w.heap.size, 1, none⟩ = some (.slice none 0 0) := KR.out.cell 1
        have f0 : wr.frozen? ⟨w.heap.size, 0, none⟩ = false := KR.out.free 0
        have f1 : wr.frozen? ⟨w.heap.size, 1, none⟩ = false := KR.out.free 1
        go_wp2
        refine bodyPost_ret (v := .agg #[.bool false, .slice A2 k c2]) (by simp [results, Try.results79, go_sem, *]) rfl ?_
        refine ⟨_, rfl, ⟨A2, k, c2, by rw [hb], ?_⟩, HX.out.two (Nat.le_refl _) _ _⟩
        have hNI := NoInts.two KR.out
        exact nats_past (nats_past HV.out hNI 0 _) (hNI.set 0 (noInt_bool _)) 1 _
      · have hup : 0 < u := by omega
        have hkl : k < 4 := by
          apply Nat.lt_of_not_le
          intro h
          obtain rfl : k = 4 := by omega
          have := HB.out
          rw [show (65536 : Int) ^ 4 = 18446744073709551616 by decide] at this
          omega
        have hm0 := Int.emod_nonneg u (show (65536 : Int) ≠ 0 by omega)
        have hm1 := Int.emod_lt_of_pos u (show (0 : Int) < 65536 by omega)
        have hw2 : IntKind.i64.wrap (u % 65536) = u % 65536 := IntWalk.i64_in _ (by omega)
        have HST := Lib.hid (small_step HLO.out HI.out)
        have HDD := Lib.hid (HD.out.append (Dg.one ⟨hm0, hm1⟩))
        have HBB : Hid (u / 65536 * 65536 ^ (k + 1) ≤ 9223372036854775808) := by
          show _ ≤ _
          have h2 := HB.out
          have h3 : u / 65536 * 65536 ≤ u := Int.ediv_mul_le u (by omega)
          have h4 : u / 65536 * 65536 * 65536 ^ k ≤ u * 65536 ^ k := Int.mul_le_mul_of_nonneg_right h3 (Int.le_of_lt (pow_pos' (by omega) k))
          have h5 : u / 65536 * 65536 ^ (k + 1) = u / 65536 * 65536 * 65536 ^ k := by rw [Int.pow_succ]; grind
          omega
        have HNN : Hid (u / 65536 = 0 → Nm (out ++ [u % 65536])) := fun h => Nm.snoc (by omega)
        have hown := HO.out
        clear hm0 hm1
        go_wp2_with (at_builtin; refine wpList_app _ elI rfl _ _ rfl (w.heap.size + 1) _ k _ rfl (hown.alloc _) _ 1 1 [.int .i64 (u % 65536)] rfl rfl (At.new _ [_] _) (by simp [Value.oneCell']) (by omega) (by unfold maxLen; omega) (by have := KR.out.lt; simp; omega) ?_; intro v1 w1 hown1 hgr1 _; have HO1 := Lib.hid hown1; have HX1 := Lib.hid (Ext.push HX.out (World.ownsRow.mono' HO.out (Nat.le_succ _)) hgr1); have KR1 := Lib.hid ((KR.out.alloc _).grown hgr1 (fun e => by have := (HO.out.lt _ e.symm).1; omega)); clear hown1 hgr1)
        go_roundg (u / 65536).toNat
        case rel => exact ⟨k + 1, u / 65536, out ++ [u % 65536], rfl, rfl, by omega, by omega, by omega, HBB.out, by rw [List.map_append]; exact HO1.out, HDD.out, by rw [List.length_append, HLO.out]; rfl, HNN.out, HST.out, KR1.out, HX1.out⟩
        case measure => omega

end Go.Proofs.Yteoijnaljkagfaa
namespace Go.Proofs.Yteoijnaljkagfaa
open Go.RowKit

/-- The estimate by the most significant limbs is not too small. -/
theorem guess_ge {r v top vt p : Int} (hr : r < (top + 1) * p) (hv : vt * p ≤ v) (hvt : 0 < vt) (hp : 0 < p) (hr0 : 0 ≤ r) : r / v ≤ top / vt := by
  have hv0 : 0 < v := Int.lt_of_lt_of_le (Int.mul_pos hvt hp) hv
  rw [Int.le_ediv_iff_mul_le hvt]
  have h1 : r / v * v ≤ r := Int.ediv_mul_le r (by omega)
  have h0 : 0 ≤ r / v := Int.ediv_nonneg hr0 (by omega)
  have h2 : r / v * (vt * p) ≤ r / v * v := Int.mul_le_mul_of_nonneg_left hv h0
  have h3 : r / v * vt * p < (top + 1) * p := by rw [Int.mul_assoc]; omega
  have h4 : r / v * vt < top + 1 := Int.lt_of_mul_lt_mul_right h3 (by omega)
  omega
theorem val_top {xs : List Int} {k : Nat} {x : Int} (hd : Dg 65536 xs) (hl : xs.length = k + 1) (hx : xs[k]? = some x) : val 65536 xs < (x + 1) * 65536 ^ k ∧ x * 65536 ^ k ≤ val 65536 xs := by
  have h1 := val_split (B := 65536) xs (k := k) (by omega)
  rw [val_drop hx, List.drop_eq_nil_of_le (by omega)] at h1
  have h2 := val_lt (B := 65536) (by omega) (hd.take k)
  have h3 := val_nonneg (B := 65536) (by omega) (hd.take k)
  rw [List.length_take, show min k xs.length = k by omega] at h2
  simp only [val, Int.mul_zero, Int.add_zero] at h1
  rw [h1, Int.add_mul, Int.one_mul, Int.mul_comm x]
  omega
theorem val_top2 {xs : List Int} {k : Nat} {x y : Int} (hd : Dg 65536 xs) (hl : xs.length = k + 2) (hx : xs[k + 1]? = some x) (hy : xs[k]? = some y) : val 65536 xs < (x * 65536 + y + 1) * 65536 ^ k := by
  have h1 := val_split (B := 65536) xs (k := k) (by omega)
  rw [val_drop hy, val_drop hx, List.drop_eq_nil_of_le (by omega)] at h1
  have h2 := val_lt (B := 65536) (by omega) (hd.take k)
  rw [List.length_take, show min k xs.length = k by omega] at h2
  simp only [val, Int.mul_zero, Int.add_zero] at h1
  have h4 : (x * 65536 + y + 1) * 65536 ^ k = 65536 ^ k * (y + 65536 * x) + 65536 ^ k := by grind
  rw [h1, h4]
  omega
/-- One digit of the quotient: d is the digit, x the limb of the dividend. -/
theorem quo_next {us q : List Int} {k : Nat} {V R x d : Int} (hx : us[k]? = some x) (hq : k < q.length) (hI : val 65536 (us.drop (k + 1)) = val 65536 (q.drop (k + 1)) * V + R) :
    val 65536 (us.drop k) = val 65536 ((q.set k d).drop k) * V + (R * 65536 + x - d * V) := by
  have hs : (q.set k d)[k]? = some d := by simp [hq]
  rw [val_drop hx, val_drop hs, List.drop_set_of_lt (by omega), hI]
  grind
/-- What comes out. -/
theorem quo_end {n m f Q R : Nat} (h : n * f = Q * (m * f) + R) (hR : R < m * f) (hf : 0 < f) : Q = n / m ∧ R / f = n % m := by
  have hm : 0 < m := by
    rcases Nat.eq_zero_or_pos m with h0 | h0
    · subst h0; simp at hR
    · exact h0
  have h1 : R = (n - Q * m) * f := by
    have e : Q * (m * f) = Q * m * f := by rw [Nat.mul_assoc]
    rw [Nat.sub_mul]
    omega
  have h2 : n - Q * m < m := by
    rw [h1] at hR
    exact Nat.lt_of_mul_lt_mul_right hR
  have h3 : Q * m ≤ n := by
    apply Nat.le_of_mul_le_mul_right _ hf
    rw [Nat.mul_assoc]; omega
  have h4 : n = m * Q + (n - Q * m) := by rw [Nat.mul_comm m Q]; omega
  have h5 : n / m = Q := by
    rw [h4, Nat.mul_add_div hm, Nat.div_eq_of_lt h2]; rfl
  refine ⟨h5.symm, ?_⟩
  rw [h1, Nat.mul_div_cancel _ hf]
  have := Nat.div_add_mod n m
  rw [h5, Nat.mul_comm] at this
  omega
end Go.Proofs.Yteoijnaljkagfaa
namespace Go.Proofs.Yteoijnaljkagfaa
open Go.RowKit

/-- What divide returns. -/
def RetDR (w : World) (q r : Nat) (e : Ending) (w' : World) : Prop := ∃ vq vr, e = .returned (.tuple #[vq, vr]) ∧ Z16 w' vq q ∧ Z16 w' vr r ∧ Ext w w'
theorem grownBy_set' (w : World) (g i : Nat) (u : Value) : w.grownBy (w.setCell ⟨g, i, none⟩ u) (some g) :=
  ⟨rfl, rfl, rfl, by simp, fun k _ hk => heap_setCell_other w ⟨g, i, none⟩ k u (fun e => hk (by simp [e]))⟩
theorem OwnS.far {k : IntKind} {e : TypeId} {base g n c : Nat} {w : World} {A : Option Addr} {xs : List Int} (h : OwnS k e base w A n c xs) (hg : g < base) (i : Nat) (u : Value) : OwnS k e base (w.setCell ⟨g, i, none⟩ u) A n c xs := by
  refine ⟨World.ownsRow.kept h.own (grownBy_set' w g i u) ?_, h.len, h.wf⟩
  rcases hv : (Value.slice A n c).ownBlock with _ | b
  · exact .inl rfl
  · right
    intro e
    injection e with e
    have := (h.own.lt b hv).1
    omega
theorem run_L (b : Bool) (A : Option Addr) (l c : Nat) (w : World) : (Instr.field 40 (.agg #[.bool b, .slice A l c]) 1).run Try.prog w = .ok (.slice A l c) w := by kernel_rfl
theorem ints_one {w : World} {x : Int} (h : (Lit.int .i64 x).wf = true) (t : TypeId) : Ints .i64 (w.alloc (.cells #[.int .i64 x] t)) (some ⟨w.heap.size, 0, none⟩) 1 [x] :=
  ⟨rfl, fun y hy => by simp at hy; subst hy; exact h, At.new w [.int .i64 x] t⟩

set_option maxRecDepth 100000 in
set_option maxHeartbeats 1000000 in
theorem rdiv_less (va vb : Value) (n m : Nat) (w : World) (ha : Z16 w va n) (hb : Z16 w vb m) (h : n < m) :
    Calls Try.prog 115 #[va, vb] w (RetDR w (n / m) (n % m)) := by
  obtain ⟨A, la, ca, xs, rfl, hA⟩ := ha
  obtain ⟨B, lb, cb, ys, rfl, hB⟩ := hb
  have HA : Hid (Z16 w (.slice A la ca) n) := ⟨A, la, ca, xs, rfl, hA⟩
  have HB : Hid (Z16 w (.slice B lb cb) m) := ⟨B, lb, cb, ys, rfl, hB⟩
  have HQ : Hid (n / m = 0 ∧ n % m = n) := ⟨Nat.div_eq_of_lt h, Nat.mod_eq_of_lt h⟩
  have HC := Lib.hid (cmpI_lt h)
  clear hA hB h
  go_enter Try.func115, Try.ntmps115
  go_wp2_with fail
  refine (compare_any _ _ n m _ HA.out HB.out).mono ?_
  rw [HC.out]
  rintro e w1 ⟨rfl, hX⟩
  have HX := Lib.hid hX
  clear hX
  go_wp2
  go_ret2
  exact ⟨_, _, rfl, by rw [HQ.out.1]; exact NatV.zero, by rw [HQ.out.2]; exact HA.out.ext HX.out, HX.out⟩

set_option maxRecDepth 100000 in
set_option maxHeartbeats 1000000 in
theorem rdiv_one (va : Value) (B : Option Addr) (cb : Nat) (y : Int) (n m L : Nat) (w : World) (ha : Z16 w va n) (hB : Ints .i64 w B 1 [y]) (hr : Rep 65536 [y] m) (hcb : 1 ≤ cb ∧ cb ≤ 9223372036854775807) (fn : Fit 65536 n L) (hL : L ≤ 1000000) (h : m ≤ n) :
    Calls Try.prog 115 #[va, .slice B 1 cb] w (RetDR w (n / m) (n % m)) := by
  obtain ⟨hy, hm⟩ := hr.single (by omega)
  obtain ⟨hy0, hy1⟩ := hr.1.get (k := 0) rfl
  obtain ⟨hcb1, hcb2⟩ := hcb
  obtain ⟨A, la, ca, xs, rfl, hA⟩ := ha
  have HA : Hid (Z16 w (.slice A la ca) n) := ⟨A, la, ca, xs, rfl, hA⟩
  have HB : Hid (Z16 w (.slice B 1 cb) m) := ⟨B, 1, cb, [y], rfl, hB, hr, hcb1, hcb2⟩
  have HI := Lib.hid hB
  have HF := Lib.hid fn
  obtain ⟨b, o, y', rfl, hyy, _, hc⟩ := hB.get (j := 0) (by omega)
  obtain rfl : y = y' := by simpa using hyy
  have hyp : 0 < y := by omega
  have hc0 : ¬ cmpI n m < 0 := by
    unfold cmpI
    rw [if_neg (by omega)]
    split <;> omega
  obtain ⟨ci, hci⟩ : ∃ c, cmpI n m = c := ⟨_, rfl⟩
  rw [hci] at hc0
  have HC := Lib.hid hci
  have HQ : Hid (n / y.toNat = n / m ∧ (n : Int) % y = ((n % m : Nat) : Int)) := by
    refine ⟨by rw [hy]; simp, ?_⟩
    rw [hy]; exact (Int.natCast_emod n m).symm
  have hrr : (n : Int) % y < y := Int.emod_lt_of_pos _ hyp
  have hrr0 : 0 ≤ (n : Int) % y := Int.emod_nonneg _ (by omega)
  have HRM : Hid (n % m < 65536) := by
    show _ < _
    have := HQ.out.2
    omega
  clear hA hB h hci hr hy hm hyy fn hrr hrr0
  go_enter Try.func115, Try.ntmps115
  go_wp2_with fail
  refine (compare_any _ _ n m _ HA.out HB.out).mono ?_
  rw [HC.out]
  rintro e w1 ⟨rfl, hX⟩
  have HX := Lib.hid hX
  have hc1 := hX.cell hc
  rw [Nat.add_zero] at hc1
  clear hX
  go_wp2_with fail
  refine (rshort_any _ n L y _ (HA.out.ext HX.out) HF.out hL hyp (by omega)).mono ?_
  rw [HQ.out.1, HQ.out.2]
  rintro e w2 ⟨v, rfl, hv, hX⟩
  have HX2 := Lib.hid (HX.out.trans hX)
  have HV := Lib.hid hv
  clear hX hv hc1 hc
  have hrm := HRM.out
  generalize hrn : n % m = r at hrm ⊢
  have HRN := Lib.hid hrn
  clear hrn
  go_wp2_with fail
  refine (small_any (r : Int) _ (by omega) (by omega)).mono ?_
  rintro e w3 ⟨v3, rfl, hv3, hX⟩
  obtain ⟨A3, l3, c3, rfl, hz⟩ := hv3
  have HX3 := Lib.hid (HX2.out.trans hX)
  have HV3 := Lib.hid (HV.out.ext hX)
  have HZ := Lib.hid hz
  have hL := run_L (decide ((r : Int) < 0)) A3 l3 c3
  clear hX hz
  go_wp2
  go_ret2
  exact ⟨_, _, rfl, HV3.out, by rw [HRN.out]; simpa using HZ.out, HX3.out⟩
end Go.Proofs.Yteoijnaljkagfaa
namespace Go.Proofs.Yteoijnaljkagfaa
open Go.RowKit

theorem cut_ints {w : World} {A A' : Option Addr} {n k : Nat} {xs : List Int} (h : Ints .i64 w A n xs) (hA : ∀ w' vs, At w' A vs → vs.length = n * 1 → At w' A' (vs.drop (k * 1))) : Ints .i64 w A' (n - k) (xs.drop k) := by
  refine ⟨by rw [List.length_drop, h.1], fun x hx => h.2.1 x (List.mem_of_mem_drop hx), ?_⟩
  have := hA w _ h.2.2 (by rw [List.length_map, h.1, Nat.mul_one])
  rw [Nat.mul_one, ← List.map_drop] at this
  exact this
theorem top_pos {xs : List Int} {n k : Nat} {x : Int} (h : Rep 65536 xs n) (hl : xs.length = k + 1) (hx : xs[k]? = some x) : 0 < x := by
  obtain ⟨h0, h1⟩ := h.1.get hx
  obtain ⟨zs, z, e, hz⟩ := h.2.1.split (by intro e; rw [e] at hl; simp at hl)
  have h2 : zs.length = k := by rw [e] at hl; simp at hl; omega
  rw [e, List.getElem?_append_right (by omega), h2] at hx
  simp at hx
  omega
theorem ints_one' (xs : List Int) : ∀ u ∈ xs.map (Value.int .i64), u.oneCell' = true := by
  intro u hu
  obtain ⟨x, _, rfl⟩ := List.mem_map.1 hu
  rfl

set_option maxRecDepth 100000 in
set_option maxHeartbeats 4000000 in
theorem rdiv_long (va : Value) (B : Option Addr) (cb p : Nat) (ys : List Int) (n m L : Nat) (w : World) (ha : Z16 w va n) (hB : Ints .i64 w B (p + 2) ys) (hr : Rep 65536 ys m) (hcb : p + 2 ≤ cb ∧ cb ≤ 9223372036854775807) (fn : Fit 65536 n L) (hL : L ≤ 400000) (h : m ≤ n) :
    Calls Try.prog 115 #[va, .slice B (p + 2) cb] w (RetDR w (n / m) (n % m)) := by
  obtain ⟨hcb1, hcb2⟩ := hcb
  obtain ⟨A, la, ca, xs, rfl, hA⟩ := ha
  have fm := fn.le h
  have hpl : p + 2 ≤ L := by have := fm.len (by omega) hr; rw [hB.1] at this; exact this
  have HA : Hid (Z16 w (.slice A la ca) n) := ⟨A, la, ca, xs, rfl, hA⟩
  have HB : Hid (Z16 w (.slice B (p + 2) cb) m) := ⟨B, p + 2, cb, ys, rfl, hB, hr, hcb1, hcb2⟩
  have HFN := Lib.hid fn
  have HFM := Lib.hid fm
  have HMN := Lib.hid h
  obtain ⟨b, o, yt, rfl, hyt, hwf0, hc⟩ := hB.get (j := p + 1) (by omega)
  obtain ⟨hy0, hy1⟩ := hr.1.get hyt
  have hytp : 0 < yt := by
    have h1 : ys ≠ [] := by intro e; have := hB.1; rw [e] at this; simp at this
    obtain ⟨zs, z, e, hz⟩ := hr.2.1.split h1
    have h2 : zs.length = p + 1 := by have := hB.1; rw [e] at this; simp at this; omega
    rw [e, List.getElem?_append_right (by omega), h2] at hyt
    simp at hyt
    omega
  have hc0 : ¬ cmpI n m < 0 := by
    unfold cmpI
    rw [if_neg (by omega)]
    split <;> omega
  obtain ⟨ci, hci⟩ : ∃ c, cmpI n m = c := ⟨_, rfl⟩
  rw [hci] at hc0
  have HC := Lib.hid hci
  have HIB := Lib.hid hB
  have HRB := Lib.hid hr
  obtain ⟨f, hf⟩ : ∃ f, 65536 / (yt + 1) = f := ⟨_, rfl⟩
  have hf0 : 1 ≤ f := by rw [← hf]; exact (Int.le_ediv_iff_mul_le (by omega)).2 (by omega)
  have hf1 : f < 65536 := by rw [← hf]; exact (Int.ediv_lt_iff_lt_mul (by omega)).2 (by omega)
  have hyz : ¬ yt + 1 = 0 := by omega
  have HFE := Lib.hid hf
  clear hA hB h hci hr fn fm hyt hwf0
  go_enter Try.func115, Try.ntmps115
  go_wp2_with fail
  refine (compare_any _ _ n m _ HA.out HB.out).mono ?_
  rw [HC.out]
  rintro e w1 ⟨rfl, hX⟩
  have HX := Lib.hid hX
  have hc1 := hX.cell hc
  clear hX hc
  go_upto_region 7 with (fail)
  have HX2 := Lib.hid (HX.out.alloc (.cells #[.int .i64 f] 3))
  have HF1 : Hid (Z16 (w1.alloc (.cells #[.int .i64 f] 3)) (.slice (some ⟨w1.heap.size, 0, none⟩) 1 1) f.toNat) := ⟨_, 1, 1, [f], rfl, ints_one (wf16 (by omega)) _, Rep.small (by omega) (by omega), by omega, by omega⟩
  have HC1 : Hid ((w1.alloc (.cells #[.int .i64 f] 3)).cell? ⟨w1.heap.size, 0, none⟩ = some (.int .i64 f)) := (Blk.new w1 3 #[.int .i64 f]).cell 0
  clear hc1
  generalize w1.alloc (.cells #[.int .i64 f] 3) = w2 at HX2 HF1 HC1 ⊢
  generalize w1.heap.size = gf at HF1 HC1 ⊢
  have hff : Fit 65536 f.toNat 1 := by unfold Fit; rw [Int.pow_succ, Int.pow_zero]; omega
  have HFF := Lib.hid hff
  clear hff hf
  go_wp2_with fail
  refine (times16_any _ _ n f.toNat L 1 _ (HA.out.ext HX2.out) HF1.out HFN.out HFF.out (by omega) (by omega)).mono ?_
  rintro e w3 ⟨vu, rfl, hu, hX⟩
  have HX3 := Lib.hid (HX2.out.trans hX)
  have HU := Lib.hid hu
  have HF2 := Lib.hid (HF1.out.ext hX)
  have HC2 := Lib.hid (hX.cell HC1.out)
  clear hX hu HF1 HC1
  go_wp2_with fail
  refine (times16_any _ _ m f.toNat L 1 _ (HB.out.ext HX3.out) HF2.out HFM.out HFF.out (by omega) (by omega)).mono ?_
  rintro e w4 ⟨vv, rfl, hv, hX⟩
  have HX4 := Lib.hid (HX3.out.trans hX)
  have HU4 := Lib.hid (HU.out.ext hX)
  have HC4 := Lib.hid (hX.cell HC2.out)
  clear hX HU HF2 HC2
  obtain ⟨Au, lu, cu, us, rfl, hIu, hRu, hcu1, hcu2⟩ := HU4.out
  obtain ⟨Av, lv, cv, vs, rfl, hIv, hRv, hcv1, hcv2⟩ := hv
  have hfn : 0 < f.toNat := by omega
  have hvu : m * f.toNat ≤ n * f.toNat := Nat.mul_le_mul_right _ HMN.out
  have hFu : Fit 65536 (n * f.toNat) (L + 1) := HFN.out.mul (by omega) HFF.out
  have hlu : lu ≤ L + 1 := by have := hFu.len (by omega) hRu; rw [hIu.1] at this; exact this
  have hlen : lv ≤ lu := by
    apply Nat.le_of_not_lt
    intro h
    have := hRu.lt_of_len (by omega) hRv (by rw [hIu.1, hIv.1]; exact h)
    omega
  have hmv : m ≤ m * f.toNat := Nat.le_mul_of_pos_right _ hfn
  have hlv : p + 2 ≤ lv := by
    apply Nat.le_of_not_lt
    intro h
    have := hRv.lt_of_len (by omega) HRB.out (by rw [hIv.1, HIB.out.1]; exact h)
    omega
  obtain ⟨V, hV⟩ : ∃ V, m * f.toNat = V := ⟨_, rfl⟩
  obtain ⟨U, hU⟩ : ∃ U, n * f.toNat = U := ⟨_, rfl⟩
  rw [hU] at hvu hFu hRu
  rw [hV] at hvu hmv hRv
  have HVE := Lib.hid hV
  have HUE := Lib.hid hU
  have HIU := Lib.hid hIu
  have HRU := Lib.hid hRu
  have HIV := Lib.hid hIv
  have HRV := Lib.hid hRv
  have HFU := Lib.hid hFu
  have HVU := Lib.hid hvu
  clear hV hU hIu hRu hIv hRv HU4 hFu hvu hmv hfn
  obtain ⟨d, hd1, hd2⟩ : ∃ d, lu ≤ lv + d ∧ lv + d ≤ lu := ⟨lu - lv, by omega⟩
  obtain ⟨r, hr1, hr2⟩ : ∃ r, lv ≤ r + 2 ∧ r + 2 ≤ lv := ⟨lv - 2, by omega⟩
  have HYT := Lib.hid (And.intro hytp (And.intro hy0 hy1))
  clear hlen hlv hc0 hyz hytp hy0 hy1
  go_upto_region 9 with (at_make; refine wpList_mk _ elI rfl rfl _ _ rfl w4.heap.size _ _ _ _ (d + 1) (d + 1) rfl rfl (by omega) (by omega) (Nat.le_refl _) (by omega) (by unfold maxLen; omega) (Nat.le_refl _) ?_; intro w5 hown5 hext5 hsz5)
  have HQ5 := Lib.hid (OwnS.made hown5)
  have HX5 := Lib.hid hext5
  clear hown5 hext5
  have HU5 := Lib.hid (HIU.out.ext HX5.out)
  go_wp2_with (first | (refine wpList_cutL (o := ⟨some 69, _, _, _, _, _⟩) _ elI rfl _ _ rfl Au lu cu rfl _ _ (d + 1) rfl (by omega) (by omega) hcu1 ?_; intro A5 hA5; have HI5 := Lib.hid (cut_ints HU5.out hA5); clear hA5) | (at_builtin; refine wpList_app (o := ⟨some 70, _, _, _, _, _⟩) _ elI rfl _ _ rfl w5.heap.size (.slice (some ⟨w5.heap.size, 0, none⟩) 0 0) 0 [] rfl (World.ownsRow_lit w5 #[] 0 (Nat.le_refl _) (by unfold maxLen; omega) rfl) A5 (lu - (d + 1)) (cu - (d + 1)) ((us.drop (d + 1)).map (.int .i64)) rfl (by rw [List.length_map, Nat.mul_one]; exact HI5.out.1) (HI5.out.ext ((Ext.refl w5).alloc _)).2.2 (ints_one' _) (by omega) (by unfold maxLen; omega) (by simp) ?_; intro v6 w6 hown6 hgr6 hloc6; clear hloc6; have HO6 := Lib.hid hown6; have HG6 := Lib.hid (Ext.app ((Ext.refl w5).alloc _) (World.ownsRow_lit (size := 1) (e := 3) w5 #[] 0 (Nat.le_refl _) (by unfold maxLen; omega) rfl) hgr6); clear hown6 hgr6))
  obtain ⟨A6, c6, rfl⟩ := own_slice HO6.out
  have hw : Dg 65536 (us.drop (d + 1)) := HRU.out.1.drop _
  have hdl : (us.drop (d + 1)).length = lu - (d + 1) := by rw [List.length_drop, HIU.out.1]
  have HOS6 : Hid (OwnS .i64 3 w5.heap.size w6 A6 (0 + (lu - (d + 1))) c6 (us.drop (d + 1))) := ⟨by simpa using HO6.out, by rw [hdl]; omega, dg_wf hw⟩
  obtain ⟨R0, hR0⟩ : ∃ R : Nat, val 65536 (us.drop (d + 1)) = (R : Int) := ⟨(val 65536 (us.drop (d + 1))).toNat, by have := val_nonneg (B := 65536) (by omega) hw; omega⟩
  have hRV : (R0 : Int) < (V : Int) := by
    have h1 := val_lt (B := 65536) (by omega) hw
    rw [hdl, hR0] at h1
    have h2 := nm_low (B := 65536) (by omega) HRV.out.1 HRV.out.2.1 (by intro e; have := HIV.out.1; rw [e] at this; simp at this; omega)
    rw [HRV.out.2.2, HIV.out.1] at h2
    have h3 : lu - (d + 1) = lv - 1 := by omega
    rw [h3] at h1
    omega
  have HDW := Lib.hid hw
  have HR0 := Lib.hid hR0
  have HRV0 : Hid (R0 < V) := by show _ < _; omega
  clear hw hdl hR0 hRV HO6
  refine (trimO HOS6.out HDW.out HR0.out).mono ?_
  rintro e _ ⟨l7, zs7, rfl, hO7, hR7, rfl⟩
  have HO7 := Lib.hid hO7
  have HR7 := Lib.hid hR7
  clear hO7 hR7 HOS6
  have HQ6 := Lib.hid (HQ5.out.ext HG6.out)
  have HX6 := Lib.hid (HX5.out.trans HG6.out)
  have hsz : w4.heap.size + 1 ≤ w5.heap.size := by omega
  have HO7' := Lib.hid (HO7.out.mono hsz)
  obtain ⟨gq, hgq⟩ : ∃ g, w4.heap.size = g := ⟨_, rfl⟩
  rw [hgq] at HQ6 HO7' ⊢
  have HGQ := Lib.hid hgq
  clear hgq hsz hsz5 HQ5 HX5 HU5 HI5 HG6 HO7
  go_wp2_with fail
  go_loopg [12, 13] (d + 1) (fun g s12 s13 wr => ∃ (k R l : Nat) (Ar : Option Addr) (cr : Nat) (zs q : List Int), k = g ∧ k ≤ d + 1 ∧ s13 = .int .i64 ((k : Int) - 1) ∧ s12 = .slice Ar l cr ∧ Hid (OwnS .i64 3 (gq + 1) wr Ar l cr zs) ∧ Hid (Rep 65536 zs R) ∧ Hid (R < V) ∧ Hid (OwnS .i64 3 gq wr (some ⟨gq, 0, none⟩) (d + 1) (d + 1) q) ∧ Hid (Dg 65536 q) ∧ Hid (val 65536 (us.drop k) = val 65536 (q.drop k) * V + R) ∧ Hid (Ext w4 wr))
  case atStart => exact ⟨d + 1, R0, l7, A6, c6, zs7, _, rfl, Nat.le_refl _, congrArg (Value.int IntKind.i64) (by omega), rfl, HO7'.out, HR7.out, HRV0.out, HQ6.out, Dg.zeros (by omega) _, by show _ = _; rw [HR0.out, List.drop_eq_nil_of_le (by simp)]; simp [val], HX6.out⟩
  case round =>
    clear HO7' HR7 HRV0 HQ6 HR0 HX6 HDW
    obtain ⟨k, R, l, Ar, cr, zs, q, rfl, hk, rfl, rfl, HO, HR, HRV', HQ, HD, HI, HX'⟩ := hrel
    have hll : l ≤ lv := by
      have h1 := HRV.out.lt (by omega)
      rw [HIV.out.1] at h1
      have h2 := HR.out.len_le (by omega) (L := lv) (by have := HRV'.out; omega)
      rw [HO.out.len] at h2
      exact h2
    obtain ⟨hcr1, hcr2⟩ := HO.out.cap
    rcases Nat.eq_zero_or_pos k with h0 | h0
    · subst h0
      as_aux_lemma =>
        have hI := HI.out
        simp only [List.drop_zero] at hI
        rw [HRU.out.2.2] at hI
        have hvn := val_nonneg (B := 65536) (by omega) HD.out
        obtain ⟨Qq, hQq⟩ : ∃ Q : Nat, val 65536 q = (Q : Int) := ⟨_, (Int.toNat_of_nonneg hvn).symm⟩
        rw [hQq] at hI
        have hIn : U = Qq * V + R := by
          have : (U : Int) = ((Qq * V + R : Nat) : Int) := by rw [hI]; simp
          exact Int.ofNat.inj this
        have hend := quo_end (n := n) (m := m) (f := f.toNat) (Q := Qq) (R := R) (by rw [HUE.out, HVE.out]; exact hIn) (by rw [HVE.out]; exact HRV'.out) (by omega)
        have HEND := Lib.hid hend
        have HQq := Lib.hid hQq
        have hcf : wr.cell? ⟨gf, 0, none⟩ = some (.int .i64 f) := HX'.out.cell HC4.out
        have HFR := Lib.hid (HFU.out.le (show R ≤ U by have := HRV'.out; have := HVU.out; omega))
        clear hI hvn hQq hIn hend
        rw [show (((0 : Nat) : Int) - 1) = -1 by omega]
        go_wp2_with fail
        refine (rshort_any _ R (L + 1) f _ ⟨Ar, l, cr, zs, rfl, HO.out.ints, HR.out, hcr1, hcr2⟩ HFR.out (by omega) (by omega) (by omega)).mono ?_
        rintro e w8 ⟨v8, rfl, hv8, hX8⟩
        have HV8 := Lib.hid hv8
        have HX8 := Lib.hid (HX'.out.trans hX8)
        have HQ8 := Lib.hid (HQ.out.ext hX8)
        clear hv8 hX8 hcf
        generalize (R : Int) % f = rm
        go_wp2_with fail
        refine (trimN HQ8.out.ints HD.out HQq.out (by omega) (by omega)).mono ?_
        rintro e _ ⟨v9, rfl, hv9, rfl⟩
        have HV9 := Lib.hid hv9
        clear hv9
        go_wp2
        go_ret2
        exact ⟨_, _, rfl, by rw [← HEND.out.1]; exact HV9.out, by rw [← HEND.out.2]; exact HV8.out, HX4.out.trans HX8.out⟩
    · obtain ⟨j, rfl⟩ : ∃ j, k = j + 1 := ⟨k - 1, by omega⟩
      rw [show (((j + 1 : Nat) : Int) - 1) = (j : Int) by omega]
      have hj0 : (0 : Int) ≤ (j : Int) := by omega
      have hjl : (j : Int) < (lu : Int) := by omega
      obtain ⟨bu, ou, x, rfl, hx, hwf1, hcx⟩ := (HIU.out.ext HX'.out).get (show j < lu by omega)
      obtain ⟨hx0, hx1⟩ := HRU.out.1.get hx
      have HXU := Lib.hid hx
      have HIr := Lib.hid HO.out.ints
      clear hx hwf1
      go_wp2_with (first | (at_builtin; refine wpList_app (o := ⟨some 87, _, _, _, _, _⟩) _ elI rfl _ _ rfl wr.heap.size (.slice (some ⟨wr.heap.size, 0, none⟩) 1 1) 1 [.int .i64 x] rfl (World.ownsRow_lit (size := 1) (e := 3) wr #[.int .i64 x] 1 (Nat.le_refl _) (by unfold maxLen; omega) rfl) Ar l cr (zs.map (.int .i64)) rfl (by rw [List.length_map, Nat.mul_one]; exact HO.out.len) (HIr.out.ext ((Ext.refl wr).alloc _)).2.2 (ints_one' _) (by omega) (by unfold maxLen; omega) (by simp) ?_; intro v8 w8 hown8 hgr8 hloc8; clear hloc8; have HO8 := Lib.hid hown8; have HG8 := Lib.hid (Ext.app ((Ext.refl wr).alloc _) (World.ownsRow_lit (size := 1) (e := 3) wr #[.int .i64 x] 1 (Nat.le_refl _) (by unfold maxLen; omega) rfl) hgr8); clear hown8 hgr8))
      obtain ⟨A8, c8, rfl⟩ := own_slice HO8.out
      have hdx : Dg 65536 (x :: zs) := Dg.cons ⟨hx0, hx1⟩ HR.out.1
      have HOS8 : Hid (OwnS .i64 3 wr.heap.size w8 A8 (1 + l) c8 (x :: zs)) := ⟨by simpa using HO8.out, by rw [List.length_cons, HO.out.len]; omega, dg_wf hdx⟩
      obtain ⟨R', hR'⟩ : ∃ R' : Nat, (R : Int) * 65536 + x = (R' : Int) := ⟨R * 65536 + x.toNat, by omega⟩
      have HVR : Hid (val 65536 (x :: zs) = (R' : Int)) := by
        show x + 65536 * val 65536 zs = _
        rw [HR.out.2.2]; omega
      have HDX := Lib.hid hdx
      clear hdx HO8
      refine (trimO HOS8.out HDX.out HVR.out).mono ?_
      rintro e _ ⟨l9, zs9, rfl, hO9, hR9, rfl⟩
      have HO9 := Lib.hid hO9
      have HR9 := Lib.hid hR9
      have HX8 := Lib.hid (HX'.out.trans HG8.out)
      have HQ8 := Lib.hid (HQ.out.ext HG8.out)
      have HRR := Lib.hid hR'
      have HIV8 := Lib.hid (HIV.out.ext HX8.out)
      clear hO9 hR9 HOS8 hcx hR'
      go_upto_if 93 with (fail)
      have hV1 : 0 < V := by have := HRV'.out; omega
      have HLT : Hid ((R' : Int) < (V : Int) * 65536) := by
        show _ < _
        have h1 := HRV'.out
        have h2 := HRR.out
        omega
      have hl9 : l9 ≤ lv + 1 := by
        have h1 := HRV.out.lt (by omega)
        rw [HIV.out.1] at h1
        have h2 := HR9.out.len_le (by omega) (L := lv + 1) (by rw [Int.pow_succ]; have := HLT.out; omega)
        rw [HO9.out.len] at h2
        exact h2
      generalize hbb : decide (lv ≤ l9) = bb
      have HBB := Lib.hid hbb
      clear hbb
      go_cut [14] (fun s14 W => ∃ gs : Int, s14 = .int .i64 gs ∧ 0 ≤ gs ∧ gs ≤ 65535 ∧ Hid ((R' : Int) / (V : Int) ≤ gs) ∧ w8 = W)
      case first =>
        as_aux_lemma =>
          have hlow := nm_low (B := 65536) (by omega) HRV.out.1 HRV.out.2.1 (by intro e; have := HIV.out.1; rw [e] at this; simp at this; omega)
          rw [HRV.out.2.2, HIV.out.1] at hlow
          have hcc : (bb = false ∧ l9 < lv) ∨ (bb = true ∧ l9 = lv) ∨ (bb = true ∧ l9 = lv + 1) := by
            have h := HBB.out
            cases bb
            · left; exact ⟨rfl, by simpa using h⟩
            · right
              have : lv ≤ l9 := by simpa using h
              rcases (show l9 = lv ∨ l9 = lv + 1 by omega) with h | h
              · exact .inl ⟨rfl, h⟩
              · exact .inr ⟨rfl, h⟩
          clear HBB
          rcases hcc with ⟨rfl, hc⟩ | ⟨rfl, hc⟩ | ⟨rfl, hc⟩
          · have HZ0 : Hid ((R' : Int) / (V : Int) ≤ 0) := by
              show _ ≤ _
              have h1 := HR9.out.lt (by omega)
              rw [HO9.out.len] at h1
              have h2 := pow_le (B := 65536) (a := l9) (b := lv - 1) (by omega) (by omega)
              rw [Int.ediv_eq_zero_of_lt (by omega) (by omega)]
              omega
            clear hlow
            go_wp2
            go_meet
            exact ⟨0, rfl, by omega, by omega, HZ0.out, rfl⟩
          · obtain rfl : lv = r + 2 := by omega
            subst hc
            obtain ⟨bv, ov, vt, rfl, hvt, _, hcv⟩ := HIV8.out.get (j := r + 1) (by omega)
            obtain ⟨hv0, hv1⟩ := HRV.out.1.get hvt
            obtain ⟨g8, z, rfl, hz, _, hcz⟩ := HO9.out.get (j := r + 1) (by omega)
            obtain ⟨hz0, hz1⟩ := HR9.out.1.get hz
            have hvp := top_pos HRV.out (by rw [HIV.out.1]) hvt
            have hge := guess_ge (val_top HR9.out.1 (by rw [HO9.out.len]) hz).1 (by have := (val_top HRV.out.1 (by rw [HIV.out.1]) hvt).2; rw [HRV.out.2.2] at this; exact this) hvp (pow_pos' (by omega) _) (by rw [HR9.out.2.2]; omega)
            rw [HR9.out.2.2] at hge
            have HGE := Lib.hid hge
            have hq0 : 0 ≤ z / vt := Int.ediv_nonneg hz0 (by omega)
            have hq1 : z / vt ≤ z := Int.ediv_le_self _ hz0
            have hvz : ¬ vt = 0 := by omega
            clear hlow hvt hz hge
            have hbig : ¬ 65536 ≤ z / vt := by omega
            clear hq1
            go_wp2
            go_meet
            exact ⟨z / vt, rfl, hq0, by omega, HGE.out, rfl⟩
          · obtain rfl : lv = r + 2 := by omega
            obtain rfl : l9 = r + 3 := by omega
            clear hc
            obtain ⟨bv, ov, vt, rfl, hvt, _, hcv⟩ := HIV8.out.get (j := r + 1) (by omega)
            obtain ⟨hv0, hv1⟩ := HRV.out.1.get hvt
            obtain ⟨g8, z, rfl, hz, _, hcz⟩ := HO9.out.get (j := r + 2) (by omega)
            obtain ⟨hz0, hz1⟩ := HR9.out.1.get hz
            obtain ⟨g9, y, hg9, hy, _, hcy⟩ := HO9.out.get (j := r + 1) (by omega)
            obtain rfl : g8 = g9 := by injection hg9 with h; injection h
            obtain ⟨hy0, hy1⟩ := HR9.out.1.get hy
            have hvp := top_pos HRV.out (by rw [HIV.out.1]) hvt
            have hge := guess_ge (val_top2 HR9.out.1 (by rw [HO9.out.len]) hz hy) (by have := (val_top HRV.out.1 (by rw [HIV.out.1]) hvt).2; rw [HRV.out.2.2] at this; exact this) hvp (pow_pos' (by omega) _) (by rw [HR9.out.2.2]; omega)
            rw [HR9.out.2.2] at hge
            have HGE := Lib.hid hge
            have hq0 : 0 ≤ (z * 65536 + y) / vt := Int.ediv_nonneg (by omega) (by omega)
            have hq1 : (z * 65536 + y) / vt ≤ z * 65536 + y := Int.ediv_le_self _ (by omega)
            have hs0 : 0 ≤ z * 65536 + y := by omega
            have hvz : ¬ vt = 0 := by omega
            have HDG : Hid ((R' : Int) / (V : Int) ≤ 65535) := by
              show _ ≤ _
              have h1 := HLT.out
              have h2 : (R' : Int) / (V : Int) < 65536 := (Int.ediv_lt_iff_lt_mul (by omega)).2 (by omega)
              omega
            clear hlow hvt hz hy hge hg9
            by_cases hbig : 65536 ≤ (z * 65536 + y) / vt
            · go_wp2
              go_meet
              exact ⟨65535, rfl, by omega, by omega, HDG.out, rfl⟩
            · go_wp2
              go_meet
              exact ⟨(z * 65536 + y) / vt, rfl, hq0, by omega, HGE.out, rfl⟩
      case rest =>
        obtain ⟨gs, rfl, hgs0, hgs1, HGS, rfl⟩ := hcut
        clear HBB hl9
        obtain ⟨G0, hG0, hG1⟩ : ∃ G : Nat, gs = (G : Int) ∧ G ≤ 65535 := ⟨gs.toNat, by omega, by omega⟩
        subst hG0
        have HGD : Hid (R' / V ≤ G0) := by
          show _ ≤ _
          have := HGS.out
          rw [← Int.natCast_ediv] at this
          omega
        clear HGS hgs0 hgs1
        have HFV := Lib.hid (HFU.out.le HVU.out)
        have HFG : Hid (Fit 65536 65535 1) := by show Fit _ _ _; unfold Fit; rw [Int.pow_succ, Int.pow_zero]; omega
        have HONE : Hid (Ints .i64 (w8.alloc (.cells #[.int .i64 (G0 : Int)] 3)) (some ⟨w8.heap.size, 0, none⟩) 1 [(G0 : Int)]) := ints_one (wf16 (by omega)) _
        have HD1 : Hid (Dg 65536 [(G0 : Int)]) := Dg.one (by omega)
        have HV1' : Hid (val 65536 [(G0 : Int)] = (G0 : Int)) := val_one _
        go_wp2_with fail
        refine (trimN HONE.out HD1.out HV1'.out (by omega) (by omega)).mono ?_
        rintro e _ ⟨vg, rfl, hvg, rfl⟩
        have HVG := Lib.hid hvg
        clear hvg HONE
        have HXa := Lib.hid ((Ext.refl w8).alloc (.cells #[.int .i64 (G0 : Int)] 3))
        generalize w8.alloc (.cells #[.int .i64 (G0 : Int)] 3) = w9 at HVG HXa ⊢
        go_wp2_with fail
        refine (times16_any _ _ V G0 (L + 1) 1 _ ⟨Av, lv, cv, vs, rfl, HIV8.out.ext HXa.out, HRV.out, hcv1, hcv2⟩ HVG.out HFV.out (HFG.out.le hG1) (by omega) (by omega)).mono ?_
        rintro e w10 ⟨vp, rfl, hvp, hX10⟩
        have HVP := Lib.hid hvp
        have HX10 := Lib.hid (HXa.out.trans hX10)
        clear hvp hX10 HVG HXa
        go_wp2_with fail
        have HFR' := Lib.hid (show Fit 65536 R' (L + 2) from by
          have h1 := HFV.out
          have h2 := HLT.out
          unfold Fit at h1 ⊢
          rw [Int.pow_succ]; omega)
        have HFP : Hid (∀ G : Nat, G ≤ 65535 → Fit 65536 (V * G) (L + 2)) := fun G hG => (HFV.out.mul (by omega) (HFG.out.le hG)).mono (by omega) (by omega)
        go_loopg [14, 16] G0 (fun g s14 s16 wi => ∃ G : Nat, G = g ∧ s14 = .int .i64 (G : Int) ∧ G ≤ 65535 ∧ Hid (R' / V ≤ G) ∧ Hid (Z16 wi s16 (V * G)) ∧ Hid (Ext w8 wi))
        case atStart => exact ⟨G0, rfl, rfl, hG1, HGD.out, HVP.out, HX10.out⟩
        case round =>
          clear HGD HVP HX10 HD1 HV1'
          obtain ⟨G, rfl, rfl, hG, HGD, HP, HXi⟩ := hrel
          have HRi := Lib.hid (HO9.out.ext HXi.out)
          by_cases hgt : R' < V * G
          · as_aux_lemma =>
              have HC1 := Lib.hid (cmpI_gt hgt)
              have hGp : 0 < G := by
                rcases Nat.eq_zero_or_pos G with h | h
                · subst h; simp at hgt
                · exact h
              obtain ⟨H, rfl⟩ : ∃ H, G = H + 1 := ⟨G - 1, by omega⟩
              have HGD' : Hid (R' / V ≤ H) := by
                show _ ≤ _
                have h1 : R' / V < H + 1 := (Nat.div_lt_iff_lt_mul hV1).2 (by rw [Nat.mul_comm]; exact hgt)
                omega
              have HSUB : Hid (V * (H + 1) - V = V * H) := by show _ = _; rw [Nat.mul_succ]; omega
              have HLE : Hid (V ≤ V * (H + 1)) := Nat.le_mul_of_pos_right _ (by omega)
              clear hgt hGp
              go_wp2_with fail
              refine (compare_any _ _ (V * (H + 1)) R' _ HP.out ⟨A8, l9, c8, zs9, rfl, HRi.out.ints, HR9.out, HRi.out.cap.1, HRi.out.cap.2⟩).mono ?_
              rw [HC1.out]
              rintro e w11 ⟨rfl, hX⟩
              have HX11 := Lib.hid (HXi.out.trans hX)
              have HP11 := Lib.hid (HP.out.ext hX)
              clear hX
              go_wp2_with fail
              refine (less_any _ _ (V * (H + 1)) V (L + 2) _ HP11.out ⟨Av, lv, cv, vs, rfl, HIV8.out.ext HX11.out, HRV.out, hcv1, hcv2⟩ (HFP.out _ hG) (by omega) HLE.out).mono ?_
              rw [HSUB.out]
              rintro e w12 ⟨v12, rfl, hv12, hX⟩
              have HX12 := Lib.hid (HX11.out.trans hX)
              have HV12 := Lib.hid hv12
              clear hX hv12
              go_wp2
              go_roundg H
              case rel => exact ⟨H, rfl, by go_num, by omega, HGD'.out, HV12.out, HX12.out⟩
              case measure => omega
          · as_aux_lemma =>
              have hle : V * G ≤ R' := by omega
              have hcv : cmpI (V * G) R' = -1 ∨ cmpI (V * G) R' = 0 := by
                rcases Nat.lt_or_ge (V * G) R' with h | h
                · exact .inl (cmpI_lt h)
                · exact .inr (cmpI_eq (by omega))
              have HLE := Lib.hid hle
              have hGq : (G : Int) < 65536 := by omega
              clear hgt hle
              rcases hcv with hcv | hcv
              all_goals
                have HC2 := Lib.hid hcv
                clear hcv
                go_wp2_with fail
                refine (compare_any _ _ (V * G) R' _ HP.out ⟨A8, l9, c8, zs9, rfl, HRi.out.ints, HR9.out, HRi.out.cap.1, HRi.out.cap.2⟩).mono ?_
                rw [HC2.out]
                rintro e w11 ⟨rfl, hX⟩
                have HX11 := Lib.hid (HXi.out.trans hX)
                have HP11 := Lib.hid (HP.out.ext hX)
                have HR11 := Lib.hid (HRi.out.ext hX)
                clear hX HC2
                go_wp2_with fail
                refine (less_own _ _ R' (V * G) (L + 2) _ ⟨A8, l9, c8, zs9, rfl, HR11.out.ints, HR9.out, HR11.out.cap.1, HR11.out.cap.2⟩ HP11.out HFR'.out (by omega) HLE.out).mono ?_
                rintro e w12 ⟨A12, l12, c12, zs12, rfl, hO12, hR12, hX⟩
                have HX12 := Lib.hid (HX11.out.trans hX)
                have hqlt : gq < w11.heap.size := by
                  obtain ⟨g', x', hg', _, _, hcell⟩ := (HQ8.out.ext HX11.out).get (j := 0) (by omega)
                  obtain rfl : gq = g' := by injection hg' with h; injection h
                  exact World.block_lt_of_cell? _ _ hcell
                have HO12 := Lib.hid (hO12.mono (show gq + 1 ≤ w11.heap.size by omega))
                have HR12 := Lib.hid hR12
                have HQ12 := Lib.hid (HQ8.out.ext HX12.out)
                clear hX hO12 hR12 hqlt
                obtain ⟨g', z', hg', hz', _, hcz', hfz', _, hst⟩ := HQ12.out.store (j := j) (by omega)
                obtain rfl : gq = g' := by injection hg' with h; injection h
                have HS := Lib.hid (hst.out (G : Int) (wf16 (by omega)))
                have HDD := Lib.hid (HD.out.set (u := (G : Int)) (by omega) j)
                have HN := Lib.hid (quo_next (q := q) (d := (G : Int)) HXU.out (by rw [HQ12.out.len]; omega) HI.out)
                have HOO := Lib.hid (HO12.out.far (g := gq) (Nat.lt_succ_self gq) j (.int .i64 (G : Int)))
                have HRN : Hid (R' - V * G < V) := by
                  show _ < _
                  have h1 := (Nat.div_lt_iff_lt_mul hV1).1 (show R' / V < G + 1 by have := HGD.out; omega)
                  rw [Nat.add_mul, Nat.one_mul, Nat.mul_comm G V] at h1
                  have h2 := HLE.out
                  omega
                have HVN : Hid (val 65536 (us.drop j) = val 65536 ((q.set j (G : Int)).drop j) * V + ((R' - V * G : Nat) : Int)) := by
                  show _ = _
                  have h1 := HN.out
                  rw [HRR.out] at h1
                  rw [Int.natCast_sub HLE.out, Int.natCast_mul, Int.mul_comm (V : Int)]
                  exact h1
                have hjd : (j : Int) < ((d + 1 : Nat) : Int) := by omega
                clear hz' hg' hst
                go_wp2
                go_roundg j
                case rel => exact ⟨j, R' - V * G, l12, A12, c12, zs12, _, rfl, by omega, by go_num, rfl, HOO.out, HR12.out, HRN.out, HS.out, HDD.out, HVN.out, (HX8.out.trans HX12.out).setCell (by have := HGQ.out; show w4.heap.size ≤ gq; omega) _⟩
                case measure => omega
end Go.Proofs.Yteoijnaljkagfaa
namespace Go.Proofs.Yteoijnaljkagfaa
open Go.RowKit

theorem divide_any (va vb : Value) (n m L : Nat) (w : World) (ha : Z16 w va n) (hb : Z16 w vb m) (fn : Fit 65536 n L) (hL : L ≤ 400000) (hm : 0 < m) :
    Calls Try.prog 115 #[va, vb] w (RetDR w (n / m) (n % m)) := by
  rcases Nat.lt_or_ge n m with h | h
  · exact rdiv_less va vb n m w ha hb h
  · obtain ⟨B, lb, cb, ys, rfl, hB, hr, h1, h2⟩ := hb
    rcases (show lb = 0 ∨ lb = 1 ∨ 2 ≤ lb by omega) with rfl | rfl | h3
    · exfalso
      have : ys = [] := List.eq_nil_of_length_eq_zero hB.1
      have := (hr.pos (by omega)).2 this
      omega
    · obtain ⟨y, rfl⟩ : ∃ y, ys = [y] := List.length_eq_one_iff.1 hB.1
      exact rdiv_one va B cb y n m L w ha hB hr ⟨h1, h2⟩ fn (by omega) h
    · obtain ⟨p, rfl⟩ : ∃ p, lb = p + 2 := ⟨lb - 2, by omega⟩
      exact rdiv_long va B cb p ys n m L w ha hB hr ⟨h1, h2⟩ fn hL h

set_option maxRecDepth 100000 in
set_option maxHeartbeats 1000000 in
theorem gcd16_any (va vb : Value) (n m L : Nat) (w : World) (ha : Z16 w va n) (hb : Z16 w vb m) (fn : Fit 65536 n L) (fm : Fit 65536 m L) (hL : L ≤ 400000) :
    Calls Try.prog 114 #[va, vb] w (RetN .i64 65536 w (Nat.gcd n m)) := by
  have HA := Lib.hid ha
  have HB := Lib.hid hb
  have HFN := Lib.hid fn
  have HFM := Lib.hid fm
  clear ha hb fn fm
  go_enter Try.func114, Try.ntmps114
  go_wp2
  go_loopg [0, 1] m (fun g s0 s1 wr => ∃ a b : Nat, b = g ∧ Hid (Z16 wr s0 a) ∧ Hid (Z16 wr s1 b) ∧ Hid (Fit 65536 a L) ∧ Hid (Fit 65536 b L) ∧ Hid (Nat.gcd a b = Nat.gcd n m) ∧ Hid (Ext w wr))
  case atStart => exact ⟨n, m, rfl, HA.out, HB.out, HFN.out, HFM.out, rfl, Ext.refl w⟩
  case round =>
    clear HA HB HFN HFM
    obtain ⟨a, b, rfl, HA, HB, HFA, HFB, HG, HX⟩ := hrel
    obtain ⟨B, lb, cb, ys, rfl, hB, hr, hB3⟩ := HB.out
    have hp := hr.pos (by omega)
    rw [← List.length_eq_zero_iff, hB.1] at hp
    rcases Nat.eq_zero_or_pos b with h0 | h0
    · have hl := hp.1 h0
      subst hl h0
      have HGG : Hid (Nat.gcd n m = a) := by have := HG.out; rw [Nat.gcd_zero_right] at this; exact this.symm
      clear hp hB hr hB3
      go_wp2
      go_ret
      exact ⟨_, rfl, by rw [HGG.out]; exact HA.out, HX.out⟩
    · have hl : 0 < lb := by
        rcases Nat.eq_zero_or_pos lb with h | h
        · have := hp.2 h; omega
        · exact h
      have HGG : Hid (Nat.gcd b (a % b) = Nat.gcd n m) := by
        have := HG.out
        show _ = _
        rw [← this, Nat.gcd_comm a b, Nat.gcd_rec b a, Nat.gcd_comm]
      have hlt : a % b < b := Nat.mod_lt _ h0
      have HLT := Lib.hid hlt
      have HPB := Lib.hid h0
      clear hp hB hr hB3 hlt h0
      go_wp2_with fail
      refine (divide_any _ _ a b L _ HA.out HB.out HFA.out hL HPB.out).mono ?_
      rintro e w1 ⟨vq, vr, rfl, hq, hr, hX⟩
      have HR := Lib.hid hr
      have HX1 := Lib.hid (HX.out.trans hX)
      have HB1 := Lib.hid (HB.out.ext hX)
      clear hq hr hX
      go_wp2
      go_roundg (a % b)
      case rel => exact ⟨b, a % b, rfl, HB1.out, HR.out, HFB.out, HFB.out.le (Nat.le_of_lt HLT.out), HGG.out, HX1.out⟩
      case measure => exact HLT.out
end Go.Proofs.Yteoijnaljkagfaa
namespace Go.Proofs.Yteoijnaljkagfaa
open Go.RowKit

/-- The bytes of the decimal text of n. -/
def Dec (n : Nat) (s : List Int) : Prop := (n = 0 ∧ s = [48]) ∨ (n ≠ 0 ∧ ∃ xs, Rep 10 xs n ∧ s = (xs.map (48 + ·)).reverse)
theorem Dec.unique {n : Nat} {s t : List Int} (h : Dec n s) (k : Dec n t) : s = t := by
  rcases h with ⟨h0, rfl⟩ | ⟨h0, xs, hx, rfl⟩ <;> rcases k with ⟨k0, rfl⟩ | ⟨k0, ys, hy, rfl⟩
  · rfl
  · exact absurd h0 k0
  · exact absurd k0 h0
  · rw [Rep.unique (by omega) hx hy]

/-- A slice's words do not lie in the block 'row'. -/
def Sep (v : Value) (row : Option Nat) : Prop := ∀ A n c, v = .slice A n c → 0 < n → ∀ b off, A = some ⟨b, off, none⟩ → row ≠ some b
theorem Sep.nil (v : Value) : Sep v none := fun _ _ _ _ _ _ _ _ h => by cases h
theorem NatV.grown {k : IntKind} {B : Int} {w w' : World} {v : Value} {n : Nat} {row : Option Nat} (h : NatV k B w v n) (hg : w.grownBy w' row) (hs : Sep v row) : NatV k B w' v n := by
  obtain ⟨A, m, c, xs, rfl, ⟨h1, h2, h3⟩, h4⟩ := h
  refine ⟨A, m, c, xs, rfl, ⟨h1, h2, fun hn => ?_⟩, h4⟩
  obtain ⟨b, off, hA, hc⟩ := h3 hn
  have hm : 0 < m := by
    rw [← h1]; rcases xs with _ | ⟨x, xs⟩
    · simp at hn
    · simp
  refine ⟨b, off, hA, fun j v hv => ?_⟩
  have hcell := hc j v hv
  rw [← hcell]
  exact World.cell?_of_block (w := w) (hg.block b (World.block_lt_of_cell? w _ hcell) (fun e => hs A m c rfl hm b off hA e.symm))
theorem Sep.new {k : IntKind} {B : Int} {w : World} {v : Value} {n : Nat} (h : NatV k B w v n) {s : Nat} (hs : w.heap.size ≤ s) : Sep v (some s) := by
  obtain ⟨A, m, c, xs, rfl, ⟨h1, h2, h3⟩, h4⟩ := h
  intro A' n' c' e hn b off hA hb
  injection e with e1 e2 e3
  subst e1 e2 e3
  rcases xs with _ | ⟨x, xs⟩
  · simp at h1; omega
  · obtain ⟨b', off', hA', hc⟩ := h3 (by simp)
    rw [hA] at hA'
    injection hA' with hA'
    injection hA' with hb' _ _
    subst hb'
    have := World.block_lt_of_cell? w _ (hc 0 _ rfl)
    injection hb with hb
    simp only at this
    omega
theorem Sep.fresh {w : World} {base : Nat} {e : TypeId} {size m c l : Nat} {v : Value} {vs : List Value} (h : w.ownsRow base e size v l vs) : Sep (.slice (some ⟨w.heap.size, 0, none⟩) m c) v.ownBlock := by
  intro A' n' c' e' hn b off hA hb
  injection e' with e1 e2 e3
  subst e1
  injection hA with hA
  injection hA with hA
  subst hA
  rcases h.2 with ⟨rfl, _⟩ | ⟨g, cap, cur, rfl, hg, hb', _⟩
  · cases hb
  · have : g = w.heap.size := by simpa [Value.ownBlock] using hb
    subst this
    have := Array.getElem?_eq_some_iff.1 hb'
    obtain ⟨h1, _⟩ := this
    omega

/-- What word returns, with the block of the quotient. -/
def RetWS (w : World) (q : Nat) (r : Int) (e : Ending) (w' : World) : Prop := ∃ m c, e = .returned (.tuple #[.slice (some ⟨w.heap.size, 0, none⟩) m c, .int .u32 r]) ∧ W32 w' (.slice (some ⟨w.heap.size, 0, none⟩) m c) q ∧ Ext w w'

set_option maxHeartbeats 1000000 in
theorem word_sep (va : Value) (n La : Nat) (d : Int) (w : World) (ha : W32 w va n) (hn : Fit 4294967296 n La) (hL : La ≤ 1099511627776) (hd0 : 0 < d) (hd1 : d ≤ 4294967295) :
    Calls Try.prog 135 #[va, .int .u32 d] w (RetWS w (n / d.toNat) ((n : Int) % d)) := by
  obtain ⟨A, la, ca, xs, rfl, hA, hrx, hca, hcam⟩ := ha
  have hla := hn.len (by omega) hrx
  rw [hA.1] at hla
  have HA := Lib.hid hA
  have HN := Lib.hid hrx
  have HLA : Hid (xs.length = la) := hA.1
  clear hA hrx hn
  go_enter Try.func135, Try.ntmps135
  go_wp2_with (at_make; refine wpList_mk _ elW rfl rfl _ _ rfl w.heap.size _ _ _ _ la la rfl rfl (by omega) (by omega) (Nat.le_refl _) (by omega) (by unfold maxLen; omega) (Nat.le_refl _) ?_; intro w1 hown1 hext1 hsz1)
  have HO1 := Lib.hid (OwnS.made hown1)
  have HX1 := Lib.hid hext1
  clear hown1 hext1 hsz1
  go_loopg [7, 8] (la + 1) (fun g rs i wr => ∃ (k : Nat) (r : Int) (out : List Int), g = k + 1 ∧ k ≤ la ∧ i = .int .i64 ((k : Int) - 1) ∧ rs = .int .u64 r ∧ 0 ≤ r ∧ r < d ∧ OwnS .u32 79 w.heap.size wr (some ⟨w.heap.size, 0, none⟩) la la out ∧ Hid (val 4294967296 (xs.drop k) = d * val 4294967296 (out.drop k) + r) ∧ Ext w wr)
  case atStart => exact ⟨la, 0, _, rfl, Nat.le_refl _, rfl, rfl, by omega, hd0, HO1.out, by
    rw [List.drop_eq_nil_of_le (by rw [HLA.out]; exact Nat.le_refl _), List.drop_eq_nil_of_le (by simp)]; simp [Hid, val], HX1.out⟩
  case round =>
    obtain ⟨k, r, out, rfl, hk, rfl, rfl, hr0, hr1, hO, hI, hX⟩ := hrel
    have HX := Lib.hid hX
    have HO := Lib.hid hO
    clear hX hO
    rcases Nat.eq_zero_or_pos k with h0 | h0
    · subst h0
      rw [show (((0 : Nat) : Int) - 1) = -1 by omega]
      have hv := hI.out
      rw [List.drop_zero, List.drop_zero, HN.out.2.2] at hv
      have hvn := val_nonneg (B := 4294967296) (by omega) (dg32 HO.out.ints)
      obtain ⟨q, hq⟩ := Int.eq_ofNat_of_zero_le hvn
      have e1 : (n : Int) / d = q := by rw [hv, hq, Int.add_comm, Int.add_mul_ediv_left _ _ (by omega), Int.ediv_eq_zero_of_lt hr0 hr1]; omega
      have e2 : (n : Int) % d = r := by rw [hv, Int.add_comm, Int.add_mul_emod_self_left]; exact Int.emod_eq_of_lt hr0 hr1
      have e3 : n / d.toNat = q := by
        have h1 : ((n / d.toNat : Nat) : Int) = (n : Int) / (d.toNat : Int) := Int.natCast_ediv ..
        rw [Int.toNat_of_nonneg (by omega), e1] at h1; omega
      have E2 := Lib.hid e2
      have E3 := Lib.hid e3
      have HV := Lib.hid hq
      clear hv hvn hq e1 e2 e3
      have hrw : IntKind.u32.wrap r = r := IntWalk.u32_in _ (by omega)
      go_wp2_with fail
      refine (norm_any _ _ _ _ _ HO.out.ints (by omega) (by omega)).mono ?_
      rintro e w' ⟨m, hm, hN, hv, rfl, rfl⟩
      have HW := Lib.hid (RetNorm.natv (N := q) (c := la) HO.out.ints hm hN hv HV.out (by omega) (by omega))
      clear hm hN hv
      go_wp2
      go_ret2
      exact ⟨_, _, by rw [E2.out]; rfl, by rw [E3.out]; exact HW.out, HX.out⟩
    · obtain ⟨i, rfl⟩ : ∃ i, k = i + 1 := ⟨k - 1, by omega⟩
      obtain ⟨b1, o1, x, hAe, hx, hwf, hcx⟩ := (HA.out.ext HX.out).get (j := i) (by omega)
      subst hAe
      obtain ⟨hx0, hx1⟩ := u32_bounds hwf
      obtain ⟨g, z, hg, hz, _, hcz, hfz, _, hst⟩ := HO.out.store (j := i) (by omega)
      obtain rfl : w.heap.size = g := by injection hg with hg; injection hg
      have hi1 : (((i + 1 : Nat) : Int) - 1) = (i : Int) := by omega
      have hi2 : (i : Int) < (la : Int) := by omega
      have hi0 : (0 : Int) ≤ (i : Int) := by omega
      rw [hi1]
      have hor : bits .or .u64 (r * 4294967296) x = r * 4294967296 + x := or64_add 32 (by omega) (by omega) (by omega) (by omega)
      obtain ⟨hq1, hq0⟩ := word_digit ⟨hr0, hr1⟩ ⟨hx0, hx1⟩
      have HI := Lib.hid (word_step (d := d) (r := r) (t := r * 4294967296 + x) hI.out (by rw [HO.out.len]; omega) hx rfl)
      obtain ⟨t, ht⟩ : ∃ t, r * 4294967296 + x = t := ⟨_, rfl⟩
      have ht0 : 0 ≤ t := by omega
      have ht1 : t ≤ 18446744073709551615 := by omega
      rw [ht] at hor hq1 hq0 HI
      have HS := Lib.hid (hst.out (t / d) (wf32 (by omega)))
      have hm0 := Int.emod_nonneg t (show d ≠ 0 by omega)
      have hm1 := Int.emod_lt_of_pos t hd0
      clear hx hwf hz hg hi1 hst ht
      go_wp2
      go_roundg (i + 1)
      case rel => exact ⟨i, t % d, _, rfl, by omega, by go_num, rfl, hm0, hm1, HS.out, HI.out, HX.out.setCell (Nat.le_refl _) _⟩
      case measure => omega

/-- One decimal digit more. -/
theorem dec_step {es : List Int} {r N : Int} {m j : Nat} (hd : Dg 10 es) (hr : 0 ≤ r) (hr1 : r < 10 ^ (j + 1)) (h : val 10 es + 10 ^ es.length * (r + 10 ^ (j + 1) * (m : Int)) = N) :
    Dg 10 (es ++ [r % 10]) ∧ 0 ≤ r / 10 ∧ r / 10 < 10 ^ j ∧ val 10 (es ++ [r % 10]) + 10 ^ (es ++ [r % 10]).length * (r / 10 + 10 ^ j * (m : Int)) = N := by
  refine ⟨hd.append (Dg.one (by omega)), by omega, ?_, ?_⟩
  · rw [Int.pow_succ] at hr1; omega
  · rw [val_snoc, List.length_append, List.length_singleton, Int.pow_succ, ← h]
    have e : r = r % 10 + 10 * (r / 10) := by omega
    generalize hq : r / 10 = q at *
    generalize r % 10 = s at *
    subst e
    rw [Int.pow_succ]
    grind
theorem dec_len {es : List Int} {n m L : Nat} (hn : Fit 4294967296 n L) (hd : Dg 10 es) (h : val 10 es + 10 ^ es.length * (m : Int) = n) (hm : 0 < m) : es.length < 32 * L + 1 := by
  have h0 := val_nonneg (B := 10) (by omega) hd
  have h1 : (10 : Int) ^ es.length ≤ n := by
    have : (10 : Int) ^ es.length * 1 ≤ 10 ^ es.length * (m : Int) := Int.mul_le_mul_of_nonneg_left (by omega) (Int.le_of_lt (Int.pow_pos (by omega)))
    omega
  have h2 : (2 : Int) ^ es.length ≤ 10 ^ es.length := by
    have : (2 : Nat) ^ es.length ≤ 10 ^ es.length := Nat.pow_le_pow_left (by omega) _
    exact_mod_cast this
  have h3 : (4294967296 : Int) ^ L = 2 ^ (32 * L) := by rw [Int.pow_mul]; rfl
  unfold Fit at hn
  rw [h3] at hn
  rcases Nat.lt_or_ge es.length (32 * L + 1) with h4 | h4
  · exact h4
  · have := pow_le (B := 2) (a := 32 * L) (b := es.length) (by omega) (by omega)
    omega
/-- The reversal half done. -/
def RevAt (xs ys : List Int) (i : Nat) : Prop := ys.length = xs.length ∧ ∀ k, k < xs.length → ys[k]? = if k < i ∨ xs.length - 1 - i < k then xs[xs.length - 1 - k]? else xs[k]?
theorem RevAt.zero (xs : List Int) : RevAt xs xs 0 := ⟨rfl, fun k hk => by rw [if_neg (by omega)]⟩
theorem RevAt.done {xs ys : List Int} {i : Nat} (h : RevAt xs ys i) (hi : xs.length ≤ i + (i + 1)) : ys = xs.reverse := by
  apply List.ext_getElem?
  intro k
  rcases Nat.lt_or_ge k xs.length with hk | hk
  · rw [h.2 k hk, List.getElem?_reverse hk]
    split
    · rfl
    · have : k = xs.length - 1 - k := by omega
      rw [← this]
  · rw [List.getElem?_eq_none (by rw [h.1]; exact hk), List.getElem?_eq_none (by simpa using hk)]
theorem RevAt.step {xs ys : List Int} {i j : Nat} {x y : Int} (h : RevAt xs ys i) (hij : i + j + 1 = xs.length) (hlt : i < j) (hx : ys[i]? = some x) (hy : ys[j]? = some y) : RevAt xs ((ys.set i y).set j x) (i + 1) := by
  refine ⟨by simpa using h.1, fun k hk => ?_⟩
  have hl := h.1
  rw [h.2 i (by omega), if_neg (by omega)] at hx
  rw [h.2 j (by omega), if_neg (by omega)] at hy
  rw [List.getElem?_set, List.getElem?_set]
  by_cases h1 : j = k
  · subst h1
    rw [if_pos rfl, if_pos (by simp; omega), if_pos (by omega), show xs.length - 1 - j = i by omega, hx]
  · rw [if_neg h1]
    by_cases h2 : i = k
    · subst h2
      rw [if_pos rfl, if_pos (by omega), if_pos (by omega), show xs.length - 1 - i = j by omega, hy]
    · rw [if_neg h2, h.2 k hk]
      by_cases h3 : k < i ∨ xs.length - 1 - i < k
      · rw [if_pos h3, if_pos (by omega)]
      · rw [if_neg h3, if_neg (by omega)]
end Go.Proofs.Yteoijnaljkagfaa
