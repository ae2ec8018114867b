/- Lemmas of the proof that follows (Solves, part 3): walks of functions by contract, and plain lemmas. Conditions: none. -/
import Derived.Test.YtikhlcgnlbinfaaSolvesB
set_option maxRecDepth 100000
set_option maxHeartbeats 4000000
namespace Go.Proofs.Ytikhlcgnlbinfaa
open Lib (hid)
theorem mL {s : Nat} (_hs : s <= 31) : ∃ q : Int, (4294967296 : Int) = 2 ^ s * q /\ 0 < q := ⟨2 ^ (32 - s), by rw [<- Int.pow_add, show s + (32 - s) = 32 by omega]; decide, Int.pow_pos (by omega)⟩
/-- The divisor, shifted so that its first bit is 1, has as many digits as before. -/
theorem pf {ys vs : List Int} {m lb s : Nat} {x : Int} (hy : Rep 4294967296 ys m) (_hl : ys.length = lb + 1) (hx : ys[lb]? = some x) (hs : s <= 31) (h1 : 2147483648 <= x * 2 ^ s) (_h2 : x * 2 ^ s < 4294967296) (hv : Rep 4294967296 vs (m * 2 ^ s)) :
  vs.length = lb + 1 /\ ∃ vt, vs[lb]? = some vt /\ 2147483648 <= vt := by
 obtain ⟨q, hq, hq0⟩ := mL hs;have hp : (0 : Int) < 2 ^ s := Int.pow_pos (by omega);have hP := aH (B := 4294967296) (by omega) lb;have e1 := ax (B := 4294967296) hx;rw [aq (by omega), hy.2.2] at e1;have l0 := az (B := 4294967296) (by omega) (hy.1.take lb);have l1 := bH (B := 4294967296) (by omega) (hy.1.take lb);rw [List.length_take, Nat.min_eq_left (by omega)] at l1;generalize val 4294967296 (ys.take lb) = lo at *
 have hxq : x + 1 <= q := by
  rcases Int.lt_or_le x q with h | h
  .
   omega
  .
   have := Int.mul_le_mul_of_nonneg_right h (Int.le_of_lt hp);rw [Int.mul_comm q] at this; omega
 obtain ⟨M, hM⟩ : ∃ M : Int, ((m * 2 ^ s : Nat) : Int) = M := ⟨_, rfl⟩;have hM' : M = (lo + 4294967296 ^ lb * x) * 2 ^ s := by rw [<- hM, Int.natCast_mul, e1]; simp
 have low : 4294967296 ^ lb * 2147483648 <= M := by
  have a1 : 4294967296 ^ lb * 2147483648 <= 4294967296 ^ lb * (x * 2 ^ s) := Int.mul_le_mul_of_nonneg_left h1 (Int.le_of_lt hP);have a2 : 0 <= lo * 2 ^ s := Int.mul_nonneg l0 (Int.le_of_lt hp);have a3 : M = lo * 2 ^ s + 4294967296 ^ lb * (x * 2 ^ s) := by rw [hM']; grind
  omega
 have high : M < 4294967296 ^ (lb + 1) := by
  have a1 : lo * 2 ^ s < 4294967296 ^ lb * 2 ^ s := Int.mul_lt_mul_of_pos_right l1 hp;have a2 : (4294967296 ^ lb * 2 ^ s) * (x + 1) <= (4294967296 ^ lb * 2 ^ s) * q := Int.mul_le_mul_of_nonneg_left hxq (Int.mul_nonneg (Int.le_of_lt hP) (Int.le_of_lt hp));have a3 : M = lo * 2 ^ s + (4294967296 ^ lb * 2 ^ s) * x := by rw [hM']; grind
  have a4 : (4294967296 : Int) ^ (lb + 1) = (4294967296 ^ lb * 2 ^ s) * q := by rw [Int.pow_succ]; grind
  have a5 : (4294967296 ^ lb * 2 ^ s) * (x + 1) = (4294967296 ^ lb * 2 ^ s) * x + 4294967296 ^ lb * 2 ^ s := by grind
  omega
 have hle : vs.length <= lb + 1 := hv.len_le (by omega) (by rw [hM]; exact high)
 have hge : lb < vs.length := by
  rcases Nat.lt_or_ge lb vs.length with h | h
  .
   exact h
  .
   have g := hv.lt (by omega);rw [hM] at g;have := df (B := 4294967296) (by omega) h;omega
 refine ⟨by omega, vs[lb], List.getElem?_eq_getElem hge, ?_⟩;have f1 := ax (B := 4294967296) (List.getElem?_eq_getElem hge);rw [aq (by omega), hv.2.2, hM] at f1;have g1 := bH (B := 4294967296) (by omega) (hv.1.take lb);rw [List.length_take, Nat.min_eq_left (by omega)] at g1;generalize vs[lb] = vt at *
 rcases Int.lt_or_le vt 2147483648 with h | h
 .
  exfalso;have a1 : 4294967296 ^ lb * (vt + 1) <= 4294967296 ^ lb * 2147483648 := Int.mul_le_mul_of_nonneg_left (by omega) (Int.le_of_lt hP);have a2 : 4294967296 ^ lb * (vt + 1) = 4294967296 ^ lb * vt + 4294967296 ^ lb := by grind
  omega
 .
  exact h
/-- The state of the loop. -/
def DivI (N V : Int) (j : Nat) (zs qs : List Int) : Prop := N = val 4294967296 zs + V * 4294967296 ^ j * val 4294967296 (qs.drop j) /\ val 4294967296 (zs.drop j) < V
theorem j5 {zs : List Int} {i lb : Nat} {V : Int} (hd : Dg 4294967296 zs) (_hi : i + lb + 1 <= zs.length) (_h : val 4294967296 (zs.drop (i + 1)) < V) (_hV : V < 4294967296 ^ lb) :
  val 4294967296 ((zs.drop i).take (lb + 1)) = val 4294967296 (zs.drop i) /\ val 4294967296 (zs.drop i) < 4294967296 * V := by
 have hz : zs[i]? = some zs[i] := List.getElem?_eq_getElem (by omega);have hzd := hd.get hz;have e := aT (B := 4294967296) hz
 have hlt : val 4294967296 (zs.drop i) < 4294967296 * V := by
  have : 4294967296 * (val 4294967296 (zs.drop (i + 1)) + 1) <= 4294967296 * V := Int.mul_le_mul_of_nonneg_left (by omega) (by omega);rw [e]; omega
 refine ⟨?_, hlt⟩;have s := bm (B := 4294967296) (zs.drop i) (k := lb + 1) (by rw [List.length_drop]; omega);have h0 := az (B := 4294967296) (by omega) ((hd.drop i).take (lb + 1));have h1 := az (B := 4294967296) (by omega) ((hd.drop i).drop (lb + 1));have hP := aH (B := 4294967296) (by omega) (lb + 1)
 rcases Int.lt_or_le 0 (val 4294967296 ((zs.drop i).drop (lb + 1))) with hp | hp
 .
  exfalso;have a1 : 4294967296 ^ (lb + 1) * 1 <= 4294967296 ^ (lb + 1) * val 4294967296 ((zs.drop i).drop (lb + 1)) := Int.mul_le_mul_of_nonneg_left (by omega) (Int.le_of_lt hP);have a2 : (4294967296 : Int) ^ (lb + 1) = 4294967296 ^ lb * 4294967296 := Int.pow_succ ..;have a3 : 4294967296 * (V + 1) <= 4294967296 * 4294967296 ^ lb := Int.mul_le_mul_of_nonneg_left (by omega) (by omega);have a4 : (4294967296 : Int) * 4294967296 ^ lb = 4294967296 ^ lb * 4294967296 := Int.mul_comm _ _;omega
 .
  have : val 4294967296 ((zs.drop i).drop (lb + 1)) = 0 := by omega
  rw [this, Int.mul_zero] at s;omega
theorem DivI.step {N V q : Int} {i lb : Nat} {zs qs zs' : List Int} (h : DivI N V (i + 1) zs qs) (hd : Dg 4294967296 zs) (hi : i + lb + 1 <= zs.length) (hV : V < 4294967296 ^ lb) (_hl : zs'.length = zs.length) (hq : i < qs.length)
  (h1 : val 4294967296 (zs'.drop i) = val 4294967296 (zs.drop i) - q * V) (h2 : zs'.take i = zs.take i) (_h3 : val 4294967296 ((zs'.drop i).take (lb + 1)) = val 4294967296 ((zs.drop i).take (lb + 1)) - q * V) (_h4 : val 4294967296 ((zs'.drop i).take (lb + 1)) < V) :
  DivI N V i zs' (qs.set i q) := by
 obtain ⟨a1, a2⟩ := h;have hw := j5 hd hi a2 hV;refine ⟨?_, by rw [h1]; omega⟩;have e1 := bm (B := 4294967296) zs' (k := i) (by omega);have e2 := bm (B := 4294967296) zs (k := i) (by omega);have e3 : (qs.set i q)[i]? = some q := by simp [hq]
 have e4 : (qs.set i q).drop (i + 1) = qs.drop (i + 1) := by rw [List.drop_set_of_lt (by omega)]
 rw [aT e3, e4, e1, h2, h1];rw [e2, Int.pow_succ] at a1;rw [a1];grind
theorem DivI.start {N V : Int} {j : Nat} {zs qs : List Int} (hz : val 4294967296 zs = N) (hq : qs.length <= j) (h : val 4294967296 (zs.drop j) < V) : DivI N V j zs qs :=
 ⟨by rw [hz, List.drop_eq_nil_of_le hq]; simp [val], h⟩
theorem DivI.fin {n m s : Nat} {zs qs : List Int} (hm : 0 < m) (h : DivI ((n * 2 ^ s : Nat) : Int) ((m * 2 ^ s : Nat) : Int) 0 zs qs) (hz : Dg 4294967296 zs) (hq : Dg 4294967296 qs) :
  val 4294967296 qs = ((n / m : Nat) : Int) /\ val 4294967296 zs = ((n % m * 2 ^ s : Nat) : Int) := by
 obtain ⟨a1, a2⟩ := h;simp only [List.drop_zero, Int.pow_zero, Int.mul_one] at a1 a2;have z0 := az (B := 4294967296) (by omega) hz;have q0 := az (B := 4294967296) (by omega) hq;obtain ⟨Z, hZ⟩ := Int.eq_ofNat_of_zero_le z0;obtain ⟨Q, hQ⟩ := Int.eq_ofNat_of_zero_le q0;rw [hZ] at a1 a2 |-;rw [hQ] at a1 |-;have b1 : n * 2 ^ s = Z + (m * 2 ^ s) * Q := by exact_mod_cast a1
 have b2 : Z < m * 2 ^ s := by exact_mod_cast a2
 have hp : 0 < 2 ^ s := Nat.pow_pos (by omega)
 have c1 : n * 2 ^ s / (m * 2 ^ s) = Q := by
  rw [b1, Nat.add_mul_div_left _ _ (Nat.mul_pos hm hp), Nat.div_eq_of_lt b2]; omega
 have c2 : n * 2 ^ s % (m * 2 ^ s) = Z := by
  rw [b1, Nat.add_mul_mod_self_left, Nat.mod_eq_of_lt b2]
 rw [Nat.mul_div_mul_right _ _ hp] at c1;rw [Nat.mul_mod_mul_right] at c2;rw [<- c1, <- c2];exact ⟨rfl, rfl⟩
end Go.Proofs.Ytikhlcgnlbinfaa
namespace Go.Proofs.Ytikhlcgnlbinfaa
open Lib (hid)
open Go.RowKit
/-- What div leaves: the quotient and the rest. -/
def pg (w : World) (q r : Nat) (e : Ending) (w' : World) : Prop := ∃ v1 v2, e = .returned (.tuple #[v1, v2]) /\ W32 w' v1 q /\ W32 w' v2 r /\ Ext w w'
theorem mM (va vb : Value) (n m : Nat) (w : World) (ha : W32 w va n) (hb : W32 w vb m) (hlt : n < m) :
  Calls Try.prog 186 #[va, vb] w (pg w (n / m) (n % m)) := by
 have hc := dR va vb n m w ha hb;rw [cn hlt] at hc;have HC := hid hc;have HA := hid ha;have E1 : Hid (n / m = 0) := Nat.div_eq_of_lt hlt;have E2 : Hid (n % m = n) := Nat.mod_eq_of_lt hlt;clear hc ha hb hlt;go_enter Try.func186, Try.ntmps186
 go_wp2_with fail
 refine HC.out.mono ?_;rintro e w1 ⟨rfl, hX⟩;have HX := hid hX;clear hX;go_wp2
 go_ret2
 exact ⟨_, _, rfl, by rw [E1.out]; exact NatV.zero, by rw [E2.out]; exact HA.out.ext HX.out, HX.out⟩
theorem eu {B : Int} (hB : 1 < B) {xs : List Int} {m : Nat} (h : Rep B xs m) (hl : xs.length = 1) : ∃ x, xs = [x] /\ x = (m : Int) /\ 0 < x /\ x < B := by
 match xs, hl with
 | [x], _ =>
  have h1 := h.single hB;have h2 := h.1 x (List.mem_singleton.2 rfl);exact ⟨x, rfl, h1.1, by omega, h2.2⟩
theorem div_one (va : Value) (B : Option Addr) (cb : Nat) (ys : List Int) (n m La : Nat) (w : World) (ha : W32 w va n) (hB : Ints .u32 w B 1 ys) (hry : Rep 4294967296 ys m) (hcb : 1 <= cb) (hcbm : cb <= 9223372036854775807) (_hle : m <= n) (hn : Fit 4294967296 n La) (hL : La <= 1099511627776) :
  Calls Try.prog 186 #[va, .slice B 1 cb] w (pg w (n / m) (n % m)) := by
 obtain ⟨x, rfl, hxm, hx0, hx1⟩ := eu (by omega) hry hB.1;have hb : W32 w (.slice B 1 cb) m := ⟨B, 1, cb, [x], rfl, hB, hry, hcb, hcbm⟩;have hc := dR va _ n m w ha hb;have hge : 0 <= bL n m := by unfold bL; rw [if_neg (by omega)]; split <;> omega
 obtain ⟨cr, hcr⟩ : ∃ cr, bL n m = cr := ⟨_, rfl⟩;rw [hcr] at hc hge;obtain ⟨b2, o2, y, rfl, hy, _, hcy⟩ := hB.get (j := 0) (by omega);obtain rfl : x = y := by simpa using hy
 rw [Nat.add_zero] at hcy;have HC := hid hc;have HA := hid ha;have HCY := hid hcy;have hdm : x.toNat = m := by omega
 have E2 : Hid ((n : Int) % x = ((n % m : Nat) : Int)) := by show _ = _; rw [hxm]; simp
 have hn2 : (n : Int) % x < x := Int.emod_lt_of_pos _ hx0;have hn3 : 0 <= (n : Int) % x := Int.emod_nonneg _ (by omega);have HDM := hid hdm;clear hc ha hb hy hB hry hcr hcy hdm hxm;go_enter Try.func186, Try.ntmps186
 go_wp2_with fail
 refine HC.out.mono ?_;rintro e w1 ⟨rfl, hX⟩;have hcy := hX.cell HCY.out;have HX := hid hX;clear hX
 go_wp2_with fail
 refine (mF va n La x _ (HA.out.ext HX.out) hn hL hx0 (by omega)).mono ?_;rintro e w2 ⟨v1, rfl, hv1, hX2⟩;rw [HDM.out] at hv1;have HV1 := hid hv1;have HX2 := hid (HX.out.trans hX2);clear hv1 hX2 hcy;obtain ⟨r, hr⟩ : ∃ r, (n : Int) % x = r := ⟨_, rfl⟩;rw [hr] at E2 hn2 hn3 |-;clear hr;have HE2 := hid E2.out;clear E2
 go_wp2_with fail
 refine (es r _ hn3 (by omega)).mono ?_;rintro e w3 ⟨v2, rfl, hv2, hX3⟩;have e3 : r.toNat = n % m := by have := HE2.out; omega
 rw [e3] at hv2;have HV2 := hid hv2;have HX3 := hid hX3;clear hv2 hX3 e3;go_wp2
 go_ret2
 exact ⟨_, _, rfl, HV1.out.ext HX3.out, HV2.out, HX2.out.trans HX3.out⟩
/-- 'x[l:h]' of a slice whose address is known, elements of one cell. -/
theorem gA {P : Program} (w : World) {t e : TypeId} {bytes : Nat} {z : Value} (E : Elem P t e 1 bytes z) {ops : Array Oper} {rest : List Oper} {o : Oper} {a : Act} {Q : Exit -> Act -> World -> Prop}
  (hgd : o.guard = none) (x lo hi' : Operand) (ho : o.op = .slice t x (some lo) (some hi') none) (g off n c : Nat) (hx : a.eval x = .slice (some ⟨g, off, none⟩) n c) (kl kh : IntKind) (L Hv : Int) (l k : Nat) (hl : a.eval lo = .int kl L) (hh : a.eval hi' = .int kh Hv) (hL : L = l) (m : Nat) (hH : Hv = (m : Int)) (_hm : m = l + k) (_hk : 0 < k) (hc : m <= c)
  (h : wpList P ops Q rest (a.put o.dst (.slice (some ⟨g, off + l, none⟩) k (c - l))) w) :
  wpList P ops Q (o :: rest) a w :=
 wpList_plain hgd fun K hK => by
  subst hL hH;obtain ⟨i, hi, hz, hs, hby⟩ := E.info;have h1 : l <= m := by omega
  have h2 : ¬ c = l := by omega
  have h3 : m - l = k := by omega
  have hrun : (Instr.sliceAt t (.slice (some ⟨g, off, none⟩) n c) (some (.int kl l)) (some (.int kh m)) none).run P w = .ok (.slice (some ⟨g, off + l, none⟩) k (c - l)) w := by
   simp [Instr.sliceAt, Instr.slice, run_underlying E.und, Instr.sliceBounds, run_sliceBound, sizeOf, typeInfo, hi, hs, h1, hc, h2, h3, Addr.add_lit]
  unfold Oper.wp;simp [execOp, ho, hx, hl, hh, hrun, Result.andThen];exact hK _ _ h
theorem OwnS.at {k : IntKind} {e : TypeId} {base : Nat} {w : World} {A : Option Addr} {n c : Nat} {xs : List Int} (h : OwnS k e base w A n c xs) (hn : 0 < n) : ∃ g, A = some ⟨g, 0, none⟩ /\ base <= g /\ g < w.heap.size := by
 obtain ⟨g, x, hA, _, _, hc, _, hg, _⟩ := h.store hn;exact ⟨g, hA, hg, World.block_lt_of_cell? w _ hc⟩
theorem mN (A B : Option Addr) (la ca cb p : Nat) (xs ys : List Int) (n m La : Nat) (w : World) (hA : Ints .u32 w A la xs) (hrx : Rep 4294967296 xs n) (hca : la <= ca) (hcam : ca <= 9223372036854775807) (hB : Ints .u32 w B (p + 2) ys) (hry : Rep 4294967296 ys m) (hcb : p + 2 <= cb) (hcbm : cb <= 9223372036854775807) (hle : m <= n) (hn : Fit 4294967296 n La) (_hL : La <= 1099511627775) :
  Calls Try.prog 186 #[.slice A la ca, .slice B (p + 2) cb] w (pg w (n / m) (n % m)) := by
 have ha : W32 w (.slice A la ca) n := ⟨A, la, ca, xs, rfl, hA, hrx, hca, hcam⟩;have hb : W32 w (.slice B (p + 2) cb) m := ⟨B, p + 2, cb, ys, rfl, hB, hry, hcb, hcbm⟩;have hc := dR _ _ n m w ha hb;have hge : 0 <= bL n m := by unfold bL; rw [if_neg (by omega)]; split <;> omega
 obtain ⟨cr, hcr⟩ : ∃ cr, bL n m = cr := ⟨_, rfl⟩;rw [hcr] at hc hge;have hla := hn.len (by omega) hrx;rw [hA.1] at hla;have hlb := (hn.le hle).len (by omega) hry;rw [hB.1] at hlb
 have hmpos : 0 < m := by
  rcases Nat.eq_zero_or_pos m with h | h
  .
   have := (hry.pos (by omega)).1 h;have h2 := hB.1;rw [this] at h2; simp at h2
  .
   exact h
 obtain ⟨b2, o2, x, rfl, hx, hwx, hcx⟩ := hB.get (j := p + 1) (by omega);obtain ⟨hx0, hx1⟩ := ah hwx
 have hxp : 0 < x := by
  rcases Int.lt_or_le 0 x with h | h
  .
   exact h
  .
   have hx00 : x = 0 := by omega
   subst hx00;exfalso;refine hry.2.1 ?_;rw [List.getLast?_eq_getElem?, hB.1];exact hx
 obtain ⟨s, hs, hs1, hs2, hcallL⟩ := mK x hxp hx1;have hpl : (p : Int) + 1 < (p : Int) + 2 := by omega
 have hcrb : decide (cr < 0) = false := by simp; omega
 have HC := hid hc;have HA := hid ha;have HB := hid hb;have HRX := hid hrx;have HRY := hid hry;have HCL := hid hcallL;have HXX := hid hx;have HS1 := hid hs1;have HS2 := hid hs2;have HCX := hid hcx;have HLB : Hid (ys.length = p + 1 + 1) := hB.1;have HLA : Hid (xs.length = la) := hA.1;clear hc ha hb hx hA hB hrx hry hcr hcx hwx hcallL hs1 hs2;go_enter Try.func186, Try.ntmps186
 go_wp2_with fail
 refine HC.out.mono ?_;rintro e w1 ⟨rfl, hX⟩;have hcx := hX.cell HCX.out;have HX1 := hid hX;clear hX
 go_wp2_with fail
 refine (HCL.out _).mono ?_;rintro e w' ⟨rfl, rfl⟩
 go_wp2_with fail
 refine (j1 _ m La s _ (HB.out.ext HX1.out) (hn.le hle) (by omega) hs).mono ?_;rintro e w3 ⟨Av, nv, cv, vs, rfl, hOv, hRv, hXv⟩;obtain ⟨hlv, vt, hvt, hvb⟩ := pf HRY.out HLB.out HXX.out hs HS1.out HS2.out hRv;obtain rfl : nv = p + 2 := by rw [<- hOv.len, hlv]
 obtain ⟨gv, rfl, hgv0, hgv1⟩ := hOv.at (by omega);have HOv := hid (hOv.mono HX1.out.size);have HRv := hid hRv;have HX3 := hid (HX1.out.trans hXv);have HVT := hid hvt;have HLV := hid hlv;clear hOv hRv hXv hcx hvt hlv
 go_wp2_with fail
 refine (j1 _ n La s _ (HA.out.ext HX3.out) hn (by omega) hs).mono ?_;rintro e w4 ⟨Au, nu, cu, us, rfl, hOu, hRu, hXu⟩
 have hnu : la <= nu := by
  have h1 : Fit 4294967296 n us.length := (Fit.of_rep (by omega) hRu).le (Nat.le_mul_of_pos_right _ (Nat.pow_pos (by omega)));have h2 := h1.len (by omega) HRX.out;rw [HLA.out, hOu.len] at h2; exact h2
 have hnu2 : nu <= la + 1 := by
  have h1 : Fit 4294967296 (n * 2 ^ s) (la + 1) := by
   have f1 : Fit 4294967296 n la := by have := Fit.of_rep (B := 4294967296) (by omega) HRX.out; rw [HLA.out] at this; exact this
   have f2 : Fit 4294967296 (2 ^ s) 1 := by
    unfold Fit;have : 2 ^ s <= 2 ^ 31 := Nat.pow_le_pow_right (by omega) hs;omega
   exact f1.mul (by omega) f2
  have h2 := h1.len (by omega) hRu;rw [hOu.len] at h2; exact h2
 have hlap : p + 2 <= la := by
  have h1 := Fit.len (by omega) ((Fit.of_rep (by omega) HRX.out).le hle) HRY.out;rw [HLA.out, HLB.out] at h1; exact h1
 obtain ⟨mq, rfl⟩ : ∃ mq, nu = mq + (p + 1) := ⟨nu - (p + 1), by omega⟩;obtain ⟨gu, rfl, hgu0, hgu1⟩ := hOu.at (by omega);have HOu := hid (hOu.mono HX3.out.size);have HRu := hid hRu;have HX4 := hid (HX3.out.trans hXu);have HOv4 := hid (HOv.out.ext hXu);have hown4 := hOu.own;have hsz4 := hXu.size;clear hOu hRu hXu
 go_wp2_with (first | (at_builtin; refine au (o := ⟨some 47, _, _, _, _, _⟩) _ oX rfl _ _ rfl w3.heap.size (.slice (some ⟨gu, 0, none⟩) (mq + (p + 1)) cu) (mq + (p + 1)) _ rfl (hown4.alloc _) _ 1 1 [.int .u32 0] rfl rfl (At.new _ [_] _) (by simp [Value.oneCell']) (by omega) (by unfold maxLen; omega) (by simp; omega) ?_; intro v5 w5 hown5 hgr5 hloc; obtain ⟨A5, c5, hv5⟩ := ar hown5; rw [hv5] at hown5 hloc |-; clear hv5; have hnla : (((mq + (p + 1) + 1 : Nat) : Int) == (la : Int)) = false := (by simp; omega)) | (at_make; refine ap _ oX rfl rfl _ _ rfl w5.heap.size _ _ _ _ mq mq rfl rfl (by omega) (by omega) (Nat.le_refl _) (by omega) (by unfold maxLen; omega) (Nat.le_refl _) ?_; intro w6 hown6 hext6 hsz6))
 have hXa : Ext w4 (w4.alloc (.cells #[.int .u32 0] 129)) := (Ext.refl w4).alloc _
 have hO5 : OwnS .u32 129 w3.heap.size w5 A5 (mq + (p + 1) + 1) c5 (us ++ [0]) := by
  refine ⟨by simpa using hown5, by rw [List.length_append, HOu.out.len]; rfl, fun y hy => ?_⟩
  rcases List.mem_append.1 hy with hy | hy
  .
   exact HOu.out.wf y hy
  .
   simp at hy; subst hy; exact b8 (by omega)
 obtain ⟨g5, rfl, hg50, hg51⟩ := hO5.at (by omega);have hne5 : g5 ≠ gv := by omega
 have hOv5 : OwnS .u32 129 w.heap.size w5 (some ⟨gv, 0, none⟩) (p + 2) cv vs := (HOv4.out.ext hXa).other hgr5 (show gu ≠ gv by omega)
 have hX5 : Ext w w5 := (HX4.out.trans hXa).grown hgr5 fun k hk => by
  simp [Value.ownBlock] at hk; have := HX3.out.size; omega
 have HO6 := hid ((hO5.mono HX3.out.size).ext hext6);have HV6 := hid (hOv5.ext hext6);have HQ6 := hid ((OwnS.made hown6).mono hX5.size);have HX6 := hid (hX5.trans hext6);have hw5 : gv < w5.heap.size := by have := hgr5.size; simp at this; omega
 have hw5' : Hid (w.heap.size <= w5.heap.size) := hX5.size;have hg5w : Hid (w.heap.size <= g5) := by have := HX3.out.size; exact (by omega : w.heap.size <= g5)
 have HVB : Hid (((m * 2 ^ s : Nat) : Int) < 4294967296 ^ (p + 2)) := by have := HRv.out.lt (by omega); rw [HLV.out] at this; exact this
 have HVL : Hid ((4294967296 : Int) ^ (p + 1) <= ((m * 2 ^ s : Nat) : Int)) := by
  have := dG (B := 4294967296) (by omega) HRv.out.1 HRv.out.2.1 (by intro e; have := HLV.out; rw [e] at this; simp at this);rw [HLV.out, HRv.out.2.2] at this; exact this
 obtain ⟨gq, hgq⟩ : ∃ gq, gq = w5.heap.size := ⟨_, rfl⟩;rw [<- hgq] at HQ6 |-;have hne6 : g5 ≠ gq := by omega
 have hne7 : gq ≠ gv := by omega
 have hgqw : Hid (w.heap.size <= gq) := by rw [hgq]; exact hw5'
 clear hown5 hgr5 hloc hown6 hext6 hsz6 hXa hO5 hOv5 hX5 hown4 hgq hnla
 go_loopg [12] (mq + 1) (fun g' i wr => ∃ (j : Nat) (zs qs : List Int), g' = j + 1 /\ j <= mq /\ i = .int .i64 ((j : Int) - 1) /\ OwnS .u32 129 w.heap.size wr (some ⟨g5, 0, none⟩) (mq + (p + 1) + 1) c5 zs /\ OwnS .u32 129 w.heap.size wr (some ⟨gv, 0, none⟩) (p + 2) cv vs /\ OwnS .u32 129 w.heap.size wr (some ⟨gq, 0, none⟩) mq mq qs /\ Hid (DivI ((n * 2 ^ s : Nat) : Int) ((m * 2 ^ s : Nat) : Int) j zs qs) /\ Ext w wr)
 case atStart =>
  refine ⟨mq, _, _, rfl, Nat.le_refl _, rfl, HO6.out, HV6.out, HQ6.out, DivI.start ?_ (by simp) ?_, HX6.out⟩
  .
   rw [dF, dp, HRu.out.2.2]; omega
  .
   have hl := HOu.out.len;rw [List.drop_append_of_le_length (by omega), bY];have := bH (B := 4294967296) (by omega) (HRu.out.1.drop mq);rw [List.length_drop, hl, show mq + (p + 1) - mq = p + 1 by omega] at this;have := HVL.out;omega
 case round =>
  obtain ⟨j, zs, qs, rfl, hj, rfl, hO, hV, hQ, hI, hX⟩ := hrel;have HO := hid hO;have HV := hid hV;have HQ := hid hQ;have HX := hid hX;clear hO hV hQ hX
  rcases Nat.eq_zero_or_pos j with h0 | h0
  .
   subst h0;rw [show (((0 : Nat) : Int) - 1) = -1 by omega];obtain ⟨hq, hz⟩ := DivI.fin hmpos hI.out (cS HO.out.ints) (cS HQ.out.ints);have HQV := hid hq;have HZV := hid hz;have hc5 := HO.out.cap;obtain ⟨hc50, hc51⟩ := hc5;clear hq hz
   go_wp2_with fail
   refine (aI _ _ _ _ _ HQ.out.ints (Nat.le_refl _) (by omega)).mono ?_;rintro e w' ⟨k1, hk1, hN1, hv1, rfl, rfl⟩;have HW1 := hid (RetNorm.natv (N := n / m) (c := mq) HQ.out.ints hk1 hN1 hv1 HQV.out (Nat.le_refl _) (by omega));clear hk1 hN1 hv1
   go_wp2_with fail
   refine (aI _ _ _ _ _ HO.out.ints hc50 hc51).mono ?_;rintro e w' ⟨k2, hk2, hN2, hv2, rfl, rfl⟩;have HW2 := hid (RetNorm.natv (N := n % m * 2 ^ s) (c := c5) HO.out.ints hk2 hN2 hv2 HZV.out hc50 hc51);clear hk2 hN2 hv2
   go_wp2_with fail
   refine (pc _ (n % m * 2 ^ s) (La + 1) s _ HW2.out ?_ (by omega) hs).mono ?_
   .
    have f2 : Fit 4294967296 (2 ^ s) 1 := by
     unfold Fit;have : 2 ^ s <= 2 ^ 31 := Nat.pow_le_pow_right (by omega) hs;omega
    exact (hn.le (Nat.le_trans (Nat.le_of_lt (Nat.mod_lt _ hmpos)) hle)).mul (by omega) f2
   rintro e w7 ⟨v2, rfl, hv2, hX7⟩;rw [Nat.mul_div_cancel _ (Nat.pow_pos (by omega))] at hv2;have HV2 := hid hv2;have HX7 := hid hX7;clear hv2 hX7;go_wp2
   go_ret2
   exact ⟨_, _, rfl, HW1.out.ext HX7.out, HV2.out, HX.out.trans HX7.out⟩
  .
   obtain ⟨i, rfl⟩ : ∃ i, j = i + 1 := ⟨j - 1, by omega⟩;rw [show (((i + 1 : Nat) : Int) - 1) = (i : Int) by omega];have hwin := j5 (lb := p + 2) (cS HO.out.ints) (i := i) (by rw [HO.out.len]; omega) hI.out.2 HVB.out;have hcall := gk w.heap.size g5 i (mq + (p + 1) + 1) c5 (c5 - i) gv p cv zs vs wr HO.out HV.out hne5 (by omega) (by omega) vt HVT.out hvb (by rw [hwin.1, HRv.out.2.2]; exact hwin.2);have HCQ := hid hcall;have hcc := HO.out.cap;obtain ⟨hc50, hc51⟩ := hcc;have hi0 : (0 : Int) <= (i : Int) := by omega
   have hi1 : (i : Int) < (mq : Int) := by omega
   clear hwin hcall
   go_wp2_with (first | (refine gA (o := ⟨some 78, _, _, _, _, _⟩) _ oX rfl _ _ _ rfl g5 0 (mq + (p + 1) + 1) c5 rfl _ _ _ _ i (p + 3) rfl rfl rfl (i + (p + 3)) (by omega) rfl (by omega) (by omega) ?_))
   refine HCQ.out.mono ?_;rintro e w7 ⟨q, zs', rfl, hq0, hq1, hO7, hgr, h1, h2, h3, h4, h5⟩;obtain ⟨z, hz, _, hcz, hfz, _, hst⟩ := (HQ.out.other hgr hne6).store' (j := i) (by omega);obtain ⟨hQ8, hg8⟩ := hst.out q (b8 ⟨hq0, hq1⟩);have HQ8 := hid hQ8;have HO8 := hid (hO7.other hg8 (Ne.symm hne6));have HV8 := hid ((HV.out.other hgr hne5).other hg8 hne7);have HX8 := hid ((HX.out.grown hgr (fun k hk => by injection hk with hk; rw [<- hk]; exact hg5w.out)).grown hg8 (fun k hk => by injection hk with hk; rw [<- hk]; exact hgqw.out));have HI8 := hid (DivI.step (lb := p + 2) hI.out (cS HO.out.ints) (by rw [HO.out.len]; omega) HVB.out (by rw [hO7.len, HO.out.len]) (by rw [HQ.out.len]; omega) (by rw [<- HRv.out.2.2]; exact h1) h2 (by rw [<- HRv.out.2.2]; exact h3) (by rw [<- HRv.out.2.2]; exact h5));clear hz hst hQ8 hg8 hO7 hgr h1 h2 h3 h4 h5;go_wp2;go_roundg (i + 1)
   case rel => exact ⟨i, zs', _, rfl, by omega, by go_num, HO8.out, HV8.out, HQ8.out, HI8.out, HX8.out⟩
   case measure => omega
/-- The quotient and the rest of two numbers. -/
theorem dV (va vb : Value) (n m La : Nat) (w : World) (ha : W32 w va n) (hb : W32 w vb m) (_hm : 0 < m) (hn : Fit 4294967296 n La) (hL : La <= 1099511627775) :
  Calls Try.prog 186 #[va, vb] w (pg w (n / m) (n % m)) := by
 rcases Nat.lt_or_ge n m with hlt | hge
 .
  exact mM va vb n m w ha hb hlt
 .
  obtain ⟨B, lb, cb, ys, rfl, hB, hry, hcb, hcbm⟩ := hb
  have hl0 : 0 < lb := by
   rcases Nat.eq_zero_or_pos lb with h | h
   .
    have h1 := hB.1;rw [h] at h1;have := (hry.pos (by omega)).2 (List.eq_nil_of_length_eq_zero h1);omega
   .
    exact h
  rcases (by omega : lb = 1 \/ 2 <= lb) with h1 | h2
  .
   subst h1;exact div_one va B cb ys n m La w ha hB hry hcb hcbm hge hn (by omega)
  .
   obtain ⟨p, rfl⟩ : ∃ p, lb = p + 2 := ⟨lb - 2, by omega⟩;obtain ⟨A, la, ca, xs, rfl, hA, hrx, hca, hcam⟩ := ha;exact mN A B la ca cb p xs ys n m La w hA hrx hca hcam hB hry hcb hcbm hge hn hL
theorem ph (va vb : Value) (n m La : Nat) (w : World) (ha : W32 w va n) (hb : W32 w vb m) (hn : Fit 4294967296 n La) (hm : Fit 4294967296 m La) (hL : La <= 1099511627775) :
  Calls Try.prog 185 #[va, vb] w (ep .u32 4294967296 w (Nat.gcd n m)) := by
 have HA := hid ha;have HB := hid hb;clear ha hb;go_enter Try.func185, Try.ntmps185;go_wp2
 go_loopg [0, 1] m (fun g va vb wr => ∃ a b : Nat, g = b + 0 /\ W32 wr va a /\ W32 wr vb b /\ Hid (Nat.gcd a b = Nat.gcd n m /\ Fit 4294967296 a La /\ Fit 4294967296 b La) /\ Ext w wr)
 case atStart => exact ⟨n, m, rfl, HA.out, HB.out, ⟨rfl, hn, hm⟩, Ext.refl w⟩
 case round =>
  obtain ⟨a, b, hg, hA, hB, hG, hX⟩ := hrel;have HA1 := hid hA;have HX := hid hX;have HG := hid hg;obtain ⟨B, lb, cb, ys, hvb, hBi, hry, hcb, hcbm⟩ := hB;subst hvb;have HB1 := hid (⟨B, lb, cb, ys, rfl, hBi, hry, hcb, hcbm⟩ : W32 wr (.slice B lb cb) b);have HLB : Hid (ys.length = lb) := hBi.1;have HRY := hid hry;clear hA hX hBi hry hg
  rcases Nat.eq_zero_or_pos b with h0 | h0
  .
   have hl0 : lb = 0 := by
    have := (HRY.out.pos (by omega)).1 h0;have h2 := HLB.out;rw [this] at h2; simpa using h2.symm
   subst hl0;have H0 := hid h0;clear h0;go_wp2;go_ret;refine ⟨_, rfl, ?_, HX.out⟩;have := hG.out.1;rw [H0.out, Nat.gcd_zero_right] at this;rw [<- this];exact HA1.out
  .
   have hl0 : 0 < lb := by
    rcases Nat.eq_zero_or_pos lb with h | h
    .
     have h1 := HLB.out;rw [h] at h1;have := (HRY.out.pos (by omega)).2 (List.eq_nil_of_length_eq_zero h1);omega
    .
     exact h
   go_wp2_with fail
   refine (dV _ _ a b La _ HA1.out HB1.out h0 hG.out.2.1 hL).mono ?_;rintro e w1 ⟨v1, v2, rfl, _, hv2, hX1⟩;have HV2 := hid hv2;have HX1 := hid hX1;clear hv2 hX1;go_wp2;go_roundg (a % b)
   case rel =>
    refine ⟨b, a % b, rfl, W32.ext HB1.out HX1.out, HV2.out, ⟨?_, hG.out.2.2, hG.out.2.2.le (Nat.le_of_lt (Nat.mod_lt _ h0))⟩, HX.out.trans HX1.out⟩;rw [<- hG.out.1, Nat.gcd_comm b, <- Nat.gcd_rec, Nat.gcd_comm]
   case measure => rw [HG.out]; exact Nat.mod_lt _ h0
end Go.Proofs.Ytikhlcgnlbinfaa
namespace Go.Proofs.Ytikhlcgnlbinfaa
open Lib (hid)
/-- A number with a sign. -/
def sgn (s : Bool) (n : Nat) : Int := if s then -(n : Int) else n
theorem j6 (s : Bool) (n : Nat) : (sgn s n).natAbs = n := by cases s <;> simp [sgn]
theorem dW (x : Int) : sgn (decide (x < 0)) x.natAbs = x := by
 by_cases h : x < 0 <;> simp [sgn, h] <;> omega
/-- The sign that a number bears: none if it is 0. -/
def nz (s : Bool) (n : Nat) : Bool := s && decide (n ≠ 0)
theorem j7 (s : Bool) : nz s 0 = false := by simp [nz]
theorem mO (n : Nat) : nz false n = false := rfl
theorem jk (s : Bool) {n : Nat} (h : n ≠ 0) : nz s n = s := by simp [nz, h]
theorem gW (s : Bool) (n : Nat) : decide (sgn s n < 0) = nz s n := by
 unfold nz
 cases s
 .
  simp [sgn]
 .
  by_cases h : n = 0
  .
   simp [sgn, h]
  .
   have : -(n : Int) < 0 := by omega
   simp [sgn, h]; omega
/-- The rational number of a sign, a numerator and a denominator. -/
def aw (s : Bool) (n d : Nat) : Rat := mkRat (sgn s n) d
theorem pi (s : Bool) {n g : Nat} (h : g ∣ n) : sgn s n / (g : Int) = sgn s (n / g) := by
 obtain ⟨k, rfl⟩ := h
 rcases Nat.eq_zero_or_pos g with h0 | h0
 .
  subst h0; cases s <;> simp [sgn]
 .
  rw [Nat.mul_div_cancel_left _ h0]
  cases s
  .
   simp only [sgn]; rw [if_neg (by simp), if_neg (by simp), Int.natCast_mul, Int.mul_ediv_cancel_left _ (by omega)]
  .
   simp only [sgn]; rw [if_pos trivial, if_pos trivial, Int.natCast_mul, <- Int.mul_neg, Int.mul_ediv_cancel_left _ (by omega)]
/-- In lowest terms. -/
theorem cD (s : Bool) (n d : Nat) (_hd : 0 < d) : (aw s n d).num = sgn s (n / Nat.gcd n d) /\ (aw s n d).den = d / Nat.gcd n d := by
 have h : aw s n d = Rat.normalize (sgn s n) d (by omega) := (Rat.normalize_eq_mkRat _).symm;rw [h, Rat.normalize_eq];simp only [j6];exact ⟨pi s (Nat.gcd_dvd_left n d), trivial⟩
theorem bf (s : Bool) (n d : Nat) (hd : 0 < d) : decide ((aw s n d).num < 0) = nz s n /\ (aw s n d).num.natAbs = n / Nat.gcd n d := by
 rw [(cD s n d hd).1, j6, gW];refine ⟨?_, rfl⟩;unfold nz;have hg : 0 < Nat.gcd n d := Nat.gcd_pos_of_pos_right n hd
 congr 1
 have : n / Nat.gcd n d = 0 ↔ n = 0 := by
  constructor
  .
   intro h;have hk := Nat.div_mul_cancel (Nat.gcd_dvd_left n d);rw [h, Nat.zero_mul] at hk;exact hk.symm
  .
   rintro rfl; simp
 simp only [ne_eq, this]
theorem fU (q : Rat) : aw (decide (q.num < 0)) q.num.natAbs q.den = q := by
 unfold aw; rw [dW, Rat.mkRat_self]
theorem ev (s : Bool) (n d : Nat) (_hd : 0 < d) : aw s n d = 0 ↔ n = 0 := by
 unfold aw;rw [Rat.mkRat_eq_zero (by omega)]
 cases s <;> simp [sgn]
section
variable {s t : Bool} {n m d e : Nat}
theorem mP : aw s n d * aw t m e = aw (s != t) (n * m) (d * e) := by
 unfold aw;rw [Rat.mkRat_mul_mkRat]
 congr 1
 cases s <;> cases t <;> simp [sgn, Int.natCast_mul] <;> grind
theorem eX (_hd : 0 < d) (_he : 0 < e) : aw s n d + aw t m e = mkRat (sgn s n * e + sgn t m * d) (d * e) := by
 unfold aw; exact Rat.mkRat_add_mkRat _ _ (by omega) (by omega)
theorem fJ (hd : 0 < d) (he : 0 < e) (h : s = t) : aw s n d + aw t m e = aw s (n * e + m * d) (d * e) := by
 rw [eX hd he, aw];subst h
 congr 1
 cases s <;> simp [sgn, Int.natCast_mul] <;> grind
theorem gX (hd : 0 < d) (he : 0 < e) (h : s ≠ t) (hl : m * d <= n * e) : aw s n d + aw t m e = aw s (n * e - m * d) (d * e) := by
 rw [eX hd he, aw]
 congr 1
 have hc : ((n * e - m * d : Nat) : Int) = (n : Int) * e - m * d := by rw [Int.natCast_sub hl]; simp
 cases s <;> cases t <;> simp [sgn] at h |- <;> rw [hc] <;> grind
theorem gY (hd : 0 < d) (he : 0 < e) (h : s ≠ t) (hl : n * e <= m * d) : aw s n d + aw t m e = aw t (m * d - n * e) (d * e) := by
 rw [eX hd he, aw]
 congr 1
 have hc : ((m * d - n * e : Nat) : Int) = (m : Int) * d - n * e := by rw [Int.natCast_sub hl]; simp
 cases s <;> cases t <;> simp [sgn] at h |- <;> rw [hc] <;> grind
theorem mQ : -aw s n d = aw (nz (!s) n) n d := by
 unfold aw nz;rw [Rat.neg_mkRat]
 congr 1
 cases s
 .
  by_cases h : n = 0 <;> simp [sgn, h]
 .
  simp [sgn]
theorem mR (_hd : 0 < d) (_hm : 0 < m) : aw s n d / aw t m e = aw (s != t) (n * e) (d * m) := by
 have hmz : (m : Rat) ≠ 0 := by intro h; have := (Rat.natCast_inj (a := m) (b := 0)).1 h; omega
 have hdz : (d : Rat) ≠ 0 := by intro h; have := (Rat.natCast_inj (a := d) (b := 0)).1 h; omega
 unfold aw;rw [Rat.mkRat_eq_div, Rat.mkRat_eq_div, Rat.mkRat_eq_div];have c1 : ∀ (b : Bool) (k : Nat), ((sgn b k : Int) : Rat) = if b then -(k : Rat) else (k : Rat) := fun b k => by cases b <;> simp [sgn, Rat.intCast_natCast]
 rw [c1, c1, c1, Rat.natCast_mul, Rat.natCast_mul]
 by_cases hez : (e : Rat) = 0
 .
  rw [hez]; cases s <;> cases t <;> simp [Rat.div_def]
 .
  cases s <;> cases t <;> simp <;> grind
end
theorem mS (x : Int) : aw (decide (x < 0)) x.natAbs 1 = (x : Rat) := by
 unfold aw; rw [dW, Rat.mkRat_eq_div]; simp; grind
/-- How many words a rational number has. -/
def FitQ (q : Rat) (L : Nat) : Prop := Fit 4294967296 q.num.natAbs L /\ Fit 4294967296 q.den L
theorem j8 {s : Bool} {n d L : Nat} (hd : 0 < d) (h1 : Fit 4294967296 n L) (h2 : Fit 4294967296 d L) : FitQ (aw s n d) L := by
 refine ⟨?_, ?_⟩
 .
  rw [(bf s n d hd).2]; exact h1.le (Nat.div_le_self _ _)
 .
  rw [(cD s n d hd).2]; exact h2.le (Nat.div_le_self _ _)
/-- The sign of a number. -/
def cE (q : Rat) : Int := if q.num < 0 then -1 else if q.num = 0 then 0 else 1
theorem lc {s : Bool} {n d : Nat} (hd : 0 < d) (h : n = 0) : cE (aw s n d) = 0 := by
 have : (aw s n d) = 0 := (ev s n d hd).2 h;rw [this]; rfl
theorem mT {n d : Nat} (hd : 0 < d) (_h : 0 < n) : cE (aw true n d) = -1 := by
 have h1 := (bf true n d hd).1;have : (aw true n d).num < 0 := by simpa [nz, show n ≠ 0 by omega] using h1
 simp [cE, this]
theorem mU {n d : Nat} (hd : 0 < d) (_h : 0 < n) : cE (aw false n d) = 1 := by
 have h1 := (bf false n d hd).1;have h2 : ¬ (aw false n d).num < 0 := by simpa [nz] using h1
 have h3 : (aw false n d).num ≠ 0 := fun e => by
  rw [Rat.num_eq_zero, ev _ _ _ hd] at e; omega
 simp [cE, h2, h3]
end Go.Proofs.Ytikhlcgnlbinfaa
namespace Go.Proofs.Ytikhlcgnlbinfaa
open Lib (hid)
open Go.RowKit
/-- A value that is a rational number of the program: a sign, a numerator and a denominator. -/
def NumV (w : World) (v : Value) (s : Bool) (n d : Nat) : Prop := ∃ vn vd, v = .agg #[.bool s, vn, vd] /\ W32 w vn n /\ W32 w vd d
theorem NumV.ext {w w' : World} {v : Value} {s : Bool} {n d : Nat} (h : NumV w v s n d) (he : Ext w w') : NumV w' v s n d := by
 obtain ⟨a, b, h1, h2, h3⟩ := h;exact ⟨a, b, h1, h2.ext he, h3.ext he⟩
theorem W32.open {w : World} {v : Value} {n : Nat} (h : W32 w v n) : ∃ A l c, v = .slice A l c /\ W32 w (.slice A l c) n /\ (l = 0 ↔ n = 0) := by
 obtain ⟨A, l, c, xs, rfl, hI, hr, rest⟩ := h;refine ⟨A, l, c, rfl, ⟨A, l, c, xs, rfl, hI, hr, rest⟩, ?_⟩;rw [hr.pos (by omega), <- hI.1];exact List.length_eq_zero_iff
theorem W32.one (w : World) (t : TypeId) : W32 (w.alloc (.cells #[.int .u32 1] t)) (.slice (some ⟨w.heap.size, 0, none⟩) 1 1) 1 :=
 ⟨_, 1, 1, [1], rfl, ⟨rfl, fun x hx => by simp at hx; subst hx; exact b8 (by omega), At.new w [_] t⟩, Rep.one (by omega), by omega, by omega⟩
theorem W32.one' {w w' : World} (t : TypeId) {N : Nat} (hN : N = w.heap.size) (he : w' = w.alloc (.cells #[.int .u32 1] t)) : W32 w' (.slice (some ⟨N, 0, none⟩) 1 1) 1 := by
 subst hN he; exact W32.one w t
/-- A value that is no integer. -/
def bC (v : Value) : Prop := ∀ k x, v ≠ .int k x
theorem ak (b : Bool) : bC (.bool b) := fun _ _ h => by cases h
theorem ag (A : Option Addr) (l c : Nat) : bC (.slice A l c) := fun _ _ h => by cases h
/-- Storing into a block that holds no integers changes no slice of integers. -/
theorem Ints.past {k : IntKind} {w : World} {A : Option Addr} {n : Nat} {xs : List Int} {g : Nat} (h : Ints k w A n xs) (hg : ∀ i v, w.cell? ⟨g, i, none⟩ = some v -> bC v) (i : Nat) (u : Value) : Ints k (w.setCell ⟨g, i, none⟩ u) A n xs := by
 refine ⟨h.1, h.2.1, fun hne => ?_⟩;obtain ⟨b, off, hA, hc⟩ := h.2.2 hne
 have hb : b ≠ g := by
  intro e;subst e
  have h0 : ∃ v, (xs.map (Value.int k))[0]? = some v := by
   cases hm : xs.map (Value.int k) with
   | nil => exact absurd hm hne
   | cons v vs => exact ⟨v, rfl⟩
  obtain ⟨v, hv⟩ := h0;have h1 := hg _ _ (hc 0 v hv);rw [List.getElem?_map] at hv
  cases hx : xs[0]? with
  | none => rw [hx] at hv; simp at hv
  | some x => rw [hx] at hv; simp at hv; exact h1 k x hv.symm
 refine ⟨b, off, hA, fun j v hv => ?_⟩;have hlt := World.block_lt_of_cell? w _ (hc j v hv);have hh : (w.setCell ⟨g, i, none⟩ u).heap[b]? = w.heap[b]? := Below.heap_setCell w ⟨g, i, none⟩ u b hb;have := hc j v hv;unfold World.cell? at this |-;simp only [hh];exact this
/-- A block that holds no integers. -/
def NoInts (w : World) (g : Nat) : Prop := ∃ t cs, Blk w g t cs /\ ∀ v ∈ cs, bC v
theorem NoInts.cell {w : World} {g : Nat} (h : NoInts w g) : ∀ i v, w.cell? ⟨g, i, none⟩ = some v -> bC v := by
 obtain ⟨t, cs, hB, hv⟩ := h;intro i v hc;rw [hB.cell i] at hc;exact hv v (Array.mem_of_getElem? hc)
theorem NoInts.set {w : World} {g : Nat} (h : NoInts w g) (i : Nat) {u : Value} (hu : bC u) : NoInts (w.setCell ⟨g, i, none⟩ u) g := by
 obtain ⟨t, cs, hB, hv⟩ := h;refine ⟨t, _, hB.set i u, fun v hm => ?_⟩
 rcases Array.mem_or_eq_of_mem_setIfInBounds hm with h | h
 .
  exact hv v h
 .
  subst h; exact hu
theorem NoInts.ext {w w' : World} {g : Nat} (h : NoInts w g) (he : Ext w w') : NoInts w' g := by
 obtain ⟨t, cs, hB, hv⟩ := h;exact ⟨t, cs, hB.ext he, hv⟩
theorem NoInts.three {w : World} {g : Nat} {t : TypeId} {b : Bool} {A1 A2 : Option Addr} {l1 c1 l2 c2 : Nat} (h : Blk w g t #[.bool b, .slice A1 l1 c1, .slice A2 l2 c2]) : NoInts w g :=
 ⟨t, _, h, fun v hv => by
  simp at hv
  rcases hv with rfl | rfl | rfl
  .
   exact ak _
  .
   exact ag _ _ _
  .
   exact ag _ _ _⟩
theorem W32.past {w : World} {v : Value} {n g : Nat} (h : W32 w v n) (hg : NoInts w g) (i : Nat) (u : Value) : W32 (w.setCell ⟨g, i, none⟩ u) v n := by
 obtain ⟨A, l, c, xs, rfl, hI, rest⟩ := h;exact ⟨A, l, c, xs, rfl, hI.past hg.cell i u, rest⟩
/-- Behind the store of a result with a sign and two slices. -/
theorem W32.boxed {w : World} {v : Value} {n g : Nat} (h : W32 w v n) (hg : NoInts w g) (b : Bool) (A1 A2 : Option Addr) (l1 c1 l2 c2 : Nat) :
  W32 (((w.setCell ⟨g, 0, none⟩ (.bool b)).setCell ⟨g, 1, none⟩ (.slice A1 l1 c1)).setCell ⟨g, 2, none⟩ (.slice A2 l2 c2)) v n :=
 ((h.past hg 0 _).past (hg.set 0 (ak b)) 1 _).past ((hg.set 0 (ak b)).set 1 (ag _ _ _)) 2 _
theorem Ext.boxed {w0 w : World} {g : Nat} (h : Ext w0 w) (hg : w0.heap.size <= g) (x y z : Value) : Ext w0 (((w.setCell ⟨g, 0, none⟩ x).setCell ⟨g, 1, none⟩ y).setCell ⟨g, 2, none⟩ z) :=
 ((h.setCell hg x).setCell hg y).setCell hg z
/-- What a call returns that makes a rational number. -/
def gZ (w : World) (s : Bool) (n d : Nat) (e : Ending) (w' : World) : Prop := ∃ v, e = .returned v /\ NumV w' v s n d /\ Ext w w'
theorem pl (x : Int) (w : World) (_h0 : -9223372036854775808 <= x) (_h1 : x <= 9223372036854775807) :
  Calls Try.prog 127 #[.int .i64 x] w (gZ w (decide (x < 0)) x.natAbs 1) := by
 by_cases hn : x < 0
 .
  have hd : decide (x < 0) = true := by simpa using hn
  have hw : IntKind.u64.wrap (-(x + 1)) = -(x + 1) := IntWalk.u64_in _ (by omega);rw [hd];clear hd;go_enter Try.func127, Try.ntmps127
  go_wp2_with fail
  refine (es (-(x + 1) + 1) _ (by omega) (by omega)).mono ?_;rintro e w1 ⟨v, rfl, hv, hX⟩;have e1 : (-(x + 1) + 1).toNat = x.natAbs := by omega
  rw [e1] at hv;obtain ⟨A, l, c, rfl, hw1, _⟩ := W32.open hv;have HV := hid hw1;have HX := hid hX;have hB := (Blk.new w 217 #[.bool false, .slice none 0 0, .slice none 0 0]).ext hX;have HB := hid hB;obtain ⟨z0, z1, z2, f0, f1, f2⟩ := hB.three;have hlt : w.heap.size < w1.heap.size := by have := hX.size; simp at this; omega
  clear hv hw1 hX e1 hB;go_wp2;refine bodyPost_ret (v := .agg #[.bool true, .slice A l c, .slice (some ⟨w1.heap.size, 0, none⟩) 1 1]) (by simp [results, Try.results127, go_sem, *]) rfl ?_;exact ⟨_, rfl, ⟨_, _, rfl, (HV.out.boxed (NoInts.three HB.out) _ _ _ _ _ _ _).ext ((Ext.refl _).alloc _), W32.one' _ (by simp) rfl⟩, (Ext.boxed (((Ext.refl w).alloc _).trans HX.out) (Nat.le_refl _) _ _ _).alloc _⟩
 .
  have hd : decide (x < 0) = false := by simpa using hn
  have hw : IntKind.u64.wrap x = x := IntWalk.u64_in _ (by omega);rw [hd];clear hd;go_enter Try.func127, Try.ntmps127
  go_wp2_with fail
  refine (es (x) _ (by omega) (by omega)).mono ?_;rintro e w1 ⟨v, rfl, hv, hX⟩;have e1 : (x).toNat = x.natAbs := by omega
  rw [e1] at hv;obtain ⟨A, l, c, rfl, hw1, _⟩ := W32.open hv;have HV := hid hw1;have HX := hid hX;have hB := (Blk.new w 217 #[.bool false, .slice none 0 0, .slice none 0 0]).ext hX;have HB := hid hB;obtain ⟨z0, z1, z2, f0, f1, f2⟩ := hB.three;have hlt : w.heap.size < w1.heap.size := by have := hX.size; simp at this; omega
  clear hv hw1 hX e1 hB;go_wp2;refine bodyPost_ret (v := .agg #[.bool false, .slice A l c, .slice (some ⟨w1.heap.size, 0, none⟩) 1 1]) (by simp [results, Try.results127, go_sem, *]) rfl ?_;exact ⟨_, rfl, ⟨_, _, rfl, (HV.out.boxed (NoInts.three HB.out) _ _ _ _ _ _ _).ext ((Ext.refl _).alloc _), W32.one' _ (by simp) rfl⟩, (Ext.boxed (((Ext.refl w).alloc _).trans HX.out) (Nat.le_refl _) _ _ _).alloc _⟩
theorem NumV.open {w : World} {v : Value} {s : Bool} {n d : Nat} (h : NumV w v s n d) : ∃ A1 l1 c1 A2 l2 c2, v = .agg #[.bool s, .slice A1 l1 c1, .slice A2 l2 c2] /\ W32 w (.slice A1 l1 c1) n /\ W32 w (.slice A2 l2 c2) d /\ (l1 = 0 ↔ n = 0) /\ (l2 = 0 ↔ d = 0) := by
 obtain ⟨vn, vd, rfl, h1, h2⟩ := h;obtain ⟨A1, l1, c1, rfl, g1, e1⟩ := h1.open;obtain ⟨A2, l2, c2, rfl, g2, e2⟩ := h2.open;exact ⟨A1, l1, c1, A2, l2, c2, rfl, g1, g2, e1, e2⟩
theorem pm (v : Value) (s : Bool) (n d : Nat) (w : World) (h : NumV w v s n d) :
  Calls Try.prog 143 #[v] w (gZ w (nz (!s) n) n d) := by
 obtain ⟨A1, l1, c1, A2, l2, c2, rfl, h1, h2, e1, _⟩ := h.open;have H1 := hid h1;have H2 := hid h2;have E1 := hid e1;clear h h1 h2 e1
 rcases (by rcases Bool.eq_false_or_eq_true s with h | h <;> rcases Nat.eq_zero_or_pos l1 with g | g <;> simp [h, g] : s = true \/ (s = false /\ l1 = 0) \/ (s = false /\ 0 < l1)) with hs | ⟨hs, hl⟩ | ⟨hs, hl⟩
 .
  subst hs;rw [show nz (!true) n = false from mO n];go_enter Try.func143, Try.ntmps143;go_wp2;refine bodyPost_ret (v := .agg #[.bool false, .slice A1 l1 c1, .slice A2 l2 c2]) (by simp [results, Try.results143, go_sem]) rfl ?_;exact ⟨_, rfl, ⟨_, _, rfl, H1.out.ext (((Ext.refl w).alloc _).alloc _), H2.out.ext (((Ext.refl w).alloc _).alloc _)⟩, ((Ext.refl w).alloc _).alloc _⟩
 .
  subst hs hl;have hn := E1.out.1 rfl;rw [show nz (!false) n = false by rw [hn]; exact j7 _];have HN := hid hn;clear hn;go_enter Try.func143, Try.ntmps143;go_wp2;refine bodyPost_ret (v := .agg #[.bool false, .slice A1 0 c1, .slice A2 l2 c2]) (by simp [results, Try.results143, go_sem]) rfl ?_;exact ⟨_, rfl, ⟨_, _, rfl, H1.out.ext (((Ext.refl w).alloc _).alloc _), H2.out.ext (((Ext.refl w).alloc _).alloc _)⟩, ((Ext.refl w).alloc _).alloc _⟩
 .
  subst hs;have hn : n ≠ 0 := fun h => by have := E1.out.2 h; omega
  rw [show nz (!false) n = true from jk _ hn];clear hn;go_enter Try.func143, Try.ntmps143;go_wp2;refine bodyPost_ret (v := .agg #[.bool true, .slice A1 l1 c1, .slice A2 l2 c2]) (by simp [results, Try.results143, go_sem]) rfl ?_;exact ⟨_, rfl, ⟨_, _, rfl, H1.out.ext (((Ext.refl w).alloc _).alloc _), H2.out.ext (((Ext.refl w).alloc _).alloc _)⟩, ((Ext.refl w).alloc _).alloc _⟩
theorem mV (v : Value) (s : Bool) (n d : Nat) (w : World) (h : NumV w v s n d) (hd : 0 < d) :
  Calls Try.prog 134 #[v] w fun e w' => e = .returned (.int .i64 (cE (aw s n d))) /\ Ext w w' := by
 obtain ⟨A1, l1, c1, A2, l2, c2, rfl, h1, h2, e1, _⟩ := h.open;have E1 := hid e1;clear h h1 h2 e1
 rcases (by rcases Bool.eq_false_or_eq_true s with h | h <;> rcases Nat.eq_zero_or_pos l1 with g | g <;> simp [h, g] : l1 = 0 \/ (s = true /\ 0 < l1) \/ (s = false /\ 0 < l1)) with hl | ⟨hs, hl⟩ | ⟨hs, hl⟩
 .
  subst hl;have HN := hid (E1.out.1 rfl);go_enter Try.func134, Try.ntmps134;go_wp2;go_ret;exact ⟨by rw [lc hd HN.out]; rfl, (Ext.refl w).alloc _⟩
 .
  subst hs
  have HN : Hid (0 < n) := by
   rcases Nat.eq_zero_or_pos n with h | h
   .
    have := E1.out.2 h; omega
   .
    exact h
  have hlb : ((l1 : Int) == 0) = false := by simp; omega
  go_enter Try.func134, Try.ntmps134;go_wp2;go_ret;exact ⟨by rw [mT hd HN.out]; rfl, (Ext.refl w).alloc _⟩
 .
  subst hs
  have HN : Hid (0 < n) := by
   rcases Nat.eq_zero_or_pos n with h | h
   .
    have := E1.out.2 h; omega
   .
    exact h
  have hlb : ((l1 : Int) == 0) = false := by simp; omega
  go_enter Try.func134, Try.ntmps134;go_wp2;go_ret;exact ⟨by rw [mU hd HN.out]; rfl, (Ext.refl w).alloc _⟩
theorem g7 (v : Value) (s : Bool) (n d L : Nat) (w : World) (h : NumV w v s n d) (hd : 0 < d) (hn : Fit 4294967296 n L) (hdL : Fit 4294967296 d L) (hL : L <= 1099511627775) :
  Calls Try.prog 130 #[v] w (gZ w (nz s n) (n / Nat.gcd n d) (d / Nat.gcd n d)) := by
 obtain ⟨A1, l1, c1, A2, l2, c2, rfl, h1, h2, e1, _⟩ := h.open;have H1 := hid h1;have H2 := hid h2;have E1 := hid e1;clear h h1 h2 e1
 rcases Nat.eq_zero_or_pos l1 with hl | hl
 .
  subst hl;have hn0 := E1.out.1 rfl;have HS : Hid (nz s n = false /\ n / Nat.gcd n d = 0 /\ d / Nat.gcd n d = 1) := ⟨by rw [hn0]; exact j7 s, by rw [hn0]; simp, by rw [hn0, Nat.gcd_zero_left]; exact Nat.div_self hd⟩;clear hn0;go_enter Try.func130, Try.ntmps130;go_wp2;refine bodyPost_ret (v := .agg #[.bool false, .slice none 0 0, .slice (some ⟨w.heap.size + 1 + 1, 0, none⟩) 1 1]) (by simp [results, Try.results130, go_sem]) rfl ?_;rw [HS.out.1, HS.out.2.1, HS.out.2.2];exact ⟨_, rfl, ⟨_, _, rfl, NatV.zero, W32.one' _ (by simp) rfl⟩, (((Ext.refl w).alloc _).alloc _).alloc _⟩
 .
  have hnp : 0 < n := by
   rcases Nat.eq_zero_or_pos n with h | h
   .
    have := E1.out.2 h; omega
   .
    exact h
  have hgp0 : 0 < Nat.gcd n d := Nat.gcd_pos_of_pos_left d hnp;have HSN : Hid (nz s n = s) := jk s (by omega);have hlb : ((l1 : Int) == 0) = false := by simp; omega
  go_enter Try.func130, Try.ntmps130
  go_wp2_with fail
  have hXw : Ext w ((w.alloc (.cells #[.bool s, .slice A1 l1 c1, .slice A2 l2 c2] 217)).alloc (.cells #[.bool false, .slice none 0 0, .slice none 0 0] 217)) := ((Ext.refl w).alloc _).alloc _;have hBA : Blk ((w.alloc (.cells #[.bool s, .slice A1 l1 c1, .slice A2 l2 c2] 217)).alloc (.cells #[.bool false, .slice none 0 0, .slice none 0 0] 217)) w.heap.size 217 #[.bool s, .slice A1 l1 c1, .slice A2 l2 c2] := (Blk.new w _ _).alloc _
  have hBR : Blk ((w.alloc (.cells #[.bool s, .slice A1 l1 c1, .slice A2 l2 c2] 217)).alloc (.cells #[.bool false, .slice none 0 0, .slice none 0 0] 217)) (w.heap.size + 1) 217 #[.bool false, .slice none 0 0, .slice none 0 0] := by
   have := Blk.new (w.alloc (.cells #[.bool s, .slice A1 l1 c1, .slice A2 l2 c2] 217)) 217 #[.bool false, .slice none 0 0, .slice none 0 0]
   simpa using this
  generalize (w.alloc _).alloc _ = w1 at hXw hBA hBR |-;have HXw := hid hXw;have HBA := hid hBA;have HBR := hid hBR;replace H1 := hid (H1.out.ext hXw);replace H2 := hid (H2.out.ext hXw);clear hXw hBA hBR;refine (ph _ _ n d L _ H1.out H2.out hn hdL hL).mono ?_;rintro e w2 ⟨vg, rfl, hg, hX2⟩;obtain ⟨g, hge⟩ : ∃ g, Nat.gcd n d = g := ⟨_, rfl⟩;rw [hge] at hg hgp0;have hgp := hgp0;have HGE := hid hge;obtain ⟨Ag, lg, cg, xs, rfl, hIg, hRg, hcg, hcgm⟩ := hg;have hWg : W32 w2 (.slice Ag lg cg) g := ⟨Ag, lg, cg, xs, rfl, hIg, hRg, hcg, hcgm⟩;obtain ⟨z0, z1, z2, _, _, _⟩ := (HBA.out.ext hX2).three;have HX2 := hid hX2;have HWg := hid hWg
  by_cases hg1 : g = 1
  .
   have hxs : xs = [1] := by rw [hg1] at hRg; exact hRg.unique (by omega) (Rep.one (by omega))
   subst hxs;obtain rfl : lg = 1 := by simpa using hIg.1.symm
   obtain ⟨b, o, y, rfl, hy, _, hcy⟩ := hIg.get (j := 0) (by omega);obtain rfl : 1 = y := by simpa using hy
   rw [Nat.add_zero] at hcy;obtain ⟨y0, y1, y2, f0, f1, f2⟩ := (HBR.out.ext hX2).three;have HNB := hid (NoInts.three (HBR.out.ext hX2));have HG1 := hid hg1;clear hge hIg hRg hWg hX2 hy hg1 hgp hgp0;go_wp2;refine bodyPost_ret (v := .agg #[.bool s, .slice A1 l1 c1, .slice A2 l2 c2]) (by simp [results, Try.results130, go_sem, *]) rfl ?_;refine ⟨_, rfl, ⟨.slice A1 l1 c1, .slice A2 l2 c2, ?_, ?_, ?_⟩, Ext.boxed (HXw.out.trans HX2.out) (Nat.le_succ _) _ _ _⟩
   .
    rw [HSN.out]
   .
    rw [HGE.out, HG1.out, Nat.div_one]; exact (H1.out.ext HX2.out).boxed HNB.out _ _ _ _ _ _ _
   .
    rw [HGE.out, HG1.out, Nat.div_one]; exact (H2.out.ext HX2.out).boxed HNB.out _ _ _ _ _ _ _
  .
   rw [<- hge] at hg1
   have hcase : (lg = 1 /\ ∃ b o x, Ag = some ⟨b, o, none⟩ /\ w2.cell? ⟨b, o, none⟩ = some (.int .u32 x) /\ (x == 1) = false) \/ ((lg : Int) == 1) = false := by
    by_cases hl1 : lg = 1
    .
     left
     refine ⟨hl1, ?_⟩;subst hl1;obtain ⟨x, rfl, hx, _, _⟩ := eu (by omega) hRg hIg.1;obtain ⟨b, o, y, rfl, hy, _, hcy⟩ := hIg.get (j := 0) (by omega);obtain rfl : x = y := by simpa using hy
     rw [Nat.add_zero] at hcy;refine ⟨b, o, x, rfl, hcy, ?_⟩;simp only [beq_eq_false_iff_ne, ne_eq];intro h1;apply hg1;rw [hge]; omega
    .
     right; simp; omega
   clear hge hIg hRg hWg hX2 hg1 hgp0
   rcases hcase with ⟨rfl, b, o, x, rfl, hcx, hx1⟩ | hlg
   .

    go_wp2_with fail
    refine (dV _ _ n g L _ (H1.out.ext HX2.out) (HWg.out) hgp hn hL).mono ?_;rintro e w3 ⟨q1, r1, rfl, hq1, _, hX3⟩;obtain ⟨B1, m1, k1, rfl, hq1, _⟩ := hq1.open;have hX3' := HX2.out.trans hX3;obtain ⟨z0, z1, z2, _, _, _⟩ := (HBA.out.ext hX3').three;have HQ1 := hid hq1;have HX3 := hid hX3';have HG3 := hid (W32.ext HWg.out hX3);clear hq1 hX3 hX3'
    go_wp2_with fail
    refine (dV _ _ d g L _ (H2.out.ext HX3.out) HG3.out hgp hdL hL).mono ?_;rintro e w4 ⟨q2, r2, rfl, hq2, _, hX4⟩;obtain ⟨B2, m2, k2, rfl, hq2, _⟩ := hq2.open;have hX4' := HX3.out.trans hX4;obtain ⟨z0, z1, z2, _, _, _⟩ := (HBA.out.ext hX4').three;obtain ⟨y0, y1, y2, f0, f1, f2⟩ := (HBR.out.ext hX4').three;have HQ1b := hid (HQ1.out.ext hX4);have HQ2 := hid hq2;have HX4 := hid hX4';have HNB := hid (NoInts.three (HBR.out.ext hX4'));clear hq2 hX4 hX4';go_wp2;refine bodyPost_ret (v := .agg #[.bool s, .slice B1 m1 k1, .slice B2 m2 k2]) (by simp [results, Try.results130, go_sem, *]) rfl ?_;refine ⟨_, rfl, ⟨.slice B1 m1 k1, .slice B2 m2 k2, ?_, ?_, ?_⟩, Ext.boxed (HXw.out.trans HX4.out) (Nat.le_succ _) _ _ _⟩
    .
     rw [HSN.out]
    .
     rw [HGE.out]; exact HQ1b.out.boxed HNB.out _ _ _ _ _ _ _
    .
     rw [HGE.out]; exact HQ2.out.boxed HNB.out _ _ _ _ _ _ _
   .

    go_wp2_with fail
    refine (dV _ _ n g L _ (H1.out.ext HX2.out) (HWg.out) hgp hn hL).mono ?_;rintro e w3 ⟨q1, r1, rfl, hq1, _, hX3⟩;obtain ⟨B1, m1, k1, rfl, hq1, _⟩ := hq1.open;have hX3' := HX2.out.trans hX3;obtain ⟨z0, z1, z2, _, _, _⟩ := (HBA.out.ext hX3').three;have HQ1 := hid hq1;have HX3 := hid hX3';have HG3 := hid (W32.ext HWg.out hX3);clear hq1 hX3 hX3'
    go_wp2_with fail
    refine (dV _ _ d g L _ (H2.out.ext HX3.out) HG3.out hgp hdL hL).mono ?_;rintro e w4 ⟨q2, r2, rfl, hq2, _, hX4⟩;obtain ⟨B2, m2, k2, rfl, hq2, _⟩ := hq2.open;have hX4' := HX3.out.trans hX4;obtain ⟨z0, z1, z2, _, _, _⟩ := (HBA.out.ext hX4').three;obtain ⟨y0, y1, y2, f0, f1, f2⟩ := (HBR.out.ext hX4').three;have HQ1b := hid (HQ1.out.ext hX4);have HQ2 := hid hq2;have HX4 := hid hX4';have HNB := hid (NoInts.three (HBR.out.ext hX4'));clear hq2 hX4 hX4';go_wp2;refine bodyPost_ret (v := .agg #[.bool s, .slice B1 m1 k1, .slice B2 m2 k2]) (by simp [results, Try.results130, go_sem, *]) rfl ?_;refine ⟨_, rfl, ⟨.slice B1 m1 k1, .slice B2 m2 k2, ?_, ?_, ?_⟩, Ext.boxed (HXw.out.trans HX4.out) (Nat.le_succ _) _ _ _⟩
    .
     rw [HSN.out]
    .
     rw [HGE.out]; exact HQ1b.out.boxed HNB.out _ _ _ _ _ _ _
    .
     rw [HGE.out]; exact HQ2.out.boxed HNB.out _ _ _ _ _ _ _
theorem pn (ga gb : Nat) (s t : Bool) (A1 A2 B1 B2 : Option Addr) (l1 c1 l2 c2 m1 k1 m2 k2 n d m e L M : Nat) (w : World) (a0 : w.cell? ⟨ga, 0, none⟩ = some (.bool s)) (a1 : w.cell? ⟨ga, 1, none⟩ = some (.slice A1 l1 c1)) (a2 : w.cell? ⟨ga, 2, none⟩ = some (.slice A2 l2 c2)) (b0 : w.cell? ⟨gb, 0, none⟩ = some (.bool t)) (b1 : w.cell? ⟨gb, 1, none⟩ = some (.slice B1 m1 k1)) (b2 : w.cell? ⟨gb, 2, none⟩ = some (.slice B2 m2 k2)) (h1 : W32 w (.slice A1 l1 c1) n) (h2 : W32 w (.slice A2 l2 c2) d) (h3 : W32 w (.slice B1 m1 k1) m) (h4 : W32 w (.slice B2 m2 k2) e) (f1 : Fit 4294967296 n L) (f2 : Fit 4294967296 d L) (f3 : Fit 4294967296 m M) (f4 : Fit 4294967296 e M) (hL : L <= 1099511627776) (hM : M <= 1099511627776) : aF Try.prog Try.f184 1 16 21 w [5, 6, 7, 8, 9, 10, 11, 12, 13, 14, 15, 16, 17, 18, 19, 20] [.c (.pointer (some ⟨ga, 0, none⟩)), .c (.bool s), .c (.pointer (some ⟨gb, 0, none⟩)), .c (.bool t), .c (.bool (s != t)), .c (.pointer (some ⟨ga, 1, none⟩)), .c (.slice A1 l1 c1), .c (.pointer (some ⟨gb, 1, none⟩)), .c (.slice B1 m1 k1), .p fun v W => W32 W v (n * m), .c (.pointer (some ⟨ga, 2, none⟩)), .c (.slice A2 l2 c2), .c (.pointer (some ⟨gb, 2, none⟩)), .c (.slice B2 m2 k2), .p fun v W => W32 W v (d * e), .p fun v W => NumV W v (s != t) (n * m) (d * e)] [(2, .pointer (some ⟨ga, 0, none⟩)), (3, .pointer (some ⟨gb, 0, none⟩))] := by
 refine aJ [[], [0], [], [2], [1, 3], [], [5], [], [7], [6, 8], [], [10], [], [12], [11, 13], [4, 9, 14]] (by kernel_rfl) (by kernel_rfl) rfl ⟨by intro v W W' h hX; exact W32.ext h hX, by intro v W W' h hX; exact W32.ext h hX, by intro v W W' h hX; exact NumV.ext h hX, trivial⟩ ?_;simp only [ae, Try.f184, ab, Option.bind_some, Nat.reduceBEq, if_true, if_false, Bool.false_eq_true, Option.getD_some];simp only [List.take_succ_cons, List.take_zero]
 repeat' first | refine ⟨?_, ?_⟩ | fail
 all_goals first | (intro us W b hJ K hK0 hK Qz; simp only [aC, al, am, List.getD_cons_succ, List.getD_cons_zero]) | exact True.intro
 all_goals try (intros; have q0 := Ext.cell hJ a0; have q1 := Ext.cell hJ b0; have q2 := Ext.cell hJ a1; have q3 := Ext.cell hJ b1; have q4 := Ext.cell hJ a2; have q5 := Ext.cell hJ b2; go_simp; exact hK0 _ rfl)
 .
  intro e11 e13 e2 e3;go_simp;refine (cw _ _ n m L M _ (W32.ext h1 hJ) (W32.ext h3 hJ) f1 f3 hL hM).mono ?_;rintro e w' ⟨v, rfl, hv, hX⟩;exact hK _ _ hv hX
 .
  intro e16 e18 e2 e3;go_simp;refine (cw _ _ d e L M _ (W32.ext h2 hJ) (W32.ext h4 hJ) f2 f4 hL hM).mono ?_;rintro e w' ⟨v, rfl, hv, hX⟩;exact hK _ _ hv hX
 .
  intro e9 e14 d9 e19 d14 e2 e3;obtain ⟨P1, q1, r1, hv1, g1, _⟩ := W32.open d9;obtain ⟨P2, q2, r2, hv2, g2, _⟩ := W32.open d14;rw [hv1] at e14;rw [hv2] at e19;go_simp;exact hK0 _ ⟨_, _, rfl, g1, g2⟩
theorem mW (va vb : Value) (s t : Bool) (n d m e L M : Nat) (w : World) (ha : NumV w va s n d) (hb : NumV w vb t m e) (f1 : Fit 4294967296 n L) (f2 : Fit 4294967296 d L) (f3 : Fit 4294967296 m M) (f4 : Fit 4294967296 e M) (hL : L <= 1099511627776) (hM : M <= 1099511627776) :
  Calls Try.prog 184 #[va, vb] w (gZ w (s != t) (n * m) (d * e)) := by
 obtain ⟨A1, l1, c1, A2, l2, c2, rfl, h1, h2, _, _⟩ := ha.open;obtain ⟨B1, m1, k1, B2, m2, k2, rfl, h3, h4, _, _⟩ := hb.open;clear ha hb;have H1 := hid h1;have H2 := hid h2;have H3 := hid h3;have H4 := hid h4;clear h1 h2 h3 h4;go_enter Try.func184, Try.ntmps184
 go_wp2_with fail
 have hXw : Ext w (((w.alloc (.cells #[.bool s, .slice A1 l1 c1, .slice A2 l2 c2] 217)).alloc (.cells #[.bool t, .slice B1 m1 k1, .slice B2 m2 k2] 217)).alloc (.cells #[.bool false, .slice none 0 0, .slice none 0 0] 217)) := (((Ext.refl w).alloc _).alloc _).alloc _;have hBA : Blk (((w.alloc (.cells #[.bool s, .slice A1 l1 c1, .slice A2 l2 c2] 217)).alloc (.cells #[.bool t, .slice B1 m1 k1, .slice B2 m2 k2] 217)).alloc (.cells #[.bool false, .slice none 0 0, .slice none 0 0] 217)) w.heap.size 217 #[.bool s, .slice A1 l1 c1, .slice A2 l2 c2] := ((Blk.new w _ _).alloc _).alloc _
 have hBB : Blk (((w.alloc (.cells #[.bool s, .slice A1 l1 c1, .slice A2 l2 c2] 217)).alloc (.cells #[.bool t, .slice B1 m1 k1, .slice B2 m2 k2] 217)).alloc (.cells #[.bool false, .slice none 0 0, .slice none 0 0] 217)) (w.heap.size + 1) 217 #[.bool t, .slice B1 m1 k1, .slice B2 m2 k2] := by
  have := (Blk.new (w.alloc (.cells #[.bool s, .slice A1 l1 c1, .slice A2 l2 c2] 217)) 217 #[.bool t, .slice B1 m1 k1, .slice B2 m2 k2]).alloc (.cells #[.bool false, .slice none 0 0, .slice none 0 0] 217)
  simpa using this
 have hBR : Blk (((w.alloc (.cells #[.bool s, .slice A1 l1 c1, .slice A2 l2 c2] 217)).alloc (.cells #[.bool t, .slice B1 m1 k1, .slice B2 m2 k2] 217)).alloc (.cells #[.bool false, .slice none 0 0, .slice none 0 0] 217)) (w.heap.size + 1 + 1) 217 #[.bool false, .slice none 0 0, .slice none 0 0] := by
  have := Blk.new ((w.alloc (.cells #[.bool s, .slice A1 l1 c1, .slice A2 l2 c2] 217)).alloc (.cells #[.bool t, .slice B1 m1 k1, .slice B2 m2 k2] 217)) 217 #[.bool false, .slice none 0 0, .slice none 0 0]
  simpa using this
 generalize ((w.alloc _).alloc _).alloc _ = w1 at hXw hBA hBB hBR |-;obtain ⟨a0, a1, a2, _, _, _⟩ := hBA.three;obtain ⟨b0, b1, b2, _, _, _⟩ := hBB.three;have HXw := hid hXw;have HBA := hid hBA;have HBB := hid hBB;have HBR := hid hBR;replace H1 := hid (H1.out.ext hXw);replace H2 := hid (H2.out.ext hXw);replace H3 := hid (H3.out.ext hXw);replace H4 := hid (H4.out.ext hXw);clear hXw hBA hBB hBR;refine pn w.heap.size (w.heap.size + 1) s t A1 A2 B1 B2 l1 c1 l2 c2 m1 k1 m2 k2 n d m e L M w1 a0 a1 a2 b0 b1 b2 H1.out H2.out H3.out H4.out f1 f2 f3 f4 hL hM _ _ (by simp) ⟨rfl, rfl, trivial⟩ ?_;rintro W hXW x9 h9 x14 h14 x15 h15;simp only [EndK, ae, Try.f184, ab, Option.bind_some, Nat.reduceBEq, if_true, if_false, Bool.false_eq_true, Option.getD_some, List.drop_succ_cons, List.drop_zero];simp only [Act.put, List.setIfInBounds_toArray, List.set_cons_succ, List.set_cons_zero];obtain ⟨P1, q1, r1, P2, q2, r2, rfl, g1, g2, _, _⟩ := NumV.open h15;clear h9 h14 h15;obtain ⟨y0, y1, y2, f0, f1', f2'⟩ := (HBR.out.ext hXW).three;have HNB := hid (NoInts.three (HBR.out.ext hXW));have G1 := hid g1;have G2 := hid g2;have HXW := hid hXW;clear g1 g2 hXW a0 a1 a2 b0 b1 b2;go_wp2;refine bodyPost_ret (v := .agg #[.bool (s != t), .slice P1 q1 r1, .slice P2 q2 r2]) (by simp [results, Try.results184, go_sem, *]) rfl ?_;exact ⟨_, rfl, ⟨_, _, rfl, G1.out.boxed HNB.out _ _ _ _ _ _ _, G2.out.boxed HNB.out _ _ _ _ _ _ _⟩, Ext.boxed (HXw.out.trans HXW.out) (by omega) _ _ _⟩
theorem po (ga gb : Nat) (s t : Bool) (A1 A2 B1 B2 : Option Addr) (l1 c1 l2 c2 m1 k1 m2 k2 n d m e L M : Nat) (w : World) (a0 : w.cell? ⟨ga, 0, none⟩ = some (.bool s)) (a1 : w.cell? ⟨ga, 1, none⟩ = some (.slice A1 l1 c1)) (a2 : w.cell? ⟨ga, 2, none⟩ = some (.slice A2 l2 c2)) (b0 : w.cell? ⟨gb, 0, none⟩ = some (.bool t)) (b1 : w.cell? ⟨gb, 1, none⟩ = some (.slice B1 m1 k1)) (b2 : w.cell? ⟨gb, 2, none⟩ = some (.slice B2 m2 k2)) (h1 : W32 w (.slice A1 l1 c1) n) (h2 : W32 w (.slice A2 l2 c2) d) (h3 : W32 w (.slice B1 m1 k1) m) (h4 : W32 w (.slice B2 m2 k2) e) (f1 : Fit 4294967296 n L) (f2 : Fit 4294967296 d L) (f3 : Fit 4294967296 m M) (f4 : Fit 4294967296 e M) (hL : L <= 1099511627776) (hM : M <= 1099511627776) : aF Try.prog Try.f176 1 16 21 w [5, 6, 7, 8, 9, 10, 11, 12, 13, 14, 15, 16, 17, 18, 19, 20] [.c (.pointer (some ⟨ga, 0, none⟩)), .c (.bool s), .c (.pointer (some ⟨gb, 0, none⟩)), .c (.bool t), .c (.bool (s != t)), .c (.pointer (some ⟨ga, 1, none⟩)), .c (.slice A1 l1 c1), .c (.pointer (some ⟨gb, 2, none⟩)), .c (.slice B2 m2 k2), .p fun v W => W32 W v (n * e), .c (.pointer (some ⟨ga, 2, none⟩)), .c (.slice A2 l2 c2), .c (.pointer (some ⟨gb, 1, none⟩)), .c (.slice B1 m1 k1), .p fun v W => W32 W v (d * m), .p fun v W => NumV W v (s != t) (n * e) (d * m)] [(2, .pointer (some ⟨ga, 0, none⟩)), (3, .pointer (some ⟨gb, 0, none⟩))] := by
 refine aJ [[], [0], [], [2], [1, 3], [], [5], [], [7], [6, 8], [], [10], [], [12], [11, 13], [4, 9, 14]] (by kernel_rfl) (by kernel_rfl) rfl ⟨by intro v W W' h hX; exact W32.ext h hX, by intro v W W' h hX; exact W32.ext h hX, by intro v W W' h hX; exact NumV.ext h hX, trivial⟩ ?_;simp only [ae, Try.f176, ab, Option.bind_some, Nat.reduceBEq, if_true, if_false, Bool.false_eq_true, Option.getD_some];simp only [List.take_succ_cons, List.take_zero]
 repeat' first | refine ⟨?_, ?_⟩ | fail
 all_goals first | (intro us W b hJ K hK0 hK Qz; simp only [aC, al, am, List.getD_cons_succ, List.getD_cons_zero]) | exact True.intro
 all_goals try (intros; have q0 := Ext.cell hJ a0; have q1 := Ext.cell hJ b0; have q2 := Ext.cell hJ a1; have q3 := Ext.cell hJ b2; have q4 := Ext.cell hJ a2; have q5 := Ext.cell hJ b1; go_simp; exact hK0 _ rfl)
 .
  intro e11 e13 e2 e3;go_simp;refine (cw _ _ n e L M _ (W32.ext h1 hJ) (W32.ext h4 hJ) f1 f4 hL hM).mono ?_;rintro e w' ⟨v, rfl, hv, hX⟩;exact hK _ _ hv hX
 .
  intro e16 e18 e2 e3;go_simp;refine (cw _ _ d m L M _ (W32.ext h2 hJ) (W32.ext h3 hJ) f2 f3 hL hM).mono ?_;rintro e w' ⟨v, rfl, hv, hX⟩;exact hK _ _ hv hX
 .
  intro e9 e14 d9 e19 d14 e2 e3;obtain ⟨P1, q1, r1, hv1, g1, _⟩ := W32.open d9;obtain ⟨P2, q2, r2, hv2, g2, _⟩ := W32.open d14;rw [hv1] at e14;rw [hv2] at e19;go_simp;exact hK0 _ ⟨_, _, rfl, g1, g2⟩
theorem mX (va vb : Value) (s t : Bool) (n d m e L M : Nat) (w : World) (ha : NumV w va s n d) (hb : NumV w vb t m e) (f1 : Fit 4294967296 n L) (f2 : Fit 4294967296 d L) (f3 : Fit 4294967296 m M) (f4 : Fit 4294967296 e M) (hL : L <= 1099511627776) (hM : M <= 1099511627776) :
  Calls Try.prog 176 #[va, vb] w (gZ w (s != t) (n * e) (d * m)) := by
 obtain ⟨A1, l1, c1, A2, l2, c2, rfl, h1, h2, _, _⟩ := ha.open;obtain ⟨B1, m1, k1, B2, m2, k2, rfl, h3, h4, _, _⟩ := hb.open;clear ha hb;have H1 := hid h1;have H2 := hid h2;have H3 := hid h3;have H4 := hid h4;clear h1 h2 h3 h4;go_enter Try.func176, Try.ntmps176
 go_wp2_with fail
 have hXw : Ext w (((w.alloc (.cells #[.bool s, .slice A1 l1 c1, .slice A2 l2 c2] 217)).alloc (.cells #[.bool t, .slice B1 m1 k1, .slice B2 m2 k2] 217)).alloc (.cells #[.bool false, .slice none 0 0, .slice none 0 0] 217)) := (((Ext.refl w).alloc _).alloc _).alloc _;have hBA : Blk (((w.alloc (.cells #[.bool s, .slice A1 l1 c1, .slice A2 l2 c2] 217)).alloc (.cells #[.bool t, .slice B1 m1 k1, .slice B2 m2 k2] 217)).alloc (.cells #[.bool false, .slice none 0 0, .slice none 0 0] 217)) w.heap.size 217 #[.bool s, .slice A1 l1 c1, .slice A2 l2 c2] := ((Blk.new w _ _).alloc _).alloc _
 have hBB : Blk (((w.alloc (.cells #[.bool s, .slice A1 l1 c1, .slice A2 l2 c2] 217)).alloc (.cells #[.bool t, .slice B1 m1 k1, .slice B2 m2 k2] 217)).alloc (.cells #[.bool false, .slice none 0 0, .slice none 0 0] 217)) (w.heap.size + 1) 217 #[.bool t, .slice B1 m1 k1, .slice B2 m2 k2] := by
  have := (Blk.new (w.alloc (.cells #[.bool s, .slice A1 l1 c1, .slice A2 l2 c2] 217)) 217 #[.bool t, .slice B1 m1 k1, .slice B2 m2 k2]).alloc (.cells #[.bool false, .slice none 0 0, .slice none 0 0] 217)
  simpa using this
 have hBR : Blk (((w.alloc (.cells #[.bool s, .slice A1 l1 c1, .slice A2 l2 c2] 217)).alloc (.cells #[.bool t, .slice B1 m1 k1, .slice B2 m2 k2] 217)).alloc (.cells #[.bool false, .slice none 0 0, .slice none 0 0] 217)) (w.heap.size + 1 + 1) 217 #[.bool false, .slice none 0 0, .slice none 0 0] := by
  have := Blk.new ((w.alloc (.cells #[.bool s, .slice A1 l1 c1, .slice A2 l2 c2] 217)).alloc (.cells #[.bool t, .slice B1 m1 k1, .slice B2 m2 k2] 217)) 217 #[.bool false, .slice none 0 0, .slice none 0 0]
  simpa using this
 generalize ((w.alloc _).alloc _).alloc _ = w1 at hXw hBA hBB hBR |-;obtain ⟨a0, a1, a2, _, _, _⟩ := hBA.three;obtain ⟨b0, b1, b2, _, _, _⟩ := hBB.three;have HXw := hid hXw;have HBA := hid hBA;have HBB := hid hBB;have HBR := hid hBR;replace H1 := hid (H1.out.ext hXw);replace H2 := hid (H2.out.ext hXw);replace H3 := hid (H3.out.ext hXw);replace H4 := hid (H4.out.ext hXw);clear hXw hBA hBB hBR;refine po w.heap.size (w.heap.size + 1) s t A1 A2 B1 B2 l1 c1 l2 c2 m1 k1 m2 k2 n d m e L M w1 a0 a1 a2 b0 b1 b2 H1.out H2.out H3.out H4.out f1 f2 f3 f4 hL hM _ _ (by simp) ⟨rfl, rfl, trivial⟩ ?_;rintro W hXW x9 h9 x14 h14 x15 h15;simp only [EndK, ae, Try.f176, ab, Option.bind_some, Nat.reduceBEq, if_true, if_false, Bool.false_eq_true, Option.getD_some, List.drop_succ_cons, List.drop_zero];simp only [Act.put, List.setIfInBounds_toArray, List.set_cons_succ, List.set_cons_zero];obtain ⟨P1, q1, r1, P2, q2, r2, rfl, g1, g2, _, _⟩ := NumV.open h15;clear h9 h14 h15;obtain ⟨y0, y1, y2, f0, f1', f2'⟩ := (HBR.out.ext hXW).three;have HNB := hid (NoInts.three (HBR.out.ext hXW));have G1 := hid g1;have G2 := hid g2;have HXW := hid hXW;clear g1 g2 hXW a0 a1 a2 b0 b1 b2;go_wp2;refine bodyPost_ret (v := .agg #[.bool (s != t), .slice P1 q1 r1, .slice P2 q2 r2]) (by simp [results, Try.results176, go_sem, *]) rfl ?_;exact ⟨_, rfl, ⟨_, _, rfl, G1.out.boxed HNB.out _ _ _ _ _ _ _, G2.out.boxed HNB.out _ _ _ _ _ _ _⟩, Ext.boxed (HXw.out.trans HXW.out) (by omega) _ _ _⟩
theorem gB (ga gb : Nat) (s t : Bool) (A1 A2 B1 B2 : Option Addr) (l1 c1 l2 c2 m1 k1 m2 k2 n d m e L M : Nat) (w : World) (_a0 : w.cell? ⟨ga, 0, none⟩ = some (.bool s)) (a1 : w.cell? ⟨ga, 1, none⟩ = some (.slice A1 l1 c1)) (a2 : w.cell? ⟨ga, 2, none⟩ = some (.slice A2 l2 c2)) (_b0 : w.cell? ⟨gb, 0, none⟩ = some (.bool t)) (b1 : w.cell? ⟨gb, 1, none⟩ = some (.slice B1 m1 k1)) (b2 : w.cell? ⟨gb, 2, none⟩ = some (.slice B2 m2 k2)) (h1 : W32 w (.slice A1 l1 c1) n) (h2 : W32 w (.slice A2 l2 c2) d) (h3 : W32 w (.slice B1 m1 k1) m) (h4 : W32 w (.slice B2 m2 k2) e) (f1 : Fit 4294967296 n L) (f2 : Fit 4294967296 d L) (f3 : Fit 4294967296 m M) (f4 : Fit 4294967296 e M) (hL : L <= 1099511627776) (hM : M <= 1099511627776) : aF Try.prog Try.f128 1 10 18 w [8, 9, 10, 11, 12, 13, 14, 15, 16, 17] [.c (.pointer (some ⟨ga, 1, none⟩)), .c (.slice A1 l1 c1), .c (.pointer (some ⟨gb, 2, none⟩)), .c (.slice B2 m2 k2), .p fun v W => W32 W v (n * e), .c (.pointer (some ⟨gb, 1, none⟩)), .c (.slice B1 m1 k1), .c (.pointer (some ⟨ga, 2, none⟩)), .c (.slice A2 l2 c2), .p fun v W => W32 W v (m * d)] [(2, .pointer (some ⟨ga, 0, none⟩)), (3, .pointer (some ⟨gb, 0, none⟩))] := by
 refine aJ [[], [0], [], [2], [1, 3], [], [5], [], [7], [6, 8]] (by kernel_rfl) (by kernel_rfl) rfl ⟨by intro v W W' h hX; exact W32.ext h hX, by intro v W W' h hX; exact W32.ext h hX, trivial⟩ ?_;simp only [ae, Try.f128, ab, Option.bind_some, Nat.reduceBEq, if_true, if_false, Bool.false_eq_true, Option.getD_some];simp only [List.take_succ_cons, List.take_zero]
 repeat' first | refine ⟨?_, ?_⟩ | fail
 all_goals first | (intro us W b hJ K hK0 hK Qz; simp only [aC, al, am, List.getD_cons_succ, List.getD_cons_zero]) | exact True.intro
 all_goals try (intros; have q0 := Ext.cell hJ a1; have q1 := Ext.cell hJ b2; have q2 := Ext.cell hJ b1; have q3 := Ext.cell hJ a2; go_simp; exact hK0 _ rfl)
 .
  intro e9 e11 e2 e3;go_simp;refine (cw _ _ n e L M _ (W32.ext h1 hJ) (W32.ext h4 hJ) f1 f4 hL hM).mono ?_;rintro e w' ⟨v, rfl, hv, hX⟩;exact hK _ _ hv hX
 .
  intro e14 e16 e2 e3;go_simp;refine (cw _ _ m d M L _ (W32.ext h3 hJ) (W32.ext h2 hJ) f3 f2 hM hL).mono ?_;rintro e w' ⟨v, rfl, hv, hX⟩;exact hK _ _ hv hX
theorem pq (ga : Nat) (s : Bool) (X1 Y1 Z1 : Option Addr) (x2 x3 y2 y3 z2 z3 X Y D La : Nat) (w : World) (s0 : w.cell? ⟨ga, 0, none⟩ = some (.bool s)) (hx : W32 w (.slice X1 x2 x3) X) (hy : W32 w (.slice Y1 y2 y3) Y) (hz : W32 w (.slice Z1 z2 z3) D) (fx : Fit 4294967296 X La) (fy : Fit 4294967296 Y La) (hLa : La <= 1099511627776)  : aF Try.prog Try.f128 4 7 35 w [28, 29, 30, 31, 32, 33, 34] [.c (.pointer (some ⟨ga, 0, none⟩)), .c (.bool s), .c (.slice X1 x2 x3), .c (.slice Y1 y2 y3), .p fun v W => W32 W v (X + Y), .c (.slice Z1 z2 z3), .p fun v W => NumV W v s (X + Y) D] [(2, .pointer (some ⟨ga, 0, none⟩)), (5, .slice X1 x2 x3), (6, .slice Y1 y2 y3), (7, .slice Z1 z2 z3)] := by
 refine aJ [[], [0], [], [], [2, 3], [], [1, 4, 5]] (by kernel_rfl) (by kernel_rfl) rfl ⟨by intro v W W' h hX; exact W32.ext h hX, by intro v W W' h hX; exact NumV.ext h hX, trivial⟩ ?_;simp only [ae, Try.f128, ab, Option.bind_some, Nat.reduceBEq, if_true, if_false, Bool.false_eq_true, Option.getD_some];simp only [List.take_succ_cons, List.take_zero]
 repeat' first | refine ⟨?_, ?_⟩ | fail
 all_goals first | (intro us W b hJ K hK0 hK Qz; simp only [aC, al, am, List.getD_cons_succ, List.getD_cons_zero]) | exact True.intro
 all_goals try (intros; have q0 := Ext.cell hJ s0; go_simp; exact hK0 _ rfl)
 .
  intro e30 e31 e2 e5 e6 e7;go_simp;refine (o8 _ _ X Y La _ (W32.ext hx hJ) (W32.ext hy hJ) fx fy hLa).mono ?_;rintro e w' ⟨v, rfl, hv, hX⟩;exact hK _ _ hv hX
 .
  intro e29 e32 d4 e33 e2 e5 e6 e7;obtain ⟨P1, q1, r1, hv1, g1, _⟩ := W32.open d4;rw [hv1] at e32;go_simp;exact hK0 _ ⟨_, _, rfl, g1, W32.ext hz hJ⟩
theorem pr (ga : Nat) (s : Bool) (X1 Y1 Z1 : Option Addr) (x2 x3 y2 y3 z2 z3 X Y D La : Nat) (w : World) (s0 : w.cell? ⟨ga, 0, none⟩ = some (.bool s)) (hx : W32 w (.slice X1 x2 x3) X) (hy : W32 w (.slice Y1 y2 y3) Y) (hz : W32 w (.slice Z1 z2 z3) D) (fx : Fit 4294967296 X La) (_fy : Fit 4294967296 Y La) (hLa : La <= 1099511627776) (hle : Y <= X) : aF Try.prog Try.f128 6 7 46 w [39, 40, 41, 42, 43, 44, 45] [.c (.pointer (some ⟨ga, 0, none⟩)), .c (.bool s), .c (.slice X1 x2 x3), .c (.slice Y1 y2 y3), .p fun v W => W32 W v (X - Y), .c (.slice Z1 z2 z3), .p fun v W => NumV W v s (X - Y) D] [(2, .pointer (some ⟨ga, 0, none⟩)), (5, .slice X1 x2 x3), (6, .slice Y1 y2 y3), (7, .slice Z1 z2 z3)] := by
 refine aJ [[], [0], [], [], [2, 3], [], [1, 4, 5]] (by kernel_rfl) (by kernel_rfl) rfl ⟨by intro v W W' h hX; exact W32.ext h hX, by intro v W W' h hX; exact NumV.ext h hX, trivial⟩ ?_;simp only [ae, Try.f128, ab, Option.bind_some, Nat.reduceBEq, if_true, if_false, Bool.false_eq_true, Option.getD_some];simp only [List.take_succ_cons, List.take_zero]
 repeat' first | refine ⟨?_, ?_⟩ | fail
 all_goals first | (intro us W b hJ K hK0 hK Qz; simp only [aC, al, am, List.getD_cons_succ, List.getD_cons_zero]) | exact True.intro
 all_goals try (intros; have q0 := Ext.cell hJ s0; go_simp; exact hK0 _ rfl)
 .
  intro e41 e42 e2 e5 e6 e7;go_simp;refine (j0 _ _ X Y La _ (W32.ext hx hJ) (W32.ext hy hJ) fx hle hLa).mono ?_;rintro e w' ⟨v, rfl, hv, hX⟩;exact hK _ _ hv hX
 .
  intro e40 e43 d4 e44 e2 e5 e6 e7;obtain ⟨P1, q1, r1, hv1, g1, _⟩ := W32.open d4;rw [hv1] at e43;go_simp;exact hK0 _ ⟨_, _, rfl, g1, W32.ext hz hJ⟩
theorem ps (gb : Nat) (t : Bool) (X1 Y1 Z1 : Option Addr) (x2 x3 y2 y3 z2 z3 X Y D La : Nat) (w : World) (s0 : w.cell? ⟨gb, 0, none⟩ = some (.bool t)) (hx : W32 w (.slice X1 x2 x3) X) (hy : W32 w (.slice Y1 y2 y3) Y) (hz : W32 w (.slice Z1 z2 z3) D) (_fx : Fit 4294967296 X La) (fy : Fit 4294967296 Y La) (hLa : La <= 1099511627776) (hle : X <= Y) : aF Try.prog Try.f128 7 7 53 w [46, 47, 48, 49, 50, 51, 52] [.c (.pointer (some ⟨gb, 0, none⟩)), .c (.bool t), .c (.slice Y1 y2 y3), .c (.slice X1 x2 x3), .p fun v W => W32 W v (Y - X), .c (.slice Z1 z2 z3), .p fun v W => NumV W v t (Y - X) D] [(3, .pointer (some ⟨gb, 0, none⟩)), (5, .slice X1 x2 x3), (6, .slice Y1 y2 y3), (7, .slice Z1 z2 z3)] := by
 refine aJ [[], [0], [], [], [2, 3], [], [1, 4, 5]] (by kernel_rfl) (by kernel_rfl) rfl ⟨by intro v W W' h hX; exact W32.ext h hX, by intro v W W' h hX; exact NumV.ext h hX, trivial⟩ ?_;simp only [ae, Try.f128, ab, Option.bind_some, Nat.reduceBEq, if_true, if_false, Bool.false_eq_true, Option.getD_some];simp only [List.take_succ_cons, List.take_zero]
 repeat' first | refine ⟨?_, ?_⟩ | fail
 all_goals first | (intro us W b hJ K hK0 hK Qz; simp only [aC, al, am, List.getD_cons_succ, List.getD_cons_zero]) | exact True.intro
 all_goals try (intros; have q0 := Ext.cell hJ s0; go_simp; exact hK0 _ rfl)
 .
  intro e48 e49 e3 e5 e6 e7;go_simp;refine (j0 _ _ Y X La _ (W32.ext hy hJ) (W32.ext hx hJ) fy hle hLa).mono ?_;rintro e w' ⟨v, rfl, hv, hX⟩;exact hK _ _ hv hX
 .
  intro e47 e50 d4 e51 e3 e5 e6 e7;obtain ⟨P1, q1, r1, hv1, g1, _⟩ := W32.open d4;rw [hv1] at e50;go_simp;exact hK0 _ ⟨_, _, rfl, g1, W32.ext hz hJ⟩
theorem ld (va vb : Value) (s t : Bool) (n d m e L M : Nat) (w : World) (ha : NumV w va s n d) (hb : NumV w vb t m e) (f1 : Fit 4294967296 n L) (f2 : Fit 4294967296 d L) (f3 : Fit 4294967296 m M) (f4 : Fit 4294967296 e M) (hLM : L + M <= 1099511627776) (hst : s = t) :
  Calls Try.prog 128 #[va, vb] w (gZ w s (n * e + m * d) (d * e)) := by
 obtain ⟨A1, l1, c1, A2, l2, c2, rfl, h1, h2, _, _⟩ := ha.open;obtain ⟨B1, m1, k1, B2, m2, k2, rfl, h3, h4, _, _⟩ := hb.open;have hL : L <= 1099511627776 := by omega
 have hM : M <= 1099511627776 := by omega
 clear ha hb;have H1 := hid h1;have H2 := hid h2;have H3 := hid h3;have H4 := hid h4;have FX : Hid (Fit 4294967296 (n * e) (L + M)) := f1.mul (by omega) f4;have FY : Hid (Fit 4294967296 (m * d) (L + M)) := by have := f3.mul (by omega) f2; rw [Nat.add_comm] at this; exact this
 have hstb : (s == t) = true := by simpa using hst
 clear hst;clear h1 h2 h3 h4;go_enter Try.func128, Try.ntmps128
 go_wp2_with fail
 have hXw : Ext w (((w.alloc (.cells #[.bool s, .slice A1 l1 c1, .slice A2 l2 c2] 217)).alloc (.cells #[.bool t, .slice B1 m1 k1, .slice B2 m2 k2] 217)).alloc (.cells #[.bool false, .slice none 0 0, .slice none 0 0] 217)) := (((Ext.refl w).alloc _).alloc _).alloc _;have hBA : Blk (((w.alloc (.cells #[.bool s, .slice A1 l1 c1, .slice A2 l2 c2] 217)).alloc (.cells #[.bool t, .slice B1 m1 k1, .slice B2 m2 k2] 217)).alloc (.cells #[.bool false, .slice none 0 0, .slice none 0 0] 217)) w.heap.size 217 #[.bool s, .slice A1 l1 c1, .slice A2 l2 c2] := ((Blk.new w _ _).alloc _).alloc _
 have hBB : Blk (((w.alloc (.cells #[.bool s, .slice A1 l1 c1, .slice A2 l2 c2] 217)).alloc (.cells #[.bool t, .slice B1 m1 k1, .slice B2 m2 k2] 217)).alloc (.cells #[.bool false, .slice none 0 0, .slice none 0 0] 217)) (w.heap.size + 1) 217 #[.bool t, .slice B1 m1 k1, .slice B2 m2 k2] := by
  have := (Blk.new (w.alloc (.cells #[.bool s, .slice A1 l1 c1, .slice A2 l2 c2] 217)) 217 #[.bool t, .slice B1 m1 k1, .slice B2 m2 k2]).alloc (.cells #[.bool false, .slice none 0 0, .slice none 0 0] 217)
  simpa using this
 have hBR : Blk (((w.alloc (.cells #[.bool s, .slice A1 l1 c1, .slice A2 l2 c2] 217)).alloc (.cells #[.bool t, .slice B1 m1 k1, .slice B2 m2 k2] 217)).alloc (.cells #[.bool false, .slice none 0 0, .slice none 0 0] 217)) (w.heap.size + 1 + 1) 217 #[.bool false, .slice none 0 0, .slice none 0 0] := by
  have := Blk.new ((w.alloc (.cells #[.bool s, .slice A1 l1 c1, .slice A2 l2 c2] 217)).alloc (.cells #[.bool t, .slice B1 m1 k1, .slice B2 m2 k2] 217)) 217 #[.bool false, .slice none 0 0, .slice none 0 0]
  simpa using this
 generalize ((w.alloc _).alloc _).alloc _ = w1 at hXw hBA hBB hBR |-;obtain ⟨a0, a1, a2, _, _, _⟩ := hBA.three;obtain ⟨b0, b1, b2, _, _, _⟩ := hBB.three;have HXw := hid hXw;have HBA := hid hBA;have HBB := hid hBB;have HBR := hid hBR;replace H1 := hid (H1.out.ext hXw);replace H2 := hid (H2.out.ext hXw);replace H3 := hid (H3.out.ext hXw);replace H4 := hid (H4.out.ext hXw);clear hXw hBA hBB hBR;refine gB w.heap.size (w.heap.size + 1) s t A1 A2 B1 B2 l1 c1 l2 c2 m1 k1 m2 k2 n d m e L M w1 a0 a1 a2 b0 b1 b2 H1.out H2.out H3.out H4.out f1 f2 f3 f4 hL hM _ _ (by simp) ⟨rfl, rfl, trivial⟩ ?_;rintro W hXW xv4 h4' xv9 h9;simp only [EndK, ae, Try.f128, ab, Option.bind_some, Nat.reduceBEq, if_true, if_false, Bool.false_eq_true, Option.getD_some, List.drop_succ_cons, List.drop_zero];simp only [Act.put, List.setIfInBounds_toArray, List.set_cons_succ, List.set_cons_zero];obtain ⟨X1, x2', x3', rfl, hx, _⟩ := W32.open h4';obtain ⟨Y1, y2', y3', rfl, hy, _⟩ := W32.open h9;obtain ⟨a0, a1, a2, _, _, _⟩ := (HBA.out.ext hXW).three;obtain ⟨b0, b1, b2, _, _, _⟩ := (HBB.out.ext hXW).three;have HX5 := hid hx;have HY5 := hid hy;have HXW := hid hXW;clear hx hy hXW h4' h9
 go_wp2_with fail
 refine (cw _ _ d e L M _ (H2.out.ext HXW.out) (H4.out.ext HXW.out) f2 f4 hL hM).mono ?_;rintro e' w2 ⟨vz, rfl, hz, hX2⟩;obtain ⟨Z1, z2, z3, rfl, hz, _⟩ := W32.open hz;have hX2' := HXW.out.trans hX2;obtain ⟨a0, a1, a2, _, _, _⟩ := (HBA.out.ext hX2').three;obtain ⟨b0, b1, b2, _, _, _⟩ := (HBB.out.ext hX2').three;have HZ := hid hz;have HX6 := hid (HX5.out.ext hX2);have HY6 := hid (HY5.out.ext hX2);have HX2 := hid hX2';clear hz hX2 hX2'
 go_wp2_with fail
 refine pq w.heap.size s X1 Y1 Z1 x2' x3' y2' y3' z2 z3 (n * e) (m * d) (d * e) (L + M) w2 a0 HX6.out HY6.out HZ.out FX.out FY.out hLM _ _ (by simp) ⟨rfl, rfl, rfl, rfl, trivial⟩ ?_;rintro W hXW xv4 h4' xv6 h6;simp only [EndK, ae, Try.f128, ab, Option.bind_some, Nat.reduceBEq, if_true, if_false, Bool.false_eq_true, Option.getD_some, List.drop_succ_cons, List.drop_zero];simp only [Act.put, List.setIfInBounds_toArray, List.set_cons_succ, List.set_cons_zero];obtain ⟨P1, q1, r1, P2, q2, r2, rfl, g1, g2, _, _⟩ := NumV.open h6;clear h4' h6;replace hXW := HX2.out.trans hXW;obtain ⟨y0, y1, y2, f0, f1', f2'⟩ := (HBR.out.ext hXW).three;have HNB := hid (NoInts.three (HBR.out.ext hXW));have G1 := hid g1;have G2 := hid g2;have HXW := hid hXW;clear g1 g2 hXW a0 a1 a2 b0 b1 b2;go_wp2;refine bodyPost_ret (v := .agg #[.bool s, .slice P1 q1 r1, .slice P2 q2 r2]) (by simp [results, Try.results128, go_sem, *]) rfl ?_;exact ⟨_, rfl, ⟨_, _, rfl, G1.out.boxed HNB.out _ _ _ _ _ _ _, G2.out.boxed HNB.out _ _ _ _ _ _ _⟩, Ext.boxed (HXw.out.trans HXW.out) (by omega) _ _ _⟩
theorem pt (va vb : Value) (s t : Bool) (n d m e L M : Nat) (w : World) (ha : NumV w va s n d) (hb : NumV w vb t m e) (f1 : Fit 4294967296 n L) (f2 : Fit 4294967296 d L) (f3 : Fit 4294967296 m M) (f4 : Fit 4294967296 e M) (hLM : L + M <= 1099511627776) (hst : s ≠ t) (hle : m * d <= n * e) :
  Calls Try.prog 128 #[va, vb] w (gZ w s (n * e - m * d) (d * e)) := by
 obtain ⟨A1, l1, c1, A2, l2, c2, rfl, h1, h2, _, _⟩ := ha.open;obtain ⟨B1, m1, k1, B2, m2, k2, rfl, h3, h4, _, _⟩ := hb.open;have hL : L <= 1099511627776 := by omega
 have hM : M <= 1099511627776 := by omega
 clear ha hb;have H1 := hid h1;have H2 := hid h2;have H3 := hid h3;have H4 := hid h4;have FX : Hid (Fit 4294967296 (n * e) (L + M)) := f1.mul (by omega) f4;have FY : Hid (Fit 4294967296 (m * d) (L + M)) := by have := f3.mul (by omega) f2; rw [Nat.add_comm] at this; exact this
 have hstb : (s == t) = false := by simpa using hst
 obtain ⟨cr, hcr, hcr0⟩ : ∃ cr, bL (n * e) (m * d) = cr /\ 0 <= cr := ⟨_, rfl, by unfold bL; rw [if_neg (by omega)]; split <;> omega⟩;have HCR := hid hcr;clear hcr hst;clear h1 h2 h3 h4;go_enter Try.func128, Try.ntmps128
 go_wp2_with fail
 have hXw : Ext w (((w.alloc (.cells #[.bool s, .slice A1 l1 c1, .slice A2 l2 c2] 217)).alloc (.cells #[.bool t, .slice B1 m1 k1, .slice B2 m2 k2] 217)).alloc (.cells #[.bool false, .slice none 0 0, .slice none 0 0] 217)) := (((Ext.refl w).alloc _).alloc _).alloc _;have hBA : Blk (((w.alloc (.cells #[.bool s, .slice A1 l1 c1, .slice A2 l2 c2] 217)).alloc (.cells #[.bool t, .slice B1 m1 k1, .slice B2 m2 k2] 217)).alloc (.cells #[.bool false, .slice none 0 0, .slice none 0 0] 217)) w.heap.size 217 #[.bool s, .slice A1 l1 c1, .slice A2 l2 c2] := ((Blk.new w _ _).alloc _).alloc _
 have hBB : Blk (((w.alloc (.cells #[.bool s, .slice A1 l1 c1, .slice A2 l2 c2] 217)).alloc (.cells #[.bool t, .slice B1 m1 k1, .slice B2 m2 k2] 217)).alloc (.cells #[.bool false, .slice none 0 0, .slice none 0 0] 217)) (w.heap.size + 1) 217 #[.bool t, .slice B1 m1 k1, .slice B2 m2 k2] := by
  have := (Blk.new (w.alloc (.cells #[.bool s, .slice A1 l1 c1, .slice A2 l2 c2] 217)) 217 #[.bool t, .slice B1 m1 k1, .slice B2 m2 k2]).alloc (.cells #[.bool false, .slice none 0 0, .slice none 0 0] 217)
  simpa using this
 have hBR : Blk (((w.alloc (.cells #[.bool s, .slice A1 l1 c1, .slice A2 l2 c2] 217)).alloc (.cells #[.bool t, .slice B1 m1 k1, .slice B2 m2 k2] 217)).alloc (.cells #[.bool false, .slice none 0 0, .slice none 0 0] 217)) (w.heap.size + 1 + 1) 217 #[.bool false, .slice none 0 0, .slice none 0 0] := by
  have := Blk.new ((w.alloc (.cells #[.bool s, .slice A1 l1 c1, .slice A2 l2 c2] 217)).alloc (.cells #[.bool t, .slice B1 m1 k1, .slice B2 m2 k2] 217)) 217 #[.bool false, .slice none 0 0, .slice none 0 0]
  simpa using this
 generalize ((w.alloc _).alloc _).alloc _ = w1 at hXw hBA hBB hBR |-;obtain ⟨a0, a1, a2, _, _, _⟩ := hBA.three;obtain ⟨b0, b1, b2, _, _, _⟩ := hBB.three;have HXw := hid hXw;have HBA := hid hBA;have HBB := hid hBB;have HBR := hid hBR;replace H1 := hid (H1.out.ext hXw);replace H2 := hid (H2.out.ext hXw);replace H3 := hid (H3.out.ext hXw);replace H4 := hid (H4.out.ext hXw);clear hXw hBA hBB hBR;refine gB w.heap.size (w.heap.size + 1) s t A1 A2 B1 B2 l1 c1 l2 c2 m1 k1 m2 k2 n d m e L M w1 a0 a1 a2 b0 b1 b2 H1.out H2.out H3.out H4.out f1 f2 f3 f4 hL hM _ _ (by simp) ⟨rfl, rfl, trivial⟩ ?_;rintro W hXW xv4 h4' xv9 h9;simp only [EndK, ae, Try.f128, ab, Option.bind_some, Nat.reduceBEq, if_true, if_false, Bool.false_eq_true, Option.getD_some, List.drop_succ_cons, List.drop_zero];simp only [Act.put, List.setIfInBounds_toArray, List.set_cons_succ, List.set_cons_zero];obtain ⟨X1, x2', x3', rfl, hx, _⟩ := W32.open h4';obtain ⟨Y1, y2', y3', rfl, hy, _⟩ := W32.open h9;obtain ⟨a0, a1, a2, _, _, _⟩ := (HBA.out.ext hXW).three;obtain ⟨b0, b1, b2, _, _, _⟩ := (HBB.out.ext hXW).three;have HX5 := hid hx;have HY5 := hid hy;have HXW := hid hXW;clear hx hy hXW h4' h9
 go_wp2_with fail
 refine (cw _ _ d e L M _ (H2.out.ext HXW.out) (H4.out.ext HXW.out) f2 f4 hL hM).mono ?_;rintro e' w2 ⟨vz, rfl, hz, hX2⟩;obtain ⟨Z1, z2, z3, rfl, hz, _⟩ := W32.open hz;have hX2' := HXW.out.trans hX2;obtain ⟨a0, a1, a2, _, _, _⟩ := (HBA.out.ext hX2').three;obtain ⟨b0, b1, b2, _, _, _⟩ := (HBB.out.ext hX2').three;have HZ := hid hz;have HX6 := hid (HX5.out.ext hX2);have HY6 := hid (HY5.out.ext hX2);have HX2 := hid hX2';clear hz hX2 hX2'
 go_wp2_with fail
 refine (dR _ _ (n * e) (m * d) _ HX6.out HY6.out).mono ?_;rw [HCR.out];rintro e' w3 ⟨rfl, hX3⟩;have hX3' := HX2.out.trans hX3;obtain ⟨a0, a1, a2, _, _, _⟩ := (HBA.out.ext hX3').three;obtain ⟨b0, b1, b2, _, _, _⟩ := (HBB.out.ext hX3').three;replace HZ := hid (HZ.out.ext hX3);replace HX6 := hid (HX6.out.ext hX3);replace HY6 := hid (HY6.out.ext hX3);replace HX2 := hid hX3';clear hX3 hX3'
 go_wp2_with fail
 refine pr w.heap.size s X1 Y1 Z1 x2' x3' y2' y3' z2 z3 (n * e) (m * d) (d * e) (L + M) w3 a0 HX6.out HY6.out HZ.out FX.out FY.out hLM hle _ _ (by simp) ⟨rfl, rfl, rfl, rfl, trivial⟩ ?_;rintro W hXW xv4 h4' xv6 h6;simp only [EndK, ae, Try.f128, ab, Option.bind_some, Nat.reduceBEq, if_true, if_false, Bool.false_eq_true, Option.getD_some, List.drop_succ_cons, List.drop_zero];simp only [Act.put, List.setIfInBounds_toArray, List.set_cons_succ, List.set_cons_zero];obtain ⟨P1, q1, r1, P2, q2, r2, rfl, g1, g2, _, _⟩ := NumV.open h6;clear h4' h6;replace hXW := HX2.out.trans hXW;obtain ⟨y0, y1, y2, f0, f1', f2'⟩ := (HBR.out.ext hXW).three;have HNB := hid (NoInts.three (HBR.out.ext hXW));have G1 := hid g1;have G2 := hid g2;have HXW := hid hXW;clear g1 g2 hXW a0 a1 a2 b0 b1 b2;go_wp2;refine bodyPost_ret (v := .agg #[.bool s, .slice P1 q1 r1, .slice P2 q2 r2]) (by simp [results, Try.results128, go_sem, *]) rfl ?_;exact ⟨_, rfl, ⟨_, _, rfl, G1.out.boxed HNB.out _ _ _ _ _ _ _, G2.out.boxed HNB.out _ _ _ _ _ _ _⟩, Ext.boxed (HXw.out.trans HXW.out) (by omega) _ _ _⟩
theorem pu (va vb : Value) (s t : Bool) (n d m e L M : Nat) (w : World) (ha : NumV w va s n d) (hb : NumV w vb t m e) (f1 : Fit 4294967296 n L) (f2 : Fit 4294967296 d L) (f3 : Fit 4294967296 m M) (f4 : Fit 4294967296 e M) (hLM : L + M <= 1099511627776) (hst : s ≠ t) (hlt : n * e < m * d) :
  Calls Try.prog 128 #[va, vb] w (gZ w t (m * d - n * e) (d * e)) := by
 obtain ⟨A1, l1, c1, A2, l2, c2, rfl, h1, h2, _, _⟩ := ha.open;obtain ⟨B1, m1, k1, B2, m2, k2, rfl, h3, h4, _, _⟩ := hb.open;have hL : L <= 1099511627776 := by omega
 have hM : M <= 1099511627776 := by omega
 clear ha hb;have H1 := hid h1;have H2 := hid h2;have H3 := hid h3;have H4 := hid h4;have FX : Hid (Fit 4294967296 (n * e) (L + M)) := f1.mul (by omega) f4;have FY : Hid (Fit 4294967296 (m * d) (L + M)) := by have := f3.mul (by omega) f2; rw [Nat.add_comm] at this; exact this
 have hstb : (s == t) = false := by simpa using hst
 obtain ⟨cr, hcr, hcr0⟩ : ∃ cr, bL (n * e) (m * d) = cr /\ cr < 0 := ⟨_, rfl, by rw [cn hlt]; omega⟩;have HCR := hid hcr;clear hcr hst;clear h1 h2 h3 h4;go_enter Try.func128, Try.ntmps128
 go_wp2_with fail
 have hXw : Ext w (((w.alloc (.cells #[.bool s, .slice A1 l1 c1, .slice A2 l2 c2] 217)).alloc (.cells #[.bool t, .slice B1 m1 k1, .slice B2 m2 k2] 217)).alloc (.cells #[.bool false, .slice none 0 0, .slice none 0 0] 217)) := (((Ext.refl w).alloc _).alloc _).alloc _;have hBA : Blk (((w.alloc (.cells #[.bool s, .slice A1 l1 c1, .slice A2 l2 c2] 217)).alloc (.cells #[.bool t, .slice B1 m1 k1, .slice B2 m2 k2] 217)).alloc (.cells #[.bool false, .slice none 0 0, .slice none 0 0] 217)) w.heap.size 217 #[.bool s, .slice A1 l1 c1, .slice A2 l2 c2] := ((Blk.new w _ _).alloc _).alloc _
 have hBB : Blk (((w.alloc (.cells #[.bool s, .slice A1 l1 c1, .slice A2 l2 c2] 217)).alloc (.cells #[.bool t, .slice B1 m1 k1, .slice B2 m2 k2] 217)).alloc (.cells #[.bool false, .slice none 0 0, .slice none 0 0] 217)) (w.heap.size + 1) 217 #[.bool t, .slice B1 m1 k1, .slice B2 m2 k2] := by
  have := (Blk.new (w.alloc (.cells #[.bool s, .slice A1 l1 c1, .slice A2 l2 c2] 217)) 217 #[.bool t, .slice B1 m1 k1, .slice B2 m2 k2]).alloc (.cells #[.bool false, .slice none 0 0, .slice none 0 0] 217)
  simpa using this
 have hBR : Blk (((w.alloc (.cells #[.bool s, .slice A1 l1 c1, .slice A2 l2 c2] 217)).alloc (.cells #[.bool t, .slice B1 m1 k1, .slice B2 m2 k2] 217)).alloc (.cells #[.bool false, .slice none 0 0, .slice none 0 0] 217)) (w.heap.size + 1 + 1) 217 #[.bool false, .slice none 0 0, .slice none 0 0] := by
  have := Blk.new ((w.alloc (.cells #[.bool s, .slice A1 l1 c1, .slice A2 l2 c2] 217)).alloc (.cells #[.bool t, .slice B1 m1 k1, .slice B2 m2 k2] 217)) 217 #[.bool false, .slice none 0 0, .slice none 0 0]
  simpa using this
 generalize ((w.alloc _).alloc _).alloc _ = w1 at hXw hBA hBB hBR |-;obtain ⟨a0, a1, a2, _, _, _⟩ := hBA.three;obtain ⟨b0, b1, b2, _, _, _⟩ := hBB.three;have HXw := hid hXw;have HBA := hid hBA;have HBB := hid hBB;have HBR := hid hBR;replace H1 := hid (H1.out.ext hXw);replace H2 := hid (H2.out.ext hXw);replace H3 := hid (H3.out.ext hXw);replace H4 := hid (H4.out.ext hXw);clear hXw hBA hBB hBR;refine gB w.heap.size (w.heap.size + 1) s t A1 A2 B1 B2 l1 c1 l2 c2 m1 k1 m2 k2 n d m e L M w1 a0 a1 a2 b0 b1 b2 H1.out H2.out H3.out H4.out f1 f2 f3 f4 hL hM _ _ (by simp) ⟨rfl, rfl, trivial⟩ ?_;rintro W hXW xv4 h4' xv9 h9;simp only [EndK, ae, Try.f128, ab, Option.bind_some, Nat.reduceBEq, if_true, if_false, Bool.false_eq_true, Option.getD_some, List.drop_succ_cons, List.drop_zero];simp only [Act.put, List.setIfInBounds_toArray, List.set_cons_succ, List.set_cons_zero];obtain ⟨X1, x2', x3', rfl, hx, _⟩ := W32.open h4';obtain ⟨Y1, y2', y3', rfl, hy, _⟩ := W32.open h9;obtain ⟨a0, a1, a2, _, _, _⟩ := (HBA.out.ext hXW).three;obtain ⟨b0, b1, b2, _, _, _⟩ := (HBB.out.ext hXW).three;have HX5 := hid hx;have HY5 := hid hy;have HXW := hid hXW;clear hx hy hXW h4' h9
 go_wp2_with fail
 refine (cw _ _ d e L M _ (H2.out.ext HXW.out) (H4.out.ext HXW.out) f2 f4 hL hM).mono ?_;rintro e' w2 ⟨vz, rfl, hz, hX2⟩;obtain ⟨Z1, z2, z3, rfl, hz, _⟩ := W32.open hz;have hX2' := HXW.out.trans hX2;obtain ⟨a0, a1, a2, _, _, _⟩ := (HBA.out.ext hX2').three;obtain ⟨b0, b1, b2, _, _, _⟩ := (HBB.out.ext hX2').three;have HZ := hid hz;have HX6 := hid (HX5.out.ext hX2);have HY6 := hid (HY5.out.ext hX2);have HX2 := hid hX2';clear hz hX2 hX2'
 go_wp2_with fail
 refine (dR _ _ (n * e) (m * d) _ HX6.out HY6.out).mono ?_;rw [HCR.out];rintro e' w3 ⟨rfl, hX3⟩;have hX3' := HX2.out.trans hX3;obtain ⟨a0, a1, a2, _, _, _⟩ := (HBA.out.ext hX3').three;obtain ⟨b0, b1, b2, _, _, _⟩ := (HBB.out.ext hX3').three;replace HZ := hid (HZ.out.ext hX3);replace HX6 := hid (HX6.out.ext hX3);replace HY6 := hid (HY6.out.ext hX3);replace HX2 := hid hX3';clear hX3 hX3'
 go_wp2_with fail
 refine ps (w.heap.size + 1) t X1 Y1 Z1 x2' x3' y2' y3' z2 z3 (n * e) (m * d) (d * e) (L + M) w3 b0 HX6.out HY6.out HZ.out FX.out FY.out hLM (Nat.le_of_lt hlt) _ _ (by simp) ⟨rfl, rfl, rfl, rfl, trivial⟩ ?_;rintro W hXW xv4 h4' xv6 h6;simp only [EndK, ae, Try.f128, ab, Option.bind_some, Nat.reduceBEq, if_true, if_false, Bool.false_eq_true, Option.getD_some, List.drop_succ_cons, List.drop_zero];simp only [Act.put, List.setIfInBounds_toArray, List.set_cons_succ, List.set_cons_zero];obtain ⟨P1, q1, r1, P2, q2, r2, rfl, g1, g2, _, _⟩ := NumV.open h6;clear h4' h6;replace hXW := HX2.out.trans hXW;obtain ⟨y0, y1, y2, f0, f1', f2'⟩ := (HBR.out.ext hXW).three;have HNB := hid (NoInts.three (HBR.out.ext hXW));have G1 := hid g1;have G2 := hid g2;have HXW := hid hXW;clear g1 g2 hXW a0 a1 a2 b0 b1 b2;go_wp2;refine bodyPost_ret (v := .agg #[.bool t, .slice P1 q1 r1, .slice P2 q2 r2]) (by simp [results, Try.results128, go_sem, *]) rfl ?_;exact ⟨_, rfl, ⟨_, _, rfl, G1.out.boxed HNB.out _ _ _ _ _ _ _, G2.out.boxed HNB.out _ _ _ _ _ _ _⟩, Ext.boxed (HXw.out.trans HXW.out) (by omega) _ _ _⟩
end Go.Proofs.Ytikhlcgnlbinfaa
