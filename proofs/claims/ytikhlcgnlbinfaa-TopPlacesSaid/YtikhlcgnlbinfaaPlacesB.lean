/- Lemmas of the proof that follows (Places, part 2): walks of functions by contract, and plain lemmas. Conditions: none. -/
import Derived.Test.YtikhlcgnlbinfaaPlacesA
set_option maxRecDepth 100000
set_option maxHeartbeats 4000000
namespace Go.Proofs.Ytikhlcgnlbinfaa
open Lib (hid)
open Go.RowKit
/-- What a call returns that makes a number in memory of its own. -/
def RetOwn (w : World) (n : Nat) (e : Ending) (w' : World) : Prop := ∃ A l c xs, e = .returned (.slice A l c) /\ OwnS .i64 3 w.heap.size w' A l c xs /\ Rep 65536 xs n /\ Ext w w'
theorem RetOwn.n {w : World} {n : Nat} {e : Ending} {w' : World} (h : RetOwn w n e w') : lc .i64 65536 w n e w' := by
 obtain ⟨A, l, c, xs, h1, h2, h3, h4⟩ := h;exact ⟨_, h1, h2.natv h3, h4⟩
theorem lh {A : Option Addr} {n c N base : Nat} {xs : List Int} {w : World} (h : OwnS .i64 3 base w A n c xs) (hd : Dg 65536 xs) (he : am 65536 xs = (N : Int)) :
  Calls Try.prog 173 #[.slice A n c] w fun e w' => ∃ l ys, e = .returned (.slice A l c) /\ OwnS .i64 3 base w A l c ys /\ Rep 65536 ys N /\ w = w' := by
 refine (gL A n c xs w h.ints h.cap.1 h.cap.2).mono ?_;rintro e w' ⟨m, hm, hN, hv, rfl, rfl⟩;exact ⟨m, _, rfl, h.front hm, Rep.of_take hd hv hN he, rfl⟩
theorem li {n m : Int} {c p o : Int} (h : o = n - m + c * p) (_hc0 : 0 <= c) (_hc1 : c <= 1) (_hp : 0 < p) (_ho : o < p) (_hnm : m <= n) : o = n - m := by
 by_cases h1 : c = 0
 .
  rw [h, h1]; omega
 .
  obtain rfl : c = 1 := by omega
  omega
theorem gO (va vb : Value) (n m L : Nat) (w : World) (ha : Z16 w va n) (hb : Z16 w vb m) (fn : Fit 65536 n L) (_hL : L <= 1000000) (hmn : m <= n) :
  Calls Try.prog 172 #[va, vb] w (RetOwn w (n - m)) := by
 obtain ⟨A, la, ca, xs, rfl, hA, hrx, hca, hcam⟩ := ha;obtain ⟨B, lb, cb, ys, rfl, hB, hry, hcb, hcbm⟩ := hb;have hla := fn.len (by omega) hrx;rw [hA.1] at hla
 have hlen : lb <= la := by
  apply Nat.le_of_not_lt;intro h;have := hrx.lt_of_len (by omega) hry (by rw [hA.1, hB.1]; exact h);omega
 have HA := hid hA;have HB := hid hB;have HRX := hid hrx;have HRY := hid hry;have HLA : Hid (xs.length = la) := hA.1;have HLB : Hid (ys.length = lb) := hB.1;have HMN := hid hmn;clear hA hB hrx hry fn hmn;go_enter Try.func172, Try.ntmps172;go_wp2
 go_loopg [5, 6, 7] la (fun g v cy i wr => ∃ (k : Nat) (c : Int) (out : List Int), g = la - k /\ k <= la /\ i = .int .i64 (k : Int) /\ cy = .int .i64 c /\ 0 <= c /\ c <= 1 /\ Hid (wr.ownsRow w.heap.size 3 1 v k (out.map (.int .i64))) /\ Hid (Dg 65536 out) /\ Hid (out.length = k) /\ Hid (am 65536 out = am 65536 (xs.take k) - am 65536 (ys.take k) + c * 65536 ^ k) /\ Hid (Ext w wr))
 case atStart => exact ⟨0, 0, [], rfl, by omega, rfl, rfl, by omega, by omega, World.ownsRow_nil _ _ _ _, Dg.nil, rfl, by simp [Hid, am], Ext.refl w⟩
 case round =>
  obtain ⟨k, c, out, rfl, hk, rfl, rfl, hc0, hc1, HO, HD, HLO, HI, HX⟩ := hrel;have hk0 : (0 : Int) <= (k : Int) := by omega
  have hown := HO.out
  by_cases h1 : k < la
  .
   have h1I : (k : Int) < (la : Int) := by omega
   obtain ⟨b1, o1, x, rfl, hx, hwf, hcx⟩ := (HA.out.ext HX.out).get h1;obtain ⟨hx0, hx1⟩ := HRX.out.1.get hx;have HXX := hid (getD_some hx);clear hx hwf
   by_cases h2 : k < lb
   .
    have h2I : (k : Int) < (lb : Int) := by omega
    obtain ⟨b2, o2, y, rfl, hy, hwf, hcy⟩ := (HB.out.ext HX.out).get h2;obtain ⟨hy0, hy1⟩ := HRY.out.1.get hy;have HYY := hid (getD_some hy);clear hy hwf
    by_cases hs : x - c - y < 0
    .
     have HS : Hid (x - c - y + 65536 = xs.getD k 0 - c - ys.getD k 0 + 65536 * 1) := by show _ = _; rw [HXX.out, HYY.out]; omega
     have HST := hid (cQ HI.out HLO.out HS.out);have HDD := hid (HD.out.append (Dg.one (B := 65536) (x := x - c - y + 65536) ⟨by omega, by omega⟩))
     go_wp2_with (at_builtin; refine ap _ gD rfl _ _ rfl w.heap.size _ k _ rfl (hown.alloc _) _ 1 1 [.int .i64 (x - c - y + 65536)] rfl rfl (At.new _ [_] _) (by simp [Value.oneCell']) (by omega) (by unfold maxLen; omega) (by have := HX.out.size; simp; omega) ?_; intro v1 w1 hown1 hgr1 _; have HO1 := hid hown1; have HX1 := hid (Ext.push HX.out HO.out hgr1); clear hown1 hgr1)
     go_roundg (la - (k + 1))
     case rel => exact ⟨k + 1, 1, out ++ [x - c - y + 65536], rfl, by omega, by go_num, rfl, by omega, by omega, by rw [List.map_append]; exact HO1.out, HDD.out, by rw [List.length_append, HLO.out]; rfl, HST.out, HX1.out⟩
     case measure => omega
    .
     have HS : Hid (x - c - y = xs.getD k 0 - c - ys.getD k 0 + 65536 * 0) := by show _ = _; rw [HXX.out, HYY.out]; omega
     have HST := hid (cQ HI.out HLO.out HS.out);have HDD := hid (HD.out.append (Dg.one (B := 65536) (x := x - c - y) ⟨by omega, by omega⟩))
     go_wp2_with (at_builtin; refine ap _ gD rfl _ _ rfl w.heap.size _ k _ rfl (hown.alloc _) _ 1 1 [.int .i64 (x - c - y)] rfl rfl (At.new _ [_] _) (by simp [Value.oneCell']) (by omega) (by unfold maxLen; omega) (by have := HX.out.size; simp; omega) ?_; intro v1 w1 hown1 hgr1 _; have HO1 := hid hown1; have HX1 := hid (Ext.push HX.out HO.out hgr1); clear hown1 hgr1)
     go_roundg (la - (k + 1))
     case rel => exact ⟨k + 1, 0, out ++ [x - c - y], rfl, by omega, by go_num, rfl, by omega, by omega, by rw [List.map_append]; exact HO1.out, HDD.out, by rw [List.length_append, HLO.out]; rfl, HST.out, HX1.out⟩
     case measure => omega
   .
    have HYY : Hid (ys.getD k 0 = 0) := cO (by rw [HLB.out]; omega)
    by_cases hs : x - c < 0
    .
     have HS : Hid (x - c + 65536 = xs.getD k 0 - c - ys.getD k 0 + 65536 * 1) := by show _ = _; rw [HXX.out, HYY.out]; omega
     have HST := hid (cQ HI.out HLO.out HS.out);have HDD := hid (HD.out.append (Dg.one (B := 65536) (x := x - c + 65536) ⟨by omega, by omega⟩))
     go_wp2_with (at_builtin; refine ap _ gD rfl _ _ rfl w.heap.size _ k _ rfl (hown.alloc _) _ 1 1 [.int .i64 (x - c + 65536)] rfl rfl (At.new _ [_] _) (by simp [Value.oneCell']) (by omega) (by unfold maxLen; omega) (by have := HX.out.size; simp; omega) ?_; intro v1 w1 hown1 hgr1 _; have HO1 := hid hown1; have HX1 := hid (Ext.push HX.out HO.out hgr1); clear hown1 hgr1)
     go_roundg (la - (k + 1))
     case rel => exact ⟨k + 1, 1, out ++ [x - c + 65536], rfl, by omega, by go_num, rfl, by omega, by omega, by rw [List.map_append]; exact HO1.out, HDD.out, by rw [List.length_append, HLO.out]; rfl, HST.out, HX1.out⟩
     case measure => omega
    .
     have HS : Hid (x - c = xs.getD k 0 - c - ys.getD k 0 + 65536 * 0) := by show _ = _; rw [HXX.out, HYY.out]; omega
     have HST := hid (cQ HI.out HLO.out HS.out);have HDD := hid (HD.out.append (Dg.one (B := 65536) (x := x - c) ⟨by omega, by omega⟩))
     go_wp2_with (at_builtin; refine ap _ gD rfl _ _ rfl w.heap.size _ k _ rfl (hown.alloc _) _ 1 1 [.int .i64 (x - c)] rfl rfl (At.new _ [_] _) (by simp [Value.oneCell']) (by omega) (by unfold maxLen; omega) (by have := HX.out.size; simp; omega) ?_; intro v1 w1 hown1 hgr1 _; have HO1 := hid hown1; have HX1 := hid (Ext.push HX.out HO.out hgr1); clear hown1 hgr1)
     go_roundg (la - (k + 1))
     case rel => exact ⟨k + 1, 0, out ++ [x - c], rfl, by omega, by go_num, rfl, by omega, by omega, by rw [List.map_append]; exact HO1.out, HDD.out, by rw [List.length_append, HLO.out]; rfl, HST.out, HX1.out⟩
     case measure => omega
  .
   obtain rfl : la = k := by omega
   have hI := HI.out;rw [List.take_of_length_le (by rw [HLA.out]; omega), List.take_of_length_le (by rw [HLB.out]; omega), HRX.out.2.2, HRY.out.2.2] at hI;have hvl := dD (B := 65536) (by omega) HD.out;rw [HLO.out] at hvl
   have HV : Hid (am 65536 out = ((n - m : Nat) : Int)) := by
    have := li hI hc0 hc1 (aN (by omega) la) hvl (by have := HMN.out; omega);show _ = _;have := HMN.out;omega
   clear hI hown hvl;obtain ⟨A2, c2, rfl⟩ := bi HO.out;have HOS : Hid (OwnS .i64 3 w.heap.size wr A2 la c2 out) := ⟨HO.out, HLO.out, fv HD.out⟩;obtain ⟨hc1', hc2'⟩ := HOS.out.cap
   go_wp2_with fail
   refine (lh HOS.out HD.out HV.out).mono ?_;rintro e _ ⟨l2, ys2, rfl, hv, hr, rfl⟩;have HZ := hid hv;have HR := hid hr;clear hv hr;go_wp2;go_ret;exact ⟨_, _, _, _, rfl, HZ.out, HR.out, HX.out⟩
theorem es (va vb : Value) (n m L : Nat) (w : World) (ha : Z16 w va n) (hb : Z16 w vb m) (fn : Fit 65536 n L) (hL : L <= 1000000) (hmn : m <= n) :
  Calls Try.prog 172 #[va, vb] w (lc .i64 65536 w (n - m)) := (gO va vb n m L w ha hb fn hL hmn).mono fun _ _ h => h.n
/-- n, by the limbs from k on: quotient so far, rest so far. -/
theorem iI {xs out : List Int} {k : Nat} {d rest x : Int} (hx : xs[k]? = some x) (ho : out[k]? = some 0) (_hd : 0 < d) (hI : am 65536 (xs.drop (k + 1)) = am 65536 (out.drop (k + 1)) * d + rest) :
  am 65536 (xs.drop k) = am 65536 ((out.set k ((rest * 65536 + x) / d)).drop k) * d + (rest * 65536 + x) % d := by
 have hk : k < out.length := (List.getElem?_eq_some_iff.1 ho).1;have hs : (out.set k ((rest * 65536 + x) / d))[k]? = some ((rest * 65536 + x) / d) := by simp [hk]
 rw [aH hx, aH hs, List.drop_set_of_lt (by omega), hI];have h := Int.mul_ediv_add_emod (rest * 65536 + x) d;generalize (rest * 65536 + x) / d = q at *;generalize (rest * 65536 + x) % d = r at *;grind
theorem et (va : Value) (n L : Nat) (d : Int) (w : World) (ha : Z16 w va n) (fn : Fit 65536 n L) (_hL : L <= 1000000) (hd0 : 0 < d) (_hd1 : d <= 65536) :
  Calls Try.prog 199 #[va, .int .i64 d] w fun e w' => ∃ v, e = .returned (.tuple #[v, .int .i64 ((n : Int) % d)]) /\ Z16 w' v (n / d.toNat) /\ Ext w w' := by
 obtain ⟨A, la, ca, xs, rfl, hA, hrx, hca, hcam⟩ := ha;have hla := fn.len (by omega) hrx;rw [hA.1] at hla;have HA := hid hA;have HRX := hid hrx;have HLA : Hid (xs.length = la) := hA.1;clear hA hrx fn;have hdz : (d == 0) = false := by simp; omega
 have hdz' : ¬ d = 0 := by omega
 go_enter Try.func199, Try.ntmps199
 go_wp2_with (at_make; refine dC _ gD rfl rfl _ _ rfl w.heap.size _ _ _ _ la la rfl rfl (by omega) (by omega) (Nat.le_refl _) (by omega) (by unfold maxLen; omega) (Nat.le_refl _) ?_; intro w1 hown1 hext1 hsz1)
 have HO1 := hid (OwnS.made hown1);have HX1 := hid hext1;clear hown1 hext1 hsz1
 go_loopg [7, 8] la (fun g r i wr => ∃ (k : Nat) (rest : Int) (out : List Int), k = g /\ k <= la /\ i = .int .i64 ((k : Int) - 1) /\ r = .int .i64 rest /\ 0 <= rest /\ rest < d /\ Hid (OwnS .i64 3 w.heap.size wr (some ⟨w.heap.size, 0, none⟩) la la out) /\ Hid (Dg 65536 out) /\ Hid (out.take k = List.replicate k 0) /\ Hid (am 65536 (xs.drop k) = am 65536 (out.drop k) * d + rest) /\ Hid (Ext w wr))
 case atStart => exact ⟨la, 0, _, rfl, by omega, rfl, rfl, by omega, by omega, HO1.out, Dg.zeros (by omega) _, by simp [Hid], by rw [List.drop_eq_nil_of_le (by rw [HLA.out]; omega), List.drop_eq_nil_of_le (by simp)]; simp [Hid, am], HX1.out⟩
 case round =>
  clear HO1 HX1;obtain ⟨k, rest, out, rfl, hk, rfl, rfl, hr0, hr1, HO, HD, HZ, HI, HX⟩ := hrel
  rcases Nat.eq_zero_or_pos k with h0 | h0
  .
   subst h0;have hI := HI.out;simp only [List.drop_zero] at hI;rw [HRX.out.2.2] at hI
   have hq : (n : Int) % d = rest := by
    rw [hI, Int.add_comm, Int.add_mul_emod_self_right, Int.emod_eq_of_lt hr0 hr1]
   have HQ := hid hq;have hvn := az (B := 65536) (by omega) HD.out
   have HV : Hid (am 65536 out = ((n / d.toNat : Nat) : Int)) := by
    show _ = _;have e : ((d.toNat : Nat) : Int) = d := by omega
    rw [Int.natCast_ediv, e, hI, Int.add_comm, Int.add_mul_ediv_right _ _ hdz', Int.ediv_eq_zero_of_lt hr0 hr1];omega
   clear hI hq hvn;rw [show (((0 : Nat) : Int) - 1) = -1 by omega];obtain ⟨hc1', hc2'⟩ := HO.out.cap
   go_wp2_with fail
   refine (gM HO.out.ints HD.out HV.out hc1' hc2').mono ?_;rintro e _ ⟨v, rfl, hv, rfl⟩;have HZ := hid hv;clear hv;go_wp2
   go_ret2
   exact ⟨_, by rw [HQ.out]; rfl, HZ.out, HX.out⟩
  .
   obtain ⟨j, rfl⟩ : ∃ j, k = j + 1 := ⟨k - 1, by omega⟩;have hkc : ((j + 1 : Nat) : Int) - 1 = (j : Int) := by omega
   rw [hkc];have hj0 : (0 : Int) <= (j : Int) := by omega
   have hjl : (j : Int) < (la : Int) := by omega
   obtain ⟨b1, o1, x, rfl, hx, hwf, hcx⟩ := (HA.out.ext HX.out).get (show j < la by omega);obtain ⟨hx0, hx1⟩ := HRX.out.1.get hx;obtain ⟨g, z, hg, hz, _, hcz, hfz, _, hst⟩ := HO.out.store (j := j) (by omega);obtain rfl : w.heap.size = g := by injection hg with hg; injection hg
   have hz0 : z = 0 := by
    have h1 : (out.take (j + 1))[j]? = some z := by rw [List.getElem?_take, if_pos (by omega)]; exact hz
    rw [HZ.out] at h1;rw [List.getElem?_replicate] at h1;simp at h1;exact h1.symm
   subst hz0;have hs0 : 0 <= rest * 65536 + x := by omega
   have hs1 : rest * 65536 + x < d * 65536 := by omega
   have hq0 : 0 <= (rest * 65536 + x) / d := Int.ediv_nonneg hs0 (by omega);have hq1 : (rest * 65536 + x) / d < 65536 := Int.ediv_lt_of_lt_mul hd0 (by omega);have hm0 := Int.emod_nonneg (rest * 65536 + x) hdz';have hm1 := Int.emod_lt_of_pos (rest * 65536 + x) hd0;have HN := hid (iI hx hz hd0 HI.out);have HOO := hid (hst.out _ (gK ⟨hq0, hq1⟩));have HDD := hid (HD.out.set ⟨hq0, hq1⟩ j)
   have HZZ : Hid ((out.set j ((rest * 65536 + x) / d)).take j = List.replicate j 0) := by
    show _ = _;rw [List.take_set_of_le (by omega)];have h1 : (out.take (j + 1)).take j = out.take j := by rw [List.take_take]; congr 1; omega
    rw [<- h1, HZ.out, List.take_replicate]
    congr 1; omega
   have HXX := hid (HX.out.setCell (p := ⟨w.heap.size, j, none⟩) (Nat.le_refl _) (.int .i64 ((rest * 65536 + x) / d)));have hb1 : rest * 65536 + x <= 9223372036854775807 := by omega
   have hb2 : -9223372036854775808 <= (rest * 65536 + x) / d := by omega
   have hb3 : (rest * 65536 + x) / d <= 9223372036854775807 := by omega
   clear hx hz hg hwf hst;go_wp2;go_roundg j
   case rel => exact ⟨j, _, _, rfl, by omega, by go_num, rfl, hm0, hm1, HOO.out, HDD.out, HZZ.out, HN.out, HXX.out⟩
   case measure => omega
theorem oT {x y : Int} (hx : 0 <= x /\ x < 65536) (hy : 0 <= y /\ y < 65536) : 0 <= x * y /\ x * y <= 4294836225 := by
 have h1 := Int.mul_nonneg hx.1 hy.1;have h2 : x * y <= 65535 * y := Int.mul_le_mul_of_nonneg_right (by omega) hy.1;omega
theorem aR (va vb : Value) (n m La Lb : Nat) (w : World) (ha : Z16 w va n) (hb : Z16 w vb m) (hn : Fit 65536 n La) (hm : Fit 65536 m Lb) (_hL : La <= 1000000) (_hM : Lb <= 1000000) :
  Calls Try.prog 115 #[va, vb] w (lc .i64 65536 w (n * m)) := by
 obtain ⟨A, la, ca, xs, rfl, hA, hrx, hca, hcam⟩ := ha;obtain ⟨B, lb, cb, ys, rfl, hB, hry, hcb, hcbm⟩ := hb;have hla := hn.len (by omega) hrx;have hlb := hm.len (by omega) hry;rw [hA.1] at hla;rw [hB.1] at hlb;have HA := hid hA;have HB := hid hB;have HN := hid hrx;have HM := hid hry;have HLA : Hid (xs.length = la) := hA.1;have HLB : Hid (ys.length = lb) := hB.1;clear hA hB hrx hry hn hm;go_enter Try.func115, Try.ntmps115
 go_wp2_with (at_make; refine dC _ gD rfl rfl _ _ rfl w.heap.size _ _ _ _ (la + lb) (la + lb) rfl rfl (by omega) (by omega) (Nat.le_refl _) (by omega) (by unfold maxLen; omega) (Nat.le_refl _) ?_; intro w1 hown1 hext1 hsz1)
 have HO1 := hid (OwnS.made hown1);have HX1 := hid hext1;clear hown1 hext1 hsz1
 go_loopg [6] la (fun g i wr => ∃ (k : Nat) (out : List Int), g = la - k /\ k <= la /\ i = .int .i64 k /\ Hid (OwnS .i64 3 w.heap.size wr (some ⟨w.heap.size, 0, none⟩) (la + lb) (la + lb) out) /\ Hid (Dg 65536 out) /\ Hid (am 65536 (out.take (k + lb)) = am 65536 (xs.take k) * m) /\ Hid (Ext w wr))
 case atStart => exact ⟨0, _, rfl, by omega, rfl, HO1.out, Dg.zeros (by omega) _, by simp [Hid, am, List.take_replicate, jJ], HX1.out⟩
 case round =>
  clear HO1 HX1;obtain ⟨k, out, rfl, hk, rfl, HO, HD, hI, HX⟩ := hrel
  by_cases hlt : k < la
  .
   obtain ⟨b1, o1, x, hAe, hx, hwf, hcx⟩ := (HA.out.ext HX.out).get hlt;subst hAe;obtain ⟨hx0, hx1⟩ := HN.out.1.get hx;have HXX := hid hx;have hk0 : (0 : Int) <= (k : Int) := by omega
   have hk1 : (k : Int) < (la : Int) := by omega
   have HCX := hid (HA.out.ext HX.out);clear hx hwf hcx;obtain ⟨wo, rfl⟩ : ∃ wo : World, wo = wr := ⟨_, rfl⟩;go_wp2
   go_loopg [7, 8] lb (fun g cy i wr => ∃ (j : Nat) (c : Int) (out : List Int), g = lb - j /\ j <= lb /\ i = .int .i64 j /\ cy = .int .i64 c /\ 0 <= c /\ c <= 65535 /\ Hid (OwnS .i64 3 w.heap.size wr (some ⟨w.heap.size, 0, none⟩) (la + lb) (la + lb) out) /\ Hid (Dg 65536 out) /\ Hid (am 65536 (out.take (k + lb)) + c * 65536 ^ (k + j) = am 65536 (xs.take k) * m + x * am 65536 (ys.take j) * 65536 ^ k) /\ Hid (Ext w wr))
   case atStart => exact ⟨0, 0, out, rfl, by omega, rfl, rfl, by omega, by omega, HO.out, HD.out, by simp [Hid, am]; exact hI.out, HX.out⟩
   case round =>
    clear HO HD hI HX HCX;obtain ⟨j, c, out1, rfl, hj, rfl, rfl, hc0, hc1, HOr, HDr, hI1, HXr⟩ := hrel;obtain ⟨b1', o1', x', hAe, hx, hwf, hcx⟩ := (HA.out.ext HXr.out).get hlt;obtain ⟨rfl, rfl⟩ : b1' = b1 /\ o1' = o1 := by injection hAe with h; injection h with h1 h2; exact ⟨h1.symm, h2.symm⟩
    obtain rfl : x' = x := by have := HXX.out; rw [hx] at this; injection this
    clear hAe hx hwf;have hj0 : (0 : Int) <= (j : Int) := by omega
    have hkj0 : (0 : Int) <= (k : Int) + (j : Int) := by omega
    have hkj2 := IntWalk.i64_in ((k : Int) + (j : Int)) (by omega);have hkj3 : ((k : Int) + (j : Int)).toNat = k + j := by omega
    by_cases hlt2 : j < lb
    .
     obtain ⟨b2, o2, y, hBe, hy, hwf, hcy⟩ := (HB.out.ext HXr.out).get hlt2;subst hBe;obtain ⟨hy0, hy1⟩ := HM.out.1.get hy;have HYY := hid hy;obtain ⟨g, z, hg, hz, hwz, hcz⟩ := HOr.out.get (j := k + j) (by omega);obtain rfl : w.heap.size = g := by injection hg with hg; injection hg
     obtain ⟨hz0, hz1⟩ := HDr.out.get hz;have HZ := hid hz;have hj1 : (j : Int) < (lb : Int) := by omega
     have hkj1 : (k : Int) + (j : Int) < ((la + lb : Nat) : Int) := by omega
     obtain ⟨hp0, hp1⟩ := oT ⟨hx0, hx1⟩ ⟨hy0, hy1⟩;have hw1 := IntWalk.i64_in (x' * y) (by omega);have hw2 := IntWalk.i64_in (x' * y + z) (by omega);have hw3 := IntWalk.i64_in (x' * y + z + c) (by omega);have hs0 : 0 <= (x' * y + z + c) % 65536 /\ (x' * y + z + c) % 65536 < 65536 := by omega
     have hs1 : 0 <= x' * y + z + c := by omega
     have hs2 : x' * y + z + c <= 4294967295 := by omega
     have HI := hid (ld (ys := ys) (s := x' * y + z + c) hI1.out (by omega) (by rw [HOr.out.len]; omega) hz (by simp [List.getD, HYY.out]));have HDD := hid (HDr.out.set hs0 (k + j));clear hy hwf hz hg hwz
     go_wp2_with fail
     go_quiet (fail)
     clear hw1 hw2 hw3 hcx hcy hcz;have HO2 := hid (HOr.out.ext ((Ext.refl wr).drewN nq));have HX2 := hid (HXr.out.drewN nq);generalize wr.drewN nq = w2 at HO2 HX2 |-;obtain ⟨g, z', hg, hz, hwz, hcz, hfz, _, hst⟩ := HO2.out.store (j := k + j) (by omega);obtain rfl : w.heap.size = g := by injection hg with hg; injection hg
     have HS := hid (hst.out _ (gK hs0));clear hz hg hwz hst hs0;generalize x' * y + z + c = s at *;go_wp2;go_roundg (lb - (j + 1))
     case rel => exact ⟨j + 1, s / 65536, _, rfl, by omega, by go_num, rfl, by omega, by omega, HS.out, HDD.out, HI.out, HX2.out.setCell (Nat.le_refl _) _⟩
     case measure => omega
    .
     obtain rfl : j = lb := by omega
     obtain ⟨g, z, hg, hz, hwz, hcz, hfz, _, hst⟩ := HOr.out.store (j := k + j) (by omega);obtain rfl : w.heap.size = g := by injection hg with hg; injection hg
     have hkj1 : (k : Int) + (j : Int) < ((la + j : Nat) : Int) := by omega
     have HS := hid (hst.out c (gK (by omega)));have HDD := hid (HDr.out.set (u := c) (by omega) (k + j));have HI := hid (lf (xs := xs) (V := m) (by have := hI1.out; rw [cB (xs := ys) (by rw [HLB.out]; omega), HM.out.2.2] at this; exact this) rfl (by rw [HOr.out.len]; omega) (by simp [List.getD, HXX.out]));clear hz hg hwz hst hcx;go_wp2;go_roundg (la - (k + 1))
     case rel => exact ⟨k + 1, _, rfl, by omega, by go_num, HS.out, HDD.out, by have := HI.out; rw [show k + j + 1 = k + 1 + j by omega] at this; exact this, HXr.out.setCell (Nat.le_refl _) _⟩
     case measure => omega
  .
   obtain rfl : k = la := by omega
   have HV : Hid (am 65536 out = ((n * m : Nat) : Int)) := by
    have h2 := hI.out;rw [cB (by rw [HO.out.len]; omega), cB (by rw [HLA.out]; omega), HN.out.2.2, <- Int.natCast_mul] at h2;exact h2
   go_wp2_with fail
   refine (gM HO.out.ints HD.out HV.out (by omega) (by omega)).mono ?_;rintro e w' ⟨v, rfl, hv, rfl⟩;have HW := hid hv;clear hv;go_wp2;go_ret;exact ⟨_, rfl, HW.out, HX.out⟩
theorem Blk.at_ {W : World} {t : TypeId} {cs : Array Value} {g : Nat} (hg : W.heap.size = g) : Blk (W.alloc (.cells cs t)) g t cs := hg ▸ Blk.new W t cs
theorem Ext.two {w0 w : World} {g : Nat} (h : Ext w0 w) (hg : w0.heap.size <= g) (x y : Value) : Ext w0 ((w.setCell ⟨g, 0, none⟩ x).setCell ⟨g, 1, none⟩ y) := (h.setCell hg x).setCell hg y
/-- An integer of the reference. -/
def IntZ (w : World) (v : Value) (z : Int) : Prop := ∃ A l c, v = .agg #[.bool (decide (z < 0)), .slice A l c] /\ Z16 w (.slice A l c) z.natAbs
theorem IntZ.ext {w w' : World} {v : Value} {z : Int} (h : IntZ w v z) (he : Ext w w') : IntZ w' v z := by
 obtain ⟨A, l, c, h1, h2⟩ := h;exact ⟨A, l, c, h1, h2.ext he⟩
/-- What a call returns that makes an integer. -/
def dm (w : World) (z : Int) (e : Ending) (w' : World) : Prop := ∃ v, e = .returned v /\ IntZ w' v z /\ Ext w w'
theorem bz {w : World} {v : Value} {n g : Nat} {k : IntKind} {B : Int} (h : NatV k B w v n) (hN : NoInts w g) (i : Nat) (x : Value) : NatV k B (w.setCell ⟨g, i, none⟩ x) v n := by
 obtain ⟨A, m, c, xs, h1, h2, h3⟩ := h;exact ⟨A, m, c, xs, h1, h2.past hN.cell i x, h3⟩
theorem NoInts.two {w : World} {g : Nat} {t : TypeId} {b : Bool} {A1 : Option Addr} {l1 c1 : Nat} (h : Blk w g t #[.bool b, .slice A1 l1 c1]) : NoInts w g :=
 ⟨t, _, h, fun v hv => by
  simp at hv
  rcases hv with rfl | rfl
  .
   exact bx _
  .
   exact bY _ _ _⟩
theorem eu {out : List Int} {k : Nat} {u N : Int} (hl : out.length = k) (hI : am 65536 out + u * 65536 ^ k = N) : am 65536 (out ++ [u % 65536]) + u / 65536 * 65536 ^ (k + 1) = N := by
 rw [cH, hl, Int.pow_succ, <- hI];have h := Int.mul_ediv_add_emod u 65536;generalize u / 65536 = q at *;generalize u % 65536 = r at *;grind
theorem fw (n : Int) (w : World) (_h0 : -9223372036854775808 <= n) (_h1 : n <= 9223372036854775807) :
  Calls Try.prog 111 #[.int .i64 n] w (dm w n) := by
 obtain ⟨N, U, hN0, hN1, hNn, hu, hNu, hNp⟩ : ∃ N U : Int, 0 <= N /\ N <= 9223372036854775808 /\ Hid (N = (n.natAbs : Int)) /\ IntKind.u64.wrap n = U /\ (n < 0 -> IntKind.u64.wrap (-U) = N) /\ (¬ n < 0 -> U = N) := by
  refine ⟨(n.natAbs : Int), IntKind.u64.wrap n, by omega, by omega, rfl, rfl, fun h => ?_, fun h => ?_⟩
  .
   rw [IntKind.wrap_u64, IntKind.wrap_u64]; omega
  .
   rw [IntKind.wrap_u64]; omega
 by_cases hneg : n < 0
 .
  have hw := hNu hneg;have hb := xD (n < 0) hneg;clear hNu hNp;go_enter Try.func111, Try.ntmps111
  go_wp2_with fail
  clear hu hw
  go_loopg [3, 4] N.toNat (fun g s v wr => ∃ (k : Nat) (u : Int) (out : List Int), g = u.toNat /\ s = .int .u64 u /\ 0 <= u /\ u <= 9223372036854775808 /\ k <= 4 /\ Hid (u * 65536 ^ k <= 9223372036854775808) /\ Hid (wr.ownsRow (w.heap.size + 1) 3 1 v k (out.map (.int .i64))) /\ Hid (Dg 65536 out) /\ Hid (out.length = k) /\ Hid (u = 0 -> Nm out) /\ Hid (am 65536 out + u * 65536 ^ k = N) /\ Hid (Blk wr w.heap.size 63 #[.bool false, .slice none 0 0]) /\ Hid (Ext w wr))
  case atStart => exact ⟨0, N, [], rfl, rfl, hN0, hN1, by omega, by simp [Hid]; omega, World.ownsRow_nil _ _ _ _, Dg.nil, rfl, fun _ => Nm.nil, by simp [Hid, am], Blk.new _ _ _, (Ext.refl w).alloc _⟩
  case round =>
   obtain ⟨k, u, out, rfl, rfl, hu0, hu1, hk4, HB, HO, HD, HLO, HNM, HI, KR, HX⟩ := hrel
   by_cases hz : u = 0
   .
    subst hz;have hI := HI.out;rw [Int.zero_mul, Int.add_zero] at hI;obtain ⟨A2, c2, rfl⟩ := bi HO.out;have HOS : Hid (OwnS .i64 3 (w.heap.size + 1) wr A2 k c2 out) := ⟨HO.out, HLO.out, fv HD.out⟩;have HV : Hid (Z16 wr (.slice A2 k c2) n.natAbs) := ⟨A2, k, c2, out, rfl, HOS.out.ints, ⟨HD.out, HNM.out rfl, by rw [hI, hNn.out]⟩, HOS.out.cap.1, HOS.out.cap.2⟩;clear hI HI HNM;have r0 : wr.cell? ⟨w.heap.size, 0, none⟩ = some (.bool false) := KR.out.cell 0;have r1 : wr.cell? ⟨w.heap.size, 1, none⟩ = some (.slice none 0 0) := KR.out.cell 1;have f0 : wr.frozen? ⟨w.heap.size, 0, none⟩ = false := KR.out.free 0;have f1 : wr.frozen? ⟨w.heap.size, 1, none⟩ = false := KR.out.free 1;go_wp2;refine bodyPost_ret (v := .agg #[.bool true, .slice A2 k c2]) (by simp [results, Try.results111, go_sem, *]) rfl ?_;refine ⟨_, rfl, ⟨A2, k, c2, by rw [hb], ?_⟩, HX.out.two (Nat.le_refl _) _ _⟩;have hNI := NoInts.two KR.out;exact bz (bz HV.out hNI 0 _) (hNI.set 0 (bx _)) 1 _
   .
    have hup : 0 < u := by omega
    have hkl : k < 4 := by
     apply Nat.lt_of_not_le;intro h;obtain rfl : k = 4 := by omega
     have := HB.out;rw [show (65536 : Int) ^ 4 = 18446744073709551616 by decide] at this;omega
    have hm0 := Int.emod_nonneg u (show (65536 : Int) ≠ 0 by omega);have hm1 := Int.emod_lt_of_pos u (show (0 : Int) < 65536 by omega);have hw2 := IntWalk.i64_in (u % 65536) (by omega);have HST := hid (eu HLO.out HI.out);have HDD := hid (HD.out.append (Dg.one ⟨hm0, hm1⟩))
    have HBB : Hid (u / 65536 * 65536 ^ (k + 1) <= 9223372036854775808) := by
     show _ <= _;have h2 := HB.out;have h3 : u / 65536 * 65536 <= u := Int.ediv_mul_le u (by omega);have h4 : u / 65536 * 65536 * 65536 ^ k <= u * 65536 ^ k := Int.mul_le_mul_of_nonneg_right h3 (Int.le_of_lt (aN (by omega) k));have h5 : u / 65536 * 65536 ^ (k + 1) = u / 65536 * 65536 * 65536 ^ k := by rw [Int.pow_succ]; grind
     omega
    have HNN : Hid (u / 65536 = 0 -> Nm (out ++ [u % 65536])) := fun h => Nm.snoc (by omega)
    have hown := HO.out;clear hm0 hm1
    go_wp2_with (at_builtin; refine ap _ gD rfl _ _ rfl (w.heap.size + 1) _ k _ rfl (hown.alloc _) _ 1 1 [.int .i64 (u % 65536)] rfl rfl (At.new _ [_] _) (by simp [Value.oneCell']) (by omega) (by unfold maxLen; omega) (by have := KR.out.lt; simp; omega) ?_; intro v1 w1 hown1 hgr1 _; have HO1 := hid hown1; have HX1 := hid (Ext.push HX.out (World.ownsRow.mono' HO.out (Nat.le_succ _)) hgr1); have KR1 := hid ((KR.out.alloc _).grown hgr1 (fun e => by have := (HO.out.lt _ e.symm).1; omega)); clear hown1 hgr1)
    go_roundg (u / 65536).toNat
    case rel => exact ⟨k + 1, u / 65536, out ++ [u % 65536], rfl, rfl, by omega, by omega, by omega, HBB.out, by rw [List.map_append]; exact HO1.out, HDD.out, by rw [List.length_append, HLO.out]; rfl, HNN.out, HST.out, KR1.out, HX1.out⟩
    case measure => omega
 .
  obtain rfl := hNp hneg;have hb := xF (n < 0) hneg;clear hNu hNp;go_enter Try.func111, Try.ntmps111
  go_wp2_with fail
  clear hu
  go_loopg [3, 4] U.toNat (fun g s v wr => ∃ (k : Nat) (u : Int) (out : List Int), g = u.toNat /\ s = .int .u64 u /\ 0 <= u /\ u <= 9223372036854775808 /\ k <= 4 /\ Hid (u * 65536 ^ k <= 9223372036854775808) /\ Hid (wr.ownsRow (w.heap.size + 1) 3 1 v k (out.map (.int .i64))) /\ Hid (Dg 65536 out) /\ Hid (out.length = k) /\ Hid (u = 0 -> Nm out) /\ Hid (am 65536 out + u * 65536 ^ k = U) /\ Hid (Blk wr w.heap.size 63 #[.bool false, .slice none 0 0]) /\ Hid (Ext w wr))
  case atStart => exact ⟨0, U, [], rfl, rfl, hN0, hN1, by omega, by simp [Hid]; omega, World.ownsRow_nil _ _ _ _, Dg.nil, rfl, fun _ => Nm.nil, by simp [Hid, am], Blk.new _ _ _, (Ext.refl w).alloc _⟩
  case round =>
   obtain ⟨k, u, out, rfl, rfl, hu0, hu1, hk4, HB, HO, HD, HLO, HNM, HI, KR, HX⟩ := hrel
   by_cases hz : u = 0
   .
    subst hz;have hI := HI.out;rw [Int.zero_mul, Int.add_zero] at hI;obtain ⟨A2, c2, rfl⟩ := bi HO.out;have HOS : Hid (OwnS .i64 3 (w.heap.size + 1) wr A2 k c2 out) := ⟨HO.out, HLO.out, fv HD.out⟩;have HV : Hid (Z16 wr (.slice A2 k c2) n.natAbs) := ⟨A2, k, c2, out, rfl, HOS.out.ints, ⟨HD.out, HNM.out rfl, by rw [hI, hNn.out]⟩, HOS.out.cap.1, HOS.out.cap.2⟩;clear hI HI HNM;have r0 : wr.cell? ⟨w.heap.size, 0, none⟩ = some (.bool false) := KR.out.cell 0;have r1 : wr.cell? ⟨w.heap.size, 1, none⟩ = some (.slice none 0 0) := KR.out.cell 1;have f0 : wr.frozen? ⟨w.heap.size, 0, none⟩ = false := KR.out.free 0;have f1 : wr.frozen? ⟨w.heap.size, 1, none⟩ = false := KR.out.free 1;go_wp2;refine bodyPost_ret (v := .agg #[.bool false, .slice A2 k c2]) (by simp [results, Try.results111, go_sem, *]) rfl ?_;refine ⟨_, rfl, ⟨A2, k, c2, by rw [hb], ?_⟩, HX.out.two (Nat.le_refl _) _ _⟩;have hNI := NoInts.two KR.out;exact bz (bz HV.out hNI 0 _) (hNI.set 0 (bx _)) 1 _
   .
    have hup : 0 < u := by omega
    have hkl : k < 4 := by
     apply Nat.lt_of_not_le;intro h;obtain rfl : k = 4 := by omega
     have := HB.out;rw [show (65536 : Int) ^ 4 = 18446744073709551616 by decide] at this;omega
    have hm0 := Int.emod_nonneg u (show (65536 : Int) ≠ 0 by omega);have hm1 := Int.emod_lt_of_pos u (show (0 : Int) < 65536 by omega);have hw2 := IntWalk.i64_in (u % 65536) (by omega);have HST := hid (eu HLO.out HI.out);have HDD := hid (HD.out.append (Dg.one ⟨hm0, hm1⟩))
    have HBB : Hid (u / 65536 * 65536 ^ (k + 1) <= 9223372036854775808) := by
     show _ <= _;have h2 := HB.out;have h3 : u / 65536 * 65536 <= u := Int.ediv_mul_le u (by omega);have h4 : u / 65536 * 65536 * 65536 ^ k <= u * 65536 ^ k := Int.mul_le_mul_of_nonneg_right h3 (Int.le_of_lt (aN (by omega) k));have h5 : u / 65536 * 65536 ^ (k + 1) = u / 65536 * 65536 * 65536 ^ k := by rw [Int.pow_succ]; grind
     omega
    have HNN : Hid (u / 65536 = 0 -> Nm (out ++ [u % 65536])) := fun h => Nm.snoc (by omega)
    have hown := HO.out;clear hm0 hm1
    go_wp2_with (at_builtin; refine ap _ gD rfl _ _ rfl (w.heap.size + 1) _ k _ rfl (hown.alloc _) _ 1 1 [.int .i64 (u % 65536)] rfl rfl (At.new _ [_] _) (by simp [Value.oneCell']) (by omega) (by unfold maxLen; omega) (by have := KR.out.lt; simp; omega) ?_; intro v1 w1 hown1 hgr1 _; have HO1 := hid hown1; have HX1 := hid (Ext.push HX.out (World.ownsRow.mono' HO.out (Nat.le_succ _)) hgr1); have KR1 := hid ((KR.out.alloc _).grown hgr1 (fun e => by have := (HO.out.lt _ e.symm).1; omega)); clear hown1 hgr1)
    go_roundg (u / 65536).toNat
    case rel => exact ⟨k + 1, u / 65536, out ++ [u % 65536], rfl, rfl, by omega, by omega, by omega, HBB.out, by rw [List.map_append]; exact HO1.out, HDD.out, by rw [List.length_append, HLO.out]; rfl, HNN.out, HST.out, KR1.out, HX1.out⟩
    case measure => omega
/-- The estimate by the most significant limbs is not too small. -/
theorem gP {r v top vt p : Int} (_hr : r < (top + 1) * p) (hv : vt * p <= v) (hvt : 0 < vt) (hp : 0 < p) (hr0 : 0 <= r) : r / v <= top / vt := by
 have hv0 : 0 < v := Int.lt_of_lt_of_le (Int.mul_pos hvt hp) hv;rw [Int.le_ediv_iff_mul_le hvt];have h1 : r / v * v <= r := Int.ediv_mul_le r (by omega);have h0 : 0 <= r / v := Int.ediv_nonneg hr0 (by omega);have h2 : r / v * (vt * p) <= r / v * v := Int.mul_le_mul_of_nonneg_left hv h0;have h3 : r / v * vt * p < (top + 1) * p := by rw [Int.mul_assoc]; omega
 have h4 : r / v * vt < top + 1 := Int.lt_of_mul_lt_mul_right h3 (by omega);omega
theorem ee {xs : List Int} {k : Nat} {x : Int} (hd : Dg 65536 xs) (_hl : xs.length = k + 1) (hx : xs[k]? = some x) : am 65536 xs < (x + 1) * 65536 ^ k /\ x * 65536 ^ k <= am 65536 xs := by
 have h1 := cg (B := 65536) xs (k := k) (by omega);rw [aH hx, List.drop_eq_nil_of_le (by omega)] at h1;have h2 := dD (B := 65536) (by omega) (hd.take k);have h3 := az (B := 65536) (by omega) (hd.take k);rw [List.length_take, show min k xs.length = k by omega] at h2;simp only [am, Int.mul_zero, Int.add_zero] at h1;rw [h1, Int.add_mul, Int.one_mul, Int.mul_comm x];omega
theorem lj {xs : List Int} {k : Nat} {x y : Int} (hd : Dg 65536 xs) (_hl : xs.length = k + 2) (hx : xs[k + 1]? = some x) (hy : xs[k]? = some y) : am 65536 xs < (x * 65536 + y + 1) * 65536 ^ k := by
 have h1 := cg (B := 65536) xs (k := k) (by omega);rw [aH hy, aH hx, List.drop_eq_nil_of_le (by omega)] at h1;have h2 := dD (B := 65536) (by omega) (hd.take k);rw [List.length_take, show min k xs.length = k by omega] at h2;simp only [am, Int.mul_zero, Int.add_zero] at h1;have h4 : (x * 65536 + y + 1) * 65536 ^ k = 65536 ^ k * (y + 65536 * x) + 65536 ^ k := by grind
 rw [h1, h4];omega
/-- One digit of the quotient: d is the digit, x the limb of the dividend. -/
theorem lk {us q : List Int} {k : Nat} {V R x d : Int} (hx : us[k]? = some x) (hq : k < q.length) (hI : am 65536 (us.drop (k + 1)) = am 65536 (q.drop (k + 1)) * V + R) :
  am 65536 (us.drop k) = am 65536 ((q.set k d).drop k) * V + (R * 65536 + x - d * V) := by
 have hs : (q.set k d)[k]? = some d := by simp [hq]
 rw [aH hx, aH hs, List.drop_set_of_lt (by omega), hI];grind
/-- What comes out. -/
theorem mU {n m f Q R : Nat} (_h : n * f = Q * (m * f) + R) (hR : R < m * f) (hf : 0 < f) : Q = n / m /\ R / f = n % m := by
 have hm : 0 < m := by
  rcases Nat.eq_zero_or_pos m with h0 | h0
  .
   subst h0; simp at hR
  .
   exact h0
 have h1 : R = (n - Q * m) * f := by
  have e : Q * (m * f) = Q * m * f := by rw [Nat.mul_assoc]
  rw [Nat.sub_mul];omega
 have h2 : n - Q * m < m := by
  rw [h1] at hR;exact Nat.lt_of_mul_lt_mul_right hR
 have h3 : Q * m <= n := by
  apply Nat.le_of_mul_le_mul_right _ hf;rw [Nat.mul_assoc]; omega
 have h4 : n = m * Q + (n - Q * m) := by rw [Nat.mul_comm m Q]; omega
 have h5 : n / m = Q := by
  rw [h4, Nat.mul_add_div hm, Nat.div_eq_of_lt h2]; rfl
 refine ⟨h5.symm, ?_⟩;rw [h1, Nat.mul_div_cancel _ hf];have := Nat.div_add_mod n m;rw [h5, Nat.mul_comm] at this;omega
/-- What divide returns. -/
def jh (w : World) (q r : Nat) (e : Ending) (w' : World) : Prop := ∃ vq vr, e = .returned (.tuple #[vq, vr]) /\ Z16 w' vq q /\ Z16 w' vr r /\ Ext w w'
theorem fQ (w : World) (g i : Nat) (u : Value) : w.grownBy (w.setCell ⟨g, i, none⟩ u) (some g) :=
 ⟨rfl, rfl, rfl, by simp, fun k _ hk => heap_setCell_other w ⟨g, i, none⟩ k u (fun e => hk (by simp [e]))⟩
theorem OwnS.far {k : IntKind} {e : TypeId} {base g n c : Nat} {w : World} {A : Option Addr} {xs : List Int} (h : OwnS k e base w A n c xs) (_hg : g < base) (i : Nat) (u : Value) : OwnS k e base (w.setCell ⟨g, i, none⟩ u) A n c xs := by
 refine ⟨World.ownsRow.kept h.own (fQ w g i u) ?_, h.len, h.wf⟩
 rcases hv : (Value.slice A n c).ownBlock with _ | b
 .
  exact .inl rfl
 .
  right
  intro e;injection e with e;have := (h.own.lt b hv).1;omega
theorem pF (b : Bool) (A : Option Addr) (l c : Nat) (w : World) : (Instr.field 63 (.agg #[.bool b, .slice A l c]) 1).run Try.prog w = .ok (.slice A l c) w := by kernel_rfl
theorem gQ {w : World} {x : Int} (h : (Lit.int .i64 x).wf = true) (t : TypeId) : Ints .i64 (w.alloc (.cells #[.int .i64 x] t)) (some ⟨w.heap.size, 0, none⟩) 1 [x] :=
 ⟨rfl, fun y hy => by simp at hy; subst hy; exact h, At.new w [.int .i64 x] t⟩
theorem jP (va vb : Value) (n m : Nat) (w : World) (ha : Z16 w va n) (hb : Z16 w vb m) (h : n < m) :
  Calls Try.prog 169 #[va, vb] w (jh w (n / m) (n % m)) := by
 obtain ⟨A, la, ca, xs, rfl, hA⟩ := ha;obtain ⟨B, lb, cb, ys, rfl, hB⟩ := hb;have HA : Hid (Z16 w (.slice A la ca) n) := ⟨A, la, ca, xs, rfl, hA⟩;have HB : Hid (Z16 w (.slice B lb cb) m) := ⟨B, lb, cb, ys, rfl, hB⟩;have HQ : Hid (n / m = 0 /\ n % m = n) := ⟨Nat.div_eq_of_lt h, Nat.mod_eq_of_lt h⟩;have HC := hid (dj h);clear hA hB h;go_enter Try.func169, Try.ntmps169
 go_wp2_with fail
 refine (aQ _ _ n m _ HA.out HB.out).mono ?_;rw [HC.out];rintro e w1 ⟨rfl, hX⟩;have HX := hid hX;clear hX;go_wp2
 go_ret2
 exact ⟨_, _, rfl, by rw [HQ.out.1]; exact NatV.zero, by rw [HQ.out.2]; exact HA.out.ext HX.out, HX.out⟩
theorem ll (va : Value) (B : Option Addr) (cb : Nat) (y : Int) (n m L : Nat) (w : World) (ha : Z16 w va n) (hB : Ints .i64 w B 1 [y]) (hr : Rep 65536 [y] m) (hcb : 1 <= cb /\ cb <= 9223372036854775807) (fn : Fit 65536 n L) (hL : L <= 1000000) (h : m <= n) :
  Calls Try.prog 169 #[va, .slice B 1 cb] w (jh w (n / m) (n % m)) := by
 obtain ⟨hy, hm⟩ := hr.single (by omega);obtain ⟨hy0, hy1⟩ := hr.1.get (k := 0) rfl;obtain ⟨hcb1, hcb2⟩ := hcb;obtain ⟨A, la, ca, xs, rfl, hA⟩ := ha;have HA : Hid (Z16 w (.slice A la ca) n) := ⟨A, la, ca, xs, rfl, hA⟩;have HB : Hid (Z16 w (.slice B 1 cb) m) := ⟨B, 1, cb, [y], rfl, hB, hr, hcb1, hcb2⟩;have HI := hid hB;have HF := hid fn;obtain ⟨b, o, y', rfl, hyy, _, hc⟩ := hB.get (j := 0) (by omega);obtain rfl : y = y' := by simpa using hyy
 have hyp : 0 < y := by omega
 have hc0 : ¬ cG n m < 0 := by
  unfold cG;rw [if_neg (by omega)];split <;> omega
 obtain ⟨ci, hci⟩ : ∃ c, cG n m = c := ⟨_, rfl⟩;rw [hci] at hc0;have HC := hid hci
 have HQ : Hid (n / y.toNat = n / m /\ (n : Int) % y = ((n % m : Nat) : Int)) := by
  refine ⟨by rw [hy]; simp, ?_⟩;rw [hy]; exact (Int.natCast_emod n m).symm
 have hrr : (n : Int) % y < y := Int.emod_lt_of_pos _ hyp;have hrr0 : 0 <= (n : Int) % y := Int.emod_nonneg _ (by omega)
 have HRM : Hid (n % m < 65536) := by
  show _ < _;have := HQ.out.2;omega
 clear hA hB h hci hr hy hm hyy fn hrr hrr0;go_enter Try.func169, Try.ntmps169
 go_wp2_with fail
 refine (aQ _ _ n m _ HA.out HB.out).mono ?_;rw [HC.out];rintro e w1 ⟨rfl, hX⟩;have HX := hid hX;have hc1 := hX.cell hc;rw [Nat.add_zero] at hc1;clear hX
 go_wp2_with fail
 refine (et _ n L y _ (HA.out.ext HX.out) HF.out hL hyp (by omega)).mono ?_;rw [HQ.out.1, HQ.out.2];rintro e w2 ⟨v, rfl, hv, hX⟩;have HX2 := hid (HX.out.trans hX);have HV := hid hv;clear hX hv hc1 hc;have hrm := HRM.out;generalize hrn : n % m = r at hrm |-;have HRN := hid hrn;clear hrn
 go_wp2_with fail
 refine (fw (r : Int) _ (by omega) (by omega)).mono ?_;rintro e w3 ⟨v3, rfl, hv3, hX⟩;obtain ⟨A3, l3, c3, rfl, hz⟩ := hv3;have HX3 := hid (HX2.out.trans hX);have HV3 := hid (HV.out.ext hX);have HZ := hid hz;have hL := pF (decide ((r : Int) < 0)) A3 l3 c3;clear hX hz;go_wp2
 go_ret2
 exact ⟨_, _, rfl, HV3.out, by rw [HRN.out]; simpa using HZ.out, HX3.out⟩
theorem lm {w : World} {A A' : Option Addr} {n k : Nat} {xs : List Int} (h : Ints .i64 w A n xs) (hA : ∀ w' vs, At w' A vs -> vs.length = n * 1 -> At w' A' (vs.drop (k * 1))) : Ints .i64 w A' (n - k) (xs.drop k) := by
 refine ⟨by rw [List.length_drop, h.1], fun x hx => h.2.1 x (List.mem_of_mem_drop hx), ?_⟩;have := hA w _ h.2.2 (by rw [List.length_map, h.1, Nat.mul_one]);rw [Nat.mul_one, <- List.map_drop] at this;exact this
theorem ji {xs : List Int} {n k : Nat} {x : Int} (h : Rep 65536 xs n) (hl : xs.length = k + 1) (hx : xs[k]? = some x) : 0 < x := by
 obtain ⟨h0, h1⟩ := h.1.get hx;obtain ⟨zs, z, e, hz⟩ := h.2.1.split (by intro e; rw [e] at hl; simp at hl);have h2 : zs.length = k := by rw [e] at hl; simp at hl; omega
 rw [e, List.getElem?_append_right (by omega), h2] at hx;simp at hx;omega
theorem fx (xs : List Int) : ∀ u ∈ xs.map (Value.int .i64), u.oneCell' = true := by
 intro u hu;obtain ⟨x, _, rfl⟩ := List.mem_map.1 hu;rfl
theorem jQ (va : Value) (B : Option Addr) (cb p : Nat) (ys : List Int) (n m L : Nat) (w : World) (ha : Z16 w va n) (hB : Ints .i64 w B (p + 2) ys) (hr : Rep 65536 ys m) (hcb : p + 2 <= cb /\ cb <= 9223372036854775807) (fn : Fit 65536 n L) (_hL : L <= 400000) (h : m <= n) :
  Calls Try.prog 169 #[va, .slice B (p + 2) cb] w (jh w (n / m) (n % m)) := by
 obtain ⟨hcb1, hcb2⟩ := hcb;obtain ⟨A, la, ca, xs, rfl, hA⟩ := ha;have fm := fn.le h;have hpl : p + 2 <= L := by have := fm.len (by omega) hr; rw [hB.1] at this; exact this
 have HA : Hid (Z16 w (.slice A la ca) n) := ⟨A, la, ca, xs, rfl, hA⟩;have HB : Hid (Z16 w (.slice B (p + 2) cb) m) := ⟨B, p + 2, cb, ys, rfl, hB, hr, hcb1, hcb2⟩;have HFN := hid fn;have HFM := hid fm;have HMN := hid h;obtain ⟨b, o, yt, rfl, hyt, hwf0, hc⟩ := hB.get (j := p + 1) (by omega);obtain ⟨hy0, hy1⟩ := hr.1.get hyt
 have hytp : 0 < yt := by
  have h1 : ys ≠ [] := by intro e; have := hB.1; rw [e] at this; simp at this
  obtain ⟨zs, z, e, hz⟩ := hr.2.1.split h1;have h2 : zs.length = p + 1 := by have := hB.1; rw [e] at this; simp at this; omega
  rw [e, List.getElem?_append_right (by omega), h2] at hyt;simp at hyt;omega
 have hc0 : ¬ cG n m < 0 := by
  unfold cG;rw [if_neg (by omega)];split <;> omega
 obtain ⟨ci, hci⟩ : ∃ c, cG n m = c := ⟨_, rfl⟩;rw [hci] at hc0;have HC := hid hci;have HIB := hid hB;have HRB := hid hr;obtain ⟨f, hf⟩ : ∃ f, 65536 / (yt + 1) = f := ⟨_, rfl⟩;have hf0 : 1 <= f := by rw [<- hf]; exact (Int.le_ediv_iff_mul_le (by omega)).2 (by omega)
 have hf1 : f < 65536 := by rw [<- hf]; exact (Int.ediv_lt_iff_lt_mul (by omega)).2 (by omega)
 have hyz : ¬ yt + 1 = 0 := by omega
 have HFE := hid hf;clear hA hB h hci hr fn fm hyt hwf0;go_enter Try.func169, Try.ntmps169
 go_wp2_with fail
 refine (aQ _ _ n m _ HA.out HB.out).mono ?_;rw [HC.out];rintro e w1 ⟨rfl, hX⟩;have HX := hid hX;have hc1 := hX.cell hc;clear hX hc
 go_upto_region 7 with (fail)
 have HX2 := hid (HX.out.alloc (.cells #[.int .i64 f] 3));have HF1 : Hid (Z16 (w1.alloc (.cells #[.int .i64 f] 3)) (.slice (some ⟨w1.heap.size, 0, none⟩) 1 1) f.toNat) := ⟨_, 1, 1, [f], rfl, gQ (gK (by omega)) _, Rep.small (by omega) (by omega), by omega, by omega⟩;have HC1 : Hid ((w1.alloc (.cells #[.int .i64 f] 3)).cell? ⟨w1.heap.size, 0, none⟩ = some (.int .i64 f)) := (Blk.new w1 3 #[.int .i64 f]).cell 0;clear hc1;generalize w1.alloc _ = w2 at HX2 HF1 HC1 |-;generalize w1.heap.size = gf at HF1 HC1 |-;have hff : Fit 65536 f.toNat 1 := by unfold Fit; rw [Int.pow_succ, Int.pow_zero]; omega
 have HFF := hid hff;clear hff hf
 go_wp2_with fail
 refine (aR _ _ n f.toNat L 1 _ (HA.out.ext HX2.out) HF1.out HFN.out HFF.out (by omega) (by omega)).mono ?_;rintro e w3 ⟨vu, rfl, hu, hX⟩;have HX3 := hid (HX2.out.trans hX);have HU := hid hu;have HF2 := hid (HF1.out.ext hX);have HC2 := hid (hX.cell HC1.out);clear hX hu HF1 HC1
 go_wp2_with fail
 refine (aR _ _ m f.toNat L 1 _ (HB.out.ext HX3.out) HF2.out HFM.out HFF.out (by omega) (by omega)).mono ?_;rintro e w4 ⟨vv, rfl, hv, hX⟩;have HX4 := hid (HX3.out.trans hX);have HU4 := hid (HU.out.ext hX);have HC4 := hid (hX.cell HC2.out);clear hX HU HF2 HC2;obtain ⟨Au, lu, cu, us, rfl, hIu, hRu, hcu1, hcu2⟩ := HU4.out;obtain ⟨Av, lv, cv, vs, rfl, hIv, hRv, hcv1, hcv2⟩ := hv;have hfn : 0 < f.toNat := by omega
 have hvu : m * f.toNat <= n * f.toNat := Nat.mul_le_mul_right _ HMN.out;have hFu : Fit 65536 (n * f.toNat) (L + 1) := HFN.out.mul (by omega) HFF.out;have hlu : lu <= L + 1 := by have := hFu.len (by omega) hRu; rw [hIu.1] at this; exact this
 have hlen : lv <= lu := by
  apply Nat.le_of_not_lt;intro h;have := hRu.lt_of_len (by omega) hRv (by rw [hIu.1, hIv.1]; exact h);omega
 have hmv : m <= m * f.toNat := Nat.le_mul_of_pos_right _ hfn
 have hlv : p + 2 <= lv := by
  apply Nat.le_of_not_lt;intro h;have := hRv.lt_of_len (by omega) HRB.out (by rw [hIv.1, HIB.out.1]; exact h);omega
 obtain ⟨V, hV⟩ : ∃ V, m * f.toNat = V := ⟨_, rfl⟩;obtain ⟨U, hU⟩ : ∃ U, n * f.toNat = U := ⟨_, rfl⟩;rw [hU] at hvu hFu hRu;rw [hV] at hvu hmv hRv;have HVE := hid hV;have HUE := hid hU;have HIU := hid hIu;have HRU := hid hRu;have HIV := hid hIv;have HRV := hid hRv;have HFU := hid hFu;have HVU := hid hvu;clear hV hU hIu hRu hIv hRv HU4 hFu hvu hmv hfn;obtain ⟨d, hd1, hd2⟩ : ∃ d, lu <= lv + d /\ lv + d <= lu := ⟨lu - lv, by omega⟩;obtain ⟨r, hr1, hr2⟩ : ∃ r, lv <= r + 2 /\ r + 2 <= lv := ⟨lv - 2, by omega⟩;have HYT := hid (And.intro hytp (And.intro hy0 hy1));clear hlen hlv hc0 hyz hytp hy0 hy1
 go_upto_region 9 with (at_make; refine dC _ gD rfl rfl _ _ rfl w4.heap.size _ _ _ _ (d + 1) (d + 1) rfl rfl (by omega) (by omega) (Nat.le_refl _) (by omega) (by unfold maxLen; omega) (Nat.le_refl _) ?_; intro w5 hown5 hext5 hsz5)
 have HQ5 := hid (OwnS.made hown5);have HX5 := hid hext5;clear hown5 hext5;have HU5 := hid (HIU.out.ext HX5.out)
 go_wp2_with (first | (refine gE (o := ⟨some 69, _, _, _, _, _⟩) _ gD rfl _ _ rfl Au lu cu rfl _ _ (d + 1) rfl (by omega) (by omega) hcu1 ?_; intro A5 hA5; have HI5 := hid (lm HU5.out hA5); clear hA5) | (at_builtin; refine ap (o := ⟨some 70, _, _, _, _, _⟩) _ gD rfl _ _ rfl w5.heap.size (.slice (some ⟨w5.heap.size, 0, none⟩) 0 0) 0 [] rfl (World.ownsRow_lit w5 #[] 0 (Nat.le_refl _) (by unfold maxLen; omega) rfl) A5 (lu - (d + 1)) (cu - (d + 1)) ((us.drop (d + 1)).map (.int .i64)) rfl (by rw [List.length_map, Nat.mul_one]; exact HI5.out.1) (HI5.out.ext ((Ext.refl w5).alloc _)).2.2 (fx _) (by omega) (by unfold maxLen; omega) (by simp) ?_; intro v6 w6 hown6 hgr6 hloc6; clear hloc6; have HO6 := hid hown6; have HG6 := hid (Ext.app ((Ext.refl w5).alloc _) (World.ownsRow_lit (size := 1) (e := 3) w5 #[] 0 (Nat.le_refl _) (by unfold maxLen; omega) rfl) hgr6); clear hown6 hgr6))
 obtain ⟨A6, c6, rfl⟩ := bi HO6.out;have hw : Dg 65536 (us.drop (d + 1)) := HRU.out.1.drop _;have hdl : (us.drop (d + 1)).length = lu - (d + 1) := by rw [List.length_drop, HIU.out.1]
 have HOS6 : Hid (OwnS .i64 3 w5.heap.size w6 A6 (0 + (lu - (d + 1))) c6 (us.drop (d + 1))) := ⟨by simpa using HO6.out, by rw [hdl]; omega, fv hw⟩;obtain ⟨R0, hR0⟩ : ∃ R : Nat, am 65536 (us.drop (d + 1)) = (R : Int) := ⟨(am 65536 (us.drop (d + 1))).toNat, by have := az (B := 65536) (by omega) hw; omega⟩
 have hRV : (R0 : Int) < (V : Int) := by
  have h1 := dD (B := 65536) (by omega) hw;rw [hdl, hR0] at h1;have h2 := eo (B := 65536) (by omega) HRV.out.1 HRV.out.2.1 (by intro e; have := HIV.out.1; rw [e] at this; simp at this; omega);rw [HRV.out.2.2, HIV.out.1] at h2;have h3 : lu - (d + 1) = lv - 1 := by omega
  rw [h3] at h1;omega
 have HDW := hid hw;have HR0 := hid hR0;have HRV0 : Hid (R0 < V) := by show _ < _; omega
 clear hw hdl hR0 hRV HO6;refine (lh HOS6.out HDW.out HR0.out).mono ?_;rintro e _ ⟨l7, zs7, rfl, hO7, hR7, rfl⟩;have HO7 := hid hO7;have HR7 := hid hR7;clear hO7 hR7 HOS6;have HQ6 := hid (HQ5.out.ext HG6.out);have HX6 := hid (HX5.out.trans HG6.out);have hsz : w4.heap.size + 1 <= w5.heap.size := by omega
 have HO7' := hid (HO7.out.mono hsz);obtain ⟨gq, hgq⟩ : ∃ g, w4.heap.size = g := ⟨_, rfl⟩;rw [hgq] at HQ6 HO7' |-;have HGQ := hid hgq;clear hgq hsz hsz5 HQ5 HX5 HU5 HI5 HG6 HO7
 go_wp2_with fail
 go_loopg [12, 13] (d + 1) (fun g s12 s13 wr => ∃ (k R l : Nat) (Ar : Option Addr) (cr : Nat) (zs q : List Int), k = g /\ k <= d + 1 /\ s13 = .int .i64 ((k : Int) - 1) /\ s12 = .slice Ar l cr /\ Hid (OwnS .i64 3 (gq + 1) wr Ar l cr zs) /\ Hid (Rep 65536 zs R) /\ Hid (R < V) /\ Hid (OwnS .i64 3 gq wr (some ⟨gq, 0, none⟩) (d + 1) (d + 1) q) /\ Hid (Dg 65536 q) /\ Hid (am 65536 (us.drop k) = am 65536 (q.drop k) * V + R) /\ Hid (Ext w4 wr))
 case atStart => exact ⟨d + 1, R0, l7, A6, c6, zs7, _, rfl, Nat.le_refl _, congrArg (Value.int IntKind.i64) (by omega), rfl, HO7'.out, HR7.out, HRV0.out, HQ6.out, Dg.zeros (by omega) _, by show _ = _; rw [HR0.out, List.drop_eq_nil_of_le (by simp)]; simp [am], HX6.out⟩
 case round =>
  clear HO7' HR7 HRV0 HQ6 HR0 HX6 HDW;obtain ⟨k, R, l, Ar, cr, zs, q, rfl, hk, rfl, rfl, HO, HR, HRV', HQ, HD, HI, HX'⟩ := hrel
  have hll : l <= lv := by
   have h1 := HRV.out.lt (by omega);rw [HIV.out.1] at h1;have h2 := HR.out.len_le (by omega) (L := lv) (by have := HRV'.out; omega);rw [HO.out.len] at h2;exact h2
  obtain ⟨hcr1, hcr2⟩ := HO.out.cap
  rcases Nat.eq_zero_or_pos k with h0 | h0
  .
   subst h0
   as_aux_lemma =>
    have hI := HI.out;simp only [List.drop_zero] at hI;rw [HRU.out.2.2] at hI;have hvn := az (B := 65536) (by omega) HD.out;obtain ⟨Qq, hQq⟩ : ∃ Q : Nat, am 65536 q = (Q : Int) := ⟨_, (Int.toNat_of_nonneg hvn).symm⟩;rw [hQq] at hI
    have hIn : U = Qq * V + R := by
     have : (U : Int) = ((Qq * V + R : Nat) : Int) := by rw [hI]; simp
     exact Int.ofNat.inj this
    have hend := mU (n := n) (m := m) (f := f.toNat) (Q := Qq) (R := R) (by rw [HUE.out, HVE.out]; exact hIn) (by rw [HVE.out]; exact HRV'.out) (by omega);have HEND := hid hend;have HQq := hid hQq;have hcf : wr.cell? ⟨gf, 0, none⟩ = some (.int .i64 f) := HX'.out.cell HC4.out;have HFR := hid (HFU.out.le (show R <= U by have := HRV'.out; have := HVU.out; omega));clear hI hvn hQq hIn hend;rw [show (((0 : Nat) : Int) - 1) = -1 by omega]
    go_wp2_with fail
    refine (et _ R (L + 1) f _ ⟨Ar, l, cr, zs, rfl, HO.out.ints, HR.out, hcr1, hcr2⟩ HFR.out (by omega) (by omega) (by omega)).mono ?_;rintro e w8 ⟨v8, rfl, hv8, hX8⟩;have HV8 := hid hv8;have HX8 := hid (HX'.out.trans hX8);have HQ8 := hid (HQ.out.ext hX8);clear hv8 hX8 hcf;generalize (R : Int) % f = rm
    go_wp2_with fail
    refine (gM HQ8.out.ints HD.out HQq.out (by omega) (by omega)).mono ?_;rintro e _ ⟨v9, rfl, hv9, rfl⟩;have HV9 := hid hv9;clear hv9;go_wp2
    go_ret2
    exact ⟨_, _, rfl, by rw [<- HEND.out.1]; exact HV9.out, by rw [<- HEND.out.2]; exact HV8.out, HX4.out.trans HX8.out⟩
  .
   obtain ⟨j, rfl⟩ : ∃ j, k = j + 1 := ⟨k - 1, by omega⟩;rw [show (((j + 1 : Nat) : Int) - 1) = (j : Int) by omega];have hj0 : (0 : Int) <= (j : Int) := by omega
   have hjl : (j : Int) < (lu : Int) := by omega
   obtain ⟨bu, ou, x, rfl, hx, hwf1, hcx⟩ := (HIU.out.ext HX'.out).get (show j < lu by omega);obtain ⟨hx0, hx1⟩ := HRU.out.1.get hx;have HXU := hid hx;have HIr := hid HO.out.ints;clear hx hwf1
   go_wp2_with (first | (at_builtin; refine ap (o := ⟨some 87, _, _, _, _, _⟩) _ gD rfl _ _ rfl wr.heap.size (.slice (some ⟨wr.heap.size, 0, none⟩) 1 1) 1 [.int .i64 x] rfl (World.ownsRow_lit (size := 1) (e := 3) wr #[.int .i64 x] 1 (Nat.le_refl _) (by unfold maxLen; omega) rfl) Ar l cr (zs.map (.int .i64)) rfl (by rw [List.length_map, Nat.mul_one]; exact HO.out.len) (HIr.out.ext ((Ext.refl wr).alloc _)).2.2 (fx _) (by omega) (by unfold maxLen; omega) (by simp) ?_; intro v8 w8 hown8 hgr8 hloc8; clear hloc8; have HO8 := hid hown8; have HG8 := hid (Ext.app ((Ext.refl wr).alloc _) (World.ownsRow_lit (size := 1) (e := 3) wr #[.int .i64 x] 1 (Nat.le_refl _) (by unfold maxLen; omega) rfl) hgr8); clear hown8 hgr8))
   obtain ⟨A8, c8, rfl⟩ := bi HO8.out;have hdx : Dg 65536 (x :: zs) := Dg.cons ⟨hx0, hx1⟩ HR.out.1;have HOS8 : Hid (OwnS .i64 3 wr.heap.size w8 A8 (1 + l) c8 (x :: zs)) := ⟨by simpa using HO8.out, by rw [List.length_cons, HO.out.len]; omega, fv hdx⟩;obtain ⟨R', hR'⟩ : ∃ R' : Nat, (R : Int) * 65536 + x = (R' : Int) := ⟨R * 65536 + x.toNat, by omega⟩
   have HVR : Hid (am 65536 (x :: zs) = (R' : Int)) := by
    show x + 65536 * am 65536 zs = _;rw [HR.out.2.2]; omega
   have HDX := hid hdx;clear hdx HO8;refine (lh HOS8.out HDX.out HVR.out).mono ?_;rintro e _ ⟨l9, zs9, rfl, hO9, hR9, rfl⟩;have HO9 := hid hO9;have HR9 := hid hR9;have HX8 := hid (HX'.out.trans HG8.out);have HQ8 := hid (HQ.out.ext HG8.out);have HRR := hid hR';have HIV8 := hid (HIV.out.ext HX8.out);clear hO9 hR9 HOS8 hcx hR'
   go_upto_if 93 with (fail)
   have hV1 : 0 < V := by have := HRV'.out; omega
   have HLT : Hid ((R' : Int) < (V : Int) * 65536) := by
    show _ < _;have h1 := HRV'.out;have h2 := HRR.out;omega
   have hl9 : l9 <= lv + 1 := by
    have h1 := HRV.out.lt (by omega);rw [HIV.out.1] at h1;have h2 := HR9.out.len_le (by omega) (L := lv + 1) (by rw [Int.pow_succ]; have := HLT.out; omega);rw [HO9.out.len] at h2;exact h2
   generalize hbb : decide (lv <= l9) = bb;have HBB := hid hbb;clear hbb
   go_cut [14] (fun s14 W => ∃ gs : Int, s14 = .int .i64 gs /\ 0 <= gs /\ gs <= 65535 /\ Hid ((R' : Int) / (V : Int) <= gs) /\ w8 = W)
   case first =>
    as_aux_lemma =>
     have hlow := eo (B := 65536) (by omega) HRV.out.1 HRV.out.2.1 (by intro e; have := HIV.out.1; rw [e] at this; simp at this; omega);rw [HRV.out.2.2, HIV.out.1] at hlow
     have hcc : (bb = false /\ l9 < lv) \/ (bb = true /\ l9 = lv) \/ (bb = true /\ l9 = lv + 1) := by
      have h := HBB.out
      cases bb
      .
       left; exact ⟨rfl, by simpa using h⟩
      .
       right
       have : lv <= l9 := by simpa using h
       rcases (show l9 = lv \/ l9 = lv + 1 by omega) with h | h
       .
        exact .inl ⟨rfl, h⟩
       .
        exact .inr ⟨rfl, h⟩
     clear HBB
     rcases hcc with ⟨rfl, hc⟩ | ⟨rfl, hc⟩ | ⟨rfl, hc⟩
     .
      have HZ0 : Hid ((R' : Int) / (V : Int) <= 0) := by
       show _ <= _;have h1 := HR9.out.lt (by omega);rw [HO9.out.len] at h1;have h2 := ep (B := 65536) (a := l9) (b := lv - 1) (by omega) (by omega);rw [Int.ediv_eq_zero_of_lt (by omega) (by omega)];omega
      clear hlow;go_wp2
      go_meet
      exact ⟨0, rfl, by omega, by omega, HZ0.out, rfl⟩
     .
      obtain rfl : lv = r + 2 := by omega
      subst hc;obtain ⟨bv, ov, vt, rfl, hvt, _, hcv⟩ := HIV8.out.get (j := r + 1) (by omega);obtain ⟨hv0, hv1⟩ := HRV.out.1.get hvt;obtain ⟨g8, z, rfl, hz, _, hcz⟩ := HO9.out.get (j := r + 1) (by omega);obtain ⟨hz0, hz1⟩ := HR9.out.1.get hz;have hvp := ji HRV.out (by rw [HIV.out.1]) hvt;have hge := gP (ee HR9.out.1 (by rw [HO9.out.len]) hz).1 (by have := (ee HRV.out.1 (by rw [HIV.out.1]) hvt).2; rw [HRV.out.2.2] at this; exact this) hvp (aN (by omega) _) (by rw [HR9.out.2.2]; omega);rw [HR9.out.2.2] at hge;have HGE := hid hge;have hq0 : 0 <= z / vt := Int.ediv_nonneg hz0 (by omega);have hq1 : z / vt <= z := Int.ediv_le_self _ hz0;have hvz : ¬ vt = 0 := by omega
      clear hlow hvt hz hge;have hbig : ¬ 65536 <= z / vt := by omega
      clear hq1;go_wp2
      go_meet
      exact ⟨z / vt, rfl, hq0, by omega, HGE.out, rfl⟩
     .
      obtain rfl : lv = r + 2 := by omega
      obtain rfl : l9 = r + 3 := by omega
      clear hc;obtain ⟨bv, ov, vt, rfl, hvt, _, hcv⟩ := HIV8.out.get (j := r + 1) (by omega);obtain ⟨hv0, hv1⟩ := HRV.out.1.get hvt;obtain ⟨g8, z, rfl, hz, _, hcz⟩ := HO9.out.get (j := r + 2) (by omega);obtain ⟨hz0, hz1⟩ := HR9.out.1.get hz;obtain ⟨g9, y, hg9, hy, _, hcy⟩ := HO9.out.get (j := r + 1) (by omega);obtain rfl : g8 = g9 := by injection hg9 with h; injection h
      obtain ⟨hy0, hy1⟩ := HR9.out.1.get hy;have hvp := ji HRV.out (by rw [HIV.out.1]) hvt;have hge := gP (lj HR9.out.1 (by rw [HO9.out.len]) hz hy) (by have := (ee HRV.out.1 (by rw [HIV.out.1]) hvt).2; rw [HRV.out.2.2] at this; exact this) hvp (aN (by omega) _) (by rw [HR9.out.2.2]; omega);rw [HR9.out.2.2] at hge;have HGE := hid hge;have hq0 : 0 <= (z * 65536 + y) / vt := Int.ediv_nonneg (by omega) (by omega);have hq1 : (z * 65536 + y) / vt <= z * 65536 + y := Int.ediv_le_self _ (by omega);have hs0 : 0 <= z * 65536 + y := by omega
      have hvz : ¬ vt = 0 := by omega
      have HDG : Hid ((R' : Int) / (V : Int) <= 65535) := by
       show _ <= _;have h1 := HLT.out;have h2 : (R' : Int) / (V : Int) < 65536 := (Int.ediv_lt_iff_lt_mul (by omega)).2 (by omega);omega
      clear hlow hvt hz hy hge hg9
      by_cases hbig : 65536 <= (z * 65536 + y) / vt
      .
       go_wp2
       go_meet
       exact ⟨65535, rfl, by omega, by omega, HDG.out, rfl⟩
      .
       go_wp2
       go_meet
       exact ⟨(z * 65536 + y) / vt, rfl, hq0, by omega, HGE.out, rfl⟩
   case rest =>
    obtain ⟨gs, rfl, hgs0, hgs1, HGS, rfl⟩ := hcut;clear HBB hl9;obtain ⟨G0, hG0, hG1⟩ : ∃ G : Nat, gs = (G : Int) /\ G <= 65535 := ⟨gs.toNat, by omega, by omega⟩;subst hG0
    have HGD : Hid (R' / V <= G0) := by
     show _ <= _;have := HGS.out;rw [<- Int.natCast_ediv] at this;omega
    clear HGS hgs0 hgs1;have HFV := hid (HFU.out.le HVU.out);have HFG : Hid (Fit 65536 65535 1) := by show Fit _ _ _; unfold Fit; rw [Int.pow_succ, Int.pow_zero]; omega
    have HONE : Hid (Ints .i64 (w8.alloc (.cells #[.int .i64 (G0 : Int)] 3)) (some ⟨w8.heap.size, 0, none⟩) 1 [(G0 : Int)]) := gQ (gK (by omega)) _;have HD1 : Hid (Dg 65536 [(G0 : Int)]) := Dg.one (by omega);have HV1' : Hid (am 65536 [(G0 : Int)] = (G0 : Int)) := di _
    go_wp2_with fail
    refine (gM HONE.out HD1.out HV1'.out (by omega) (by omega)).mono ?_;rintro e _ ⟨vg, rfl, hvg, rfl⟩;have HVG := hid hvg;clear hvg HONE;have HXa := hid ((Ext.refl w8).alloc (.cells #[.int .i64 (G0 : Int)] 3));generalize w8.alloc _ = w9 at HVG HXa |-
    go_wp2_with fail
    refine (aR _ _ V G0 (L + 1) 1 _ ⟨Av, lv, cv, vs, rfl, HIV8.out.ext HXa.out, HRV.out, hcv1, hcv2⟩ HVG.out HFV.out (HFG.out.le hG1) (by omega) (by omega)).mono ?_;rintro e w10 ⟨vp, rfl, hvp, hX10⟩;have HVP := hid hvp;have HX10 := hid (HXa.out.trans hX10);clear hvp hX10 HVG HXa
    go_wp2_with fail
    have HFR' := hid (show Fit 65536 R' (L + 2) from by
     have h1 := HFV.out;have h2 := HLT.out;unfold Fit at h1 |-;rw [Int.pow_succ]; omega)
    have HFP : Hid (∀ G : Nat, G <= 65535 -> Fit 65536 (V * G) (L + 2)) := fun G hG => (HFV.out.mul (by omega) (HFG.out.le hG)).mono (by omega) (by omega)
    go_loopg [14, 16] G0 (fun g s14 s16 wi => ∃ G : Nat, G = g /\ s14 = .int .i64 (G : Int) /\ G <= 65535 /\ Hid (R' / V <= G) /\ Hid (Z16 wi s16 (V * G)) /\ Hid (Ext w8 wi))
    case atStart => exact ⟨G0, rfl, rfl, hG1, HGD.out, HVP.out, HX10.out⟩
    case round =>
     clear HGD HVP HX10 HD1 HV1';obtain ⟨G, rfl, rfl, hG, HGD, HP, HXi⟩ := hrel;have HRi := hid (HO9.out.ext HXi.out)
     by_cases hgt : R' < V * G
     .
      as_aux_lemma =>
       have HC1 := hid (ec hgt)
       have hGp : 0 < G := by
        rcases Nat.eq_zero_or_pos G with h | h
        .
         subst h; simp at hgt
        .
         exact h
       obtain ⟨H, rfl⟩ : ∃ H, G = H + 1 := ⟨G - 1, by omega⟩
       have HGD' : Hid (R' / V <= H) := by
        show _ <= _;have h1 : R' / V < H + 1 := (Nat.div_lt_iff_lt_mul hV1).2 (by rw [Nat.mul_comm]; exact hgt);omega
       have HSUB : Hid (V * (H + 1) - V = V * H) := by show _ = _; rw [Nat.mul_succ]; omega
       have HLE : Hid (V <= V * (H + 1)) := Nat.le_mul_of_pos_right _ (by omega);clear hgt hGp
       go_wp2_with fail
       refine (aQ _ _ (V * (H + 1)) R' _ HP.out ⟨A8, l9, c8, zs9, rfl, HRi.out.ints, HR9.out, HRi.out.cap.1, HRi.out.cap.2⟩).mono ?_;rw [HC1.out];rintro e w11 ⟨rfl, hX⟩;have HX11 := hid (HXi.out.trans hX);have HP11 := hid (HP.out.ext hX);clear hX
       go_wp2_with fail
       refine (es _ _ (V * (H + 1)) V (L + 2) _ HP11.out ⟨Av, lv, cv, vs, rfl, HIV8.out.ext HX11.out, HRV.out, hcv1, hcv2⟩ (HFP.out _ hG) (by omega) HLE.out).mono ?_;rw [HSUB.out];rintro e w12 ⟨v12, rfl, hv12, hX⟩;have HX12 := hid (HX11.out.trans hX);have HV12 := hid hv12;clear hX hv12;go_wp2;go_roundg H
       case rel => exact ⟨H, rfl, by go_num, by omega, HGD'.out, HV12.out, HX12.out⟩
       case measure => omega
     .
      as_aux_lemma =>
       have hle : V * G <= R' := by omega
       have hcv : cG (V * G) R' = -1 \/ cG (V * G) R' = 0 := by
        rcases Nat.lt_or_ge (V * G) R' with h | h
        .
         exact .inl (dj h)
        .
         exact .inr (fP (by omega))
       have HLE := hid hle;have hGq : (G : Int) < 65536 := by omega
       clear hgt hle
       rcases hcv with hcv | hcv
       all_goals
        have HC2 := hid hcv;clear hcv
        go_wp2_with fail
        refine (aQ _ _ (V * G) R' _ HP.out ⟨A8, l9, c8, zs9, rfl, HRi.out.ints, HR9.out, HRi.out.cap.1, HRi.out.cap.2⟩).mono ?_;rw [HC2.out];rintro e w11 ⟨rfl, hX⟩;have HX11 := hid (HXi.out.trans hX);have HP11 := hid (HP.out.ext hX);have HR11 := hid (HRi.out.ext hX);clear hX HC2
        go_wp2_with fail
        refine (gO _ _ R' (V * G) (L + 2) _ ⟨A8, l9, c8, zs9, rfl, HR11.out.ints, HR9.out, HR11.out.cap.1, HR11.out.cap.2⟩ HP11.out HFR'.out (by omega) HLE.out).mono ?_;rintro e w12 ⟨A12, l12, c12, zs12, rfl, hO12, hR12, hX⟩;have HX12 := hid (HX11.out.trans hX)
        have hqlt : gq < w11.heap.size := by
         obtain ⟨g', x', hg', _, _, hcell⟩ := (HQ8.out.ext HX11.out).get (j := 0) (by omega);obtain rfl : gq = g' := by injection hg' with h; injection h
         exact World.block_lt_of_cell? _ _ hcell
        have HO12 := hid (hO12.mono (show gq + 1 <= w11.heap.size by omega));have HR12 := hid hR12;have HQ12 := hid (HQ8.out.ext HX12.out);clear hX hO12 hR12 hqlt;obtain ⟨g', z', hg', hz', _, hcz', hfz', _, hst⟩ := HQ12.out.store (j := j) (by omega);obtain rfl : gq = g' := by injection hg' with h; injection h
        have HS := hid (hst.out (G : Int) (gK (by omega)));have HDD := hid (HD.out.set (u := (G : Int)) (by omega) j);have HN := hid (lk (q := q) (d := (G : Int)) HXU.out (by rw [HQ12.out.len]; omega) HI.out);have HOO := hid (HO12.out.far (g := gq) (Nat.lt_succ_self gq) j (.int .i64 (G : Int)))
        have HRN : Hid (R' - V * G < V) := by
         show _ < _;have h1 := (Nat.div_lt_iff_lt_mul hV1).1 (show R' / V < G + 1 by have := HGD.out; omega);rw [Nat.add_mul, Nat.one_mul, Nat.mul_comm G V] at h1;have h2 := HLE.out;omega
        have HVN : Hid (am 65536 (us.drop j) = am 65536 ((q.set j (G : Int)).drop j) * V + ((R' - V * G : Nat) : Int)) := by
         show _ = _;have h1 := HN.out;rw [HRR.out] at h1;rw [Int.natCast_sub HLE.out, Int.natCast_mul, Int.mul_comm (V : Int)];exact h1
        have hjd : (j : Int) < ((d + 1 : Nat) : Int) := by omega
        clear hz' hg' hst;go_wp2;go_roundg j
        case rel => exact ⟨j, R' - V * G, l12, A12, c12, zs12, _, rfl, by omega, by go_num, rfl, HOO.out, HR12.out, HRN.out, HS.out, HDD.out, HVN.out, (HX8.out.trans HX12.out).setCell (by have := HGQ.out; show w4.heap.size <= gq; omega) _⟩
        case measure => omega
theorem aM (va vb : Value) (n m L : Nat) (w : World) (ha : Z16 w va n) (hb : Z16 w vb m) (fn : Fit 65536 n L) (hL : L <= 400000) (_hm : 0 < m) :
  Calls Try.prog 169 #[va, vb] w (jh w (n / m) (n % m)) := by
 rcases Nat.lt_or_ge n m with h | h
 .
  exact jP va vb n m w ha hb h
 .
  obtain ⟨B, lb, cb, ys, rfl, hB, hr, h1, h2⟩ := hb
  rcases (show lb = 0 \/ lb = 1 \/ 2 <= lb by omega) with rfl | rfl | h3
  .
   exfalso;have : ys = [] := List.eq_nil_of_length_eq_zero hB.1;have := (hr.pos (by omega)).2 this;omega
  .
   obtain ⟨y, rfl⟩ : ∃ y, ys = [y] := List.length_eq_one_iff.1 hB.1;exact ll va B cb y n m L w ha hB hr ⟨h1, h2⟩ fn (by omega) h
  .
   obtain ⟨p, rfl⟩ : ∃ p, lb = p + 2 := ⟨lb - 2, by omega⟩;exact jQ va B cb p ys n m L w ha hB hr ⟨h1, h2⟩ fn hL h
theorem dF (va vb : Value) (n m L : Nat) (w : World) (ha : Z16 w va n) (hb : Z16 w vb m) (fn : Fit 65536 n L) (fm : Fit 65536 m L) (hL : L <= 400000) :
  Calls Try.prog 168 #[va, vb] w (lc .i64 65536 w (Nat.gcd n m)) := by
 have HA := hid ha;have HB := hid hb;have HFN := hid fn;have HFM := hid fm;clear ha hb fn fm;go_enter Try.func168, Try.ntmps168;go_wp2
 go_loopg [0, 1] m (fun g s0 s1 wr => ∃ a b : Nat, b = g /\ Hid (Z16 wr s0 a) /\ Hid (Z16 wr s1 b) /\ Hid (Fit 65536 a L) /\ Hid (Fit 65536 b L) /\ Hid (Nat.gcd a b = Nat.gcd n m) /\ Hid (Ext w wr))
 case atStart => exact ⟨n, m, rfl, HA.out, HB.out, HFN.out, HFM.out, rfl, Ext.refl w⟩
 case round =>
  clear HA HB HFN HFM;obtain ⟨a, b, rfl, HA, HB, HFA, HFB, HG, HX⟩ := hrel;obtain ⟨B, lb, cb, ys, rfl, hB, hr, hB3⟩ := HB.out;have hp := hr.pos (by omega);rw [<- List.length_eq_zero_iff, hB.1] at hp
  rcases Nat.eq_zero_or_pos b with h0 | h0
  .
   have hl := hp.1 h0;subst hl h0;have HGG : Hid (Nat.gcd n m = a) := by have := HG.out; rw [Nat.gcd_zero_right] at this; exact this.symm
   clear hp hB hr hB3;go_wp2;go_ret;exact ⟨_, rfl, by rw [HGG.out]; exact HA.out, HX.out⟩
  .
   have hl : 0 < lb := by
    rcases Nat.eq_zero_or_pos lb with h | h
    .
     have := hp.2 h; omega
    .
     exact h
   have HGG : Hid (Nat.gcd b (a % b) = Nat.gcd n m) := by
    have := HG.out;show _ = _;rw [<- this, Nat.gcd_comm a b, Nat.gcd_rec b a, Nat.gcd_comm]
   have hlt : a % b < b := Nat.mod_lt _ h0;have HLT := hid hlt;have HPB := hid h0;clear hp hB hr hB3 hlt h0
   go_wp2_with fail
   refine (aM _ _ a b L _ HA.out HB.out HFA.out hL HPB.out).mono ?_;rintro e w1 ⟨vq, vr, rfl, hq, hr, hX⟩;have HR := hid hr;have HX1 := hid (HX.out.trans hX);have HB1 := hid (HB.out.ext hX);clear hq hr hX;go_wp2;go_roundg (a % b)
   case rel => exact ⟨b, a % b, rfl, HB1.out, HR.out, HFB.out, HFB.out.le (Nat.le_of_lt HLT.out), HGG.out, HX1.out⟩
   case measure => exact HLT.out
/-- The sign of an integer. -/
def oU (n : Int) : Int := if n < 0 then -1 else if 0 < n then 1 else 0
theorem iJ (A : Option Addr) (l c : Nat) (w : World)  :
  Calls Try.prog 151 #[.agg #[.bool true, .slice A l c]] w fun e w' => e = .returned (.agg #[.bool false, .slice A l c]) /\ Ext w w' := by
 have HX := hid (((Ext.refl w).alloc (.cells #[.bool true, .slice A l c] 63)).alloc (.cells #[.bool false, .slice A l c] 63))
 skip
 go_enter Try.func151, Try.ntmps151;go_wp2;refine bodyPost_ret (v := .agg #[.bool false, .slice A l c]) (by simp [results, Try.results151, go_sem, *]) rfl ?_;exact ⟨rfl, HX.out⟩
theorem iK (A : Option Addr) (l c : Nat) (w : World) (_hl : 0 < l) :
  Calls Try.prog 151 #[.agg #[.bool false, .slice A l c]] w fun e w' => e = .returned (.agg #[.bool true, .slice A l c]) /\ Ext w w' := by
 have HX := hid (((Ext.refl w).alloc (.cells #[.bool false, .slice A l c] 63)).alloc (.cells #[.bool true, .slice A l c] 63));have hl2 : (0 : Int) < (l : Int) := by omega
 go_enter Try.func151, Try.ntmps151;go_wp2;refine bodyPost_ret (v := .agg #[.bool true, .slice A l c]) (by simp [results, Try.results151, go_sem, *]) rfl ?_;exact ⟨rfl, HX.out⟩
theorem gR (A : Option Addr) (l c : Nat) (w : World) (hl : l = 0) :
  Calls Try.prog 151 #[.agg #[.bool false, .slice A l c]] w fun e w' => e = .returned (.agg #[.bool false, .slice A l c]) /\ Ext w w' := by
 have HX := hid (((Ext.refl w).alloc (.cells #[.bool false, .slice A l c] 63)).alloc (.cells #[.bool false, .slice A l c] 63));subst hl;go_enter Try.func151, Try.ntmps151;go_wp2;refine bodyPost_ret (v := .agg #[.bool false, .slice A 0 c]) (by simp [results, Try.results151, go_sem, *]) rfl ?_;exact ⟨rfl, HX.out⟩
theorem jR (A : Option Addr) (l c : Nat) (w : World) (_hl : 0 < l) :
  Calls Try.prog 117 #[.agg #[.bool true, .slice A l c]] w fun e w' => e = .returned (.int .i64 (-1)) /\ Ext w w' := by
 have HX := hid ((Ext.refl w).alloc (.cells #[.bool true, .slice A l c] 63));have hl2 : ((l : Int) == 0) = false := by simp; omega
 go_enter Try.func117, Try.ntmps117;go_wp2;go_ret;exact ⟨rfl, HX.out⟩
theorem jS (A : Option Addr) (l c : Nat) (w : World) (_hl : 0 < l) :
  Calls Try.prog 117 #[.agg #[.bool false, .slice A l c]] w fun e w' => e = .returned (.int .i64 (1)) /\ Ext w w' := by
 have HX := hid ((Ext.refl w).alloc (.cells #[.bool false, .slice A l c] 63));have hl2 : ((l : Int) == 0) = false := by simp; omega
 go_enter Try.func117, Try.ntmps117;go_wp2;go_ret;exact ⟨rfl, HX.out⟩
theorem iL (A : Option Addr) (l c : Nat) (w : World) (hl : l = 0) :
  Calls Try.prog 117 #[.agg #[.bool false, .slice A l c]] w fun e w' => e = .returned (.int .i64 (0)) /\ Ext w w' := by
 have HX := hid ((Ext.refl w).alloc (.cells #[.bool false, .slice A l c] 63));subst hl;go_enter Try.func117, Try.ntmps117;go_wp2;go_ret;exact ⟨rfl, HX.out⟩
theorem IntZ.parts {w : World} {v : Value} {z : Int} (h : IntZ w v z) : ∃ A l c, v = .agg #[.bool (decide (z < 0)), .slice A l c] /\ Z16 w (.slice A l c) z.natAbs /\ (z = 0 ↔ l = 0) := by
 obtain ⟨A, l, c, rfl, hz⟩ := h;have hz' := hz;obtain ⟨A', l', c', xs, e, hI, hr, _⟩ := hz';injection e with e1 e2 e3;subst e1 e2 e3;have hp := hr.pos (by omega);rw [<- List.length_eq_zero_iff, hI.1] at hp;exact ⟨A, l, c, rfl, hz, by rw [<- hp]; omega⟩
theorem jT (v : Value) (z : Int) (w : World) (h : IntZ w v z) : Calls Try.prog 117 #[v] w fun e w' => e = .returned (.int .i64 (oU z)) /\ Ext w w' := by
 obtain ⟨A, l, c, rfl, hz, hl⟩ := h.parts
 rcases Int.lt_trichotomy z 0 with h | h | h
 .
  rw [decide_eq_true h, show oU z = -1 by simp [oU, h]];exact jR A l c w (by rcases Nat.eq_zero_or_pos l with h0 | h0; have := hl.2 h0; omega; exact h0)
 .
  rw [decide_eq_false (by omega), h];exact iL A l c w (hl.1 h)
 .
  rw [decide_eq_false (by omega), show oU z = 1 by simp [oU, h, show ¬ z < 0 by omega]];exact jS A l c w (by rcases Nat.eq_zero_or_pos l with h0 | h0; have := hl.2 h0; omega; exact h0)
theorem ev (v : Value) (z : Int) (w : World) (h : IntZ w v z) : Calls Try.prog 151 #[v] w (dm w (-z)) := by
 obtain ⟨A, l, c, rfl, hz⟩ := h;have hz' := hz;obtain ⟨A', l', c', xs, e, hI, hr, _⟩ := hz';injection e with e1 e2 e3;subst e1 e2 e3;have hp := hr.pos (by omega);rw [<- List.length_eq_zero_iff, hI.1] at hp;have hab : (-z).natAbs = z.natAbs := Int.natAbs_neg z
 rcases Int.lt_trichotomy z 0 with h | h | h
 .
  rw [decide_eq_true h];refine (iJ A l c w).mono ?_;rintro e w' ⟨rfl, hX⟩;exact ⟨_, rfl, ⟨A, l, c, by rw [decide_eq_false (by omega)], by rw [hab]; exact hz.ext hX⟩, hX⟩
 .
  rw [decide_eq_false (by omega)];refine (gR A l c w (hp.1 (by omega))).mono ?_;rintro e w' ⟨rfl, hX⟩;exact ⟨_, rfl, ⟨A, l, c, by rw [decide_eq_false (by omega)], by rw [hab]; exact hz.ext hX⟩, hX⟩
 .
  rw [decide_eq_false (by omega)];refine (iK A l c w (by rcases Nat.eq_zero_or_pos l with h0 | h0; have := hp.2 h0; omega; exact h0)).mono ?_;rintro e w' ⟨rfl, hX⟩;exact ⟨_, rfl, ⟨A, l, c, by rw [decide_eq_true (by omega)], by rw [hab]; exact hz.ext hX⟩, hX⟩
end Go.Proofs.Ytikhlcgnlbinfaa
