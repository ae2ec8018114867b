/- Lemmas of the proof that follows (Worsts, part 7): walks of functions by contract, and plain lemmas. Conditions: none. -/
import Derived.Test.YtikhlcgnlbinfaaWorstsF
set_option maxRecDepth 100000
set_option maxHeartbeats 2000000
namespace Go.Proofs.Ytikhlcgnlbinfaa
open Lib (hid)
/-- The whole numbers of the reference: the last pivot, and the table times the last pivot. -/
def zl (s : i7) : Int := s.last.num
def zt (s : i7) (i c : Nat) : Int := (s.last * s.tab i c).num
section
variable {n j B : Nat} {M : cZ} {s : i7} {Mp : cZ}
theorem fo (h : Stage n B s Mp) : ((zl s : Int) : Rat) = s.last := by
 obtain ⟨⟨z, hz, _⟩, _⟩ := h.ints;unfold zl;rw [hz, Rat.num_intCast]
theorem ch (h : Stage n B s Mp) {i c : Nat} (hi : i < n) (hc : c <= n) : ((zt s i c : Int) : Rat) = s.last * s.tab i c := by
 obtain ⟨z, hz, _⟩ := h.ints.2 i hi c hc;unfold zt;rw [hz, Rat.num_intCast]
theorem o7 (h : Stage n B s Mp) : (zl s).natAbs <= ((n + 1) * (B + 1)) ^ (n + 1) := by
 obtain ⟨⟨z, hz, hb⟩, _⟩ := h.ints;unfold zl;rw [hz, Rat.num_intCast];exact hb
theorem o8 (h : Stage n B s Mp) {i c : Nat} (hi : i < n) (hc : c <= n) : (zt s i c).natAbs <= ((n + 1) * (B + 1)) ^ (n + 1) := by
 obtain ⟨z, hz, hb⟩ := h.ints.2 i hi c hc;unfold zt;rw [hz, Rat.num_intCast];exact hb
theorem tm (h : Stage n B s Mp) : zl s ≠ 0 := fun e => h.nz (by rw [<- fo h, e]; rfl)
theorem io (h : Stage n B s Mp) {i c : Nat} (hi : i < n) (hc : c <= n) : zt s i c = 0 ↔ s.tab i c = 0 := by
 have h1 := ch h hi hc;constructor
 .
  intro e;rw [e] at h1
  rcases Rat.mul_eq_zero.1 h1.symm with h2 | h2
  .
   exact absurd h2 h.nz
  .
   exact h2
 .
  intro e;rw [e] at h1;have : ((zt s i c : Int) : Rat) = ((0 : Int) : Rat) := by rw [h1]; show s.last * 0 = 0; grind
  exact Rat.intCast_inj.1 this
theorem fU (hf : bO s.tab j (n - s.top) s.top = none) : bs n j s = ⟨s.tab, s.top, s.piv ++ [none], s.last, s.cols⟩ := by
 unfold bs; rw [hf]
theorem dZ {a : Nat} (hf : bO s.tab j (n - s.top) s.top = some a) : bs n j s = ⟨aW (bg (aN s.tab s.top a) s.top (s.tab a j)) s.top j, s.top + 1, s.piv ++ [some s.top], s.last * s.tab a j, s.cols ++ [j]⟩ := by
 unfold bs; rw [hf]
/-- One column: what the reference computes. -/
theorem rf {Mp' : cZ} (h : Stage n B s Mp) (h' : Stage n B (bs n j s) Mp') {a : Nat} (hf : bO s.tab j (n - s.top) s.top = some a) (_hj : j < n) :
  zl (bs n j s) = zt s a j /\ (∀ c, c <= n -> zt (bs n j s) s.top c = zt s a c) /\
  ∀ i, i < n -> i ≠ s.top -> ∀ c, c <= n -> zt s (if i = a then s.top else i) c * zt s a j + -(zt s a c * zt s (if i = a then s.top else i) j) = zl s * zt (bs n j s) i c := by
 obtain ⟨h1, h2, h3, _⟩ := dX hf;have hle := h.le;have ha : a < n := by omega
 have ht : s.top < n := by omega
 have hinv := Rat.mul_inv_cancel _ h3;have e := dZ hf;have htop : ∀ c, (bs n j s).tab s.top c = s.tab a c / s.tab a j := fun c => by rw [e]; simp [aW, bg, aN]
 have hoth : ∀ i, i ≠ s.top -> ∀ c, (bs n j s).tab i c = s.tab (if i = a then s.top else i) c - s.tab (if i = a then s.top else i) j * (s.tab a c / s.tab a j) := fun i hi c => by
  rw [e];simp only [aW, bg, aN, if_neg hi, if_pos]
  by_cases e : i = a
  .
   simp only [if_pos e]
  .
   simp only [if_neg e]
 have hlast : (bs n j s).last = s.last * s.tab a j := by rw [e]
 refine ⟨?_, fun c hc => ?_, fun i hi hne c hc => ?_⟩
 .
  apply Rat.intCast_inj.1;rw [fo h', ch h ha (by omega), hlast]
 .
  apply Rat.intCast_inj.1;rw [ch h' ht hc, ch h ha hc, hlast, htop, Rat.div_def];grind
 .
  have hfi : (if i = a then s.top else i) < n := by split <;> omega
  apply Rat.intCast_inj.1;rw [Rat.intCast_add, Rat.intCast_neg, Rat.intCast_mul, Rat.intCast_mul, Rat.intCast_mul, fo h, ch h' hi hc, ch h ha hc, ch h ha (by omega), ch h hfi hc, ch h hfi (by omega), hlast, hoth i hne, Rat.div_def];generalize s.tab (if i = a then s.top else i) c = x;generalize s.tab (if i = a then s.top else i) j = y;grind
/-- The column of the pivot of a row. -/
theorem Left.pivcol (h : Left n n M s) (hs : Stage n B s Mp) {i j : Nat} (hi : s.cols[i]? = some j) : s.piv[j]? = some (some i) := by
 have hjn : j < n := hs.col j (List.mem_of_getElem? hi);obtain ⟨o, ho⟩ : ∃ o, s.piv[j]? = some o := ⟨_, List.getElem?_eq_getElem (by rw [h.plen]; exact hjn)⟩;have hin : i < n := by have := (List.getElem?_eq_some_iff.1 hi).1; have := hs.len; have := hs.le; omega
 cases o with
 | none => exact absurd (List.mem_of_getElem? hi) (h.pnone _ ho)
 | some k =>
  have hk := h.psome _ k ho
  have hik : k = i := by
   have h1 := hs.one k _ hk i hin;have h2 := hs.one i _ hi i hin;rw [if_pos rfl] at h2;rw [h2] at h1
   by_cases e : i = k
   .
    exact e.symm
   .
    rw [if_neg e] at h1; exact absurd h1 (by decide)
  rw [ho, hik]
theorem ng (h : Left n n M s) (hs : Stage n B s Mp) {i j : Nat} (hi : s.cols[i]? = some j) : fi n s j = s.tab i n := by
 unfold fi;rw [h.pivcol hs hi]
theorem nh (h : Left n n M s) {j : Nat} (hj : j < n) (hn : j ∉ s.cols) : fi n s j = 0 /\ s.piv[j]? = some none := by
 obtain ⟨o, ho⟩ : ∃ o, s.piv[j]? = some o := ⟨_, List.getElem?_eq_getElem (by rw [h.plen]; exact hj)⟩
 cases o with
 | none => exact ⟨by unfold fi; rw [ho], ho⟩
 | some k => exact absurd (List.mem_of_getElem? (h.psome _ k ho)) hn
/-- What the reference divides for a shift. -/
theorem nj (h : Stage n B s Mp) {i : Nat} (hi : i < n) : (((if zl s < 0 then -(zt s i n) else zt s i n) : Int) : Rat) / (((zl s).natAbs : Nat) : Rat) = s.tab i n := by
 have h1 := ch h hi (Nat.le_refl n);have h2 := fo h;have h3 := Rat.mul_inv_cancel _ h.nz
 by_cases e : zl s < 0
 .
  have : (((zl s).natAbs : Nat) : Rat) = -s.last := by
   have : (((zl s).natAbs : Int) : Rat) = -s.last := by rw [show ((zl s).natAbs : Int) = -(zl s) by omega, Rat.intCast_neg, h2]
   exact this
  have h4 : (-s.last) * (-s.last)⁻¹ = 1 := Rat.mul_inv_cancel _ (fun q => h.nz (by grind));rw [if_pos e, this, Rat.intCast_neg, h1, Rat.div_def];grind
 .
  have : (((zl s).natAbs : Nat) : Rat) = s.last := by
   have : (((zl s).natAbs : Int) : Rat) = s.last := by rw [show ((zl s).natAbs : Int) = zl s by omega, h2]
   exact this
  rw [if_neg e, this, h1, Rat.div_def];grind
end
end Go.Proofs.Ytikhlcgnlbinfaa
namespace Go.Proofs.Ytikhlcgnlbinfaa
open Lib (hid)
open Go.RowKit
theorem Z16.pos {w : World} {A : Option Addr} {l c n : Nat} (h : Z16 w (.slice A l c) n) : IntZ w (.agg #[.bool false, .slice A l c]) (n : Int) := ⟨A, l, c, by rw [decide_eq_false (by omega)], h⟩
theorem IntZ.open {w : World} {v : Value} {z : Int} (h : IntZ w v z) : ∃ A l c, v = .agg #[.bool (decide (z < 0)), .slice A l c] /\ Z16 w (.slice A l c) z.natAbs := by
 obtain ⟨A, l, c, rfl, h1⟩ := h;exact ⟨A, l, c, rfl, h1⟩
theorem QZ.mk' {w : World} {b : Bool} {A B : Option Addr} {l c m k : Nat} {q : Rat} (hb : b = decide (q.num < 0)) (h : Z16 w (.slice A l c) q.num.natAbs) (h' : Z16 w (.slice B m k) q.den) : QZ w (.agg #[.bool b, .slice A l c, .slice B m k]) q :=
 ⟨_, _, _, _, _, _, _, rfl, hb, h, h'⟩
theorem sD (b : Bool) (A B : Option Addr) (l c m k : Nat) (w : World) : (Instr.field 65 (.agg #[.bool b, .slice A l c, .slice B m k]) 0).run Try.prog w = .ok (.agg #[.bool b, .slice A l c]) w := by kernel_rfl
theorem rg (q : Rat) : mL q.num = bW q := by
 unfold mL bW
 by_cases h : q.num < 0
 .
  rw [if_pos h, if_pos h]
 .
  rw [if_neg h, if_neg h]
  by_cases h0 : q.num = 0
  .
   rw [if_pos h0, if_neg (by omega)]
  .
   rw [if_neg h0, if_pos (by omega)]
theorem nl (ga : Nat) (s0 : Bool) (A0 B0 : Option Addr) (l0 c0 m0 k0 : Nat) (q : Rat) (w : World) (x0 : w.cell? ⟨ga, 0, none⟩ = some (.bool s0)) (x1 : w.cell? ⟨ga, 1, none⟩ = some (.slice A0 l0 c0)) (x2 : w.cell? ⟨ga, 2, none⟩ = some (.slice B0 m0 k0)) (hx : QZ w (.agg #[.bool s0, .slice A0 l0 c0, .slice B0 m0 k0]) q) (a : Act) (Q : Exit -> Act -> World -> Prop) (hsize : 8 <= a.tmps.size)
  (s1 : a.tmps[1]? = some (.pointer (some ⟨ga, 0, none⟩)))
  (hend : ∀ (xv0 xv1 xv2 xv3 xv4 : Value) (W : World), (xv0 = .pointer (some ⟨ga, 0, none⟩)) -> (xv1 = .agg #[.bool s0, .slice A0 l0 c0]) -> (IntZ W xv2 (-q.num)) -> (xv3 = .pointer (some ⟨ga, 2, none⟩)) -> (xv4 = .slice B0 m0 k0) -> Ext w W -> wpList Try.prog (ae Try.f174 1).toArray Q ((ae Try.f174 1).drop 5) (((((a.put (some 3) xv0).put (some 4) xv1).put (some 5) xv2).put (some 6) xv3).put (some 7) xv4) W) :
  (Code.region 1 (ae Try.f174 1).toArray true).wp Try.prog Q a w := by
 refine bM 5 [some 3, some 4, some 5, some 6, some 7] [[], [0], [1], [], [3]] [cH (.pointer (some ⟨ga, 0, none⟩)), cH (.agg #[.bool s0, .slice A0 l0 c0]), fun v W => IntZ W v (-q.num), cH (.pointer (some ⟨ga, 2, none⟩)), cH (.slice B0 m0 k0)] (by kernel_rfl) (by kernel_rfl) rfl (by decide) hsize ⟨aR, aR, by intro v W W' h hX; exact IntZ.ext h hX, aR, aR, trivial⟩ ?_ ?_
 .
  clear hend;simp only [ae, Try.f174, ab, Option.bind_some, Nat.reduceBEq, if_true, if_false, Bool.false_eq_true, Option.getD_some];simp only [List.take_succ_cons, List.take_zero];refine ⟨?_, ?_, ?_, ?_, ?_, trivial⟩
  .
   rintro us W hJ _ b hb hbz K hK0 hK Qz;have e1 := (hbz 1 (by simp)).trans s1;clear hb hbz;go_simp;exact hK0 _ rfl
  .
   rintro us W hJ d0 b hb hbz K hK0 hK Qz;have e3 := ay (hb 0 3 rfl) d0;clear hb hbz d0;have z0 := Ext.cell hJ x0;have z1 := Ext.cell hJ x1;go_simp;exact hK0 _ rfl
  .
   rintro us W hJ d1 b hb hbz K hK0 hK Qz;have e4 := ay (hb 1 4 rfl) d1;clear hb hbz d1;go_simp;refine (dW _ _ _ (IntZ.ext (QZ.num hx) hJ)).mono ?_;rintro e w' ⟨v, rfl, hv, hX⟩;exact hK _ _ hv hX
  .
   rintro us W hJ _ b hb hbz K hK0 hK Qz;have e1 := (hbz 1 (by simp)).trans s1;clear hb hbz;go_simp;exact hK0 _ rfl
  .
   rintro us W hJ d3 b hb hbz K hK0 hK Qz;have e6 := ay (hb 3 6 rfl) d3;clear hb hbz d3;have q := Ext.cell hJ x2;go_simp;exact hK0 _ rfl
 .
  rintro us W ⟨v0, v1, v2, v3, v4, _⟩ hJ;exact hend _ _ _ _ _ W v0 v1 v2 v3 v4 hJ
theorem o9 (s0 : Bool) (A0 B0 : Option Addr) (l0 c0 m0 k0 : Nat) (q : Rat) (w : World) (hx : QZ w (.agg #[.bool s0, .slice A0 l0 c0, .slice B0 m0 k0]) q) :
  Calls Try.prog 174 #[.agg #[.bool s0, .slice A0 l0 c0, .slice B0 m0 k0]] w (RetQz w (-q)) := by
 have HXX := hid hx;clear hx;have hXe : Ext w ((w.alloc (.cells #[.bool s0, .slice A0 l0 c0, .slice B0 m0 k0] 65)).alloc (.cells #[.bool false, .slice none 0 0, .slice none 0 0] 65)) := (((Ext.refl w).alloc _).alloc _);have kA : Blk ((w.alloc (.cells #[.bool s0, .slice A0 l0 c0, .slice B0 m0 k0] 65)).alloc (.cells #[.bool false, .slice none 0 0, .slice none 0 0] 65)) w.heap.size 65 #[.bool s0, .slice A0 l0 c0, .slice B0 m0 k0] := Blk.alloc (Blk.at_ (by simp)) _;have kR : Blk ((w.alloc (.cells #[.bool s0, .slice A0 l0 c0, .slice B0 m0 k0] 65)).alloc (.cells #[.bool false, .slice none 0 0, .slice none 0 0] 65)) (w.heap.size + 1) 65 #[.bool false, .slice none 0 0, .slice none 0 0] := Blk.at_ (by simp);go_enter Try.func174, Try.ntmps174
 go_wp2_with fail
 generalize ((w.alloc _).alloc _) = w1 at hXe kA kR |-;have HX := hid hXe;clear hXe;have KA := hid kA;clear kA;have KR := hid kR;clear kR;replace HXX := hid (HXX.out.ext HX.out)
 go_upto_region 1 with (fail)
 refine nl w.heap.size s0 A0 B0 l0 c0 m0 k0 q w1 (KA.out.cell 0) (KA.out.cell 1) (KA.out.cell 2) HXX.out _ _ (by simp) rfl ?_;rintro xv0 xv1 xv2 xv3 xv4 w2 rfl rfl hv rfl rfl hXW;simp only [ae, Try.f174, ab, Option.bind_some, Nat.reduceBEq, if_true, if_false, Bool.false_eq_true, Option.getD_some, List.drop_succ_cons, List.drop_zero];simp only [Act.put, List.setIfInBounds_toArray, List.set_cons_succ, List.set_cons_zero];replace HX := hid (HX.out.trans hXW);replace HXX := hid (HXX.out.ext hXW);replace KA := hid (KA.out.ext hXW);replace KR := hid (KR.out.ext hXW);clear hXW;obtain ⟨A9, l9, c9, rfl, hv9⟩ := hv.open;obtain ⟨b9, hb9⟩ : ∃ b, decide (-q.num < 0) = b := ⟨_, rfl⟩;rw [hb9];have HD := hid HXX.out.den;have HV : Hid (QZ w2 (.agg #[.bool b9, .slice A9 l9 c9, .slice B0 m0 k0]) (-q)) := QZ.mk' (by rw [Rat.neg_num, hb9]) (by rw [Rat.neg_num]; exact hv9) (by rw [Rat.neg_den]; exact HD.out);clear hv hv9 hb9;replace HV := hid (QZ.past HV.out (NoInts.three KR.out));have cR0 : w2.cell? ⟨(w.heap.size + 1), 0, none⟩ = some (.bool false) := KR.out.cell 0;have fR0 : w2.frozen? ⟨(w.heap.size + 1), 0, none⟩ = false := KR.out.free 0;have cR1 : w2.cell? ⟨(w.heap.size + 1), 1, none⟩ = some (.slice none 0 0) := KR.out.cell 1;have fR1 : w2.frozen? ⟨(w.heap.size + 1), 1, none⟩ = false := KR.out.free 1;have cR2 : w2.cell? ⟨(w.heap.size + 1), 2, none⟩ = some (.slice none 0 0) := KR.out.cell 2;have fR2 : w2.frozen? ⟨(w.heap.size + 1), 2, none⟩ = false := KR.out.free 2;go_wp2;refine bodyPost_ret (v := .agg #[.bool b9, .slice A9 l9 c9, .slice B0 m0 k0]) (by simp [results, Try.results174, go_sem, *]) rfl ?_;exact ⟨_, rfl, HV.out, Ext.boxed HX.out (by omega) _ _ _⟩
theorem kf (va : Value) (q : Rat) (w : World) (hx : QZ w va q) : Calls Try.prog 174 #[va] w (RetQz w (-q)) := by
 obtain ⟨s0, A0, l0, c0, B0, m0, k0, rfl⟩ := hx.open;exact o9 s0 A0 B0 l0 c0 m0 k0 q w hx
theorem rh (ga gb L M : Nat) (s0 : Bool) (A0 B0 : Option Addr) (l0 c0 m0 k0 : Nat) (s1 : Bool) (A1 B1 : Option Addr) (l1 c1 m1 k1 : Nat) (q r : Rat) (w : World) (x0 : w.cell? ⟨ga, 0, none⟩ = some (.bool s0)) (x1 : w.cell? ⟨ga, 1, none⟩ = some (.slice A0 l0 c0)) (x2 : w.cell? ⟨ga, 2, none⟩ = some (.slice B0 m0 k0)) (y0 : w.cell? ⟨gb, 0, none⟩ = some (.bool s1)) (y1 : w.cell? ⟨gb, 1, none⟩ = some (.slice A1 l1 c1)) (y2 : w.cell? ⟨gb, 2, none⟩ = some (.slice B1 m1 k1)) (hx : QZ w (.agg #[.bool s0, .slice A0 l0 c0, .slice B0 m0 k0]) q) (hy : QZ w (.agg #[.bool s1, .slice A1 l1 c1, .slice B1 m1 k1]) r) (fq : FitR q L) (fr : FitR r M) (_hLM : L + M + 1 <= 400000) (a : Act) (Q : Exit -> Act -> World -> Prop) (hsize : 25 <= a.tmps.size)
  (s2 : a.tmps[2]? = some (.pointer (some ⟨ga, 0, none⟩)))
  (s3 : a.tmps[3]? = some (.pointer (some ⟨gb, 0, none⟩)))
  (hend : ∀ (xv0 xv1 xv2 xv3 xv4 xv5 xv6 xv7 xv8 xv9 xv10 xv11 xv12 xv13 xv14 xv15 xv16 xv17 xv18 xv19 : Value) (W : World), (xv0 = .pointer (some ⟨ga, 0, none⟩)) -> (xv1 = .agg #[.bool s0, .slice A0 l0 c0]) -> (xv2 = .pointer (some ⟨gb, 2, none⟩)) -> (xv3 = .slice B1 m1 k1) -> (xv4 = .agg #[.bool false, .slice B1 m1 k1]) -> (IntZ W xv5 (q.num * (r.den : Int))) -> (xv6 = .pointer (some ⟨gb, 0, none⟩)) -> (xv7 = .agg #[.bool s1, .slice A1 l1 c1]) -> (xv8 = .pointer (some ⟨ga, 2, none⟩)) -> (xv9 = .slice B0 m0 k0) -> (xv10 = .agg #[.bool false, .slice B0 m0 k0]) -> (IntZ W xv11 (r.num * (q.den : Int))) -> (IntZ W xv12 (q.num * (r.den : Int) + r.num * (q.den : Int))) -> (xv13 = .pointer (some ⟨ga, 2, none⟩)) -> (xv14 = .slice B0 m0 k0) -> (xv15 = .pointer (some ⟨gb, 2, none⟩)) -> (xv16 = .slice B1 m1 k1) -> (Z16 W xv17 (q.den * r.den)) -> (∃ A l c, xv18 = .agg #[.bool false, .slice A l c] /\ Z16 W (.slice A l c) (q.den * r.den)) -> (QZ W xv19 (q + r)) -> Ext w W -> wpList Try.prog (ae Try.f32 1).toArray Q ((ae Try.f32 1).drop 20) ((((((((((((((((((((a.put (some 5) xv0).put (some 6) xv1).put (some 7) xv2).put (some 8) xv3).put (some 9) xv4).put (some 10) xv5).put (some 11) xv6).put (some 12) xv7).put (some 13) xv8).put (some 14) xv9).put (some 15) xv10).put (some 16) xv11).put (some 17) xv12).put (some 18) xv13).put (some 19) xv14).put (some 20) xv15).put (some 21) xv16).put (some 22) xv17).put (some 23) xv18).put (some 24) xv19) W) :
  (Code.region 1 (ae Try.f32 1).toArray true).wp Try.prog Q a w := by
 refine bM 20 [some 5, some 6, some 7, some 8, some 9, some 10, some 11, some 12, some 13, some 14, some 15, some 16, some 17, some 18, some 19, some 20, some 21, some 22, some 23, some 24] [[], [0], [], [2], [3], [1, 4], [], [6], [], [8], [9], [7, 10], [5, 11], [], [13], [], [15], [14, 16], [17], [12, 18]] [cH (.pointer (some ⟨ga, 0, none⟩)), cH (.agg #[.bool s0, .slice A0 l0 c0]), cH (.pointer (some ⟨gb, 2, none⟩)), cH (.slice B1 m1 k1), cH (.agg #[.bool false, .slice B1 m1 k1]), fun v W => IntZ W v (q.num * (r.den : Int)), cH (.pointer (some ⟨gb, 0, none⟩)), cH (.agg #[.bool s1, .slice A1 l1 c1]), cH (.pointer (some ⟨ga, 2, none⟩)), cH (.slice B0 m0 k0), cH (.agg #[.bool false, .slice B0 m0 k0]), fun v W => IntZ W v (r.num * (q.den : Int)), fun v W => IntZ W v (q.num * (r.den : Int) + r.num * (q.den : Int)), cH (.pointer (some ⟨ga, 2, none⟩)), cH (.slice B0 m0 k0), cH (.pointer (some ⟨gb, 2, none⟩)), cH (.slice B1 m1 k1), fun v W => Z16 W v (q.den * r.den), fun v W => ∃ A l c, v = .agg #[.bool false, .slice A l c] /\ Z16 W (.slice A l c) (q.den * r.den), fun v W => QZ W v (q + r)] (by kernel_rfl) (by kernel_rfl) rfl (by decide) hsize ⟨aR, aR, aR, aR, aR, by intro v W W' h hX; exact IntZ.ext h hX, aR, aR, aR, aR, aR, by intro v W W' h hX; exact IntZ.ext h hX, by intro v W W' h hX; exact IntZ.ext h hX, aR, aR, aR, aR, by intro v W W' h hX; exact Z16.ext h hX, by intro v W W' h hX; obtain ⟨A, l, c, h1, h2⟩ := h; exact ⟨A, l, c, h1, Z16.ext h2 hX⟩, by intro v W W' h hX; exact QZ.ext h hX, trivial⟩ ?_ ?_
 .
  clear hend;simp only [ae, Try.f32, ab, Option.bind_some, Nat.reduceBEq, if_true, if_false, Bool.false_eq_true, Option.getD_some];simp only [List.take_succ_cons, List.take_zero];refine ⟨?_, ?_, ?_, ?_, ?_, ?_, ?_, ?_, ?_, ?_, ?_, ?_, ?_, ?_, ?_, ?_, ?_, ?_, ?_, ?_, trivial⟩
  .
   rintro us W hJ _ b hb hbz K hK0 hK Qz;have e2 := (hbz 2 (by simp)).trans s2;clear hb hbz;go_simp;exact hK0 _ rfl
  .
   rintro us W hJ d0 b hb hbz K hK0 hK Qz;have e5 := ay (hb 0 5 rfl) d0;clear hb hbz d0;have z0 := Ext.cell hJ x0;have z1 := Ext.cell hJ x1;go_simp;exact hK0 _ rfl
  .
   rintro us W hJ _ b hb hbz K hK0 hK Qz;have e3 := (hbz 3 (by simp)).trans s3;clear hb hbz;go_simp;exact hK0 _ rfl
  .
   rintro us W hJ d2 b hb hbz K hK0 hK Qz;have e7 := ay (hb 2 7 rfl) d2;clear hb hbz d2;have q := Ext.cell hJ y2;go_simp;exact hK0 _ rfl
  .
   rintro us W hJ d3 b hb hbz K hK0 hK Qz;have e8 := ay (hb 3 8 rfl) d3;clear hb hbz d3;go_simp;exact hK0 _ rfl
  .
   rintro us W hJ ⟨d1, d4⟩ b hb hbz K hK0 hK Qz;have e6 := ay (hb 1 6 rfl) d1;have e9 := ay (hb 4 9 rfl) d4;clear hb hbz d1 d4;go_simp;refine (dA _ _ q.num (r.den : Int) L M _ (IntZ.ext (QZ.num hx) hJ) (IntZ.ext (QZ.den hy).pos hJ) fq.1 (by simpa using fr.2) (by omega) (by omega)).mono ?_;rintro e w' ⟨v, rfl, hv, hX⟩;exact hK _ _ hv hX
  .
   rintro us W hJ _ b hb hbz K hK0 hK Qz;have e3 := (hbz 3 (by simp)).trans s3;clear hb hbz;go_simp;exact hK0 _ rfl
  .
   rintro us W hJ d6 b hb hbz K hK0 hK Qz;have e11 := ay (hb 6 11 rfl) d6;clear hb hbz d6;have z0 := Ext.cell hJ y0;have z1 := Ext.cell hJ y1;go_simp;exact hK0 _ rfl
  .
   rintro us W hJ _ b hb hbz K hK0 hK Qz;have e2 := (hbz 2 (by simp)).trans s2;clear hb hbz;go_simp;exact hK0 _ rfl
  .
   rintro us W hJ d8 b hb hbz K hK0 hK Qz;have e13 := ay (hb 8 13 rfl) d8;clear hb hbz d8;have q := Ext.cell hJ x2;go_simp;exact hK0 _ rfl
  .
   rintro us W hJ d9 b hb hbz K hK0 hK Qz;have e14 := ay (hb 9 14 rfl) d9;clear hb hbz d9;go_simp;exact hK0 _ rfl
  .
   rintro us W hJ ⟨d7, d10⟩ b hb hbz K hK0 hK Qz;have e12 := ay (hb 7 12 rfl) d7;have e15 := ay (hb 10 15 rfl) d10;clear hb hbz d7 d10;go_simp;refine (dA _ _ r.num (q.den : Int) M L _ (IntZ.ext (QZ.num hy) hJ) (IntZ.ext (QZ.den hx).pos hJ) fr.1 (by simpa using fq.2) (by omega) (by omega)).mono ?_;rintro e w' ⟨v, rfl, hv, hX⟩;exact hK _ _ hv hX
  .
   rintro us W hJ ⟨d5, d11⟩ b hb hbz K hK0 hK Qz;have e10 := hb 5 10 rfl;have e16 := hb 11 16 rfl;clear hb hbz;go_simp;refine (iU _ _ _ _ (L + M) _ d5 d11 (bR fq.1 (by simpa using fr.2) (Nat.le_refl _)) (bR fr.1 (by simpa using fq.2) (by omega)) (by omega)).mono ?_;rintro e w' ⟨v, rfl, hv, hX⟩;exact hK _ _ hv hX
  .
   rintro us W hJ _ b hb hbz K hK0 hK Qz;have e2 := (hbz 2 (by simp)).trans s2;clear hb hbz;go_simp;exact hK0 _ rfl
  .
   rintro us W hJ d13 b hb hbz K hK0 hK Qz;have e18 := ay (hb 13 18 rfl) d13;clear hb hbz d13;have q := Ext.cell hJ x2;go_simp;exact hK0 _ rfl
  .
   rintro us W hJ _ b hb hbz K hK0 hK Qz;have e3 := (hbz 3 (by simp)).trans s3;clear hb hbz;go_simp;exact hK0 _ rfl
  .
   rintro us W hJ d15 b hb hbz K hK0 hK Qz;have e20 := ay (hb 15 20 rfl) d15;clear hb hbz d15;have q := Ext.cell hJ y2;go_simp;exact hK0 _ rfl
  .
   rintro us W hJ ⟨d14, d16⟩ b hb hbz K hK0 hK Qz;have e19 := ay (hb 14 19 rfl) d14;have e21 := ay (hb 16 21 rfl) d16;clear hb hbz d14 d16;go_simp;refine (bf _ _ q.den r.den L M _ (Z16.ext (QZ.den hx) hJ) (Z16.ext (QZ.den hy) hJ) fq.2 fr.2 (by omega) (by omega)).mono ?_;rintro e w' ⟨v, rfl, hv, hX⟩;exact hK _ _ hv hX
  .
   rintro us W hJ d17 b hb hbz K hK0 hK Qz;have e22 := hb 17 22 rfl;clear hb hbz;obtain ⟨A9, l9, c9, hv9, g9, _⟩ := Z16.open d17;rw [hv9] at e22;go_simp;exact hK0 _ ⟨_, _, _, rfl, g9⟩
  .
   rintro us W hJ ⟨d12, d18⟩ b hb hbz K hK0 hK Qz;have e17 := hb 12 17 rfl;have e23 := hb 18 23 rfl;clear hb hbz;obtain ⟨A9, l9, c9, hv9, g9⟩ := d18;rw [hv9] at e23;go_simp;refine ((oQ _ _ false A9 l9 c9 _ (L + M + 1) _ d12 g9 (iV (bR fq.1 (by simpa using fr.2) (Nat.le_refl _)) (bR fr.1 (by simpa using fq.2) (by omega)) (by omega)) (ij fq.2 fr.2 (by omega)) (by omega) (Nat.mul_pos q.den_pos r.den_pos)).mono (RetQz.of (tk q r))).mono ?_;rintro e w' ⟨v, rfl, hv, hX⟩;exact hK _ _ hv hX
 .
  rintro us W ⟨v0, v1, v2, v3, v4, v5, v6, v7, v8, v9, v10, v11, v12, v13, v14, v15, v16, v17, v18, v19, _⟩ hJ;exact hend _ _ _ _ _ _ _ _ _ _ _ _ _ _ _ _ _ _ _ _ W v0 v1 v2 v3 v4 v5 v6 v7 v8 v9 v10 v11 v12 v13 v14 v15 v16 v17 v18 v19 hJ
theorem sE (s0 : Bool) (A0 B0 : Option Addr) (l0 c0 m0 k0 : Nat) (s1 : Bool) (A1 B1 : Option Addr) (l1 c1 m1 k1 : Nat) (q r : Rat) (L M : Nat) (w : World) (hx : QZ w (.agg #[.bool s0, .slice A0 l0 c0, .slice B0 m0 k0]) q) (hy : QZ w (.agg #[.bool s1, .slice A1 l1 c1, .slice B1 m1 k1]) r) (fq : FitR q L) (fr : FitR r M) (hLM : L + M + 1 <= 400000) :
  Calls Try.prog 32 #[.agg #[.bool s0, .slice A0 l0 c0, .slice B0 m0 k0], .agg #[.bool s1, .slice A1 l1 c1, .slice B1 m1 k1]] w (RetQz w (q + r)) := by
 have HXX := hid hx;have HYY := hid hy;have HFQ := hid fq;have HFR := hid fr;clear hx hy fq fr;have hXe : Ext w (((w.alloc (.cells #[.bool s0, .slice A0 l0 c0, .slice B0 m0 k0] 65)).alloc (.cells #[.bool s1, .slice A1 l1 c1, .slice B1 m1 k1] 65)).alloc (.cells #[.bool false, .slice none 0 0, .slice none 0 0] 65)) := ((((Ext.refl w).alloc _).alloc _).alloc _);have kA : Blk (((w.alloc (.cells #[.bool s0, .slice A0 l0 c0, .slice B0 m0 k0] 65)).alloc (.cells #[.bool s1, .slice A1 l1 c1, .slice B1 m1 k1] 65)).alloc (.cells #[.bool false, .slice none 0 0, .slice none 0 0] 65)) w.heap.size 65 #[.bool s0, .slice A0 l0 c0, .slice B0 m0 k0] := Blk.alloc (Blk.alloc (Blk.at_ (by simp)) _) _;have kB : Blk (((w.alloc (.cells #[.bool s0, .slice A0 l0 c0, .slice B0 m0 k0] 65)).alloc (.cells #[.bool s1, .slice A1 l1 c1, .slice B1 m1 k1] 65)).alloc (.cells #[.bool false, .slice none 0 0, .slice none 0 0] 65)) (w.heap.size + 1) 65 #[.bool s1, .slice A1 l1 c1, .slice B1 m1 k1] := Blk.alloc (Blk.at_ (by simp)) _;have kR : Blk (((w.alloc (.cells #[.bool s0, .slice A0 l0 c0, .slice B0 m0 k0] 65)).alloc (.cells #[.bool s1, .slice A1 l1 c1, .slice B1 m1 k1] 65)).alloc (.cells #[.bool false, .slice none 0 0, .slice none 0 0] 65)) (w.heap.size + 2) 65 #[.bool false, .slice none 0 0, .slice none 0 0] := Blk.at_ (by simp);go_enter Try.func32, Try.ntmps32
 go_wp2_with fail
 generalize (((w.alloc _).alloc _).alloc _) = w1 at hXe kA kB kR |-;have HX := hid hXe;clear hXe;have KA := hid kA;clear kA;have KB := hid kB;clear kB;have KR := hid kR;clear kR;replace HXX := hid (HXX.out.ext HX.out);replace HYY := hid (HYY.out.ext HX.out)
 go_upto_region 1 with (fail)
 refine rh w.heap.size (w.heap.size + 1) L M s0 A0 B0 l0 c0 m0 k0 s1 A1 B1 l1 c1 m1 k1 q r w1 (KA.out.cell 0) (KA.out.cell 1) (KA.out.cell 2) (KB.out.cell 0) (KB.out.cell 1) (KB.out.cell 2) HXX.out HYY.out HFQ.out HFR.out hLM _ _ (by simp) rfl rfl ?_;rintro xv0 xv1 xv2 xv3 xv4 xv5 xv6 xv7 xv8 xv9 xv10 xv11 xv12 xv13 xv14 xv15 xv16 xv17 xv18 xv19 w2 rfl rfl rfl rfl rfl _ rfl rfl rfl rfl rfl _ _ rfl rfl rfl rfl _ _ hv hXW;simp only [ae, Try.f32, ab, Option.bind_some, Nat.reduceBEq, if_true, if_false, Bool.false_eq_true, Option.getD_some, List.drop_succ_cons, List.drop_zero];simp only [Act.put, List.setIfInBounds_toArray, List.set_cons_succ, List.set_cons_zero];replace HX := hid (HX.out.trans hXW);replace HXX := hid (HXX.out.ext hXW);replace HYY := hid (HYY.out.ext hXW);replace KA := hid (KA.out.ext hXW);replace KB := hid (KB.out.ext hXW);replace KR := hid (KR.out.ext hXW);clear hXW;obtain ⟨s9, A9, l9, c9, B9, m9, k9, rfl⟩ := QZ.open hv;have HV := hid (QZ.past hv (NoInts.three KR.out));clear hv;have cR0 : w2.cell? ⟨(w.heap.size + 2), 0, none⟩ = some (.bool false) := KR.out.cell 0;have fR0 : w2.frozen? ⟨(w.heap.size + 2), 0, none⟩ = false := KR.out.free 0;have cR1 : w2.cell? ⟨(w.heap.size + 2), 1, none⟩ = some (.slice none 0 0) := KR.out.cell 1;have fR1 : w2.frozen? ⟨(w.heap.size + 2), 1, none⟩ = false := KR.out.free 1;have cR2 : w2.cell? ⟨(w.heap.size + 2), 2, none⟩ = some (.slice none 0 0) := KR.out.cell 2;have fR2 : w2.frozen? ⟨(w.heap.size + 2), 2, none⟩ = false := KR.out.free 2;go_wp2;refine bodyPost_ret (v := .agg #[.bool s9, .slice A9 l9 c9, .slice B9 m9 k9]) (by simp [results, Try.results32, go_sem, *]) rfl ?_;exact ⟨_, rfl, HV.out, Ext.boxed HX.out (by omega) _ _ _⟩
theorem fV (va vb : Value) (q r : Rat) (L M : Nat) (w : World) (hx : QZ w va q) (hy : QZ w vb r) (fq : FitR q L) (fr : FitR r M) (hLM : L + M + 1 <= 400000) : Calls Try.prog 32 #[va, vb] w (RetQz w (q + r)) := by
 obtain ⟨s0, A0, l0, c0, B0, m0, k0, rfl⟩ := hx.open;obtain ⟨s1, A1, l1, c1, B1, m1, k1, rfl⟩ := hy.open;exact sE s0 A0 B0 l0 c0 m0 k0 s1 A1 B1 l1 c1 m1 k1 q r L M w hx hy fq fr hLM
theorem ri (ga gb L M : Nat) (s0 : Bool) (A0 B0 : Option Addr) (l0 c0 m0 k0 : Nat) (s1 : Bool) (A1 B1 : Option Addr) (l1 c1 m1 k1 : Nat) (q r : Rat) (w : World) (x0 : w.cell? ⟨ga, 0, none⟩ = some (.bool s0)) (x1 : w.cell? ⟨ga, 1, none⟩ = some (.slice A0 l0 c0)) (x2 : w.cell? ⟨ga, 2, none⟩ = some (.slice B0 m0 k0)) (y0 : w.cell? ⟨gb, 0, none⟩ = some (.bool s1)) (y1 : w.cell? ⟨gb, 1, none⟩ = some (.slice A1 l1 c1)) (y2 : w.cell? ⟨gb, 2, none⟩ = some (.slice B1 m1 k1)) (hx : QZ w (.agg #[.bool s0, .slice A0 l0 c0, .slice B0 m0 k0]) q) (hy : QZ w (.agg #[.bool s1, .slice A1 l1 c1, .slice B1 m1 k1]) r) (fq : FitR q L) (fr : FitR r M) (hLM : L + M + 1 <= 400000) (a : Act) (Q : Exit -> Act -> World -> Prop) (hsize : 9 <= a.tmps.size)
  (s2 : a.tmps[2]? = some (.pointer (some ⟨ga, 0, none⟩)))
  (s3 : a.tmps[3]? = some (.pointer (some ⟨gb, 0, none⟩)))
  (hend : ∀ (xv0 xv1 xv2 xv3 : Value) (W : World), (xv0 = .agg #[.bool s0, .slice A0 l0 c0, .slice B0 m0 k0]) -> (xv1 = .agg #[.bool s1, .slice A1 l1 c1, .slice B1 m1 k1]) -> (QZ W xv2 (-r)) -> (QZ W xv3 (q - r)) -> Ext w W -> wpList Try.prog (ae Try.f116 1).toArray Q ((ae Try.f116 1).drop 4) ((((a.put (some 5) xv0).put (some 6) xv1).put (some 7) xv2).put (some 8) xv3) W) :
  (Code.region 1 (ae Try.f116 1).toArray true).wp Try.prog Q a w := by
 refine bM 4 [some 5, some 6, some 7, some 8] [[], [], [1], [0, 2]] [cH (.agg #[.bool s0, .slice A0 l0 c0, .slice B0 m0 k0]), cH (.agg #[.bool s1, .slice A1 l1 c1, .slice B1 m1 k1]), fun v W => QZ W v (-r), fun v W => QZ W v (q - r)] (by kernel_rfl) (by kernel_rfl) rfl (by decide) hsize ⟨aR, aR, by intro v W W' h hX; exact QZ.ext h hX, by intro v W W' h hX; exact QZ.ext h hX, trivial⟩ ?_ ?_
 .
  clear hend;simp only [ae, Try.f116, ab, Option.bind_some, Nat.reduceBEq, if_true, if_false, Bool.false_eq_true, Option.getD_some];simp only [List.take_succ_cons, List.take_zero];refine ⟨?_, ?_, ?_, ?_, trivial⟩
  .
   rintro us W hJ _ b hb hbz K hK0 hK Qz;have e2 := (hbz 2 (by simp)).trans s2;clear hb hbz;have z0 := Ext.cell hJ x0;have z1 := Ext.cell hJ x1;have z2 := Ext.cell hJ x2;go_simp;exact hK0 _ rfl
  .
   rintro us W hJ _ b hb hbz K hK0 hK Qz;have e3 := (hbz 3 (by simp)).trans s3;clear hb hbz;have z0 := Ext.cell hJ y0;have z1 := Ext.cell hJ y1;have z2 := Ext.cell hJ y2;go_simp;exact hK0 _ rfl
  .
   rintro us W hJ d1 b hb hbz K hK0 hK Qz;have e6 := ay (hb 1 6 rfl) d1;clear hb hbz d1;go_simp;refine (kf _ _ _ (QZ.ext hy hJ)).mono ?_;rintro e w' ⟨v, rfl, hv, hX⟩;exact hK _ _ hv hX
  .
   rintro us W hJ ⟨d0, d2⟩ b hb hbz K hK0 hK Qz;have e5 := ay (hb 0 5 rfl) d0;have e7 := hb 2 7 rfl;clear hb hbz d0;go_simp;refine ((fV _ _ q (-r) L M _ (QZ.ext hx hJ) d2 fq (oN fr) hLM).mono (RetQz.of (Rat.sub_eq_add_neg q r).symm)).mono ?_;rintro e w' ⟨v, rfl, hv, hX⟩;exact hK _ _ hv hX
 .
  rintro us W ⟨v0, v1, v2, v3, _⟩ hJ;exact hend _ _ _ _ W v0 v1 v2 v3 hJ
theorem sF (s0 : Bool) (A0 B0 : Option Addr) (l0 c0 m0 k0 : Nat) (s1 : Bool) (A1 B1 : Option Addr) (l1 c1 m1 k1 : Nat) (q r : Rat) (L M : Nat) (w : World) (hx : QZ w (.agg #[.bool s0, .slice A0 l0 c0, .slice B0 m0 k0]) q) (hy : QZ w (.agg #[.bool s1, .slice A1 l1 c1, .slice B1 m1 k1]) r) (fq : FitR q L) (fr : FitR r M) (hLM : L + M + 1 <= 400000) :
  Calls Try.prog 116 #[.agg #[.bool s0, .slice A0 l0 c0, .slice B0 m0 k0], .agg #[.bool s1, .slice A1 l1 c1, .slice B1 m1 k1]] w (RetQz w (q - r)) := by
 have HXX := hid hx;have HYY := hid hy;have HFQ := hid fq;have HFR := hid fr;clear hx hy fq fr;have hXe : Ext w (((w.alloc (.cells #[.bool s0, .slice A0 l0 c0, .slice B0 m0 k0] 65)).alloc (.cells #[.bool s1, .slice A1 l1 c1, .slice B1 m1 k1] 65)).alloc (.cells #[.bool false, .slice none 0 0, .slice none 0 0] 65)) := ((((Ext.refl w).alloc _).alloc _).alloc _);have kA : Blk (((w.alloc (.cells #[.bool s0, .slice A0 l0 c0, .slice B0 m0 k0] 65)).alloc (.cells #[.bool s1, .slice A1 l1 c1, .slice B1 m1 k1] 65)).alloc (.cells #[.bool false, .slice none 0 0, .slice none 0 0] 65)) w.heap.size 65 #[.bool s0, .slice A0 l0 c0, .slice B0 m0 k0] := Blk.alloc (Blk.alloc (Blk.at_ (by simp)) _) _;have kB : Blk (((w.alloc (.cells #[.bool s0, .slice A0 l0 c0, .slice B0 m0 k0] 65)).alloc (.cells #[.bool s1, .slice A1 l1 c1, .slice B1 m1 k1] 65)).alloc (.cells #[.bool false, .slice none 0 0, .slice none 0 0] 65)) (w.heap.size + 1) 65 #[.bool s1, .slice A1 l1 c1, .slice B1 m1 k1] := Blk.alloc (Blk.at_ (by simp)) _;have kR : Blk (((w.alloc (.cells #[.bool s0, .slice A0 l0 c0, .slice B0 m0 k0] 65)).alloc (.cells #[.bool s1, .slice A1 l1 c1, .slice B1 m1 k1] 65)).alloc (.cells #[.bool false, .slice none 0 0, .slice none 0 0] 65)) (w.heap.size + 2) 65 #[.bool false, .slice none 0 0, .slice none 0 0] := Blk.at_ (by simp);go_enter Try.func116, Try.ntmps116
 go_wp2_with fail
 generalize (((w.alloc _).alloc _).alloc _) = w1 at hXe kA kB kR |-;have HX := hid hXe;clear hXe;have KA := hid kA;clear kA;have KB := hid kB;clear kB;have KR := hid kR;clear kR;replace HXX := hid (HXX.out.ext HX.out);replace HYY := hid (HYY.out.ext HX.out)
 go_upto_region 1 with (fail)
 refine ri w.heap.size (w.heap.size + 1) L M s0 A0 B0 l0 c0 m0 k0 s1 A1 B1 l1 c1 m1 k1 q r w1 (KA.out.cell 0) (KA.out.cell 1) (KA.out.cell 2) (KB.out.cell 0) (KB.out.cell 1) (KB.out.cell 2) HXX.out HYY.out HFQ.out HFR.out hLM _ _ (by simp) rfl rfl ?_;rintro xv0 xv1 xv2 xv3 w2 rfl rfl _ hv hXW;simp only [ae, Try.f116, ab, Option.bind_some, Nat.reduceBEq, if_true, if_false, Bool.false_eq_true, Option.getD_some, List.drop_succ_cons, List.drop_zero];simp only [Act.put, List.setIfInBounds_toArray, List.set_cons_succ, List.set_cons_zero];replace HX := hid (HX.out.trans hXW);replace HXX := hid (HXX.out.ext hXW);replace HYY := hid (HYY.out.ext hXW);replace KA := hid (KA.out.ext hXW);replace KB := hid (KB.out.ext hXW);replace KR := hid (KR.out.ext hXW);clear hXW;obtain ⟨s9, A9, l9, c9, B9, m9, k9, rfl⟩ := QZ.open hv;have HV := hid (QZ.past hv (NoInts.three KR.out));clear hv;have cR0 : w2.cell? ⟨(w.heap.size + 2), 0, none⟩ = some (.bool false) := KR.out.cell 0;have fR0 : w2.frozen? ⟨(w.heap.size + 2), 0, none⟩ = false := KR.out.free 0;have cR1 : w2.cell? ⟨(w.heap.size + 2), 1, none⟩ = some (.slice none 0 0) := KR.out.cell 1;have fR1 : w2.frozen? ⟨(w.heap.size + 2), 1, none⟩ = false := KR.out.free 1;have cR2 : w2.cell? ⟨(w.heap.size + 2), 2, none⟩ = some (.slice none 0 0) := KR.out.cell 2;have fR2 : w2.frozen? ⟨(w.heap.size + 2), 2, none⟩ = false := KR.out.free 2;go_wp2;refine bodyPost_ret (v := .agg #[.bool s9, .slice A9 l9 c9, .slice B9 m9 k9]) (by simp [results, Try.results116, go_sem, *]) rfl ?_;exact ⟨_, rfl, HV.out, Ext.boxed HX.out (by omega) _ _ _⟩
theorem pc (va vb : Value) (q r : Rat) (L M : Nat) (w : World) (hx : QZ w va q) (hy : QZ w vb r) (fq : FitR q L) (fr : FitR r M) (hLM : L + M + 1 <= 400000) : Calls Try.prog 116 #[va, vb] w (RetQz w (q - r)) := by
 obtain ⟨s0, A0, l0, c0, B0, m0, k0, rfl⟩ := hx.open;obtain ⟨s1, A1, l1, c1, B1, m1, k1, rfl⟩ := hy.open;exact sF s0 A0 B0 l0 c0 m0 k0 s1 A1 B1 l1 c1 m1 k1 q r L M w hx hy fq fr hLM
theorem rj (ga gb L M : Nat) (s0 : Bool) (A0 B0 : Option Addr) (l0 c0 m0 k0 : Nat) (s1 : Bool) (A1 B1 : Option Addr) (l1 c1 m1 k1 : Nat) (q r : Rat) (w : World) (x0 : w.cell? ⟨ga, 0, none⟩ = some (.bool s0)) (x1 : w.cell? ⟨ga, 1, none⟩ = some (.slice A0 l0 c0)) (x2 : w.cell? ⟨ga, 2, none⟩ = some (.slice B0 m0 k0)) (y0 : w.cell? ⟨gb, 0, none⟩ = some (.bool s1)) (y1 : w.cell? ⟨gb, 1, none⟩ = some (.slice A1 l1 c1)) (y2 : w.cell? ⟨gb, 2, none⟩ = some (.slice B1 m1 k1)) (hx : QZ w (.agg #[.bool s0, .slice A0 l0 c0, .slice B0 m0 k0]) q) (hy : QZ w (.agg #[.bool s1, .slice A1 l1 c1, .slice B1 m1 k1]) r) (fq : FitR q L) (fr : FitR r M) (_hLM : L + M + 1 <= 400000) (a : Act) (Q : Exit -> Act -> World -> Prop) (hsize : 17 <= a.tmps.size)
  (s2 : a.tmps[2]? = some (.pointer (some ⟨ga, 0, none⟩)))
  (s3 : a.tmps[3]? = some (.pointer (some ⟨gb, 0, none⟩)))
  (hend : ∀ (xv0 xv1 xv2 xv3 xv4 xv5 xv6 xv7 xv8 xv9 xv10 xv11 : Value) (W : World), (xv0 = .pointer (some ⟨ga, 0, none⟩)) -> (xv1 = .agg #[.bool s0, .slice A0 l0 c0]) -> (xv2 = .pointer (some ⟨gb, 0, none⟩)) -> (xv3 = .agg #[.bool s1, .slice A1 l1 c1]) -> (IntZ W xv4 (q.num * r.num)) -> (xv5 = .pointer (some ⟨ga, 2, none⟩)) -> (xv6 = .slice B0 m0 k0) -> (xv7 = .pointer (some ⟨gb, 2, none⟩)) -> (xv8 = .slice B1 m1 k1) -> (Z16 W xv9 (q.den * r.den)) -> (∃ A l c, xv10 = .agg #[.bool false, .slice A l c] /\ Z16 W (.slice A l c) (q.den * r.den)) -> (QZ W xv11 (q * r)) -> Ext w W -> wpList Try.prog (ae Try.f33 1).toArray Q ((ae Try.f33 1).drop 12) ((((((((((((a.put (some 5) xv0).put (some 6) xv1).put (some 7) xv2).put (some 8) xv3).put (some 9) xv4).put (some 10) xv5).put (some 11) xv6).put (some 12) xv7).put (some 13) xv8).put (some 14) xv9).put (some 15) xv10).put (some 16) xv11) W) :
  (Code.region 1 (ae Try.f33 1).toArray true).wp Try.prog Q a w := by
 refine bM 12 [some 5, some 6, some 7, some 8, some 9, some 10, some 11, some 12, some 13, some 14, some 15, some 16] [[], [0], [], [2], [1, 3], [], [5], [], [7], [6, 8], [9], [4, 10]] [cH (.pointer (some ⟨ga, 0, none⟩)), cH (.agg #[.bool s0, .slice A0 l0 c0]), cH (.pointer (some ⟨gb, 0, none⟩)), cH (.agg #[.bool s1, .slice A1 l1 c1]), fun v W => IntZ W v (q.num * r.num), cH (.pointer (some ⟨ga, 2, none⟩)), cH (.slice B0 m0 k0), cH (.pointer (some ⟨gb, 2, none⟩)), cH (.slice B1 m1 k1), fun v W => Z16 W v (q.den * r.den), fun v W => ∃ A l c, v = .agg #[.bool false, .slice A l c] /\ Z16 W (.slice A l c) (q.den * r.den), fun v W => QZ W v (q * r)] (by kernel_rfl) (by kernel_rfl) rfl (by decide) hsize ⟨aR, aR, aR, aR, by intro v W W' h hX; exact IntZ.ext h hX, aR, aR, aR, aR, by intro v W W' h hX; exact Z16.ext h hX, by intro v W W' h hX; obtain ⟨A, l, c, h1, h2⟩ := h; exact ⟨A, l, c, h1, Z16.ext h2 hX⟩, by intro v W W' h hX; exact QZ.ext h hX, trivial⟩ ?_ ?_
 .
  clear hend;simp only [ae, Try.f33, ab, Option.bind_some, Nat.reduceBEq, if_true, if_false, Bool.false_eq_true, Option.getD_some];simp only [List.take_succ_cons, List.take_zero];refine ⟨?_, ?_, ?_, ?_, ?_, ?_, ?_, ?_, ?_, ?_, ?_, ?_, trivial⟩
  .
   rintro us W hJ _ b hb hbz K hK0 hK Qz;have e2 := (hbz 2 (by simp)).trans s2;clear hb hbz;go_simp;exact hK0 _ rfl
  .
   rintro us W hJ d0 b hb hbz K hK0 hK Qz;have e5 := ay (hb 0 5 rfl) d0;clear hb hbz d0;have z0 := Ext.cell hJ x0;have z1 := Ext.cell hJ x1;go_simp;exact hK0 _ rfl
  .
   rintro us W hJ _ b hb hbz K hK0 hK Qz;have e3 := (hbz 3 (by simp)).trans s3;clear hb hbz;go_simp;exact hK0 _ rfl
  .
   rintro us W hJ d2 b hb hbz K hK0 hK Qz;have e7 := ay (hb 2 7 rfl) d2;clear hb hbz d2;have z0 := Ext.cell hJ y0;have z1 := Ext.cell hJ y1;go_simp;exact hK0 _ rfl
  .
   rintro us W hJ ⟨d1, d3⟩ b hb hbz K hK0 hK Qz;have e6 := ay (hb 1 6 rfl) d1;have e8 := ay (hb 3 8 rfl) d3;clear hb hbz d1 d3;go_simp;refine (dA _ _ q.num r.num L M _ (IntZ.ext (QZ.num hx) hJ) (IntZ.ext (QZ.num hy) hJ) fq.1 fr.1 (by omega) (by omega)).mono ?_;rintro e w' ⟨v, rfl, hv, hX⟩;exact hK _ _ hv hX
  .
   rintro us W hJ _ b hb hbz K hK0 hK Qz;have e2 := (hbz 2 (by simp)).trans s2;clear hb hbz;go_simp;exact hK0 _ rfl
  .
   rintro us W hJ d5 b hb hbz K hK0 hK Qz;have e10 := ay (hb 5 10 rfl) d5;clear hb hbz d5;have q := Ext.cell hJ x2;go_simp;exact hK0 _ rfl
  .
   rintro us W hJ _ b hb hbz K hK0 hK Qz;have e3 := (hbz 3 (by simp)).trans s3;clear hb hbz;go_simp;exact hK0 _ rfl
  .
   rintro us W hJ d7 b hb hbz K hK0 hK Qz;have e12 := ay (hb 7 12 rfl) d7;clear hb hbz d7;have q := Ext.cell hJ y2;go_simp;exact hK0 _ rfl
  .
   rintro us W hJ ⟨d6, d8⟩ b hb hbz K hK0 hK Qz;have e11 := ay (hb 6 11 rfl) d6;have e13 := ay (hb 8 13 rfl) d8;clear hb hbz d6 d8;go_simp;refine (bf _ _ q.den r.den L M _ (Z16.ext (QZ.den hx) hJ) (Z16.ext (QZ.den hy) hJ) fq.2 fr.2 (by omega) (by omega)).mono ?_;rintro e w' ⟨v, rfl, hv, hX⟩;exact hK _ _ hv hX
  .
   rintro us W hJ d9 b hb hbz K hK0 hK Qz;have e14 := hb 9 14 rfl;clear hb hbz;obtain ⟨A9, l9, c9, hv9, g9, _⟩ := Z16.open d9;rw [hv9] at e14;go_simp;exact hK0 _ ⟨_, _, _, rfl, g9⟩
  .
   rintro us W hJ ⟨d4, d10⟩ b hb hbz K hK0 hK Qz;have e9 := hb 4 9 rfl;have e15 := hb 10 15 rfl;clear hb hbz;obtain ⟨A9, l9, c9, hv9, g9⟩ := d10;rw [hv9] at e15;go_simp;refine ((oQ _ _ false A9 l9 c9 _ (L + M + 1) _ d4 g9 (bR fq.1 fr.1 (by omega)) (ij fq.2 fr.2 (by omega)) (by omega) (Nat.mul_pos q.den_pos r.den_pos)).mono (RetQz.of (tl q r))).mono ?_;rintro e w' ⟨v, rfl, hv, hX⟩;exact hK _ _ hv hX
 .
  rintro us W ⟨v0, v1, v2, v3, v4, v5, v6, v7, v8, v9, v10, v11, _⟩ hJ;exact hend _ _ _ _ _ _ _ _ _ _ _ _ W v0 v1 v2 v3 v4 v5 v6 v7 v8 v9 v10 v11 hJ
theorem sG (s0 : Bool) (A0 B0 : Option Addr) (l0 c0 m0 k0 : Nat) (s1 : Bool) (A1 B1 : Option Addr) (l1 c1 m1 k1 : Nat) (q r : Rat) (L M : Nat) (w : World) (hx : QZ w (.agg #[.bool s0, .slice A0 l0 c0, .slice B0 m0 k0]) q) (hy : QZ w (.agg #[.bool s1, .slice A1 l1 c1, .slice B1 m1 k1]) r) (fq : FitR q L) (fr : FitR r M) (hLM : L + M + 1 <= 400000) :
  Calls Try.prog 33 #[.agg #[.bool s0, .slice A0 l0 c0, .slice B0 m0 k0], .agg #[.bool s1, .slice A1 l1 c1, .slice B1 m1 k1]] w (RetQz w (q * r)) := by
 have HXX := hid hx;have HYY := hid hy;have HFQ := hid fq;have HFR := hid fr;clear hx hy fq fr;have hXe : Ext w (((w.alloc (.cells #[.bool s0, .slice A0 l0 c0, .slice B0 m0 k0] 65)).alloc (.cells #[.bool s1, .slice A1 l1 c1, .slice B1 m1 k1] 65)).alloc (.cells #[.bool false, .slice none 0 0, .slice none 0 0] 65)) := ((((Ext.refl w).alloc _).alloc _).alloc _);have kA : Blk (((w.alloc (.cells #[.bool s0, .slice A0 l0 c0, .slice B0 m0 k0] 65)).alloc (.cells #[.bool s1, .slice A1 l1 c1, .slice B1 m1 k1] 65)).alloc (.cells #[.bool false, .slice none 0 0, .slice none 0 0] 65)) w.heap.size 65 #[.bool s0, .slice A0 l0 c0, .slice B0 m0 k0] := Blk.alloc (Blk.alloc (Blk.at_ (by simp)) _) _;have kB : Blk (((w.alloc (.cells #[.bool s0, .slice A0 l0 c0, .slice B0 m0 k0] 65)).alloc (.cells #[.bool s1, .slice A1 l1 c1, .slice B1 m1 k1] 65)).alloc (.cells #[.bool false, .slice none 0 0, .slice none 0 0] 65)) (w.heap.size + 1) 65 #[.bool s1, .slice A1 l1 c1, .slice B1 m1 k1] := Blk.alloc (Blk.at_ (by simp)) _;have kR : Blk (((w.alloc (.cells #[.bool s0, .slice A0 l0 c0, .slice B0 m0 k0] 65)).alloc (.cells #[.bool s1, .slice A1 l1 c1, .slice B1 m1 k1] 65)).alloc (.cells #[.bool false, .slice none 0 0, .slice none 0 0] 65)) (w.heap.size + 2) 65 #[.bool false, .slice none 0 0, .slice none 0 0] := Blk.at_ (by simp);go_enter Try.func33, Try.ntmps33
 go_wp2_with fail
 generalize (((w.alloc _).alloc _).alloc _) = w1 at hXe kA kB kR |-;have HX := hid hXe;clear hXe;have KA := hid kA;clear kA;have KB := hid kB;clear kB;have KR := hid kR;clear kR;replace HXX := hid (HXX.out.ext HX.out);replace HYY := hid (HYY.out.ext HX.out)
 go_upto_region 1 with (fail)
 refine rj w.heap.size (w.heap.size + 1) L M s0 A0 B0 l0 c0 m0 k0 s1 A1 B1 l1 c1 m1 k1 q r w1 (KA.out.cell 0) (KA.out.cell 1) (KA.out.cell 2) (KB.out.cell 0) (KB.out.cell 1) (KB.out.cell 2) HXX.out HYY.out HFQ.out HFR.out hLM _ _ (by simp) rfl rfl ?_;rintro xv0 xv1 xv2 xv3 xv4 xv5 xv6 xv7 xv8 xv9 xv10 xv11 w2 rfl rfl rfl rfl _ rfl rfl rfl rfl _ _ hv hXW;simp only [ae, Try.f33, ab, Option.bind_some, Nat.reduceBEq, if_true, if_false, Bool.false_eq_true, Option.getD_some, List.drop_succ_cons, List.drop_zero];simp only [Act.put, List.setIfInBounds_toArray, List.set_cons_succ, List.set_cons_zero];replace HX := hid (HX.out.trans hXW);replace HXX := hid (HXX.out.ext hXW);replace HYY := hid (HYY.out.ext hXW);replace KA := hid (KA.out.ext hXW);replace KB := hid (KB.out.ext hXW);replace KR := hid (KR.out.ext hXW);clear hXW;obtain ⟨s9, A9, l9, c9, B9, m9, k9, rfl⟩ := QZ.open hv;have HV := hid (QZ.past hv (NoInts.three KR.out));clear hv;have cR0 : w2.cell? ⟨(w.heap.size + 2), 0, none⟩ = some (.bool false) := KR.out.cell 0;have fR0 : w2.frozen? ⟨(w.heap.size + 2), 0, none⟩ = false := KR.out.free 0;have cR1 : w2.cell? ⟨(w.heap.size + 2), 1, none⟩ = some (.slice none 0 0) := KR.out.cell 1;have fR1 : w2.frozen? ⟨(w.heap.size + 2), 1, none⟩ = false := KR.out.free 1;have cR2 : w2.cell? ⟨(w.heap.size + 2), 2, none⟩ = some (.slice none 0 0) := KR.out.cell 2;have fR2 : w2.frozen? ⟨(w.heap.size + 2), 2, none⟩ = false := KR.out.free 2;go_wp2;refine bodyPost_ret (v := .agg #[.bool s9, .slice A9 l9 c9, .slice B9 m9 k9]) (by simp [results, Try.results33, go_sem, *]) rfl ?_;exact ⟨_, rfl, HV.out, Ext.boxed HX.out (by omega) _ _ _⟩
theorem fW (va vb : Value) (q r : Rat) (L M : Nat) (w : World) (hx : QZ w va q) (hy : QZ w vb r) (fq : FitR q L) (fr : FitR r M) (hLM : L + M + 1 <= 400000) : Calls Try.prog 33 #[va, vb] w (RetQz w (q * r)) := by
 obtain ⟨s0, A0, l0, c0, B0, m0, k0, rfl⟩ := hx.open;obtain ⟨s1, A1, l1, c1, B1, m1, k1, rfl⟩ := hy.open;exact sG s0 A0 B0 l0 c0 m0 k0 s1 A1 B1 l1 c1 m1 k1 q r L M w hx hy fq fr hLM
theorem sH (s0 : Bool) (A0 B0 : Option Addr) (l0 c0 m0 k0 : Nat) (s1 : Bool) (A1 B1 : Option Addr) (l1 c1 m1 k1 : Nat) (q r : Rat) (L M : Nat) (w : World) (hx : QZ w (.agg #[.bool s0, .slice A0 l0 c0, .slice B0 m0 k0]) q) (hy : QZ w (.agg #[.bool s1, .slice A1 l1 c1, .slice B1 m1 k1]) r) (fq : FitR q L) (fr : FitR r M) (hLM : L + M + 1 <= 400000) :
  Calls Try.prog 37 #[.agg #[.bool s0, .slice A0 l0 c0, .slice B0 m0 k0], .agg #[.bool s1, .slice A1 l1 c1, .slice B1 m1 k1]] w (fun e w' => e = .returned (.int .i64 (bW (q - r))) /\ Ext w w') := by
 have HXX := hid hx;have HYY := hid hy;have HFQ := hid fq;have HFR := hid fr;clear hx hy fq fr;have hXe : Ext w ((w.alloc (.cells #[.bool s0, .slice A0 l0 c0, .slice B0 m0 k0] 65)).alloc (.cells #[.bool s1, .slice A1 l1 c1, .slice B1 m1 k1] 65)) := (((Ext.refl w).alloc _).alloc _);have kA : Blk ((w.alloc (.cells #[.bool s0, .slice A0 l0 c0, .slice B0 m0 k0] 65)).alloc (.cells #[.bool s1, .slice A1 l1 c1, .slice B1 m1 k1] 65)) w.heap.size 65 #[.bool s0, .slice A0 l0 c0, .slice B0 m0 k0] := Blk.alloc (Blk.at_ (by simp)) _;have kB : Blk ((w.alloc (.cells #[.bool s0, .slice A0 l0 c0, .slice B0 m0 k0] 65)).alloc (.cells #[.bool s1, .slice A1 l1 c1, .slice B1 m1 k1] 65)) (w.heap.size + 1) 65 #[.bool s1, .slice A1 l1 c1, .slice B1 m1 k1] := Blk.at_ (by simp);go_enter Try.func37, Try.ntmps37
 go_wp2_with fail
 generalize ((w.alloc _).alloc _) = w1 at hXe kA kB |-;have HX := hid hXe;clear hXe;have KA := hid kA;clear kA;have KB := hid kB;clear kB;replace HXX := hid (HXX.out.ext HX.out);replace HYY := hid (HYY.out.ext HX.out);have cA0 : w1.cell? ⟨w.heap.size, 0, none⟩ = some (.bool s0) := KA.out.cell 0;have cA1 : w1.cell? ⟨w.heap.size, 1, none⟩ = some (.slice A0 l0 c0) := KA.out.cell 1;have cA2 : w1.cell? ⟨w.heap.size, 2, none⟩ = some (.slice B0 m0 k0) := KA.out.cell 2;have cB0 : w1.cell? ⟨(w.heap.size + 1), 0, none⟩ = some (.bool s1) := KB.out.cell 0;have cB1 : w1.cell? ⟨(w.heap.size + 1), 1, none⟩ = some (.slice A1 l1 c1) := KB.out.cell 1;have cB2 : w1.cell? ⟨(w.heap.size + 1), 2, none⟩ = some (.slice B1 m1 k1) := KB.out.cell 2
 go_wp2_with fail
 clear cA0 cA1 cA2 cB0 cB1 cB2;refine (pc _ _ q r L M _ HXX.out HYY.out HFQ.out HFR.out hLM).mono ?_;rintro e w2 ⟨v9, rfl, hv, hX⟩;replace hX : Ext w1 w2 := by with_reducible exact hX
 replace HX := hid (HX.out.trans hX);replace HXX := hid (HXX.out.ext hX);replace HYY := hid (HYY.out.ext hX);replace KA := hid (KA.out.ext hX);replace KB := hid (KB.out.ext hX);clear hX;obtain ⟨s9, A9, l9, c9, B9, m9, k9, rfl⟩ := QZ.open hv;have HV := hid hv.num;clear hv;have hL := sD s9 A9 B9 l9 c9 m9 k9
 go_wp2_with fail
 refine (eL _ _ _ HV.out).mono ?_;rw [rg];rintro e w3 ⟨rfl, hX⟩;replace hX : Ext w2 w3 := by with_reducible exact hX
 replace HX := hid (HX.out.trans hX);replace HXX := hid (HXX.out.ext hX);replace HYY := hid (HYY.out.ext hX);replace HV := hid (HV.out.ext hX);replace KA := hid (KA.out.ext hX);replace KB := hid (KB.out.ext hX);clear hX;go_wp2;go_ret;exact ⟨rfl, HX.out⟩
theorem jg (va vb : Value) (q r : Rat) (L M : Nat) (w : World) (hx : QZ w va q) (hy : QZ w vb r) (fq : FitR q L) (fr : FitR r M) (hLM : L + M + 1 <= 400000) : Calls Try.prog 37 #[va, vb] w fun e w' => e = .returned (.int .i64 (bW (q - r))) /\ Ext w w' := by
 obtain ⟨s0, A0, l0, c0, B0, m0, k0, rfl⟩ := hx.open;obtain ⟨s1, A1, l1, c1, B1, m1, k1, rfl⟩ := hy.open;exact sH s0 A0 B0 l0 c0 m0 k0 s1 A1 B1 l1 c1 m1 k1 q r L M w hx hy fq fr hLM
/-- What one operation must give, jV a frame of which only the slots' values are known. -/
def tW (P : Program) (ops : Array Oper) (J : (Nat -> Prop) -> (Nat -> Value) -> World -> Prop) (D A : List (List Nat)) (ds : List (Option Tmp)) (a : Act) (i : Nat) (o : Oper) : Prop :=
 ∀ (done : Nat -> Prop) (us : Nat -> Value) (W : World), J done us W -> (∀ j ∈ D.getD i [], done j) -> (∀ j ∈ A.getD i [], ¬ done j) -> ¬ done i -> ∀ b : Act, (∀ j d, ds[j]? = some (some d) -> b.tmps[d]? = some (us j)) -> (∀ d, some d ∉ ds -> b.tmps[d]? = a.tmps[d]?) -> ∀ K : Act -> World -> Prop,
   (∀ v W', J (fun k => done k \/ k = i) (eH us i v) W' -> K (b.put o.dst v) W') -> ∀ Q' : Exit -> Act -> World -> Prop,
   if Region.wanted o (yielded ops b.tmps) then o.wp P b W K Q' else K (b.put o.dst undef) W
def GAllq (P : Program) (ops : Array Oper) (J : (Nat -> Prop) -> (Nat -> Value) -> World -> Prop) (D A : List (List Nat)) (ds : List (Option Tmp)) (a : Act) : Nat -> List Oper -> Prop
 | _, [] => True
 | i, o :: rest => tW P ops J D A ds a i o /\ GAllq P ops J D A ds a (i + 1) rest
theorem GAllq.at {P : Program} {ops : Array Oper} {J : (Nat -> Prop) -> (Nat -> Value) -> World -> Prop} {D A : List (List Nat)} {ds : List (Option Tmp)} {a : Act} : ∀ (l : List Oper) (k : Nat), GAllq P ops J D A ds a k l -> ∀ i o, l[i]? = some o -> tW P ops J D A ds a (k + i) o := by
 intro l
 induction l with
 | nil => intro k _ i o h; simp at h
 | cons x l ih =>
  intro k h i o ho
  cases i with
  | zero => simp at ho; subst ho; exact h.1
  | succ i =>
   have := ih (k + 1) h.2 i o (by simpa using ho);rw [show k + 1 + i = k + (i + 1) by omega] at this;exact this
section
variable {P : Program} {l : List Oper} {n : Nat} {ds : List (Option Tmp)} {D A : List (List Nat)} {J : (Nat -> Prop) -> (Nat -> Value) -> World -> Prop} {a : Act} {Q : Exit -> Act -> World -> Prop}
theorem tn (hB : jB l.toArray n ds D A = true) (hs : ∀ d, some d ∈ ds -> d < a.tmps.size) (hJ : ∀ p q us W, (∀ k, p k ↔ q k) -> J p us W -> J q us W) (hop : GAllq P l.toArray J D A ds a 0 (l.take n))
  (hend : ∀ us W, J (fun k => k < n) us W -> wpList P l.toArray Q (l.drop n) (aQ a ds us 0) W) :
  ∀ (f : Nat) (rem : List Nat) (listed : Array Bool) (us : Nat -> Value) (W : World), rem.length = f -> rem.Nodup -> HeadInv .any l.toArray n listed -> (∀ j, j < n -> (listed.getD j true = false ↔ j ∈ rem)) -> (∀ j ∈ rem, j < n) ->
   J (fun k => k < n /\ k ∉ rem) us W -> wpAny P .any l.toArray Q (f + (l.toArray.size - n)) listed (aQ a ds us 0) W := by
 simp only [jB, Bool.and_eq_true, decide_eq_true_eq] at hB;obtain ⟨⟨⟨⟨⟨⟨hn, hl⟩, hnt⟩, hD⟩, hless⟩, hsc⟩, hseq⟩ := hB;have hnd := dV ds hnt;intro f
 induction f with
 | zero =>
  intro rem listed us W hlen _ inv hrem _ hX;obtain rfl : rem = [] := List.eq_nil_of_length_eq_zero hlen
  have hlist : listed = ((List.range l.toArray.size).map (fun i => decide (i < n))).toArray := by
   apply Array.ext
   .
    simp [inv.size]
   .
    intro i h1 h2;have hsz := inv.size;simp only [List.getElem_toArray, List.getElem_map, List.getElem_range]
    by_cases hi : i < n
    .
     have h3 := hrem i hi;simp only [List.not_mem_nil, iff_false, Bool.not_eq_false] at h3;have h4 : listed.getD i true = listed[i] := by simp [Array.getD, h1]
     rw [h4] at h3;simp [h3, hi]
    .
     have h3 := inv.tail i (by omega) (by omega);have h4 : listed.getD i true = listed[i] := by simp [Array.getD, h1]
     rw [h4] at h3;simp [h3, hi]
  have hdl : (l.drop n).length = l.toArray.size - n := by simp
  rw [Nat.zero_add, <- hdl];refine wpAny_of_seq (l.drop n) n listed _ W (fun j => by simp [List.getElem?_drop]) ?_ (hend us W (hJ _ _ us W (by simp) hX));rw [hdl, hlist];exact hseq
 | succ f ih =>
  intro rem listed us W hlen hnodup inv hrem hlt hX;rw [show f + 1 + (l.toArray.size - n) = (f + (l.toArray.size - n)) + 1 by omega];have hne : rem ≠ [] := by intro e; subst e; simp at hlen
  refine ⟨fun h0 => ?_, fun i hi => ?_⟩
  .
   exfalso
   obtain ⟨k, hk, hmin⟩ : ∃ k ∈ rem, ∀ j ∈ rem, k <= j := by
    obtain ⟨m, hm, hm2⟩ := exists_least (p := fun m => m ∈ rem) (by cases rem with | nil => exact absurd rfl hne | cons x xs => exact ⟨x, List.mem_cons_self ..⟩);exact ⟨m, hm, fun j hj => hm2 j hj⟩
   have hkn := hlt k hk
   have hr : k ∈ Region.ready .any l.toArray listed := by
    refine mem_ready.2 ⟨(hrem k hkn).2 hk, ?_⟩;have h1 := List.all_eq_true.1 hless k (List.mem_range.2 hkn)
    cases ho : l.toArray[k]? with
    | none => rw [ho] at h1; simp at h1
    | some o =>
     rw [ho] at h1;refine ⟨o, rfl, fun e he hb => ?_⟩;have h2 := Array.all_eq_true_iff_forall_mem.1 h1 e he;simp only [hb, Bool.not_true, Bool.false_or, decide_eq_true_eq] at h2;have h3 : e.on ∉ rem := fun h => by have := hmin _ h; omega
     have h4 : listed.getD e.on true = true := by
      cases h5 : listed.getD e.on true with
      | true => rfl
      | false => exact absurd ((hrem e.on (by omega)).1 h5) h3
     have hsz : e.on < listed.size := by rw [inv.size]; omega
     simp [Array.getD, hsz] at h4 |-;exact h4
   rw [h0] at hr
   cases hr
  .
   obtain ⟨hun, o, ho, hall⟩ := mem_ready.1 hi;have hisz : i < l.toArray.size := (Array.getElem?_eq_some_iff.1 ho).1
   have hin : i < n := by
    rcases Nat.lt_or_ge i n with h | h
    .
     exact h
    .
     simp only [Bool.or_eq_true, Bool.and_eq_true, decide_eq_true_eq] at hsc
     rcases hsc with hsc | ⟨hs, hc⟩
     .
      omega
     .
      obtain ⟨k, hk⟩ : ∃ k, k ∈ rem := by cases rem with | nil => exact absurd rfl hne | cons x xs => exact ⟨x, List.mem_cons_self ..⟩
      exact absurd hi (tail_waits hs hc (by omega) inv _ k rfl (hlt k hk) ((hrem k (hlt k hk)).2 hk) i h)
   have hir : i ∈ rem := (hrem i hin).1 hun;have hDi := List.all_eq_true.1 hD i (List.mem_range.2 hin);simp only [Bool.and_eq_true, beq_iff_eq] at hDi;obtain ⟨⟨hdst, hdeps⟩, hafts⟩ := hDi;rw [ho] at hdst;simp only [Option.map_some] at hdst;have hm := GAllq.at (l.take n) 0 hop i o (by rw [List.getElem?_take, if_pos hin]; simpa using ho);rw [Nat.zero_add] at hm
   have hdp : ∀ j ∈ D.getD i [], (j < n /\ j ∉ rem) := fun j hj => by
    have h1 := List.all_eq_true.1 hdeps j hj;simp only [Bool.and_eq_true, decide_eq_true_eq] at h1;obtain ⟨oj, hoj, e, he, hb, hon⟩ := Region.waitsFor_spec h1.2;have : oj = o := Option.some.inj (hoj.symm.trans ho);subst this;have h2 := hall e he hb;rw [hon] at h2
    have hjr : j ∉ rem := fun hjr => by
     have h3 := (hrem j (by omega)).2 hjr;rw [getD_both h3] at h2
     cases h2
    exact ⟨by omega, hjr⟩
   have haf : ∀ j ∈ A.getD i [], ¬ (j < n /\ j ∉ rem) := fun j hj hd => by
    have h1 := List.all_eq_true.1 hafts j hj;simp only [Bool.and_eq_true, decide_eq_true_eq] at h1;obtain ⟨oj, hoj, e, he, hb, hon⟩ := Region.waitsFor_spec h1.2
    have h4 : listed.getD j false = true := by
     have h5 : listed.getD j true = true := by
      cases h5 : listed.getD j true with
      | true => rfl
      | false => exact absurd ((hrem j hd.1).1 h5) hd.2
     have hsz : j < listed.size := by rw [inv.size]; omega
     simp [Array.getD, hsz] at h5 |-;exact h5
    have h6 := inv.closed j oj hoj h4 e he hb;rw [hon, getD_both hun] at h6
    cases h6
   have key : ∀ v W', J (fun k => (k < n /\ k ∉ rem) \/ k = i) (eH us i v) W' -> wpAny P .any l.toArray Q (f + (l.toArray.size - n)) (listed.setIfInBounds i true) ((aQ a ds us 0).put o.dst v) W' := fun v W' hj => by
    rw [gK us v ds hnd a 0 i o.dst hdst.symm, Nat.zero_add];refine ih (rem.erase i) _ (eH us i v) W' (by rw [List.length_erase_of_mem hir]; omega) (hnodup.erase i) (inv.set hi hin) (fun j hj => ?_) (fun j hj => hlt j (List.mem_of_mem_erase hj)) (hJ _ _ _ W' (fun k => ?_) hj)
    .
     by_cases hji : i = j
     .
      subst hji;have hsz : i < listed.size := by rw [inv.size]; omega
      simp [Array.getD, hsz];exact fun h => (hnodup.mem_erase_iff.1 h).1 rfl
     .
      rw [getD_set_ne true hji, hrem j hj, hnodup.mem_erase_iff];exact ⟨fun h => ⟨Ne.symm hji, h⟩, fun h => h.2⟩
    .
     rw [hnodup.mem_erase_iff];constructor
     .
      rintro (⟨h1, h2⟩ | rfl)
      .
       exact ⟨h1, fun h => h2 h.2⟩
      .
       exact ⟨hin, fun h => h.1 rfl⟩
     .
      rintro ⟨h1, h2⟩
      by_cases hki : k = i
      .
       exact .inr hki
      .
       exact .inl ⟨h1, fun h => h2 ⟨hki, h⟩⟩
   unfold wpOp;rw [ho];simp only
   have hgo := hm (fun k => k < n /\ k ∉ rem) us W hX hdp haf (fun h => h.2 hir) (aQ a ds us 0) (fun j d hj => by
    have := gL us ds hnd a 0 j d hj (hs d (List.mem_of_getElem? hj))
    rwa [Nat.zero_add] at this) (fun d hd => dU us ds a 0 d hd) (wpAny P .any l.toArray Q (f + (l.toArray.size - n)) (listed.setIfInBounds i true)) key Q
   split
   .
    rename_i hw; rw [if_pos hw] at hgo; exact .inl hgo
   .
    rename_i hw; rw [if_neg hw] at hgo; exact hgo
/-- THE LAW. -/
theorem dC {id : Nat} {w : World} (n : Nat) (ds : List (Option Tmp)) (D A : List (List Nat)) (J : (Nat -> Prop) -> (Nat -> Value) -> World -> Prop) (hm : P.follows .mixedOrders = true) (hB : jB l.toArray n ds D A = true)
  (hd : ∀ d, some d ∈ ds -> d < a.tmps.size) (hJ : ∀ p q us W, (∀ k, p k ↔ q k) -> J p us W -> J q us W) (h0 : ∀ us, J (fun _ => False) us w.drew) (hop : GAllq P l.toArray J D A ds a 0 (l.take n))
  (hend : ∀ us W, J (fun k => k < n) us W -> wpList P l.toArray Q (l.drop n) (aQ a ds us 0) W) : (Code.region id l.toArray true).wp P Q a w := by
 refine wp_region_any hm ?_;have hB' := hB;simp only [jB, Bool.and_eq_true, decide_eq_true_eq] at hB';obtain ⟨⟨⟨⟨⟨⟨hn, hl⟩, hnt⟩, _⟩, _⟩, _⟩, _⟩ := hB'
 have h := tn hB hd hJ hop hend n (List.range n) (Array.replicate l.toArray.size false) (fun j => a.tmps.getD ((ds.getD j none).getD 0) undef) w.drew (by simp) List.nodup_range
  ⟨by simp, fun j oj _ hl => (by rw [getD_replicate_false] at hl; cases hl), fun t _ ht => getD_in (by simpa using ht) (getD_replicate_false _ _)⟩
  (fun j hj => ⟨fun _ => List.mem_range.2 hj, fun _ => getD_in (by simp at hn |-; omega) (getD_replicate_false _ _)⟩) (fun j hj => List.mem_range.1 hj)
  (hJ _ _ _ _ (fun k => by simp) (h0 _))
 rw [eV ds a 0 _ hd (fun i d hi => by simp [List.getD, hi])] at h;have e : n + (l.toArray.size - n) = l.toArray.size := by omega
 rw [e] at h;exact h
end
/-- A local struct of a region: its cells are 'zs' until they are stored, then 'vs'. -/
structure Loc (w W : World) (T : TypeId) (zs vs : Array Value) (da dst : Prop) (v : Value) : Prop where
 ptr : da -> ∃ g, v = .pointer (some ⟨g, 0, none⟩) /\ w.heap.size <= g /\ (dst -> Blk W g T vs) /\ (¬ dst -> Blk W g T zs)
section
variable {w W W' : World} {T : TypeId} {zs vs : Array Value} {da dst da' dst' : Prop} {v u : Value}
theorem Loc.unmade (h : ¬ da) : Loc w W T zs vs da dst v := ⟨fun h' => absurd h' h⟩
theorem Loc.stored (h : Loc w W T zs vs da dst v) (hd : da) (hs : ¬ dst) : ∃ g, v = .pointer (some ⟨g, 0, Option.none⟩) /\ w.heap.size <= g /\ Blk W g T zs := by
 obtain ⟨g, h1, h2, _, h4⟩ := h.ptr hd;exact ⟨g, h1, h2, h4 hs⟩
theorem Loc.done (h : Loc w W T zs vs da dst v) (hd : da) (hs : dst) : ∃ g, v = .pointer (some ⟨g, 0, Option.none⟩) /\ w.heap.size <= g /\ Blk W g T vs := by
 obtain ⟨g, h1, h2, h3, _⟩ := h.ptr hd;exact ⟨g, h1, h2, h3 hs⟩
theorem Loc.same (h : Loc w W T zs vs da dst v) (ha : da' ↔ da) (hs : dst' ↔ dst) : Loc w W T zs vs da' dst' v := by
 have e1 := propext ha;have e2 := propext hs;subst e1 e2;exact h
theorem Loc.ext (h : Loc w W T zs vs da dst v) (hX : Ext W W') : Loc w W' T zs vs da dst v := ⟨fun hd => by
 obtain ⟨g, h1, h2, h3, h4⟩ := h.ptr hd;exact ⟨g, h1, h2, fun h => (h3 h).ext hX, fun h => (h4 h).ext hX⟩⟩
theorem Loc.new (w W : World) (hw : Ext w W) (hs : ¬ dst) (hX : Ext (W.alloc (.cells zs T)) W') : Loc w W' T zs vs da dst (.pointer (some ⟨W.heap.size, 0, none⟩)) :=
 ⟨fun _ => ⟨_, rfl, hw.size, fun h => absurd h hs, fun _ => (Blk.new W T zs).ext hX⟩⟩
end
def jh : Value -> Array Value
 | .agg vs => vs
 | _ => #[]
theorem QZ.past' {w : World} {v : Value} {q : Rat} {g : Nat} (h : QZ w v q) (hN : NoInts w g) {b : Bool} {A B : Option Addr} {l c m k : Nat} : QZ (((w.setCell ⟨g, 0, none⟩ (.bool b)).setCell ⟨g, 1, none⟩ (.slice A l c)).setCell ⟨g, 2, none⟩ (.slice B m k)) v q := by
 obtain ⟨b', A', l', c', B', m', k', h0, h1, h2, h3⟩ := h;exact ⟨b', A', l', c', B', m', k', h0, h1, h2.box3 hN _ _ _ _ _ _ _, h3.box3 hN _ _ _ _ _ _ _⟩
theorem Loc.revs {w W : World} {T : TypeId} {zs vs vs' : Array Value} {da dst : Prop} {v : Value} (h : Loc w W T zs vs da dst v) (hn : ¬ dst) : Loc w W T zs vs' da dst v := ⟨fun hd => by
 obtain ⟨g, h1, h2, _, h4⟩ := h.ptr hd;exact ⟨g, h1, h2, fun h => absurd h hn, h4⟩⟩
theorem SmallR.fit {neg : Bool} {xs ys : List Int} (h : SmallR xs ys) : FitQ (bV neg xs ys) 256 := ia (ig ys) h.1.fit h.den.fit
theorem FitQW.of {q : Rat} (h : FitQ q 256) : FitQW q := ⟨⟨h.1⟩, ⟨h.2⟩⟩
theorem RatC.open {w : World} {v : Value} {q : Rat} (h : RatC w v q) : ∃ s A l c B m k, v = .agg #[.bool s, .slice A l c, .slice B m k] := by
 obtain ⟨xs, ys, ⟨A, l, c, B, m, k, rfl, _⟩, _⟩ := h;exact ⟨_, _, _, _, _, _, _, rfl⟩
theorem FitQW.of4 {q : Rat} {L : Nat} (h : FitQ q L) (hl : L <= 256) : FitQW q := FitQW.of (h.mono hl)
/-- A value that denotes a number and is not large. -/
def RatG (w : World) (v : Value) (q : Rat) : Prop := ∃ neg xs ys, RatV w v neg xs ys /\ SmallR xs ys /\ bV neg xs ys = q
theorem RatG.ext {w w' : World} {v : Value} {q : Rat} (h : RatG w v q) (he : Ext w w') : RatG w' v q := by
 obtain ⟨neg, xs, ys, h1, h2, h3⟩ := h;exact ⟨neg, xs, ys, h1.ext he, h2, h3⟩
theorem Rep.wN {xs : List Int} {n : Nat} (h : Rep 4294967296 xs n) : wN xs = n := by
 have := h.2.2;unfold Go.Proofs.Ytikhlcgnlbinfaa.wN; omega
theorem RatC.good {w : World} {v : Value} {q : Rat} (h : RatC w v q) (hf : FitQW q) : RatG w v q := by
 obtain ⟨xs, ys, h1, h2, h3⟩ := h;have e1 := h2.wN
 have e2 : wD ys = q.den /\ aV (wN ys) := by
  rcases h3 with ⟨hd, rfl⟩ | ⟨hd, hr⟩
  .
   have : wN [] = 0 := by simp [wN, val]
   refine ⟨by unfold wD; rw [this, hd]; rfl, ?_⟩;rw [this]; exact ⟨Fit.zero (by omega)⟩
  .
   have e := hr.wN;have := q.den_pos;refine ⟨by unfold wD; rw [e, if_neg (by omega)], ?_⟩;rw [e]; exact hf.den
 refine ⟨_, xs, ys, h1, ⟨by rw [e1]; exact hf.num, e2.2⟩, ?_⟩;unfold bV;rw [e1, e2.1, gO]
section
variable {w : World} {v : Value} {q : Rat}
end
/-- A value that denotes a number, and whether it is large. -/
def RatL (w : World) (v : Value) (big : Bool) : Prop := ∃ neg xs ys, RatV w v neg xs ys /\ (big = true ↔ ¬ SmallR xs ys)
theorem RatG.small {w : World} {v : Value} {q : Rat} (h : RatG w v q) : RatL w v false := by
 obtain ⟨neg, xs, ys, h1, h2, _⟩ := h;exact ⟨neg, xs, ys, h1, by simp [h2]⟩
theorem RatL.is {w : World} {v : Value} {b : Bool} (h : RatL w v b) : Calls Try.prog 141 #[v] w fun e w' => e = .returned (.bool b) /\ Ext w w' := by
 obtain ⟨neg, xs, ys, h1, h2⟩ := h;exact oM b v neg xs ys w h1 h2
theorem uc {w : World} {v : Value} {q : Rat} (h : RatG w v q) : Calls Try.prog 133 #[v] w (fg w q 256) := by
 obtain ⟨neg, xs, ys, h1, h2, rfl⟩ := h;refine (sC v neg xs ys 256 w h1 h2.1.fit h2.den.fit (by omega)).mono ?_;rintro e w' ⟨v', rfl, hv, hX⟩;exact ⟨v', rfl, hv.numx h2.fit, hX⟩
theorem pd {w : World} {v : Value} {q : Rat} {L : Nat} (h : NumX w v q L) (hL : L <= 1099511627775) (hq : FitQW q) : Calls Try.prog 131 #[v] w (qM w q) := qO v q L w h hL hq
theorem dx (m : Nat) : (65536 : Int) ^ (2 * m) = 4294967296 ^ m := by rw [Int.pow_mul]; rfl
theorem dy {n L : Nat} : Fit 65536 n (2 * L) ↔ Fit 4294967296 n L := by unfold Fit; rw [dx]
theorem eZ {q : Rat} {L : Nat} (h : FitQ q L) : FitR q (2 * L) := ⟨dy.2 h.1, dy.2 h.2⟩
theorem Blk.at2 {W : World} {g : Nat} {T : TypeId} {x y : Value} (h : Blk W g T #[x, y]) : At W (some ⟨g, 0, none⟩) [x, y] := fun _ => ⟨g, 0, rfl, fun j v hv => by rw [h.cell]; simpa using hv⟩
theorem kg {out xs : List Int} {k : Nat} {x : Int} (hx : xs[k]? = some x) (hl : out.length = 2 * k) (hv : val 65536 out = val 4294967296 (xs.take k)) :
  val 65536 (out ++ [x % 65536, x / 65536]) = val 4294967296 (xs.take (k + 1)) := by
 rw [dv, hl, dx, hv, al hx];simp only [val];have h := Int.emod_add_mul_ediv x 65536;generalize x % 65536 = r at *;generalize x / 65536 = t at *;grind
theorem nm (bw ow l c k : Nat) (x : Int) (vo : Value) (w : World) (hcx : w.cell? ⟨bw, ow + k, none⟩ = some (.int .u32 x)) (_hk0 : (0 : Int) <= (k : Int)) (_hkl : (k : Int) < (l : Int)) (hx0 : 0 <= x) (_hx1 : x <= 4294967295) (_hw1 : IntKind.i64.wrap (x % 65536) = x % 65536) (_hw2 : IntKind.i64.wrap (x / 65536) = x / 65536) (hw3 : IntKind.u32.wrap (x / 65536) = x / 65536) (_hq0 : 0 <= x / 65536) (_hq1 : x / 65536 <= 65535) (_hr0 : 0 <= x % 65536) (_hr1 : x % 65536 < 65536) : aJ Try.prog Try.f189 10 14 42 w [28, 29, 30, 31, 32, 33, 34, 35, 36, 37, 38, 39, 40, 41] [.c (vo), .c (.slice (some ⟨bw, ow, none⟩) l c), .c (.int .i64 (k : Int)), .c (.pointer (some ⟨bw, ow + k, none⟩)), .c (.int .u32 x), .c (.int .u32 (x % 65536)), .c (.int .i64 (x % 65536)), .c (.slice (some ⟨bw, ow, none⟩) l c), .c (.int .i64 (k : Int)), .c (.pointer (some ⟨bw, ow + k, none⟩)), .c (.int .u32 x), .c (.int .u32 (x / 65536)), .c (.int .i64 (x / 65536)), .p fun v W => ∃ g, v = .slice (some ⟨g, 0, none⟩) 2 2 /\ Blk W g 3 #[.int .i64 (x % 65536), .int .i64 (x / 65536)]] [(0, .slice (some ⟨bw, ow, none⟩) l c), (5, vo), (6, .int .i64 (k : Int))] := by
 refine aM [[], [], [], [1, 2], [3], [4], [5], [], [], [7, 8], [9], [10], [11], [6, 12]] (by kernel_rfl) (by kernel_rfl) rfl ⟨by intro v W W' h hX; obtain ⟨g, h1, h2⟩ := h; exact ⟨g, h1, h2.ext hX⟩, trivial⟩ ?_;simp only [ae, Try.f189, ab, Option.bind_some, Nat.reduceBEq, if_true, if_false, Bool.false_eq_true, Option.getD_some];simp only [List.take_succ_cons, List.take_zero]
 repeat' first | refine ⟨?_, ?_⟩ | fail
 all_goals first | (intro us W b hJ K hK0 hK Qz; simp only [aF, am, ao, List.getD_cons_succ, List.getD_cons_zero]) | exact True.intro
 all_goals try (intros; have q0 := Ext.cell hJ hcx; go_simp; exact hK0 _ rfl)
 .
  intro e32 e0 e5 e6;go_simp;rw [Int.tmod_eq_emod_of_nonneg hx0];exact hK0 _ rfl
 .
  intro e38 e0 e5 e6;go_simp
  first
  | rw [hw3]
  | rw [Int.tdiv_eq_ediv_of_nonneg hx0, hw3]
  exact hK0 _ rfl
 .
  intro e34 e40 e0 e5 e6;have hX : Ext W (W.alloc (.cells #[.int .i64 (x % 65536), .int .i64 (x / 65536)] 3)) := (Ext.refl W).alloc _;go_simp;exact hK _ _ ⟨_, rfl, Blk.new _ _ _⟩ hX
theorem pe (A : Option Addr) (l c : Nat) (xs : List Int) (w : World) (hI : Ints .u32 w A l xs) (_hc1 : l <= c) (_hc2 : c <= 9223372036854775807) (hf : ¬ aV (wN xs)) :
  Calls Try.prog 189 #[.slice A l c] w (fun e w' => e = .returned (.tuple #[.slice none 0 0, .bool false]) /\ Ext w w') := by
 have H := hid hI;have HL : Hid (xs.length = l) := hI.1;have HF := hid hf;clear hI hf;go_enter Try.func189, Try.ntmps189
 go_upto_block 0 with (fail)
 go_cut [4] (fun v W => ∃ m : Nat, v = .int .i64 (m : Int) /\ m <= l /\ Hid (Nm (xs.take m)) /\ Hid (val 4294967296 (xs.take m) = val 4294967296 xs) /\ w = W)
 case first =>
  as_aux_lemma =>
   go_wp2
   go_loopg [4] l (fun g v wr => ∃ m : Nat, m = g /\ m <= l /\ v = .int .i64 (m : Int) /\ Hid (val 4294967296 (xs.take m) = val 4294967296 xs) /\ w = wr)
   case atStart => exact ⟨l, rfl, Nat.le_refl _, rfl, by rw [List.take_of_length_le (by rw [HL.out]; exact Nat.le_refl _)]; rfl, rfl⟩
   case round =>
    obtain ⟨m, rfl, hm, rfl, hv, rfl⟩ := hrel
    rcases Nat.eq_zero_or_pos m with h0 | h0
    .
     subst h0;go_wp2
     go_meet
     exact ⟨0, rfl, by omega, by simp [Nm, Hid], hv.out, rfl⟩
    .
     obtain ⟨k, rfl⟩ : ∃ k, m = k + 1 := ⟨m - 1, by omega⟩;obtain ⟨b, off, x, rfl, hx, hwf, hc⟩ := H.out.get (j := k) (by omega);obtain ⟨hx0, hx1⟩ := ah hwf;have HX := hid hx;have hkc : ((k + 1 : Nat) : Int) = (k : Int) + 1 := by omega
     have hk0 : (0 : Int) <= (k : Int) := by omega
     have hkn : (k : Int) < (l : Int) := by omega
     rw [hkc];clear hx hwf hkc
     by_cases hz : x = 0
     .
      have hzb : (x == 0) = true := by simpa using hz
      have HV : Hid (val 4294967296 (xs.take k) = val 4294967296 xs) := by
       have := hv.out;rw [al HX.out, hz] at this;show _ = _;omega
      clear hz hv;go_wp2;go_roundg k
      case rel => exact ⟨k, rfl, by omega, rfl, HV, rfl⟩
      case measure => omega
     .
      have hzb : (x == 0) = false := by simpa using hz
      have HZ := hid hz;clear hz;go_wp2
      go_meet
      exact ⟨k + 1, by rw [show ((k + 1 : Nat) : Int) = (k : Int) + 1 by omega], hm, Nm.take HX.out HZ.out, hv.out, rfl⟩
 case rest =>
  as_aux_lemma =>
   obtain ⟨m, rfl, hm, HN, HV, rfl⟩ := hcut;have hlen := cR H.out hm HN.out HV.out 256;have hbig : ¬ m <= 256 := fun h => HF.out ⟨hlen.1 h⟩
   have hbi : (256 : Int) < (m : Int) := by omega
   go_wp2
   go_ret2
   exact ⟨rfl, Ext.refl _⟩
theorem np (A : Option Addr) (l c : Nat) (xs : List Int) (w : World) (hI : Ints .u32 w A l xs) (_hc1 : l <= c) (_hc2 : c <= 9223372036854775807) (hf : aV (wN xs)) :
  Calls Try.prog 189 #[.slice A l c] w (fun e w' => ∃ v, e = .returned (.tuple #[v, .bool true]) /\ Z16 w' v (wN xs) /\ Ext w w') := by
 have H := hid hI;have HL : Hid (xs.length = l) := hI.1;have HF := hid hf;clear hI hf;go_enter Try.func189, Try.ntmps189
 go_upto_block 0 with (fail)
 go_cut [4] (fun v W => ∃ m : Nat, v = .int .i64 (m : Int) /\ m <= l /\ Hid (Nm (xs.take m)) /\ Hid (val 4294967296 (xs.take m) = val 4294967296 xs) /\ w = W)
 case first =>
  as_aux_lemma =>
   go_wp2
   go_loopg [4] l (fun g v wr => ∃ m : Nat, m = g /\ m <= l /\ v = .int .i64 (m : Int) /\ Hid (val 4294967296 (xs.take m) = val 4294967296 xs) /\ w = wr)
   case atStart => exact ⟨l, rfl, Nat.le_refl _, rfl, by rw [List.take_of_length_le (by rw [HL.out]; exact Nat.le_refl _)]; rfl, rfl⟩
   case round =>
    obtain ⟨m, rfl, hm, rfl, hv, rfl⟩ := hrel
    rcases Nat.eq_zero_or_pos m with h0 | h0
    .
     subst h0;go_wp2
     go_meet
     exact ⟨0, rfl, by omega, by simp [Nm, Hid], hv.out, rfl⟩
    .
     obtain ⟨k, rfl⟩ : ∃ k, m = k + 1 := ⟨m - 1, by omega⟩;obtain ⟨b, off, x, rfl, hx, hwf, hc⟩ := H.out.get (j := k) (by omega);obtain ⟨hx0, hx1⟩ := ah hwf;have HX := hid hx;have hkc : ((k + 1 : Nat) : Int) = (k : Int) + 1 := by omega
     have hk0 : (0 : Int) <= (k : Int) := by omega
     have hkn : (k : Int) < (l : Int) := by omega
     rw [hkc];clear hx hwf hkc
     by_cases hz : x = 0
     .
      have hzb : (x == 0) = true := by simpa using hz
      have HV : Hid (val 4294967296 (xs.take k) = val 4294967296 xs) := by
       have := hv.out;rw [al HX.out, hz] at this;show _ = _;omega
      clear hz hv;go_wp2;go_roundg k
      case rel => exact ⟨k, rfl, by omega, rfl, HV, rfl⟩
      case measure => omega
     .
      have hzb : (x == 0) = false := by simpa using hz
      have HZ := hid hz;clear hz;go_wp2
      go_meet
      exact ⟨k + 1, by rw [show ((k + 1 : Nat) : Int) = (k : Int) + 1 by omega], hm, Nm.take HX.out HZ.out, hv.out, rfl⟩
 case rest =>
  as_aux_lemma =>
   obtain ⟨m, rfl, hm, HN, HV, rfl⟩ := hcut;have hlen := cR H.out hm HN.out HV.out 256;have hbig : m <= 256 := hlen.2 HF.out.1;have hbi : ¬ (256 : Int) < (m : Int) := by omega
   clear hlen
   go_wp2_with fail
   go_loopg [5, 6] m (fun g v s6 wr => ∃ (k : Nat) (out : List Int), g = m - k /\ k <= m /\ s6 = .int .i64 (k : Int) /\ Hid (wr.ownsRow w.heap.size 3 1 v (2 * k) (out.map (.int .i64))) /\ Hid (Dg 65536 out) /\ Hid (out.length = 2 * k) /\ Hid (val 65536 out = val 4294967296 (xs.take k)) /\ Hid (Ext w wr))
   case atStart => exact ⟨0, [], rfl, by omega, rfl, World.ownsRow_nil _ _ _ _, Dg.nil, rfl, rfl, Ext.refl w⟩
   case round =>
    obtain ⟨k, out, rfl, hk, rfl, HO, HD, HLO, HI, HX⟩ := hrel;obtain ⟨A2, c2, rfl⟩ := ar HO.out
    by_cases hlt : k < m
    .
     have hkm : (k : Int) < (m : Int) := by omega
     have hk0 : (0 : Int) <= (k : Int) := by omega
     have hkl : (k : Int) < (l : Int) := by omega
     obtain ⟨bw, ow, x, rfl, hx, hwf, hc⟩ := (H.out.ext HX.out).get (j := k) (by omega);obtain ⟨hx0, hx1⟩ := ah hwf;have hr0 := Int.emod_nonneg x (show (65536 : Int) ≠ 0 by omega);have hr1 := Int.emod_lt_of_pos x (show (0 : Int) < 65536 by omega);have hq0 : 0 <= x / 65536 := by omega
     have hq1 : x / 65536 <= 65535 := by omega
     have hw1 : IntKind.i64.wrap (x % 65536) = x % 65536 := IntWalk.i64_in _ (by omega);have hw2 : IntKind.i64.wrap (x / 65536) = x / 65536 := IntWalk.i64_in _ (by omega);have hw3 : IntKind.u32.wrap (x / 65536) = x / 65536 := by rw [IntKind.wrap_u32]; omega
     have HST := hid (kg hx HLO.out HI.out);have HDD : Hid (Dg 65536 (out ++ [x % 65536, x / 65536])) := HD.out.append (Dg.cons ⟨hr0, hr1⟩ (Dg.one ⟨hq0, by omega⟩));have HW : Hid ((Lit.int .i64 (x % 65536)).wf = true /\ (Lit.int .i64 (x / 65536)).wf = true) := ⟨gG ⟨hr0, hr1⟩, gG ⟨hq0, by omega⟩⟩;clear hx hwf
     go_wp2_with fail
     refine nm bw ow l c k x _ _ hc hk0 hkl hx0 hx1 hw1 hw2 hw3 hq0 hq1 hr0 hr1 _ _ (by simp) ⟨rfl, rfl, rfl, trivial⟩ ?_;rintro w1 hXW xv13 ⟨go, rfl, hBo⟩;simp only [EndK, ae, Try.f189, ab, Option.bind_some, Nat.reduceBEq, if_true, if_false, Bool.false_eq_true, Option.getD_some, List.drop_succ_cons, List.drop_zero];simp only [Act.put, List.setIfInBounds_toArray, List.set_cons_succ, List.set_cons_zero];have HX1 := hid (HX.out.trans hXW);have hown := World.ownsRow.ext' HO.out hXW;have HAT := hid hBo.at2;clear hBo hXW hc hr0 hr1 hq0 hq1 hw1 hw2 hw3 HO HX
     go_wp2_with (at_builtin; refine ax _ eD rfl _ _ rfl w.heap.size _ (2 * k) _ rfl hown _ 2 2 [.int .i64 (x % 65536), .int .i64 (x / 65536)] rfl rfl HAT.out (by simp [Value.oneCell']) (by omega) (by unfold maxLen; omega) (by have := HX1.out.size; simp; omega) ?_; intro v1 w2 hown1 hgr1 _; have HO1 := hid hown1; have HX2 := hid (Ext.app HX1.out hown hgr1); clear hown1 hgr1 hown)
     go_roundg (m - (k + 1))
     case rel => exact ⟨k + 1, out ++ [x % 65536, x / 65536], rfl, by omega, by go_num, by rw [List.map_append, show 2 * (k + 1) = 2 * k + 2 by omega]; exact HO1.out, HDD.out, by rw [List.length_append, HLO.out]; show _ = _; simp; omega, HST.out, HX2.out⟩
     case measure => omega
    .
     obtain rfl : m = k := by omega
     have HOS : Hid (OwnS .i64 3 w.heap.size wr A2 (2 * m) c2 out) := ⟨HO.out, HLO.out, fH HD.out⟩
     have HE : Hid (val 65536 out = ((wN xs : Nat) : Int)) := by
      show _ = _;rw [HI.out, HV.out]; exact eK H.out
     go_wp2_with fail
     refine (lA HOS.out.ints HD.out HE.out HOS.out.cap.1 HOS.out.cap.2).mono ?_;rintro e _ ⟨v, rfl, hv, rfl⟩;have HVV := hid hv;clear hv;go_wp2
     go_ret2
     exact ⟨_, rfl, HVV.out, HX.out⟩
end Go.Proofs.Ytikhlcgnlbinfaa
