/- Lemmas of the proof that follows (Places, part 15): walks of functions by contract, and plain lemmas. Conditions: none. -/
import Derived.Test.YtikhlcgnlbinfaaPlacesN
set_option maxRecDepth 100000
set_option maxHeartbeats 16000000
namespace Go.Proofs.Ytikhlcgnlbinfaa
open Lib (hid)
open Go.RowKit
theorem iq (a b : Nat -> Int) (w : World) (ha : bV 1000 a = true) (hb : bV 1000 b = true) :
  Calls Try.prog 29 #[.agg #[.int .i64 (a 0), .int .i64 (a 1), .int .i64 (a 2), .int .i64 (a 3)], .agg #[.int .i64 (b 0), .int .i64 (b 1), .int .i64 (b 2), .int .i64 (b 3)]] w (fun e w' => e = .returned (.tuple #[.agg #[.int .i64 (ah a b 0), .int .i64 (ah a b 1), .int .i64 (ah a b 2), .int .i64 (ah a b 3)], .int .i64 0]) /\ Ext w w') := by
 have r1 := aA ha;have r2 := aA hb;have ht := fun w => bU a b w (fun i hi => by have := r1 i hi; omega) (fun i hi => by have := r2 i hi; omega)
 obtain ⟨f, hf⟩ : ∃ f, ah a b = f := ⟨_, rfl⟩;rw [hf];simp only [hf] at ht;have HR1 := hid r1;have HR2 := hid r2;have HTM := hid ht;clear r1 r2 ht hf ha hb;have hXe : Ext w (((w.alloc (.cells #[.int .i64 (a 0), .int .i64 (a 1), .int .i64 (a 2), .int .i64 (a 3)] 23)).alloc (.cells #[.int .i64 (b 0), .int .i64 (b 1), .int .i64 (b 2), .int .i64 (b 3)] 23)).alloc (.cells #[.int .i64 (0), .int .i64 (0), .int .i64 (0), .int .i64 (0)] 23)) := ((((Ext.refl w).alloc _).alloc _).alloc _);have kA : Blk (((w.alloc (.cells #[.int .i64 (a 0), .int .i64 (a 1), .int .i64 (a 2), .int .i64 (a 3)] 23)).alloc (.cells #[.int .i64 (b 0), .int .i64 (b 1), .int .i64 (b 2), .int .i64 (b 3)] 23)).alloc (.cells #[.int .i64 (0), .int .i64 (0), .int .i64 (0), .int .i64 (0)] 23)) w.heap.size 23 #[.int .i64 (a 0), .int .i64 (a 1), .int .i64 (a 2), .int .i64 (a 3)] := Blk.alloc (Blk.alloc (Blk.at_ (by simp)) _) _;have kB : Blk (((w.alloc (.cells #[.int .i64 (a 0), .int .i64 (a 1), .int .i64 (a 2), .int .i64 (a 3)] 23)).alloc (.cells #[.int .i64 (b 0), .int .i64 (b 1), .int .i64 (b 2), .int .i64 (b 3)] 23)).alloc (.cells #[.int .i64 (0), .int .i64 (0), .int .i64 (0), .int .i64 (0)] 23)) (w.heap.size + 1) 23 #[.int .i64 (b 0), .int .i64 (b 1), .int .i64 (b 2), .int .i64 (b 3)] := Blk.alloc (Blk.at_ (by simp)) _;have kR : Blk (((w.alloc (.cells #[.int .i64 (a 0), .int .i64 (a 1), .int .i64 (a 2), .int .i64 (a 3)] 23)).alloc (.cells #[.int .i64 (b 0), .int .i64 (b 1), .int .i64 (b 2), .int .i64 (b 3)] 23)).alloc (.cells #[.int .i64 (0), .int .i64 (0), .int .i64 (0), .int .i64 (0)] 23)) (w.heap.size + 2) 23 #[.int .i64 (0), .int .i64 (0), .int .i64 (0), .int .i64 (0)] := Blk.at_ (by simp);go_enter Try.func29, Try.ntmps29
 go_upto_region 1 with (fail)
 generalize (((w.alloc _).alloc _).alloc _) = w1 at hXe kA kB kR |-;have HX := hid hXe;clear hXe;have KA := hid kA;clear kA;have KB := hid kB;clear kB;have KR := hid kR;clear kR;replace KA : Hid (T4 w1 w.heap.size a) := KA;replace KB : Hid (T4 w1 (w.heap.size + 1) b) := KB
 go_wp2_with fail
 go_loopg [7] 4 (fun fu iv W => ∃ k : Nat, fu = 4 - k /\ k <= 4 /\ iv = .int .i64 (k : Int) /\ Hid (T4 W w.heap.size a) /\ Hid (T4 W (w.heap.size + 1) b) /\ Hid (Blk W (w.heap.size + 2) 23 #[.int .i64 (0), .int .i64 (0), .int .i64 (0), .int .i64 (0)]) /\ Hid (Ext w W))
 case atStart => exact ⟨0, rfl, by omega, rfl, KA, KB, KR, HX⟩
 case round =>
  clear HX KA KB KR;obtain ⟨k, rfl, hk, rfl, KA, KB, KR, HX⟩ := hrel
  by_cases hlt : k < 4
  .
   have q1 : decide (k < 4) = true := decide_eq_true hlt;have q1b : decide ((k : Int) < (4 : Int)) = true := decide_eq_true (by omega);have c0 := KA.out.cell hlt;obtain ⟨x, hx⟩ : ∃ x, a k = x := ⟨_, rfl⟩;rw [hx] at c0;have hin : ar (-1000) 1000 [x] = true := ag.2 (by rw [<- hx]; exact HR1.out k hlt);have HIN := hid hin;clear hx hin
   go_wp2_with fail
   refine (aq (-1000) x 1000 _).mono ?_;rw [HIN.out];rintro e w3 ⟨rfl, hX⟩;replace HX := hid (HX.out.trans hX);replace KA := hid (KA.out.ext hX);replace KB := hid (KB.out.ext hX);replace KR := hid (KR.out.ext hX);clear hX;clear c0 HIN;have c0 := KB.out.cell hlt;obtain ⟨x, hx⟩ : ∃ x, b k = x := ⟨_, rfl⟩;rw [hx] at c0;have hin : ar (-1000) 1000 [x] = true := ag.2 (by rw [<- hx]; exact HR2.out k hlt);have HIN := hid hin;clear hx hin
   go_wp2_with fail
   refine (aq (-1000) x 1000 _).mono ?_;rw [HIN.out];rintro e w3 ⟨rfl, hX⟩;replace HX := hid (HX.out.trans hX);replace KA := hid (KA.out.ext hX);replace KB := hid (KB.out.ext hX);replace KR := hid (KR.out.ext hX);clear hX;clear c0 HIN;go_wp2;go_roundg (4 - (k + 1))
   case rel => exact ⟨k + 1, rfl, by omega, by go_num, KA, KB, KR, HX⟩
   case measure => omega
  .
   obtain rfl : k = 4 := by omega
   have h4 : decide ((4 : Int) < (4 : Int)) = false := by decide
   have a0 := KA.out.cell (k := 0) (by decide);have a1 := KA.out.cell (k := 1) (by decide);have a2 := KA.out.cell (k := 2) (by decide);have a3 := KA.out.cell (k := 3) (by decide);have b0 := KB.out.cell (k := 0) (by decide);have b1 := KB.out.cell (k := 1) (by decide);have b2 := KB.out.cell (k := 2) (by decide);have b3 := KB.out.cell (k := 3) (by decide)
   go_wp2_with fail
   refine (HTM.out _).mono ?_;rintro e w3 ⟨rfl, hX⟩;replace HX := hid (HX.out.trans hX);replace KR := hid (KR.out.ext hX);clear hX;clear a0 a1 a2 a3 b0 b1 b2 b3;have r0 := KR.out.cell 0;have r1 := KR.out.cell 1;have r2 := KR.out.cell 2;have r3 := KR.out.cell 3;simp only [List.getElem?_toArray, List.getElem?_cons_zero, List.getElem?_cons_succ] at r0 r1 r2 r3;have rf0 := KR.out.free 0;have rf1 := KR.out.free 1;have rf2 := KR.out.free 2;have rf3 := KR.out.free 3;go_wp2;refine bodyPost_ret (v := .tuple #[.agg #[.int .i64 (f 0), .int .i64 (f 1), .int .i64 (f 2), .int .i64 (f 3)], .int .i64 0]) (by simp [results, Try.results29, go_sem, *]) rfl ?_;exact ⟨rfl, (Ext.setCell (Ext.setCell (Ext.setCell (Ext.setCell HX.out (by simp only; omega) _) (by simp only; omega) _) (by simp only; omega) _) (by simp only; omega) _)⟩
/-- The conjugate of a quaternion; the axis of the scanner. -/
def bf (t : Nat -> Int) : Nat -> Int
 | 0 => t 0
 | 1 => -t 1
 | 2 => -t 2
 | _ => -t 3
def jD : Nat -> Int
 | 3 => -1
 | _ => 0
theorem nW (t : Nat -> Int) : ah t (bf t) 0 = dA t /\ ah (ah t jD) (bf t) 1 = dL t 0 /\ ah (ah t jD) (bf t) 2 = dL t 1 /\ ah (ah t jD) (bf t) 3 = dL t 2 := by
 refine ⟨?_, ?_, ?_, ?_⟩
 .
  simp only [ah, bf, dA]; grind
 .
  simp only [ah, bf, jD, dL]; grind
 .
  simp only [ah, bf, jD, dL]; grind
 .
  simp only [ah, bf, jD, dL]; grind
theorem eU {t : Nat -> Int} (h : ∀ i, i < 4 -> -4000000 <= t i /\ t i <= 4000000) : ∀ i, i < 4 -> -4000000 <= bf t i /\ bf t i <= 4000000 := by
 intro i hi
 rcases fJ i hi with rfl | rfl | rfl | rfl
 .
  exact h 0 (by omega)
 .
  have := h 1 (by omega); simp only [bf]; omega
 .
  have := h 2 (by omega); simp only [bf]; omega
 .
  have := h 3 (by omega); simp only [bf]; omega
theorem ir {t : Nat -> Int} (h : ∀ i, i < 4 -> -4000000 <= t i /\ t i <= 4000000) : ∀ i, i < 4 -> -4000000 <= ah t jD i /\ ah t jD i <= 4000000 := by
 intro i hi;have := h 0 (by omega);have := h 1 (by omega);have := h 2 (by omega);have := h 3 (by omega)
 rcases fJ i hi with rfl | rfl | rfl | rfl <;> simp only [ah, jD] <;> omega
theorem Blk.puts4x {W : World} {g : Nat} {T : TypeId} {a0 a1 a2 a3 x0 x1 x2 x3 : Value} (h : Blk W g T #[a0, a1, a2, a3]) : Blk ((((W.setCell ⟨g, 0, none⟩ x0).setCell ⟨g, 1, none⟩ x1).setCell ⟨g, 2, none⟩ x2).setCell ⟨g, 3, none⟩ x3) g T #[x0, x1, x2, x3] := by
 have h0 : Blk (W.setCell ⟨g, 0, none⟩ x0) g T #[x0, a1, a2, a3] := Blk.set h 0 _;have h1 : Blk ((W.setCell ⟨g, 0, none⟩ x0).setCell ⟨g, 1, none⟩ x1) g T #[x0, x1, a2, a3] := Blk.set h0 1 _;have h2 : Blk (((W.setCell ⟨g, 0, none⟩ x0).setCell ⟨g, 1, none⟩ x1).setCell ⟨g, 2, none⟩ x2) g T #[x0, x1, x2, a3] := Blk.set h1 2 _;have h3 : Blk ((((W.setCell ⟨g, 0, none⟩ x0).setCell ⟨g, 1, none⟩ x1).setCell ⟨g, 2, none⟩ x2).setCell ⟨g, 3, none⟩ x3) g T #[x0, x1, x2, x3] := Blk.set h2 3 _;exact h3
theorem px (ga gb : Nat) (t m c r : Nat -> Int) (w : World) (hm : ∀ w, Calls Try.prog 109 #[.agg #[.int .i64 (t 0), .int .i64 (t 1), .int .i64 (t 2), .int .i64 (t 3)], .agg #[.int .i64 0, .int .i64 0, .int .i64 0, .int .i64 (-1)]] w (fun e w' => e = .returned (.agg #[.int .i64 (m 0), .int .i64 (m 1), .int .i64 (m 2), .int .i64 (m 3)]) /\ Ext w w')) (hr : ∀ w, Calls Try.prog 109 #[.agg #[.int .i64 (m 0), .int .i64 (m 1), .int .i64 (m 2), .int .i64 (m 3)], .agg #[.int .i64 (c 0), .int .i64 (c 1), .int .i64 (c 2), .int .i64 (c 3)]] w (fun e w' => e = .returned (.agg #[.int .i64 (r 0), .int .i64 (r 1), .int .i64 (r 2), .int .i64 (r 3)]) /\ Ext w w')) (a0 : w.cell? ⟨ga, 0, none⟩ = some (.int .i64 (t 0))) (a1 : w.cell? ⟨ga, 1, none⟩ = some (.int .i64 (t 1))) (a2 : w.cell? ⟨ga, 2, none⟩ = some (.int .i64 (t 2))) (a3 : w.cell? ⟨ga, 3, none⟩ = some (.int .i64 (t 3))) (b0 : w.cell? ⟨gb, 0, none⟩ = some (.int .i64 (c 0))) (b1 : w.cell? ⟨gb, 1, none⟩ = some (.int .i64 (c 1))) (b2 : w.cell? ⟨gb, 2, none⟩ = some (.int .i64 (c 2))) (b3 : w.cell? ⟨gb, 3, none⟩ = some (.int .i64 (c 3))) (a : Act) (Q : Exit -> Act -> World -> Prop) (hsize : 33 <= a.tmps.size)
  (s1 : a.tmps[1]? = some (.pointer (some ⟨ga, 0, none⟩)))
  (s5 : a.tmps[5]? = some (.pointer (some ⟨gb, 0, none⟩)))
  (hend : ∀ (xv0 xv1 xv2 xv3 xv4 xv5 xv6 : Value) (W : World), (xv0 = .agg #[.int .i64 (t 0), .int .i64 (t 1), .int .i64 (t 2), .int .i64 (t 3)]) -> (xv1 = .agg #[.int .i64 0, .int .i64 0, .int .i64 0, .int .i64 (-1)]) -> (xv2 = .agg #[.int .i64 (m 0), .int .i64 (m 1), .int .i64 (m 2), .int .i64 (m 3)]) -> (xv3 = .agg #[.int .i64 (c 0), .int .i64 (c 1), .int .i64 (c 2), .int .i64 (c 3)]) -> (xv4 = .agg #[.int .i64 (r 0), .int .i64 (r 1), .int .i64 (r 2), .int .i64 (r 3)]) -> (∃ g, xv5 = .pointer (some ⟨g, 0, none⟩) /\ w.heap.size <= g /\ Blk W g 23 #[.int .i64 (r 0), .int .i64 (r 1), .int .i64 (r 2), .int .i64 (r 3)]) -> Ext w W -> wpList Try.prog (ae Try.f30 5).toArray Q [] (((((((a.put (some 28) xv0).put (some 29) xv1).put (some 30) xv2).put (some 31) xv3).put (some 32) xv4).put (some 7) xv5).put (none) xv6) W) :
  (Code.region 5 (ae Try.f30 5).toArray true).wp Try.prog Q a w := by
 have hsz : ∀ d, some d ∈ ([some 28, some 29, some 30, some 31, some 32, some 7, none] : List (Option Tmp)) -> d < a.tmps.size := aI (by decide) hsize;refine bk 7 [some 28, some 29, some 30, some 31, some 32, some 7, none] [[], [], [0, 1], [], [2, 3], [], [4, 5]] [[], [], [], [], [], [6], []] (fun (done : Nat -> Prop) (us : Nat -> Value) (W : World) => Ext w W /\ (done 0 -> us 0 = .agg #[.int .i64 (t 0), .int .i64 (t 1), .int .i64 (t 2), .int .i64 (t 3)]) /\ (done 1 -> us 1 = .agg #[.int .i64 0, .int .i64 0, .int .i64 0, .int .i64 (-1)]) /\ (done 2 -> us 2 = .agg #[.int .i64 (m 0), .int .i64 (m 1), .int .i64 (m 2), .int .i64 (m 3)]) /\ (done 3 -> us 3 = .agg #[.int .i64 (c 0), .int .i64 (c 1), .int .i64 (c 2), .int .i64 (c 3)]) /\ (done 4 -> us 4 = .agg #[.int .i64 (r 0), .int .i64 (r 1), .int .i64 (r 2), .int .i64 (r 3)]) /\ Loc w W 23 #[.int .i64 (0), .int .i64 (0), .int .i64 (0), .int .i64 (0)] #[.int .i64 (r 0), .int .i64 (r 1), .int .i64 (r 2), .int .i64 (r 3)] (done 5) (done 6) (us 5)) (by kernel_rfl) (by kernel_rfl) hsz (fun p q us W h => by have e : p = q := funext fun k => propext (h k); rw [e]; exact id) (fun us => ⟨(Ext.refl w).drew, fun h => h.elim, fun h => h.elim, fun h => h.elim, fun h => h.elim, fun h => h.elim, Loc.unmade id⟩) ?_ ?_
 .
  clear hend;simp only [ae, Try.f30, ab, Option.bind_some, Nat.reduceBEq, if_true, if_false, Bool.false_eq_true, Option.getD_some];simp only [List.take_succ_cons, List.take_zero];refine ⟨?_, ?_, ?_, ?_, ?_, ?_, ?_, trivial⟩
  .
   intro done us W hJ hdep haft hnot b hb hb' K hK Q';obtain ⟨hX0, cc0, cc1, cc2, cc3, cc4, ll5⟩ := hJ;have e1 := (hb' 1 (by simp)).trans s1;clear hb hb';have z0 := Ext.cell hX0 a0;have z1 := Ext.cell hX0 a1;have z2 := Ext.cell hX0 a2;have z3 := Ext.cell hX0 a3;have hfin := hK (.agg #[.int .i64 (t 0), .int .i64 (t 1), .int .i64 (t 2), .int .i64 (t 3)]) _ ⟨hX0, fun _ => rfl, fun h => cc1 (h.resolve_right (by decide)), fun h => cc2 (h.resolve_right (by decide)), fun h => cc3 (h.resolve_right (by decide)), fun h => cc4 (h.resolve_right (by decide)), Loc.same ll5 ⟨fun h => h.resolve_right (by decide), .inl⟩ ⟨fun h => h.resolve_right (by decide), .inl⟩⟩;clear hK cc0 cc1 cc2 cc3 cc4 ll5;go_simp;exact hfin
  .
   intro done us W hJ hdep haft hnot b hb hb' K hK Q';obtain ⟨hX0, cc0, cc1, cc2, cc3, cc4, ll5⟩ := hJ;clear hb hb';have hfin := hK (.agg #[.int .i64 0, .int .i64 0, .int .i64 0, .int .i64 (-1)]) _ ⟨hX0, fun h => cc0 (h.resolve_right (by decide)), fun _ => rfl, fun h => cc2 (h.resolve_right (by decide)), fun h => cc3 (h.resolve_right (by decide)), fun h => cc4 (h.resolve_right (by decide)), Loc.same ll5 ⟨fun h => h.resolve_right (by decide), .inl⟩ ⟨fun h => h.resolve_right (by decide), .inl⟩⟩;clear hK cc0 cc1 cc2 cc3 cc4 ll5;go_simp;exact hfin
  .
   intro done us W hJ hdep haft hnot b hb hb' K hK Q';obtain ⟨hX0, cc0, cc1, cc2, cc3, cc4, ll5⟩ := hJ;simp only [List.getD_cons_succ, List.getD_cons_zero, List.mem_cons, List.not_mem_nil, or_false, forall_eq_or_imp, forall_eq] at hdep;have e28 := hb 0 28 rfl;rw [cc0 hdep.1] at e28;have e29 := hb 1 29 rfl;rw [cc1 hdep.2] at e29;clear hb hb';go_simp;refine (hm _).mono ?_;rintro e w' ⟨rfl, hX⟩;exact hK (.agg #[.int .i64 (m 0), .int .i64 (m 1), .int .i64 (m 2), .int .i64 (m 3)]) _ ⟨hX0.trans hX, fun h => cc0 (h.resolve_right (by decide)), fun h => cc1 (h.resolve_right (by decide)), fun _ => rfl, fun h => cc3 (h.resolve_right (by decide)), fun h => cc4 (h.resolve_right (by decide)), Loc.same (ll5.ext hX) ⟨fun h => h.resolve_right (by decide), .inl⟩ ⟨fun h => h.resolve_right (by decide), .inl⟩⟩
  .
   intro done us W hJ hdep haft hnot b hb hb' K hK Q';obtain ⟨hX0, cc0, cc1, cc2, cc3, cc4, ll5⟩ := hJ;have e5 := (hb' 5 (by simp)).trans s5;clear hb hb';have z0 := Ext.cell hX0 b0;have z1 := Ext.cell hX0 b1;have z2 := Ext.cell hX0 b2;have z3 := Ext.cell hX0 b3;have hfin := hK (.agg #[.int .i64 (c 0), .int .i64 (c 1), .int .i64 (c 2), .int .i64 (c 3)]) _ ⟨hX0, fun h => cc0 (h.resolve_right (by decide)), fun h => cc1 (h.resolve_right (by decide)), fun h => cc2 (h.resolve_right (by decide)), fun _ => rfl, fun h => cc4 (h.resolve_right (by decide)), Loc.same ll5 ⟨fun h => h.resolve_right (by decide), .inl⟩ ⟨fun h => h.resolve_right (by decide), .inl⟩⟩;clear hK cc0 cc1 cc2 cc3 cc4 ll5;go_simp;exact hfin
  .
   intro done us W hJ hdep haft hnot b hb hb' K hK Q';obtain ⟨hX0, cc0, cc1, cc2, cc3, cc4, ll5⟩ := hJ;simp only [List.getD_cons_succ, List.getD_cons_zero, List.mem_cons, List.not_mem_nil, or_false, forall_eq_or_imp, forall_eq] at hdep;have e30 := hb 2 30 rfl;rw [cc2 hdep.1] at e30;have e31 := hb 3 31 rfl;rw [cc3 hdep.2] at e31;clear hb hb';go_simp;refine (hr _).mono ?_;rintro e w' ⟨rfl, hX⟩;exact hK (.agg #[.int .i64 (r 0), .int .i64 (r 1), .int .i64 (r 2), .int .i64 (r 3)]) _ ⟨hX0.trans hX, fun h => cc0 (h.resolve_right (by decide)), fun h => cc1 (h.resolve_right (by decide)), fun h => cc2 (h.resolve_right (by decide)), fun h => cc3 (h.resolve_right (by decide)), fun _ => rfl, Loc.same (ll5.ext hX) ⟨fun h => h.resolve_right (by decide), .inl⟩ ⟨fun h => h.resolve_right (by decide), .inl⟩⟩
  .
   intro done us W hJ hdep haft hnot b hb hb' K hK Q';obtain ⟨hX0, cc0, cc1, cc2, cc3, cc4, ll5⟩ := hJ;simp only [List.getD_cons_succ, List.getD_cons_zero, List.mem_cons, List.not_mem_nil, or_false, forall_eq_or_imp, forall_eq] at haft;clear hb hb';have hfin := hK _ _ ⟨hX0.alloc _, fun h => cc0 (h.resolve_right (by decide)), fun h => cc1 (h.resolve_right (by decide)), fun h => cc2 (h.resolve_right (by decide)), fun h => cc3 (h.resolve_right (by decide)), fun h => cc4 (h.resolve_right (by decide)), Loc.new w W hX0 (fun h => h.elim haft (by decide)) (Ext.refl _)⟩;clear hK hX0 cc0 cc1 cc2 cc3 cc4 ll5;go_simp;exact hfin
  .
   intro done us W hJ hdep haft hnot b hb hb' K hK Q';obtain ⟨hX0, cc0, cc1, cc2, cc3, cc4, ll5⟩ := hJ;simp only [List.getD_cons_succ, List.getD_cons_zero, List.mem_cons, List.not_mem_nil, or_false, forall_eq_or_imp, forall_eq] at hdep;have e7 := hb 5 7 rfl;have e32 := hb 4 32 rfl;rw [cc4 hdep.1] at e32;obtain ⟨g, eg, hg, hB⟩ := ll5.stored hdep.2 hnot;rw [eg] at e7;have q0 : W.cell? ⟨g, 0, none⟩ = some (.int .i64 (0)) := hB.cell 0;have z0 : W.frozen? ⟨g, 0, none⟩ = false := hB.free 0;have q1 : W.cell? ⟨g, 1, none⟩ = some (.int .i64 (0)) := hB.cell 1;have z1 : W.frozen? ⟨g, 1, none⟩ = false := hB.free 1;have q2 : W.cell? ⟨g, 2, none⟩ = some (.int .i64 (0)) := hB.cell 2;have z2 : W.frozen? ⟨g, 2, none⟩ = false := hB.free 2;have q3 : W.cell? ⟨g, 3, none⟩ = some (.int .i64 (0)) := hB.cell 3;have z3 : W.frozen? ⟨g, 3, none⟩ = false := hB.free 3;clear hb hb';have hfin := hK undef _ ⟨((((hX0.setCell hg _).setCell hg _).setCell hg _).setCell hg _), fun h => cc0 (h.resolve_right (by decide)), fun h => cc1 (h.resolve_right (by decide)), fun h => cc2 (h.resolve_right (by decide)), fun h => cc3 (h.resolve_right (by decide)), fun h => cc4 (h.resolve_right (by decide)), ⟨fun _ => ⟨g, eg, hg, fun _ => (Blk.puts4x hB), fun h => absurd (.inr rfl) h⟩⟩⟩;clear hK hX0 cc0 cc1 cc2 cc3 cc4 ll5;go_simp;exact hfin
 .
  intro us W hJ;obtain ⟨hX0, cc0, cc1, cc2, cc3, cc4, ll5⟩ := hJ;rw [show (ae Try.f30 5).drop 7 = [] by kernel_rfl];exact hend (us 0) (us 1) (us 2) (us 3) (us 4) (us 5) (us 6) W (cc0 (show 0 < 7 by decide)) (cc1 (show 1 < 7 by decide)) (cc2 (show 2 < 7 by decide)) (cc3 (show 3 < 7 by decide)) (cc4 (show 4 < 7 by decide)) (ll5.done (show 5 < 7 by decide) (show 6 < 7 by decide)) hX0
theorem nX (t m c r : Nat -> Int) (nn z1 z2 z3 : Int) (w : World) (ht : bV 4000000 t = true) (hc0 : c 0 = t 0) (hc1 : c 1 = -t 1) (hc2 : c 2 = -t 2) (hc3 : c 3 = -t 3) (hn : ∀ w, Calls Try.prog 109 #[.agg #[.int .i64 (t 0), .int .i64 (t 1), .int .i64 (t 2), .int .i64 (t 3)], .agg #[.int .i64 (c 0), .int .i64 (c 1), .int .i64 (c 2), .int .i64 (c 3)]] w (fun e w' => e = .returned (.agg #[.int .i64 nn, .int .i64 z1, .int .i64 z2, .int .i64 z3]) /\ Ext w w')) (hm : ∀ w, Calls Try.prog 109 #[.agg #[.int .i64 (t 0), .int .i64 (t 1), .int .i64 (t 2), .int .i64 (t 3)], .agg #[.int .i64 0, .int .i64 0, .int .i64 0, .int .i64 (-1)]] w (fun e w' => e = .returned (.agg #[.int .i64 (m 0), .int .i64 (m 1), .int .i64 (m 2), .int .i64 (m 3)]) /\ Ext w w')) (hr : ∀ w, Calls Try.prog 109 #[.agg #[.int .i64 (m 0), .int .i64 (m 1), .int .i64 (m 2), .int .i64 (m 3)], .agg #[.int .i64 (c 0), .int .i64 (c 1), .int .i64 (c 2), .int .i64 (c 3)]] w (fun e w' => e = .returned (.agg #[.int .i64 (r 0), .int .i64 (r 1), .int .i64 (r 2), .int .i64 (r 3)]) /\ Ext w w')) :
  Calls Try.prog 30 #[.agg #[.int .i64 (t 0), .int .i64 (t 1), .int .i64 (t 2), .int .i64 (t 3)]] w (fun e w' => e = .returned (.tuple #[.agg #[.int .i64 (r 1), .int .i64 (r 2), .int .i64 (r 3)], .int .i64 nn, .int .i64 0]) /\ Ext w w') := by
 have rg := aA ht;have v1 : IntKind.i64.wrap (-t 1) = c 1 := by rw [hc1]; exact IntWalk.i64_in _ (by have := rg 1 (by omega); omega)
 have v2 : IntKind.i64.wrap (-t 2) = c 2 := by rw [hc2]; exact IntWalk.i64_in _ (by have := rg 2 (by omega); omega)
 have v3 : IntKind.i64.wrap (-t 3) = c 3 := by rw [hc3]; exact IntWalk.i64_in _ (by have := rg 3 (by omega); omega)
 have HTV := hid (fun w => bM 4000000 t w (by omega));have HT := hid ht;have HN := hid hn;have HM := hid hm;have HR := hid hr;have HC0 := hid hc0;have ix : ∀ w : World, (Instr.index 23 (.agg #[.int .i64 nn, .int .i64 z1, .int .i64 z2, .int .i64 z3]) (.int .i64 0)).run Try.prog w = .ok (.int .i64 nn) w := fun _ => by kernel_rfl
 clear rg hn hm hr ht hc0 hc1 hc2 hc3;obtain ⟨hXe, KA, KR⟩ := xB2 w 23 #[.int .i64 (t 0), .int .i64 (t 1), .int .i64 (t 2), .int .i64 (t 3)] 22 #[.int .i64 (0), .int .i64 (0), .int .i64 (0)];go_enter Try.func30, Try.ntmps30
 go_upto_region 1 with (fail)
 generalize ((w.alloc _).alloc _) = w1 at hXe KA KR |-;have HX := hid hXe;clear hXe;obtain ⟨a0, a1, a2, a3⟩ := KA.out.c4
 go_wp2_with fail
 refine (HTV.out _).mono ?_;rw [HT.out];rintro e w2 ⟨rfl, hX⟩;replace HX := xT HX hX;replace KA := xE KA hX;replace KR := xE KR hX;clear hX HTV a0 a1 a2 a3;obtain ⟨a0, a1, a2, a3⟩ := KA.out.c4
 go_upto_region 4 with (fail)
 obtain ⟨hXa, KB⟩ := xB1 w2 23 #[.int .i64 (t 0), .int .i64 (c 1), .int .i64 (c 2), .int .i64 (c 3)];have hga : w.heap.size + 1 < w2.heap.size := by have := KR.out.lt; omega
 replace HX := xT HX hXa;replace KA := xE KA hXa;replace KR := xE KR hXa;clear hXa;generalize w2.heap.size = gb at KB hga |-;generalize w2.alloc _ = w4 at KB HX KA KR |-;rw [<- HC0.out] at KB;clear a0 a1 a2 a3;obtain ⟨a0, a1, a2, a3⟩ := KA.out.c4;obtain ⟨b0, b1, b2, b3⟩ := KB.out.c4
 go_wp2_with fail
 refine (HN.out _).mono ?_;rintro e w5 ⟨rfl, hX⟩;replace HX := xT HX hX;replace KA := xE KA hX;replace KB := xE KB hX;replace KR := xE KR hX;clear hX HN v1 v2 v3 a0 a1 a2 a3 b0 b1 b2 b3
 go_upto_region 5 with (fail)
 refine px w.heap.size gb t m c r _ HM.out HR.out (KA.out.cell 0) (KA.out.cell 1) (KA.out.cell 2) (KA.out.cell 3) (KB.out.cell 0) (KB.out.cell 1) (KB.out.cell 2) (KB.out.cell 3) _ _ (by simp) rfl rfl ?_;rintro xv0 xv1 xv2 xv3 xv4 xv5 xv6 w6 rfl rfl rfl rfl rfl ⟨gz, rfl, hgz, hZ⟩ hX;simp only [ae, Try.f30, ab, Option.bind_some, Nat.reduceBEq, if_true, if_false, Bool.false_eq_true, Option.getD_some, List.drop_succ_cons, List.drop_zero];simp only [Act.put, List.setIfInBounds_toArray, List.set_cons_succ, List.set_cons_zero];replace HX := xT HX hX;replace KR := xE KR hX;clear hX;have KZ := hid hZ;clear hZ;obtain ⟨zz0, zz1, zz2, zz3⟩ := KZ.out.c4;obtain ⟨r0, r1, r2⟩ := KR.out.c3;have rf0 := KR.out.free 0;have rf1 := KR.out.free 1;have rf2 := KR.out.free 2;go_wp2;refine bodyPost_ret (v := .tuple #[.agg #[.int .i64 (r 1), .int .i64 (r 2), .int .i64 (r 3)], .int .i64 nn, .int .i64 0]) (by simp [results, Try.results30, go_sem, *]) rfl ?_;exact ⟨rfl, (Ext.setCell (Ext.setCell (Ext.setCell HX.out (by simp only; omega) _) (by simp only; omega) _) (by simp only; omega) _)⟩
theorem iu (t : Nat -> Int) (w : World) (ht : bV 4000000 t = true) :
  Calls Try.prog 30 #[.agg #[.int .i64 (t 0), .int .i64 (t 1), .int .i64 (t 2), .int .i64 (t 3)]] w (fun e w' => e = .returned (.tuple #[.agg #[.int .i64 (dL t 0), .int .i64 (dL t 1), .int .i64 (dL t 2)], .int .i64 (dA t), .int .i64 0]) /\ Ext w w') := by
 have rg := aA ht;obtain ⟨h0, h1, h2, h3⟩ := nW t
 have h := nX t (ah t jD) (bf t) (ah (ah t jD) (bf t)) (ah t (bf t) 0) (ah t (bf t) 1) (ah t (bf t) 2) (ah t (bf t) 3) w ht rfl rfl rfl rfl
  (fun w => bU t (bf t) w rg (eU rg)) (fun w => bU t jD w rg (fun i hi => by rcases fJ i hi with rfl | rfl | rfl | rfl <;> simp only [jD] <;> omega)) (fun w => bU (ah t jD) (bf t) w (ir rg) (eU rg))
 rw [h0, h1, h2, h3] at h;exact h
/-- A point within the limits. -/
def qr (x y z : Int) : Prop := (-268435456 <= x /\ x <= 268435456) /\ (-268435456 <= y /\ y <= 268435456) /\ (-268435456 <= z /\ z <= 268435456)
instance (x y z : Int) : Decidable (qr x y z) := by unfold qr; infer_instance
/-- The last of three that is not zero is negative. -/
def pQ (n : Nat -> Int) : Prop := if n 2 = 0 then (if n 1 = 0 then n 0 < 0 else n 1 < 0) else n 2 < 0
instance (n : Nat -> Int) : Decidable (pQ n) := by unfold pQ; infer_instance
/-- A number of the reference in a block of its own. -/
def QB (w : World) (g : Nat) (q : Rat) : Prop := ∃ s A l c B m k, Blk w g 65 #[.bool s, .slice A l c, .slice B m k] /\ QZ w (.agg #[.bool s, .slice A l c, .slice B m k]) q
theorem QB.ext {w w' : World} {g : Nat} {q : Rat} (h : QB w g q) (he : Ext w w') : QB w' g q := by
 obtain ⟨s, A, l, c, B, m, k, h1, h2⟩ := h;exact ⟨s, A, l, c, B, m, k, h1.ext he, h2.ext he⟩
theorem qj : Elem Try.prog 122 65 3 56 (.agg #[.bool false, .slice none 0 0, .slice none 0 0]) := Elem.mk' (by kernel_rfl) (by kernel_rfl) rfl (by decide)
def QRow (base : Nat) (w : World) (v : Value) (n : Nat) (f : Nat -> Rat) : Prop := (∃ us, w.ownsRow base 65 3 v n us /\ NumK 3 (Tri QZ) w us n f) /\ RowNI w v
section
variable {base n : Nat} {w w' : World} {v : Value} {f h : Nat -> Rat}
theorem QRow.nil (base : Nat) (w : World) (f : Nat -> Rat) : QRow base w (.slice none 0 0) 0 f := ⟨⟨[], World.ownsRow_nil _ _ _ _, NumK.nil 3 _ w f⟩, fun g hg => by simp [Value.ownBlock] at hg⟩
theorem QRow.keeps (k : QRow base w v n f) {L : List Nat} (hk : Keeps L w w') (hN : ∀ g ∈ L, NoInts w g) (hn : ∀ g, v.ownBlock = some g -> g ∉ L) : QRow base w' v n f := by
 obtain ⟨⟨us, h1, h2⟩, h3⟩ := k;exact ⟨⟨us, eZ h1 hk hn, h2.keep pK hk hN⟩, h3.keeps hk hn⟩
theorem QRow.ext (k : QRow base w v n f) (he : Ext w w') : QRow base w' v n f := k.keeps (.of_ext he []) (fun g hg => by simp at hg) (fun g _ hg => by simp at hg)
theorem QRow.congr (k : QRow base w v n f) (e : ∀ j, j < n -> f j = h j) : QRow base w v n h := by
 obtain ⟨⟨us, h1, h2⟩, h3⟩ := k;exact ⟨⟨us, h1, h2.congr e⟩, h3⟩
theorem QRow.slice (k : QRow base w v n f) : ∃ A c, v = .slice A n c := bi k.1.choose_spec.1
theorem QRow.low (k : QRow base w v n f) {g : Nat} (hg : v.ownBlock = some g) : base <= g /\ g < w.heap.size := oQ k.1.choose_spec.1 hg
theorem QRow.get {A : Option Addr} {c : Nat} (k : QRow base w (.slice A n c) n f) {j : Nat} (hj : j < n) : ∃ g, A = some ⟨g, 0, none⟩ /\ base <= g /\ ∃ s A' l c' B m d, w.cell? ⟨g, j * 3, none⟩ = some (.bool s) /\ w.cell? ⟨g, j * 3 + 1, none⟩ = some (.slice A' l c') /\ w.cell? ⟨g, j * 3 + 2, none⟩ = some (.slice B m d) /\ QZ w (.agg #[.bool s, .slice A' l c', .slice B m d]) (f j) := by
 obtain ⟨⟨us, h1, h2⟩, h3⟩ := k
 rcases h1.2 with ⟨hv, h0⟩ | ⟨g, cap, cur, hv, hg, hb⟩
 .
  have := h2.1;rw [h0] at this;simp at this;omega
 .
  injection hv with hA hn hc;subst hA;obtain ⟨s, A', l, c', B, m, d, e0, e1, e2, e3⟩ := h2.three hj;exact ⟨g, rfl, hg, s, A', l, c', B, m, d, eD h1 e0, eD h1 e1, eD h1 e2, e3⟩
theorem QRow.app (k : QRow base w v n f) {g' : Nat} {q : Rat} (hq : QB w g' q) (hb : base <= w.heap.size) (_hn : n <= 1000) : ∃ v' w', (Builtin.append_ #[122, 122] 122 #[v, .slice (some ⟨g', 0, none⟩) 1 1]).run Try.prog w = .ok v' w' /\ QRow base w' v' (n + 1) (fun i => if i = n then q else f i) /\ w.grownBy w' v.ownBlock /\ (v'.ownBlock = v.ownBlock \/ v'.ownBlock = some w.heap.size) := by
 obtain ⟨⟨us, h1, h2⟩, h3⟩ := k;obtain ⟨s, A, l, c, B, m, d, b1, b2⟩ := hq
 obtain ⟨v', w', hr, ho, hG, hv, hni⟩ := iR (P := Try.prog) w qj 122 base v n us h1 h3 (by simp [Value.cells, cj]) ⟨g', 0, none⟩ 1 1 [.bool s, .slice A l c, .slice B m d] rfl
  (fun _ => ⟨g', 0, rfl, fun j y hy => by rw [Nat.zero_add]; exact (b1.cell j).trans (by rw [List.getElem?_toArray]; exact hy)⟩) (by simp [Value.oneCell']) (by simp [cj]) (by omega) (by omega) (by unfold maxLen; omega) hb
 have hN2 := h2.imp (w' := w') (R' := Tri QZ) (fun cs x hx => by
  obtain ⟨s, A, l, c, B, m, k, e, hp⟩ := hx;exact ⟨s, A, l, c, B, m, k, e, hp.grownNI h3 hG⟩)
 exact ⟨v', w', hr, ⟨⟨_, ho, hN2.snoc rfl (Tri.mk (b2.grownNI h3 hG))⟩, hni⟩, hG, hv⟩
end
/-- Six integers in a block. -/
def I6 (w : World) (g : Nat) : Prop := ∃ f : Nat -> Int, Blk w g 47 #[.int .i64 (f 0), .int .i64 (f 1), .int .i64 (f 2), .int .i64 (f 3), .int .i64 (f 4), .int .i64 (f 5)]
theorem I6.ext {w w' : World} {g : Nat} (h : I6 w g) (he : Ext w w') : I6 w' g := by
 obtain ⟨f, h⟩ := h;exact ⟨f, h.ext he⟩
theorem I6.cell {w : World} {g : Nat} (h : I6 w g) {k : Nat} (hk : k < 6) : ∃ x : Int, w.cell? ⟨g, k, none⟩ = some (.int .i64 x) := by
 obtain ⟨f, h⟩ := h;refine ⟨f k, ?_⟩;rw [h.cell]
 match k, hk with
 | 0, _ => rfl
 | 1, _ => rfl
 | 2, _ => rfl
 | 3, _ => rfl
 | 4, _ => rfl
 | 5, _ => rfl
theorem I6.free {w : World} {g : Nat} (h : I6 w g) (k : Nat) : w.frozen? ⟨g, k, none⟩ = false := by
 obtain ⟨f, h⟩ := h;exact h.free k
theorem I6.put {w : World} {g : Nat} (h : I6 w g) {k : Nat} (hk : k < 6) (x : Int) : I6 (w.setCell ⟨g, k, none⟩ (.int .i64 x)) g := by
 obtain ⟨f, h⟩ := h;refine ⟨fun j => if j = k then x else f j, ?_⟩
 match k, hk with
 | 0, _ => exact h.set 0 _
 | 1, _ => exact h.set 1 _
 | 2, _ => exact h.set 2 _
 | 3, _ => exact h.set 3 _
 | 4, _ => exact h.set 4 _
 | 5, _ => exact h.set 5 _
theorem dv {r0 r1 : Int} : fI r0 r1 = true ↔ 0 <= r0 /\ r0 <= r1 /\ r1 <= 4194304 := by
 unfold fI;rw [Bool.and_eq_true, au];constructor
 .
  intro ⟨h1, h2⟩;have := lQ h1;have h3 := h2 r0 (by simp);have h4 := h2 r1 (by simp);omega
 .
  intro h;refine ⟨decide_eq_true (by omega), ?_⟩;intro x hx;simp at hx;omega
/-- The four ends of an axis. -/
def bo (pl ph : Int) (k n r0 r1 : Int) : List Rat := [(pl : Rat) + (k : Rat) * (r0 : Rat) / (n : Rat), (pl : Rat) + (k : Rat) * (r1 : Rat) / (n : Rat), (ph : Rat) + (k : Rat) * (r0 : Rat) / (n : Rat), (ph : Rat) + (k : Rat) * (r1 : Rat) / (n : Rat)]
theorem dw {q : Rat} : aU q < 0 ↔ q < 0 := by
 rcases cC q with ⟨h1, h2⟩ | ⟨h1, h2⟩ | ⟨h1, h2⟩
 .
  constructor <;> intro h <;> first | exact h1 | omega
 .
  subst h1;constructor <;> intro h
  .
   omega
  .
   exact absurd h (Rat.lt_irrefl)
 .
  constructor <;> intro h
  .
   omega
  .
   exfalso; grind
theorem eV {z : Int} (h : -1152921504606846976 <= z /\ z <= 1152921504606846976) : aZ z = 0 := by
 unfold aZ
 first | exact if_pos h | (split <;> first | rfl | omega)
theorem jE (qs : List Rat) : ∀ k j, j <= k -> bl qs k <= qs.getD j 0
 | 0, j, h => by
  obtain rfl : j = 0 := by omega
  exact Rat.le_refl
 | k + 1, j, h => by
  have ih := jE qs k;show (if aU (qs.getD (k + 1) 0 - bl qs k) < 0 then qs.getD (k + 1) 0 else bl qs k) <= _
  by_cases c : aU (qs.getD (k + 1) 0 - bl qs k) < 0
  .
   rw [if_pos c];rw [dw] at c
   by_cases e : j = k + 1
   .
    subst e; exact Rat.le_refl
   .
    have := ih j (by omega); grind
  .
   rw [if_neg c];rw [dw] at c
   by_cases e : j = k + 1
   .
    subst e; grind
   .
    exact ih j (by omega)
theorem dx {q : Rat} : 0 < aU q ↔ 0 < q := by
 rcases cC q with ⟨h1, h2⟩ | ⟨h1, h2⟩ | ⟨h1, h2⟩
 .
  constructor <;> intro h
  .
   omega
  .
   exfalso; grind
 .
  subst h1;constructor <;> intro h
  .
   omega
  .
   exact absurd h (Rat.lt_irrefl)
 .
  constructor <;> intro h <;> first | exact h1 | omega
theorem iw (qs : List Rat) : ∀ k j, j <= k -> qs.getD j 0 <= aK qs k
 | 0, j, h => by
  obtain rfl : j = 0 := by omega
  exact Rat.le_refl
 | k + 1, j, h => by
  have ih := iw qs k;show _ <= (if 0 < aU (qs.getD (k + 1) 0 - aK qs k) then qs.getD (k + 1) 0 else aK qs k)
  by_cases c : 0 < aU (qs.getD (k + 1) 0 - aK qs k)
  .
   rw [if_pos c];rw [dx] at c
   by_cases e : j = k + 1
   .
    subst e; exact Rat.le_refl
   .
    have := ih j (by omega); grind
  .
   rw [if_neg c];rw [dx] at c
   by_cases e : j = k + 1
   .
    subst e; grind
   .
    exact ih j (by omega)
theorem mz {qs : List Rat} {k j : Nat} (_hl : qs.length = k + 1) (hj : j <= k) (h : ∀ q ∈ qs, qs.getD j 0 <= q) : bl qs k = qs.getD j 0 :=
 Rat.le_antisymm (jE qs k j hj) (h _ (bR (by omega)))
theorem jF {qs : List Rat} {k j : Nat} (_hl : qs.length = k + 1) (hj : j <= k) (h : ∀ q ∈ qs, q <= qs.getD j 0) : aK qs k = qs.getD j 0 :=
 Rat.le_antisymm (h _ (bA (by omega))) (iw qs k j hj)
theorem dP (p x n : Int) (hn : 1 <= n) : ((p : Rat) + (x : Rat) / (n : Rat)).floor = p + x / n := by
 have h0 : (n : Rat) ≠ 0 := fun e => by have := Rat.intCast_inj.1 (e.trans Rat.intCast_zero.symm); omega
 have e : (p : Rat) + (x : Rat) / (n : Rat) = ((x + p * n : Int) : Rat) / (n : Rat) := by
  rw [Rat.intCast_add, Rat.intCast_mul, Rat.div_def, Rat.div_def, Rat.add_mul, Rat.mul_assoc, Rat.mul_inv_cancel _ h0, Rat.mul_one, Rat.add_comm]
 rw [e, fK _ _ hn, Int.add_mul_ediv_right _ _ (by omega)];omega
theorem iy (p x n : Int) (hn : 1 <= n) : -(-((p : Rat) + (x : Rat) / (n : Rat))).floor = p + aj x n := by
 have e : -((p : Rat) + (x : Rat) / (n : Rat)) = ((-p : Int) : Rat) + ((-x : Int) : Rat) / (n : Rat) := by
  rw [<- im, Rat.intCast_neg];grind
 rw [e, dP _ _ _ hn];unfold aj;omega
theorem kG {pl ph k n r0 r1 : Int} (hp : pl <= ph) (hn : 1 <= n) (hr : r0 <= r1) :
  (bl (bo pl ph k n r0 r1) 3).floor = pl + k * ao k r0 r1 / n /\ -(-(aK (bo pl ph k n r0 r1) 3)).floor = ph + aj (k * ao k r1 r0) n := by
 have rp := bH hp
 have d0 : ∀ a b : Int, k * a <= k * b -> (k : Rat) * (a : Rat) / (n : Rat) <= (k : Rat) * (b : Rat) / (n : Rat) := fun a b h => by
  rw [<- Rat.intCast_mul, <- Rat.intCast_mul];exact pv _ _ _ hn h
 by_cases hk : k < 0
 .
  have e1 : ao k r0 r1 = r1 := if_pos hk;have e2 : ao k r1 r0 = r0 := if_pos hk;have hm : k * r1 <= k * r0 := Int.mul_le_mul_of_nonpos_left (by omega) hr;have hd := d0 _ _ hm;rw [e1, e2];constructor
  .
   rw [mz (j := 1) rfl (by omega) (by
    intro q hq;simp only [bo, List.mem_cons, List.not_mem_nil, or_false] at hq;simp only [bo, List.getD_cons_succ, List.getD_cons_zero]
    rcases hq with rfl | rfl | rfl | rfl <;> grind)]
   simp only [bo, List.getD_cons_succ, List.getD_cons_zero];rw [<- Rat.intCast_mul, dP _ _ _ hn]
  .
   rw [jF (j := 2) rfl (by omega) (by
    intro q hq;simp only [bo, List.mem_cons, List.not_mem_nil, or_false] at hq;simp only [bo, List.getD_cons_succ, List.getD_cons_zero]
    rcases hq with rfl | rfl | rfl | rfl <;> grind)]
   simp only [bo, List.getD_cons_succ, List.getD_cons_zero];rw [<- Rat.intCast_mul, iy _ _ _ hn]
 .
  have e1 : ao k r0 r1 = r0 := if_neg hk;have e2 : ao k r1 r0 = r1 := if_neg hk;have hm : k * r0 <= k * r1 := Int.mul_le_mul_of_nonneg_left hr (by omega);have hd := d0 _ _ hm;rw [e1, e2];constructor
  .
   rw [mz (j := 0) rfl (by omega) (by
    intro q hq;simp only [bo, List.mem_cons, List.not_mem_nil, or_false] at hq;simp only [bo, List.getD_cons_succ, List.getD_cons_zero]
    rcases hq with rfl | rfl | rfl | rfl <;> grind)]
   simp only [bo, List.getD_cons_succ, List.getD_cons_zero];rw [<- Rat.intCast_mul, dP _ _ _ hn]
  .
   rw [jF (j := 3) rfl (by omega) (by
    intro q hq;simp only [bo, List.mem_cons, List.not_mem_nil, or_false] at hq;simp only [bo, List.getD_cons_succ, List.getD_cons_zero]
    rcases hq with rfl | rfl | rfl | rfl <;> grind)]
   simp only [bo, List.getD_cons_succ, List.getD_cons_zero];rw [<- Rat.intCast_mul, iy _ _ _ hn]
theorem nY {pl ph k n r0 r1 : Int} (_hp : pl <= ph) (hn : 1 <= n) (hr : r0 <= r1) : pl + k * ao k r0 r1 / n <= ph + aj (k * ao k r1 r0) n := by
 have hm : k * ao k r0 r1 <= k * ao k r1 r0 := by
  unfold ao
  by_cases hk : k < 0
  .
   rw [if_pos hk, if_pos hk]; exact Int.mul_le_mul_of_nonpos_left (by omega) hr
  .
   rw [if_neg hk, if_neg hk]; exact Int.mul_le_mul_of_nonneg_left hr (by omega)
 have h1 := de (x := k * ao k r0 r1) hn;have h2 := dK (x := k * ao k r1 r0) hn;have h3 : k * ao k r0 r1 / n <= k * ao k r1 r0 / n := Int.ediv_le_ediv (by omega) hm;have h4 := de (x := k * ao k r1 r0) hn;have h5 := Rat.intCast_le_intCast.1 (Rat.le_trans h4 h2);unfold aj;omega
theorem QRow.qsAt {base : Nat} {w : World} {A : Option Addr} {c : Nat} {f : Nat -> Rat} (k : QRow base w (.slice A 4 c) 4 f) : QsAt w A 4 [f 0, f 1, f 2, f 3] := by
 refine ⟨rfl, ?_⟩;intro j q hq
 have hj : j < 4 := by
  have := (List.getElem?_eq_some_iff.1 hq).1
  simpa using this
 obtain ⟨g, hA, _, s, A', l, c', B, m, d, h1, h2, h3, h4⟩ := k.get hj
 have he : f j = q := by
  rcases fJ j hj with rfl | rfl | rfl | rfl <;> simpa using hq
 rw [he] at h4;exact ⟨g, 0, s, A', l, c', B, m, d, hA, by rw [Nat.zero_add]; exact h1, by rw [Nat.zero_add]; exact h2, by rw [Nat.zero_add]; exact h3, h4⟩
theorem iz {base n : Nat} {w : World} {v : Value} {f : Nat -> Rat} {g' : Nat} {q : Rat} (k : QRow base w v n f) (hq : QB w g' q) (hb : base <= w.heap.size) (hn : n <= 1000) {ops : Array Oper} {rest : List Oper} {o : Oper} {a : Act} {Q : Exit -> Act -> World -> Prop}
  (hgd : o.guard = none) (s x : Operand) (ho : o.op = .call { callee := .builtin .append, args := #[s, x], argTypes := #[122, 122] }) (hty : o.type = 122) (hs : a.eval s = v) (hx : a.eval x = .slice (some ⟨g', 0, none⟩) 1 1)
  (h : ∀ v' w', QRow base w' v' (n + 1) (fun i => if i = n then q else f i) -> w.grownBy w' v.ownBlock -> (v'.ownBlock = v.ownBlock \/ v'.ownBlock = some w.heap.size) -> wpList Try.prog ops Q rest (a.put o.dst v') w') :
  wpList Try.prog ops Q (o :: rest) a w :=
 wpList_plain hgd fun K hK => by
  obtain ⟨v', w', hrun, h2, h3, h4⟩ := k.app hq hb hn;unfold Oper.wp execOp;simp only [ho, hty, resolve, invoke, builtin, Sem.run_bind, Sem.run_pure, Result.andThen_ok, List.map_toArray, List.map_cons, List.map_nil, hs, hx, hrun];exact hK _ _ (h v' w' h2 h3 h4)
theorem nZ (gk kk : Nat) (cv kv sv nn : Int) (rv : Value) (w : World) (hcv : -9223372036854775808 <= cv /\ cv <= 9223372036854775807) (hkv : -9223372036854775808 <= kv /\ kv <= 9223372036854775807) (hsv : -9223372036854775808 <= sv /\ sv <= 9223372036854775807) (hnn : -9223372036854775808 <= nn /\ nn <= 9223372036854775807) (hn1 : 1 <= nn) (_hk : (kk : Int) < 3) (c0 : w.cell? ⟨gk, kk, none⟩ = some (.int .i64 kv)) (a : Act) (Q : Exit -> Act -> World -> Prop) (hsize : 135 <= a.tmps.size)
  (s10 : a.tmps[10]? = some (.pointer (some ⟨gk, 0, none⟩)))
  (s11 : a.tmps[11]? = some (.int .i64 (nn)))
  (s15 : a.tmps[15]? = some (.int .i64 (kk : Int)))
  (s16 : a.tmps[16]? = some (rv))
  (s18 : a.tmps[18]? = some (.int .i64 (cv)))
  (s20 : a.tmps[20]? = some (.int .i64 (sv)))
  (hend : ∀ (xv0 xv1 xv2 xv3 xv4 xv5 xv6 xv7 xv8 xv9 xv10 xv11 xv12 xv13 xv14 : Value) (W : World), (xv0 = rv) -> (xv1 = .int .i64 (cv)) -> (QFt W xv2 (cv : Rat) 4) -> (xv3 = .int .i64 (kk : Int)) -> (xv4 = .pointer (some ⟨gk, kk, none⟩)) -> (xv5 = .int .i64 (kv)) -> (QFt W xv6 (kv : Rat) 4) -> (xv7 = .int .i64 (sv)) -> (QFt W xv8 (sv : Rat) 4) -> (QFt W xv9 ((kv : Rat) * (sv : Rat)) (4 + 4)) -> (xv10 = .int .i64 (nn)) -> (QFt W xv11 (nn : Rat) 4) -> (QFt W xv12 ((kv : Rat) * (sv : Rat) / (nn : Rat)) (4 + 4 + 4)) -> (QFt W xv13 ((cv : Rat) + (kv : Rat) * (sv : Rat) / (nn : Rat)) (4 + (4 + 4 + 4) + 1)) -> (∃ g, xv14 = .slice (some ⟨g, 0, none⟩) 1 1 /\ w.heap.size <= g /\ QB W g ((cv : Rat) + (kv : Rat) * (sv : Rat) / (nn : Rat))) -> Ext w W -> wpList Try.prog (ae Try.f28 24).toArray Q ((ae Try.f28 24).drop 15) (((((((((((((((a.put (some 120) xv0).put (some 121) xv1).put (some 122) xv2).put (some 123) xv3).put (some 124) xv4).put (some 125) xv5).put (some 126) xv6).put (some 127) xv7).put (some 128) xv8).put (some 129) xv9).put (some 130) xv10).put (some 131) xv11).put (some 132) xv12).put (some 133) xv13).put (some 134) xv14) W) :
  (Code.region 24 (ae Try.f28 24).toArray true).wp Try.prog Q a w := by
 have hmono : ∀ (W W' : World) (j : Nat) (u : Value), Ext W W' -> (fun (i : Nat) (v : Value) (W : World) => match i with
  | 0 => v = rv
  | 1 => v = .int .i64 (cv)
  | 2 => QFt W v (cv : Rat) 4
  | 3 => v = .int .i64 (kk : Int)
  | 4 => v = .pointer (some ⟨gk, kk, none⟩)
  | 5 => v = .int .i64 (kv)
  | 6 => QFt W v (kv : Rat) 4
  | 7 => v = .int .i64 (sv)
  | 8 => QFt W v (sv : Rat) 4
  | 9 => QFt W v ((kv : Rat) * (sv : Rat)) (4 + 4)
  | 10 => v = .int .i64 (nn)
  | 11 => QFt W v (nn : Rat) 4
  | 12 => QFt W v ((kv : Rat) * (sv : Rat) / (nn : Rat)) (4 + 4 + 4)
  | 13 => QFt W v ((cv : Rat) + (kv : Rat) * (sv : Rat) / (nn : Rat)) (4 + (4 + 4 + 4) + 1)
  | 14 => ∃ g, v = .slice (some ⟨g, 0, none⟩) 1 1 /\ w.heap.size <= g /\ QB W g ((cv : Rat) + (kv : Rat) * (sv : Rat) / (nn : Rat))
  | _ => True) j u W -> (fun (i : Nat) (v : Value) (W : World) => match i with
  | 0 => v = rv
  | 1 => v = .int .i64 (cv)
  | 2 => QFt W v (cv : Rat) 4
  | 3 => v = .int .i64 (kk : Int)
  | 4 => v = .pointer (some ⟨gk, kk, none⟩)
  | 5 => v = .int .i64 (kv)
  | 6 => QFt W v (kv : Rat) 4
  | 7 => v = .int .i64 (sv)
  | 8 => QFt W v (sv : Rat) 4
  | 9 => QFt W v ((kv : Rat) * (sv : Rat)) (4 + 4)
  | 10 => v = .int .i64 (nn)
  | 11 => QFt W v (nn : Rat) 4
  | 12 => QFt W v ((kv : Rat) * (sv : Rat) / (nn : Rat)) (4 + 4 + 4)
  | 13 => QFt W v ((cv : Rat) + (kv : Rat) * (sv : Rat) / (nn : Rat)) (4 + (4 + 4 + 4) + 1)
  | 14 => ∃ g, v = .slice (some ⟨g, 0, none⟩) 1 1 /\ w.heap.size <= g /\ QB W g ((cv : Rat) + (kv : Rat) * (sv : Rat) / (nn : Rat))
  | _ => True) j u W' := by
  intro W W' j u hX h
  match j, h with
  | 0, h => exact h
  | 1, h => exact h
  | 2, h => exact QFt.ext h hX
  | 3, h => exact h
  | 4, h => exact h
  | 5, h => exact h
  | 6, h => exact QFt.ext h hX
  | 7, h => exact h
  | 8, h => exact QFt.ext h hX
  | 9, h => exact QFt.ext h hX
  | 10, h => exact h
  | 11, h => exact QFt.ext h hX
  | 12, h => exact QFt.ext h hX
  | 13, h => exact QFt.ext h hX
  | 14, h => (obtain ⟨g, h1, h2, h3⟩ := h; exact ⟨g, h1, h2, h3.ext hX⟩)
  | _ + 15, h => exact h
 have hsz : ∀ d, some d ∈ ([some 120, some 121, some 122, some 123, some 124, some 125, some 126, some 127, some 128, some 129, some 130, some 131, some 132, some 133, some 134] : List (Option Tmp)) -> d < a.tmps.size := aI (by decide) hsize
 refine aJ 15 [some 120, some 121, some 122, some 123, some 124, some 125, some 126, some 127, some 128, some 129, some 130, some 131, some 132, some 133, some 134] [[], [], [1], [], [3], [4], [5], [], [7], [6, 8], [], [10], [9, 11], [2, 12], [13]] [[], [], [], [], [], [], [], [], [], [], [], [], [], [], []] (fun (i : Nat) (v : Value) (W : World) => match i with
  | 0 => v = rv
  | 1 => v = .int .i64 (cv)
  | 2 => QFt W v (cv : Rat) 4
  | 3 => v = .int .i64 (kk : Int)
  | 4 => v = .pointer (some ⟨gk, kk, none⟩)
  | 5 => v = .int .i64 (kv)
  | 6 => QFt W v (kv : Rat) 4
  | 7 => v = .int .i64 (sv)
  | 8 => QFt W v (sv : Rat) 4
  | 9 => QFt W v ((kv : Rat) * (sv : Rat)) (4 + 4)
  | 10 => v = .int .i64 (nn)
  | 11 => QFt W v (nn : Rat) 4
  | 12 => QFt W v ((kv : Rat) * (sv : Rat) / (nn : Rat)) (4 + 4 + 4)
  | 13 => QFt W v ((cv : Rat) + (kv : Rat) * (sv : Rat) / (nn : Rat)) (4 + (4 + 4 + 4) + 1)
  | 14 => ∃ g, v = .slice (some ⟨g, 0, none⟩) 1 1 /\ w.heap.size <= g /\ QB W g ((cv : Rat) + (kv : Rat) * (sv : Rat) / (nn : Rat))
  | _ => True) (fun _ W => Ext w W) (by kernel_rfl) (by kernel_rfl) hsz (fun _ _ _ _ h => h) ((Ext.refl w).drew) ?_ ?_
 .
  clear hend;simp only [ae, Try.f28, ab, Option.bind_some, Nat.reduceBEq, if_true, if_false, Bool.false_eq_true, Option.getD_some];simp only [List.take_succ_cons, List.take_zero];refine ⟨?_, ?_, ?_, ?_, ?_, ?_, ?_, ?_, ?_, ?_, ?_, ?_, ?_, ?_, ?_, trivial⟩
  .
   intro done us W hJ hdep haft hnot b hb hb' K hK Q';have e16 := (hb' 16 (by simp)).trans s16;clear hb hb';go_simp;exact hK _ _ rfl (fun _ _ _ h => h) hJ
  .
   intro done us W hJ hdep haft hnot b hb hb' K hK Q';have e18 := (hb' 18 (by simp)).trans s18;clear hb hb';go_simp;exact hK _ _ rfl (fun _ _ _ h => h) hJ
  .
   intro done us W hJ hdep haft hnot b hb hb' K hK Q';simp only [List.getD_cons_succ, List.getD_cons_zero, List.mem_cons, List.not_mem_nil, or_false, forall_eq] at hdep;have e121 := hb 1 121 rfl;have d1 := hdep;rw [d1.1] at e121;clear hb hb' hdep d1;go_simp;refine (ak cv _ hcv.1 hcv.2).mono ?_;rintro e w' ⟨v, rfl, hv, hX⟩;exact hK _ _ hv (fun j u _ h => hmono _ _ j u hX h) (Ext.trans hJ hX)
  .
   intro done us W hJ hdep haft hnot b hb hb' K hK Q';have e15 := (hb' 15 (by simp)).trans s15;clear hb hb';go_simp;exact hK _ _ rfl (fun _ _ _ h => h) hJ
  .
   intro done us W hJ hdep haft hnot b hb hb' K hK Q';simp only [List.getD_cons_succ, List.getD_cons_zero, List.mem_cons, List.not_mem_nil, or_false, forall_eq] at hdep;have e10 := (hb' 10 (by simp)).trans s10;have e123 := hb 3 123 rfl;have d3 := hdep;rw [d3.1] at e123;clear hb hb' hdep d3;go_simp;exact hK _ _ rfl (fun _ _ _ h => h) hJ
  .
   intro done us W hJ hdep haft hnot b hb hb' K hK Q';simp only [List.getD_cons_succ, List.getD_cons_zero, List.mem_cons, List.not_mem_nil, or_false, forall_eq] at hdep;have e124 := hb 4 124 rfl;have d4 := hdep;rw [d4.1] at e124;clear hb hb' hdep d4;have q := Ext.cell hJ c0;go_simp;exact hK _ _ rfl (fun _ _ _ h => h) hJ
  .
   intro done us W hJ hdep haft hnot b hb hb' K hK Q';simp only [List.getD_cons_succ, List.getD_cons_zero, List.mem_cons, List.not_mem_nil, or_false, forall_eq] at hdep;have e125 := hb 5 125 rfl;have d5 := hdep;rw [d5.1] at e125;clear hb hb' hdep d5;go_simp;refine (ak kv _ hkv.1 hkv.2).mono ?_;rintro e w' ⟨v, rfl, hv, hX⟩;exact hK _ _ hv (fun j u _ h => hmono _ _ j u hX h) (Ext.trans hJ hX)
  .
   intro done us W hJ hdep haft hnot b hb hb' K hK Q';have e20 := (hb' 20 (by simp)).trans s20;clear hb hb';go_simp;exact hK _ _ rfl (fun _ _ _ h => h) hJ
  .
   intro done us W hJ hdep haft hnot b hb hb' K hK Q';simp only [List.getD_cons_succ, List.getD_cons_zero, List.mem_cons, List.not_mem_nil, or_false, forall_eq] at hdep;have e127 := hb 7 127 rfl;have d7 := hdep;rw [d7.1] at e127;clear hb hb' hdep d7;go_simp;refine (ak sv _ hsv.1 hsv.2).mono ?_;rintro e w' ⟨v, rfl, hv, hX⟩;exact hK _ _ hv (fun j u _ h => hmono _ _ j u hX h) (Ext.trans hJ hX)
  .
   intro done us W hJ hdep haft hnot b hb hb' K hK Q';simp only [List.getD_cons_succ, List.getD_cons_zero, List.mem_cons, List.not_mem_nil, or_false, forall_eq_or_imp, forall_eq] at hdep;have e126 := hb 6 126 rfl;have e128 := hb 8 128 rfl;have d6 := hdep.1;have d8 := hdep.2;clear hb hb' hdep ;go_simp;refine (du d6.1 d8.1 (by omega)).mono ?_;rintro e w' ⟨v, rfl, hv, hX⟩;exact hK _ _ hv (fun j u _ h => hmono _ _ j u hX h) (Ext.trans hJ hX)
  .
   intro done us W hJ hdep haft hnot b hb hb' K hK Q';have e11 := (hb' 11 (by simp)).trans s11;clear hb hb';go_simp;exact hK _ _ rfl (fun _ _ _ h => h) hJ
  .
   intro done us W hJ hdep haft hnot b hb hb' K hK Q';simp only [List.getD_cons_succ, List.getD_cons_zero, List.mem_cons, List.not_mem_nil, or_false, forall_eq] at hdep;have e130 := hb 10 130 rfl;have d10 := hdep;rw [d10.1] at e130;clear hb hb' hdep d10;go_simp;refine (ak nn _ hnn.1 hnn.2).mono ?_;rintro e w' ⟨v, rfl, hv, hX⟩;exact hK _ _ hv (fun j u _ h => hmono _ _ j u hX h) (Ext.trans hJ hX)
  .
   intro done us W hJ hdep haft hnot b hb hb' K hK Q';simp only [List.getD_cons_succ, List.getD_cons_zero, List.mem_cons, List.not_mem_nil, or_false, forall_eq_or_imp, forall_eq] at hdep;have e129 := hb 9 129 rfl;have e131 := hb 11 131 rfl;have d9 := hdep.1;have d11 := hdep.2;clear hb hb' hdep ;go_simp;refine (fg d9.1 d11.1 hn1 hnn.2 (by omega)).mono ?_;rintro e w' ⟨v, rfl, hv, hX⟩;exact hK _ _ hv (fun j u _ h => hmono _ _ j u hX h) (Ext.trans hJ hX)
  .
   intro done us W hJ hdep haft hnot b hb hb' K hK Q';simp only [List.getD_cons_succ, List.getD_cons_zero, List.mem_cons, List.not_mem_nil, or_false, forall_eq_or_imp, forall_eq] at hdep;have e122 := hb 2 122 rfl;have e132 := hb 12 132 rfl;have d2 := hdep.1;have d12 := hdep.2;clear hb hb' hdep ;go_simp;refine (jd d2.1 d12.1 (by omega)).mono ?_;rintro e w' ⟨v, rfl, hv, hX⟩;exact hK _ _ hv (fun j u _ h => hmono _ _ j u hX h) (Ext.trans hJ hX)
  .
   intro done us W hJ hdep haft hnot b hb hb' K hK Q';simp only [List.getD_cons_succ, List.getD_cons_zero, List.mem_cons, List.not_mem_nil, or_false, forall_eq] at hdep;have e133 := hb 13 133 rfl;have d13 := hdep;clear hb hb' hdep ;obtain ⟨s9, A9, l9, c9, B9, m9, k9, hv9⟩ := d13.1.open;have hq9 := d13.1.1;rw [hv9] at e133 hq9;go_simp;exact hK _ _ ⟨W.heap.size, rfl, Ext.size hJ, ⟨s9, A9, l9, c9, B9, m9, k9, Blk.new W _ _, hq9.ext ((Ext.refl _).alloc _)⟩⟩ (fun j u _ h => hmono _ _ j u ((Ext.refl _).alloc _) h) (hJ.alloc _)
 .
  intro us W hV hJ;exact hend (us 0) (us 1) (us 2) (us 3) (us 4) (us 5) (us 6) (us 7) (us 8) (us 9) (us 10) (us 11) (us 12) (us 13) (us 14) W (hV 0 (by omega)) (hV 1 (by omega)) (hV 2 (by omega)) (hV 3 (by omega)) (hV 4 (by omega)) (hV 5 (by omega)) (hV 6 (by omega)) (hV 7 (by omega)) (hV 8 (by omega)) (hV 9 (by omega)) (hV 10 (by omega)) (hV 11 (by omega)) (hV 12 (by omega)) (hV 13 (by omega)) (hV 14 (by omega)) hJ
theorem oc (gp kk : Nat) (cl ch : Int) (w : World) (_hk : (kk : Int) < 3) (c0 : w.cell? ⟨gp, kk * 2, none⟩ = some (.int .i64 cl)) (c1 : w.cell? ⟨gp, kk * 2 + 1, none⟩ = some (.int .i64 ch)) (a : Act) (Q : Exit -> Act -> World -> Prop) (hsize : 107 <= a.tmps.size)
  (s3 : a.tmps[3]? = some (.pointer (some ⟨gp, 0, none⟩)))
  (s15 : a.tmps[15]? = some (.int .i64 (kk : Int)))
  (hend : ∀ (xv0 xv1 xv2 xv3 xv4 xv5 xv6 xv7 xv8 xv9 xv10 xv11 xv12 : Value) (W : World), (xv0 = .int .i64 (kk : Int)) -> (xv1 = .pointer (some ⟨gp, 0, none⟩)) -> (xv2 = .pointer (some ⟨gp, kk * 2, none⟩)) -> (xv3 = .pointer (some ⟨gp, kk * 2, none⟩)) -> (xv4 = .int .i64 (cl)) -> (xv5 = .int .i64 (kk : Int)) -> (xv6 = .pointer (some ⟨gp, 0, none⟩)) -> (xv7 = .pointer (some ⟨gp, kk * 2, none⟩)) -> (xv8 = .pointer (some ⟨gp, kk * 2 + 1, none⟩)) -> (xv9 = .int .i64 (ch)) -> (∃ g, xv10 = .slice (some ⟨g, 0, none⟩) 2 2 /\ w.heap.size <= g /\ Blk W g 3 #[.int .i64 cl, .int .i64 ch]) -> (xv11 = .int .i64 2) -> (xv12 = .int .i64 (0)) -> Ext w W -> wpList Try.prog (ae Try.f28 18).toArray Q ((ae Try.f28 18).drop 13) (((((((((((((a.put (some 94) xv0).put (some 95) xv1).put (some 96) xv2).put (some 97) xv3).put (some 98) xv4).put (some 99) xv5).put (some 100) xv6).put (some 101) xv7).put (some 102) xv8).put (some 103) xv9).put (some 104) xv10).put (some 105) xv11).put (some 106) xv12) W) :
  (Code.region 18 (ae Try.f28 18).toArray true).wp Try.prog Q a w := by
 have hmono : ∀ (W W' : World) (j : Nat) (u : Value), Ext W W' -> (fun (i : Nat) (v : Value) (W : World) => match i with
  | 0 => v = .int .i64 (kk : Int)
  | 1 => v = .pointer (some ⟨gp, 0, none⟩)
  | 2 => v = .pointer (some ⟨gp, kk * 2, none⟩)
  | 3 => v = .pointer (some ⟨gp, kk * 2, none⟩)
  | 4 => v = .int .i64 (cl)
  | 5 => v = .int .i64 (kk : Int)
  | 6 => v = .pointer (some ⟨gp, 0, none⟩)
  | 7 => v = .pointer (some ⟨gp, kk * 2, none⟩)
  | 8 => v = .pointer (some ⟨gp, kk * 2 + 1, none⟩)
  | 9 => v = .int .i64 (ch)
  | 10 => ∃ g, v = .slice (some ⟨g, 0, none⟩) 2 2 /\ w.heap.size <= g /\ Blk W g 3 #[.int .i64 cl, .int .i64 ch]
  | 11 => v = .int .i64 2
  | 12 => v = .int .i64 (0)
  | _ => True) j u W -> (fun (i : Nat) (v : Value) (W : World) => match i with
  | 0 => v = .int .i64 (kk : Int)
  | 1 => v = .pointer (some ⟨gp, 0, none⟩)
  | 2 => v = .pointer (some ⟨gp, kk * 2, none⟩)
  | 3 => v = .pointer (some ⟨gp, kk * 2, none⟩)
  | 4 => v = .int .i64 (cl)
  | 5 => v = .int .i64 (kk : Int)
  | 6 => v = .pointer (some ⟨gp, 0, none⟩)
  | 7 => v = .pointer (some ⟨gp, kk * 2, none⟩)
  | 8 => v = .pointer (some ⟨gp, kk * 2 + 1, none⟩)
  | 9 => v = .int .i64 (ch)
  | 10 => ∃ g, v = .slice (some ⟨g, 0, none⟩) 2 2 /\ w.heap.size <= g /\ Blk W g 3 #[.int .i64 cl, .int .i64 ch]
  | 11 => v = .int .i64 2
  | 12 => v = .int .i64 (0)
  | _ => True) j u W' := by
  intro W W' j u hX h
  match j, h with
  | 0, h => exact h
  | 1, h => exact h
  | 2, h => exact h
  | 3, h => exact h
  | 4, h => exact h
  | 5, h => exact h
  | 6, h => exact h
  | 7, h => exact h
  | 8, h => exact h
  | 9, h => exact h
  | 10, h => (obtain ⟨g, h1, h2, h3⟩ := h; exact ⟨g, h1, h2, h3.ext hX⟩)
  | 11, h => exact h
  | 12, h => exact h
  | _ + 13, h => exact h
 have hsz : ∀ d, some d ∈ ([some 94, some 95, some 96, some 97, some 98, some 99, some 100, some 101, some 102, some 103, some 104, some 105, some 106] : List (Option Tmp)) -> d < a.tmps.size := aI (by decide) hsize
 refine aJ 13 [some 94, some 95, some 96, some 97, some 98, some 99, some 100, some 101, some 102, some 103, some 104, some 105, some 106] [[], [], [0, 1], [2], [3], [], [], [5, 6], [7], [8], [4, 9], [10], []] [[], [], [], [], [], [], [], [], [], [], [], [], []] (fun (i : Nat) (v : Value) (W : World) => match i with
  | 0 => v = .int .i64 (kk : Int)
  | 1 => v = .pointer (some ⟨gp, 0, none⟩)
  | 2 => v = .pointer (some ⟨gp, kk * 2, none⟩)
  | 3 => v = .pointer (some ⟨gp, kk * 2, none⟩)
  | 4 => v = .int .i64 (cl)
  | 5 => v = .int .i64 (kk : Int)
  | 6 => v = .pointer (some ⟨gp, 0, none⟩)
  | 7 => v = .pointer (some ⟨gp, kk * 2, none⟩)
  | 8 => v = .pointer (some ⟨gp, kk * 2 + 1, none⟩)
  | 9 => v = .int .i64 (ch)
  | 10 => ∃ g, v = .slice (some ⟨g, 0, none⟩) 2 2 /\ w.heap.size <= g /\ Blk W g 3 #[.int .i64 cl, .int .i64 ch]
  | 11 => v = .int .i64 2
  | 12 => v = .int .i64 (0)
  | _ => True) (fun _ W => Ext w W) (by kernel_rfl) (by kernel_rfl) hsz (fun _ _ _ _ h => h) ((Ext.refl w).drew) ?_ ?_
 .
  clear hend;simp only [ae, Try.f28, ab, Option.bind_some, Nat.reduceBEq, if_true, if_false, Bool.false_eq_true, Option.getD_some];simp only [List.take_succ_cons, List.take_zero];refine ⟨?_, ?_, ?_, ?_, ?_, ?_, ?_, ?_, ?_, ?_, ?_, ?_, ?_, trivial⟩
  .
   intro done us W hJ hdep haft hnot b hb hb' K hK Q';have e15 := (hb' 15 (by simp)).trans s15;clear hb hb';go_simp;exact hK _ _ rfl (fun _ _ _ h => h) hJ
  .
   intro done us W hJ hdep haft hnot b hb hb' K hK Q';have e3 := (hb' 3 (by simp)).trans s3;clear hb hb';go_simp;exact hK _ _ rfl (fun _ _ _ h => h) hJ
  .
   intro done us W hJ hdep haft hnot b hb hb' K hK Q';simp only [List.getD_cons_succ, List.getD_cons_zero, List.mem_cons, List.not_mem_nil, or_false, forall_eq_or_imp, forall_eq] at hdep;have e94 := hb 0 94 rfl;have e95 := hb 1 95 rfl;have d0 := hdep.1;have d1 := hdep.2;rw [d0.1] at e94;rw [d1.1] at e95;clear hb hb' hdep d0 d1;go_simp;exact hK _ _ rfl (fun _ _ _ h => h) hJ
  .
   intro done us W hJ hdep haft hnot b hb hb' K hK Q';simp only [List.getD_cons_succ, List.getD_cons_zero, List.mem_cons, List.not_mem_nil, or_false, forall_eq] at hdep;have e96 := hb 2 96 rfl;have d2 := hdep;rw [d2.1] at e96;clear hb hb' hdep d2;go_simp;exact hK _ _ rfl (fun _ _ _ h => h) hJ
  .
   intro done us W hJ hdep haft hnot b hb hb' K hK Q';simp only [List.getD_cons_succ, List.getD_cons_zero, List.mem_cons, List.not_mem_nil, or_false, forall_eq] at hdep;have e97 := hb 3 97 rfl;have d3 := hdep;rw [d3.1] at e97;clear hb hb' hdep d3;have q := Ext.cell hJ c0;go_simp;exact hK _ _ rfl (fun _ _ _ h => h) hJ
  .
   intro done us W hJ hdep haft hnot b hb hb' K hK Q';have e15 := (hb' 15 (by simp)).trans s15;clear hb hb';go_simp;exact hK _ _ rfl (fun _ _ _ h => h) hJ
  .
   intro done us W hJ hdep haft hnot b hb hb' K hK Q';have e3 := (hb' 3 (by simp)).trans s3;clear hb hb';go_simp;exact hK _ _ rfl (fun _ _ _ h => h) hJ
  .
   intro done us W hJ hdep haft hnot b hb hb' K hK Q';simp only [List.getD_cons_succ, List.getD_cons_zero, List.mem_cons, List.not_mem_nil, or_false, forall_eq_or_imp, forall_eq] at hdep;have e99 := hb 5 99 rfl;have e100 := hb 6 100 rfl;have d5 := hdep.1;have d6 := hdep.2;rw [d5.1] at e99;rw [d6.1] at e100;clear hb hb' hdep d5 d6;go_simp;exact hK _ _ rfl (fun _ _ _ h => h) hJ
  .
   intro done us W hJ hdep haft hnot b hb hb' K hK Q';simp only [List.getD_cons_succ, List.getD_cons_zero, List.mem_cons, List.not_mem_nil, or_false, forall_eq] at hdep;have e101 := hb 7 101 rfl;have d7 := hdep;rw [d7.1] at e101;clear hb hb' hdep d7;go_simp;exact hK _ _ rfl (fun _ _ _ h => h) hJ
  .
   intro done us W hJ hdep haft hnot b hb hb' K hK Q';simp only [List.getD_cons_succ, List.getD_cons_zero, List.mem_cons, List.not_mem_nil, or_false, forall_eq] at hdep;have e102 := hb 8 102 rfl;have d8 := hdep;rw [d8.1] at e102;clear hb hb' hdep d8;have q := Ext.cell hJ c1;go_simp;exact hK _ _ rfl (fun _ _ _ h => h) hJ
  .
   intro done us W hJ hdep haft hnot b hb hb' K hK Q';simp only [List.getD_cons_succ, List.getD_cons_zero, List.mem_cons, List.not_mem_nil, or_false, forall_eq_or_imp, forall_eq] at hdep;have e98 := hb 4 98 rfl;have e103 := hb 9 103 rfl;have d4 := hdep.1;have d9 := hdep.2;rw [d4.1] at e98;rw [d9.1] at e103;clear hb hb' hdep d4 d9;go_simp;exact hK _ _ ⟨W.heap.size, rfl, Ext.size hJ, Blk.new W _ _⟩ (fun j u _ h => hmono _ _ j u ((Ext.refl _).alloc _) h) (hJ.alloc _)
  .
   intro done us W hJ hdep haft hnot b hb hb' K hK Q';simp only [List.getD_cons_succ, List.getD_cons_zero, List.mem_cons, List.not_mem_nil, or_false, forall_eq] at hdep;have e104 := hb 10 104 rfl;have d10 := hdep;clear hb hb' hdep ;obtain ⟨g, hg, _⟩ := d10.1;rw [hg] at e104;go_simp;exact hK _ _ rfl (fun _ _ _ h => h) hJ
  .
   intro done us W hJ hdep haft hnot b hb hb' K hK Q';clear hb hb';go_simp;exact hK _ _ rfl (fun _ _ _ h => h) hJ
 .
  intro us W hV hJ;exact hend (us 0) (us 1) (us 2) (us 3) (us 4) (us 5) (us 6) (us 7) (us 8) (us 9) (us 10) (us 11) (us 12) W (hV 0 (by omega)) (hV 1 (by omega)) (hV 2 (by omega)) (hV 3 (by omega)) (hV 4 (by omega)) (hV 5 (by omega)) (hV 6 (by omega)) (hV 7 (by omega)) (hV 8 (by omega)) (hV 9 (by omega)) (hV 10 (by omega)) (hV 11 (by omega)) (hV 12 (by omega)) hJ
theorem py {w : World} {g : Nat} {pl ph qn : Nat -> Int} {k0 : Int} (h : Blk w g 49 #[.int .i64 (pl 0), .int .i64 (ph 0), .int .i64 (pl 1), .int .i64 (ph 1), .int .i64 (pl 2), .int .i64 (ph 2), .int .i64 (qn 0), .int .i64 (qn 1), .int .i64 (qn 2), .int .i64 (qn 3), .int .i64 k0]) {k : Nat} (hk : k < 3) : w.cell? ⟨g, k * 2, none⟩ = some (.int .i64 (pl k)) /\ w.cell? ⟨g, k * 2 + 1, none⟩ = some (.int .i64 (ph k)) := by
 match k, hk with
 | 0, _ => exact ⟨h.cell 0, h.cell 1⟩
 | 1, _ => exact ⟨h.cell 2, h.cell 3⟩
 | 2, _ => exact ⟨h.cell 4, h.cell 5⟩
theorem mA {w : World} {g : Nat} {T : TypeId} {kf : Nat -> Int} (h : Blk w g T #[.int .i64 (kf 0), .int .i64 (kf 1), .int .i64 (kf 2)]) {k : Nat} (hk : k < 3) : w.cell? ⟨g, k, none⟩ = some (.int .i64 (kf k)) := by
 match k, hk with
 | 0, _ => exact h.cell 0
 | 1, _ => exact h.cell 1
 | 2, _ => exact h.cell 2
def bJ (a b : Int) (j : Nat) : Int := if j = 0 then a else b
theorem jG {w : World} {g : Nat} {T : TypeId} {a b : Int} (h : Blk w g T #[.int .i64 a, .int .i64 b]) {k : Nat} (hk : k < 2) : w.cell? ⟨g, k, none⟩ = some (.int .i64 (bJ a b k)) := by
 match k, hk with
 | 0, _ => exact h.cell 0
 | 1, _ => exact h.cell 1
theorem iA {a b lo hi : Int} (ha : lo <= a /\ a <= hi) (hb : lo <= b /\ b <= hi) (j : Nat) : lo <= bJ a b j /\ bJ a b j <= hi := by
 unfold bJ;split
 .
  exact ha
 .
  exact hb
/-- The row of an axis. -/
def dy (cl ch k n r0 r1 : Int) (m : Nat) : Rat := ((bJ cl ch (m / 2) : Int) : Rat) + (k : Rat) * ((bJ r0 r1 (m % 2) : Int) : Rat) / (n : Rat)
theorem od (cl ch k n r0 r1 : Int) {j i : Nat} (_hi : i < 2) : dy cl ch k n r0 r1 (2 * j + i) = ((bJ cl ch j : Int) : Rat) + (k : Rat) * ((bJ r0 r1 i : Int) : Rat) / (n : Rat) := by
 unfold dy;rw [show (2 * j + i) / 2 = j by omega, show (2 * j + i) % 2 = i by omega]
theorem kI (cl ch k n r0 r1 : Int) : [dy cl ch k n r0 r1 0, dy cl ch k n r0 r1 1, dy cl ch k n r0 r1 2, dy cl ch k n r0 r1 3] = bo cl ch k n r0 r1 := rfl
theorem mB {p q : Nat -> Int} (hp : bV 1000 p = true) (hq : bV 1000 q = true) : bV 4000000 (ah p q) = true := by
 have hr := cT hp hq;have h1 := cL hp;have h2 := cL hq;have h3 := eP p q;have h4 := Int.mul_le_mul h1 h2 (by omega) (by omega);unfold bV;rw [Bool.and_eq_true];constructor
 .
  rw [au];intro x hx;have a0 := hr 0;have a1 := hr 1;have a2 := hr 2;have a3 := hr 3;simp at hx;omega
 .
  by_cases e : ah p q 0 = 0 /\ ah p q 1 = 0 /\ ah p q 2 = 0 /\ ah p q 3 = 0
  .
   obtain ⟨e0, e1, e2, e3⟩ := e;rw [<- h3] at h4;unfold dA at h4;rw [e0, e1, e2, e3] at h4;omega
  .
   simp only [Bool.or_eq_true, bne_iff_ne, ne_eq];omega
/-- What Locate (reference) returns, all arguments being valid. -/
def mC (lo hi : Nat -> Int) (w : World) (e : Ending) (w' : World) : Prop :=
 ((∀ i, i < 3 -> cF lo hi i = true) /\ (∃ f : Nat -> Int, e = .returned (.tuple #[.agg #[.int .i64 (f 0), .int .i64 (f 1), .int .i64 (f 2), .int .i64 (f 3), .int .i64 (f 4), .int .i64 (f 5)], .int .i64 0])) /\ Ext w w') \/ ((∃ i, i < 3 /\ cF lo hi i = false) /\ (∃ f : Nat -> Int, e = .returned (.tuple #[.agg #[.int .i64 (f 0), .int .i64 (f 1), .int .i64 (f 2), .int .i64 (f 3), .int .i64 (f 4), .int .i64 (f 5)], .int .i64 3])) /\ Ext w w')
theorem oe {lo hi : Nat -> Int} {i : Nat} (_h : lo i <= hi i) : cF lo hi i = true ↔ -268435456 <= lo i /\ hi i <= 268435456 := by
 unfold cF;rw [au];constructor
 .
  intro h2;have a := h2 (lo i) (by simp);have b := h2 (hi i) (by simp);omega
 .
  intro h2 x hx;simp at hx;omega
theorem iB (pl ph qn sq : Nat -> Int) (k0 r0 r1 : Int) (w : World) (hp : df pl ph qn k0) (hr : fI r0 r1 = false) :
  Calls Try.prog 28 #[.agg #[.int .i64 (pl 0), .int .i64 (ph 0), .int .i64 (pl 1), .int .i64 (ph 1), .int .i64 (pl 2), .int .i64 (ph 2), .int .i64 (qn 0), .int .i64 (qn 1), .int .i64 (qn 2), .int .i64 (qn 3), .int .i64 k0], .agg #[.int .i64 (sq 0), .int .i64 (sq 1), .int .i64 (sq 2), .int .i64 (sq 3)], .agg #[.int .i64 r0, .int .i64 r1]] w (fun e w' => ∃ f : Nat -> Int, e = .returned (.tuple #[.agg #[.int .i64 (f 0), .int .i64 (f 1), .int .i64 (f 2), .int .i64 (f 3), .int .i64 (f 4), .int .i64 (f 5)], .int .i64 2]) /\ Ext w w') := by
 have HP := hid hp;have HR := hid hr;clear hr hp;obtain ⟨hXe, KP, KQ, KS, KR⟩ := xB4 w 49 #[.int .i64 (pl 0), .int .i64 (ph 0), .int .i64 (pl 1), .int .i64 (ph 1), .int .i64 (pl 2), .int .i64 (ph 2), .int .i64 (qn 0), .int .i64 (qn 1), .int .i64 (qn 2), .int .i64 (qn 3), .int .i64 (k0)] 23 #[.int .i64 (sq 0), .int .i64 (sq 1), .int .i64 (sq 2), .int .i64 (sq 3)] 31 #[.int .i64 (r0), .int .i64 (r1)] 54 #[.int .i64 (0), .int .i64 (0), .int .i64 (0), .int .i64 (0), .int .i64 (0), .int .i64 (0)]
 go_enter Try.func28, Try.ntmps28
 go_upto_region 1 with (fail)
 generalize ((((w.alloc _).alloc _).alloc _).alloc _) = w1 at hXe KP KQ KS KR |-;have HX := hid hXe;clear hXe;obtain ⟨p0, p1, p2, p3, p4, p5, p6, p7, p8, p9, p10⟩ := KP.out.c11
 go_wp2_with fail
 clear p0 p1 p2 p3 p4 p5 p6 p7 p8 p9 p10
 go_loopg [25] 3 (fun fu iv W => ∃ k : Nat, fu = 3 - k /\ k <= 3 /\ iv = .int .i64 (k : Int) /\ Hid (Blk W w.heap.size 49 #[.int .i64 (pl 0), .int .i64 (ph 0), .int .i64 (pl 1), .int .i64 (ph 1), .int .i64 (pl 2), .int .i64 (ph 2), .int .i64 (qn 0), .int .i64 (qn 1), .int .i64 (qn 2), .int .i64 (qn 3), .int .i64 k0]) /\ Hid (Blk W (w.heap.size + 1) 23 #[.int .i64 (sq 0), .int .i64 (sq 1), .int .i64 (sq 2), .int .i64 (sq 3)]) /\ Hid (Blk W (w.heap.size + 2) 31 #[.int .i64 r0, .int .i64 r1]) /\ Hid (Blk W (w.heap.size + 3) 54 #[.int .i64 (0), .int .i64 (0), .int .i64 (0), .int .i64 (0), .int .i64 (0), .int .i64 (0)]) /\ Hid (Ext w W))
 case atStart => exact ⟨0, rfl, by omega, rfl, KP, KQ, KS, KR, HX⟩
 case round =>
  clear HX KP KQ KS KR;obtain ⟨k, rfl, hk, rfl, KP, KQ, KS, KR, HX⟩ := hrel
  by_cases hlt : k < 3
  .
   have q1 := xD (k < 3) hlt;have q1b := xD ((k : Int) < (3 : Int)) (by omega);have ix := dt pl ph hlt;obtain ⟨b1, b2, b3⟩ := HP.out.pos k hlt;obtain ⟨lo, hlo⟩ : ∃ x, pl k = x := ⟨_, rfl⟩;obtain ⟨hi, hhi⟩ : ∃ x, ph k = x := ⟨_, rfl⟩;rw [hlo, hhi] at ix;rw [hlo] at b1 b2;rw [hhi] at b2 b3;clear hlo hhi;have g1 := xF (hi < lo) (by omega);have g2 := xF (lo < -268435456) (by omega);have g3 := xF (268435456 < hi) (by omega);clear b1 b2 b3
   go_upto_region 4 with (fail)
   obtain ⟨hXa, KM⟩ := xB1 wr 31 #[.int .i64 lo, .int .i64 hi];replace HX := xT HX hXa;replace KP := xE KP hXa;replace KQ := xE KQ hXa;replace KS := xE KS hXa;replace KR := xE KR hXa;clear hXa;generalize wr.heap.size = gm at KM |-;generalize wr.alloc _ = w2 at KM HX KP KQ KS KR |-;clear ix;obtain ⟨m0, m1⟩ := KM.out.c2;go_wp2;go_roundg (3 - (k + 1))
   case rel => exact ⟨k + 1, rfl, by omega, by go_num, KP, KQ, KS, KR, HX⟩
   case measure => omega
  obtain rfl : k = 3 := by omega
  have h4 : decide ((3 : Int) < (3 : Int)) = false := by decide
  have hkk := HP.out.k;obtain ⟨p0, p1, p2, p3, p4, p5, p6, p7, p8, p9, p10⟩ := KP.out.c11
  go_wp2_with fail
  refine (aq 0 k0 2147483648 _).mono ?_;rw [ag.2 hkk];rintro e w2 ⟨rfl, hX⟩;replace HX := xT HX hX;replace KP := xE KP hX;replace KQ := xE KQ hX;replace KS := xE KS hX;replace KR := xE KR hX;clear hX p0 p1 p2 p3 p4 p5 p6 p7 p8 p9 p10
  by_cases h1 : r1 < r0
  .
   have y1 := xD (r1 < r0) h1;obtain ⟨s0, s1⟩ := KS.out.c2;obtain ⟨r0, r1, r2, r3, r4, r5⟩ := KR.out.c6;have rf0 := KR.out.free 0;have rf1 := KR.out.free 1;have rf2 := KR.out.free 2;have rf3 := KR.out.free 3;have rf4 := KR.out.free 4;have rf5 := KR.out.free 5;go_wp2;refine bodyPost_ret (v := .tuple #[.agg #[.int .i64 (0), .int .i64 (0), .int .i64 (0), .int .i64 (0), .int .i64 (0), .int .i64 (0)], .int .i64 2]) (by simp [results, Try.results28, go_sem, *]) rfl ?_;exact ⟨fun _ => 0, rfl, (Ext.setCell (Ext.setCell (Ext.setCell (Ext.setCell (Ext.setCell (Ext.setCell HX.out (by simp only; omega) _) (by simp only; omega) _) (by simp only; omega) _) (by simp only; omega) _) (by simp only; omega) _) (by simp only; omega) _)⟩
  .
   have y1 := xF (r1 < r0) h1
   by_cases h2 : r0 < 0
   .
    have y2 := xD (r0 < 0) h2;obtain ⟨s0, s1⟩ := KS.out.c2;obtain ⟨r0, r1, r2, r3, r4, r5⟩ := KR.out.c6;have rf0 := KR.out.free 0;have rf1 := KR.out.free 1;have rf2 := KR.out.free 2;have rf3 := KR.out.free 3;have rf4 := KR.out.free 4;have rf5 := KR.out.free 5;go_wp2;refine bodyPost_ret (v := .tuple #[.agg #[.int .i64 (0), .int .i64 (0), .int .i64 (0), .int .i64 (0), .int .i64 (0), .int .i64 (0)], .int .i64 2]) (by simp [results, Try.results28, go_sem, *]) rfl ?_;exact ⟨fun _ => 0, rfl, (Ext.setCell (Ext.setCell (Ext.setCell (Ext.setCell (Ext.setCell (Ext.setCell HX.out (by simp only; omega) _) (by simp only; omega) _) (by simp only; omega) _) (by simp only; omega) _) (by simp only; omega) _) (by simp only; omega) _)⟩
   .
    have y2 := xF (r0 < 0) h2
    have h3 : 4194304 < r1 := by
     rcases Int.lt_or_le 4194304 r1 with h3 | h3
     .
      exact h3
     .
      have := dv.2 ⟨(show 0 <= r0 by omega), (show r0 <= r1 by omega), h3⟩;rw [HR.out] at this
      cases this
    have y3 := xD (4194304 < r1) h3;obtain ⟨s0, s1⟩ := KS.out.c2;obtain ⟨r0, r1, r2, r3, r4, r5⟩ := KR.out.c6;have rf0 := KR.out.free 0;have rf1 := KR.out.free 1;have rf2 := KR.out.free 2;have rf3 := KR.out.free 3;have rf4 := KR.out.free 4;have rf5 := KR.out.free 5;go_wp2;refine bodyPost_ret (v := .tuple #[.agg #[.int .i64 (0), .int .i64 (0), .int .i64 (0), .int .i64 (0), .int .i64 (0), .int .i64 (0)], .int .i64 2]) (by simp [results, Try.results28, go_sem, *]) rfl ?_;exact ⟨fun _ => 0, rfl, (Ext.setCell (Ext.setCell (Ext.setCell (Ext.setCell (Ext.setCell (Ext.setCell HX.out (by simp only; omega) _) (by simp only; omega) _) (by simp only; omega) _) (by simp only; omega) _) (by simp only; omega) _) (by simp only; omega) _)⟩
theorem gv (pl ph qn sq : Nat -> Int) (k0 r0 r1 : Int) (w : World) (hp : df pl ph qn k0) (hr : fI r0 r1 = true) (ht : bV 1000 sq = false) :
  Calls Try.prog 28 #[.agg #[.int .i64 (pl 0), .int .i64 (ph 0), .int .i64 (pl 1), .int .i64 (ph 1), .int .i64 (pl 2), .int .i64 (ph 2), .int .i64 (qn 0), .int .i64 (qn 1), .int .i64 (qn 2), .int .i64 (qn 3), .int .i64 k0], .agg #[.int .i64 (sq 0), .int .i64 (sq 1), .int .i64 (sq 2), .int .i64 (sq 3)], .agg #[.int .i64 r0, .int .i64 r1]] w (fun e w' => ∃ f : Nat -> Int, e = .returned (.tuple #[.agg #[.int .i64 (f 0), .int .i64 (f 1), .int .i64 (f 2), .int .i64 (f 3), .int .i64 (f 4), .int .i64 (f 5)], .int .i64 46]) /\ Ext w w') := by
 have HP := hid hp;have HR := hid hr;have HT := hid ht;clear hr ht hp;obtain ⟨hXe, KP, KQ, KS, KR⟩ := xB4 w 49 #[.int .i64 (pl 0), .int .i64 (ph 0), .int .i64 (pl 1), .int .i64 (ph 1), .int .i64 (pl 2), .int .i64 (ph 2), .int .i64 (qn 0), .int .i64 (qn 1), .int .i64 (qn 2), .int .i64 (qn 3), .int .i64 (k0)] 23 #[.int .i64 (sq 0), .int .i64 (sq 1), .int .i64 (sq 2), .int .i64 (sq 3)] 31 #[.int .i64 (r0), .int .i64 (r1)] 54 #[.int .i64 (0), .int .i64 (0), .int .i64 (0), .int .i64 (0), .int .i64 (0), .int .i64 (0)]
 go_enter Try.func28, Try.ntmps28
 go_upto_region 1 with (fail)
 generalize ((((w.alloc _).alloc _).alloc _).alloc _) = w1 at hXe KP KQ KS KR |-;have HX := hid hXe;clear hXe;obtain ⟨p0, p1, p2, p3, p4, p5, p6, p7, p8, p9, p10⟩ := KP.out.c11
 go_wp2_with fail
 clear p0 p1 p2 p3 p4 p5 p6 p7 p8 p9 p10
 go_loopg [25] 3 (fun fu iv W => ∃ k : Nat, fu = 3 - k /\ k <= 3 /\ iv = .int .i64 (k : Int) /\ Hid (Blk W w.heap.size 49 #[.int .i64 (pl 0), .int .i64 (ph 0), .int .i64 (pl 1), .int .i64 (ph 1), .int .i64 (pl 2), .int .i64 (ph 2), .int .i64 (qn 0), .int .i64 (qn 1), .int .i64 (qn 2), .int .i64 (qn 3), .int .i64 k0]) /\ Hid (Blk W (w.heap.size + 1) 23 #[.int .i64 (sq 0), .int .i64 (sq 1), .int .i64 (sq 2), .int .i64 (sq 3)]) /\ Hid (Blk W (w.heap.size + 2) 31 #[.int .i64 r0, .int .i64 r1]) /\ Hid (Blk W (w.heap.size + 3) 54 #[.int .i64 (0), .int .i64 (0), .int .i64 (0), .int .i64 (0), .int .i64 (0), .int .i64 (0)]) /\ Hid (Ext w W))
 case atStart => exact ⟨0, rfl, by omega, rfl, KP, KQ, KS, KR, HX⟩
 case round =>
  clear HX KP KQ KS KR;obtain ⟨k, rfl, hk, rfl, KP, KQ, KS, KR, HX⟩ := hrel
  by_cases hlt : k < 3
  .
   have q1 := xD (k < 3) hlt;have q1b := xD ((k : Int) < (3 : Int)) (by omega);have ix := dt pl ph hlt;obtain ⟨b1, b2, b3⟩ := HP.out.pos k hlt;obtain ⟨lo, hlo⟩ : ∃ x, pl k = x := ⟨_, rfl⟩;obtain ⟨hi, hhi⟩ : ∃ x, ph k = x := ⟨_, rfl⟩;rw [hlo, hhi] at ix;rw [hlo] at b1 b2;rw [hhi] at b2 b3;clear hlo hhi;have g1 := xF (hi < lo) (by omega);have g2 := xF (lo < -268435456) (by omega);have g3 := xF (268435456 < hi) (by omega);clear b1 b2 b3
   go_upto_region 4 with (fail)
   obtain ⟨hXa, KM⟩ := xB1 wr 31 #[.int .i64 lo, .int .i64 hi];replace HX := xT HX hXa;replace KP := xE KP hXa;replace KQ := xE KQ hXa;replace KS := xE KS hXa;replace KR := xE KR hXa;clear hXa;generalize wr.heap.size = gm at KM |-;generalize wr.alloc _ = w2 at KM HX KP KQ KS KR |-;clear ix;obtain ⟨m0, m1⟩ := KM.out.c2;go_wp2;go_roundg (3 - (k + 1))
   case rel => exact ⟨k + 1, rfl, by omega, by go_num, KP, KQ, KS, KR, HX⟩
   case measure => omega
  obtain rfl : k = 3 := by omega
  have h4 : decide ((3 : Int) < (3 : Int)) = false := by decide
  have hkk := HP.out.k;obtain ⟨p0, p1, p2, p3, p4, p5, p6, p7, p8, p9, p10⟩ := KP.out.c11
  go_wp2_with fail
  refine (aq 0 k0 2147483648 _).mono ?_;rw [ag.2 hkk];rintro e w2 ⟨rfl, hX⟩;replace HX := xT HX hX;replace KP := xE KP hX;replace KQ := xE KQ hX;replace KS := xE KS hX;replace KR := xE KR hX;clear hX p0 p1 p2 p3 p4 p5 p6 p7 p8 p9 p10;obtain ⟨hr0, hr1, hr2⟩ := dv.1 HR.out;have y1 := xF (r1 < r0) (by omega);have y2 := xF (r0 < 0) (by omega);have y3 := xF (4194304 < r1) (by omega);obtain ⟨p0, p1, p2, p3, p4, p5, p6, p7, p8, p9, p10⟩ := KP.out.c11;obtain ⟨s0, s1⟩ := KS.out.c2
  go_wp2_with fail
  refine (bM 1000 qn _ (by omega)).mono ?_;rw [HP.out.q];rintro e w3 ⟨rfl, hX⟩;replace HX := xT HX hX;replace KP := xE KP hX;replace KQ := xE KQ hX;replace KS := xE KS hX;replace KR := xE KR hX;clear hX p0 p1 p2 p3 p4 p5 p6 p7 p8 p9 p10 s0 s1;obtain ⟨q0, q1, q2, q3⟩ := KQ.out.c4
  go_wp2_with fail
  refine (bM 1000 sq _ (by omega)).mono ?_;rw [HT.out];rintro e w4 ⟨rfl, hX⟩;replace HX := xT HX hX;replace KP := xE KP hX;replace KQ := xE KQ hX;replace KS := xE KS hX;replace KR := xE KR hX;clear hX y1 y2 y3 q0 q1 q2 q3;obtain ⟨r0, r1, r2, r3, r4, r5⟩ := KR.out.c6;have rf0 := KR.out.free 0;have rf1 := KR.out.free 1;have rf2 := KR.out.free 2;have rf3 := KR.out.free 3;have rf4 := KR.out.free 4;have rf5 := KR.out.free 5;go_wp2;refine bodyPost_ret (v := .tuple #[.agg #[.int .i64 (0), .int .i64 (0), .int .i64 (0), .int .i64 (0), .int .i64 (0), .int .i64 (0)], .int .i64 46]) (by simp [results, Try.results28, go_sem, *]) rfl ?_;exact ⟨fun _ => 0, rfl, (Ext.setCell (Ext.setCell (Ext.setCell (Ext.setCell (Ext.setCell (Ext.setCell HX.out (by simp only; omega) _) (by simp only; omega) _) (by simp only; omega) _) (by simp only; omega) _) (by simp only; omega) _) (by simp only; omega) _)⟩
end Go.Proofs.Ytikhlcgnlbinfaa
