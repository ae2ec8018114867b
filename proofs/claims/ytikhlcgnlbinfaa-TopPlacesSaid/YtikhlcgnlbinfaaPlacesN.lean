/- Lemmas of the proof that follows (Places, part 14): walks of functions by contract, and plain lemmas. Conditions: none. -/
import Derived.Test.YtikhlcgnlbinfaaPlacesM
set_option maxRecDepth 100000
set_option maxHeartbeats 8000000
namespace Go.Proofs.Ytikhlcgnlbinfaa
open Lib (hid)
open Go.RowKit
/-- Four integers in a block. -/
def T4 (w : World) (g : Nat) (f : Nat -> Int) : Prop := Blk w g 23 #[.int .i64 (f 0), .int .i64 (f 1), .int .i64 (f 2), .int .i64 (f 3)]
theorem T4.ext {w w' : World} {g : Nat} {f : Nat -> Int} (h : T4 w g f) (he : Ext w w') : T4 w' g f := Blk.ext h he
theorem T4.far {w : World} {g : Nat} {f : Nat -> Int} (h : T4 w g f) {q : Addr} (hq : g ≠ q.block) (u : Value) : T4 (w.setCell q u) g f := Blk.far h hq u
theorem T4.cell {w : World} {g : Nat} {f : Nat -> Int} (h : T4 w g f) {k : Nat} (hk : k < 4) : w.cell? ⟨g, k, none⟩ = some (.int .i64 (f k)) := by
 rw [Blk.cell h]
 match k, hk with
 | 0, _ => rfl
 | 1, _ => rfl
 | 2, _ => rfl
 | 3, _ => rfl
theorem T4.free {w : World} {g : Nat} {f : Nat -> Int} (h : T4 w g f) (k : Nat) : w.frozen? ⟨g, k, none⟩ = false := Blk.free h k
theorem T4.put {w : World} {g : Nat} {f : Nat -> Int} (h : T4 w g f) {k : Nat} (hk : k < 4) (x : Int) : T4 (w.setCell ⟨g, k, none⟩ (.int .i64 x)) g (fun j => if j = k then x else f j) := by
 unfold T4 at h |-
 match k, hk with
 | 0, _ => exact h.set 0 _
 | 1, _ => exact h.set 1 _
 | 2, _ => exact h.set 2 _
 | 3, _ => exact h.set 3 _
/-- Which unit a product of units is, and with which sign. -/
def dB : Nat -> Nat -> Nat
 | 0, k => k
 | 1, 0 => 1 | 1, 1 => 0 | 1, 2 => 3 | 1, _ => 2
 | 2, 0 => 2 | 2, 1 => 3 | 2, 2 => 0 | 2, _ => 1
 | _, 0 => 3 | _, 1 => 2 | _, 2 => 1 | _, _ => 0
def dM : Nat -> Nat -> Int
 | 0, _ => 1
 | 1, 0 => 1 | 1, 1 => -1 | 1, 2 => 1 | 1, _ => -1
 | 2, 0 => 1 | 2, 1 => -1 | 2, 2 => -1 | 2, _ => 1
 | _, 0 => 1 | _, 1 => 1 | _, 2 => -1 | _, _ => -1
def pY : Array Value := #[.int .i64 0, .int .i64 1, .int .i64 2, .int .i64 3, .int .i64 1, .int .i64 0, .int .i64 3, .int .i64 2, .int .i64 2, .int .i64 3, .int .i64 0, .int .i64 1, .int .i64 3, .int .i64 2, .int .i64 1, .int .i64 0]
def pZ : Array Value := #[.int .i64 1, .int .i64 1, .int .i64 1, .int .i64 1, .int .i64 1, .int .i64 (-1), .int .i64 1, .int .i64 (-1), .int .i64 1, .int .i64 (-1), .int .i64 (-1), .int .i64 1, .int .i64 1, .int .i64 1, .int .i64 (-1), .int .i64 (-1)]
theorem fJ (k : Nat) (_h : k < 4) : k = 0 \/ k = 1 \/ k = 2 \/ k = 3 := by omega
theorem jA {i k : Nat} (hi : i < 4) (hk : k < 4) : pY[i * 4 + k]? = some (.int .i64 ((dB i k : Nat) : Int)) /\ dB i k < 4 /\ pZ[i * 4 + k]? = some (.int .i64 (dM i k)) /\ (dM i k = 1 \/ dM i k = -1) := by
 rcases fJ i hi with rfl | rfl | rfl | rfl <;> rcases fJ k hk with rfl | rfl | rfl | rfl <;> refine ⟨rfl, by decide, rfl, by decide⟩
/-- The sums behind k columns of row i. -/
def bK (a b : Nat -> Int) (i : Nat) (f : Nat -> Int) : Nat -> Nat -> Int
 | 0 => f
 | k + 1 => fun m => if m = dB i k then bK a b i f k (dB i k) + dM i k * a i * b k else bK a b i f k m
def bg (a b : Nat -> Int) : Nat -> Nat -> Int
 | 0 => fun _ => 0
 | i + 1 => bK a b i (bg a b i) 4
theorem mq (a b : Nat -> Int) : bg a b 4 0 = ah a b 0 /\ bg a b 4 1 = ah a b 1 /\ bg a b 4 2 = ah a b 2 /\ bg a b 4 3 = ah a b 3 := by
 refine ⟨?_, ?_, ?_, ?_⟩
 .
  simp [bg, bK, dB, dM, ah]; grind
 .
  simp [bg, bK, dB, dM, ah]; grind
 .
  simp [bg, bK, dB, dM, ah]; grind
 .
  simp [bg, bK, dB, dM, ah]; grind
theorem oP {a b : Nat -> Int} (ha : ∀ i, i < 4 -> -4000000 <= a i /\ a i <= 4000000) (hb : ∀ i, i < 4 -> -4000000 <= b i /\ b i <= 4000000) {i k : Nat} (hi : i < 4) (hk : k < 4) :
  (-4000000 <= dM i k * a i /\ dM i k * a i <= 4000000) /\ -16000000000000 <= dM i k * a i * b k /\ dM i k * a i * b k <= 16000000000000 := by
 have h := ha i hi
 have h1 : -4000000 <= dM i k * a i /\ dM i k * a i <= 4000000 := by
  rcases (jA hi hk).2.2.2 with e | e <;> rw [e] <;> omega
 have := bn (A := 4000000) (B := 4000000) h1.1 h1.2 (hb k hk).1 (hb k hk).2;exact ⟨h1, by omega, by omega⟩
theorem dg {a b : Nat -> Int} (ha : ∀ i, i < 4 -> -4000000 <= a i /\ a i <= 4000000) (hb : ∀ i, i < 4 -> -4000000 <= b i /\ b i <= 4000000) {i : Nat} (hi : i < 4) {f : Nat -> Int} {B : Int} (hf : ∀ m, -B <= f m /\ f m <= B) :
  ∀ k, k <= 4 -> ∀ m, -(B + k * 16000000000000) <= bK a b i f k m /\ bK a b i f k m <= B + k * 16000000000000
 | 0, _, m => by have := hf m; simp only [bK]; omega
 | k + 1, hk, m => by
  have h1 := dg ha hb hi hf k (by omega);have h2 := oP ha hb hi (show k < 4 by omega);have h3 := h1 m;have h4 := h1 (dB i k);simp only [bK];split <;> omega
theorem eQ {a b : Nat -> Int} (ha : ∀ i, i < 4 -> -4000000 <= a i /\ a i <= 4000000) (hb : ∀ i, i < 4 -> -4000000 <= b i /\ b i <= 4000000) : ∀ i : Nat, i <= 4 -> ∀ m : Nat, -((i : Int) * 64000000000000) <= bg a b i m /\ bg a b i m <= (i : Int) * 64000000000000
 | 0, _, m => by simp [bg]
 | i + 1, hi, m => by
  have h1 := dg ha hb (show i < 4 by omega) (f := bg a b i) (B := (i : Int) * 64000000000000) (eQ ha hb i (by omega)) 4 (by omega) m;show _ <= bK a b i (bg a b i) 4 m /\ bK a b i (bg a b i) 4 m <= _;omega
theorem kz (t : Nat -> Int) (w : World) (ht : bV 4000000 t = true) :
  Calls Try.prog 85 #[.agg #[.int .i64 (t 0), .int .i64 (t 1), .int .i64 (t 2), .int .i64 (t 3)]] w (fun e w' => e = .returned (.tuple #[.agg #[.int .i64 (dL t 0), .int .i64 (dL t 1), .int .i64 (dL t 2)], .int .i64 (dA t), .int .i64 0]) /\ Ext w w') := by
 have hr := aA ht;have hbm := fun w => jx (t 0) (t 1) (t 2) (t 3) w (hr 0 (by omega)) (hr 1 (by omega)) (hr 2 (by omega)) (hr 3 (by omega))
 have hbm2 : ∀ w, Calls Try.prog 104 #[.agg #[.int .i64 (t 0), .int .i64 (t 1), .int .i64 (t 2), .int .i64 (t 3)]] w (fun e w' => e = .returned (.tuple #[.agg #[.int .i64 (dL t 0), .int .i64 (dL t 1), .int .i64 (dL t 2)], .int .i64 (dA t)]) /\ Ext w w') := hbm
 have g6 : ∀ w, (Op.equalIn 10000 23 (.agg #[.int .i64 (t 0), .int .i64 (t 1), .int .i64 (t 2), .int .i64 (t 3)]) (.agg #[.int .i64 0, .int .i64 0, .int .i64 0, .int .i64 0])).run Try.prog w = .ok false w := fun w => by
  rw [jt 9998]
  congr 1
  refine decide_eq_false (fun h => ?_);have := cL ht;unfold dA at this;rw [h.1, h.2.1, h.2.2.1, h.2.2.2] at this;omega
 have hin : ar (-4000000) 4000000 [t 0, t 1, t 2, t 3] = true := by
  unfold bV at ht;rw [Bool.and_eq_true] at ht;exact ht.1
 have HIN := hid hin;have HBM := hid hbm2;have HR := hid hr;obtain ⟨k, hk⟩ : ∃ k, dL t = k := ⟨_, rfl⟩;obtain ⟨n, hn⟩ : ∃ n, dA t = n := ⟨_, rfl⟩;rw [hk, hn] at HBM |-;clear hin hbm hbm2 hr ht hk hn;obtain ⟨hXe, KA, KR⟩ := xB2 w 23 #[.int .i64 (t 0), .int .i64 (t 1), .int .i64 (t 2), .int .i64 (t 3)] 22 #[.int .i64 (0), .int .i64 (0), .int .i64 (0)];go_enter Try.func85, Try.ntmps85
 go_upto_region 1 with (fail)
 generalize ((w.alloc _).alloc _) = w1 at hXe KA KR |-;have HX := hid hXe;clear hXe;obtain ⟨a0, a1, a2, a3⟩ := KA.out.c4
 go_wp2_with fail
 refine (af (-4000000) 4000000 _ 4 4 [t 0, t 1, t 2, t 3] _ (fD KA.out (fun k hk => by have := HR.out k hk; omega)) (by omega)).mono ?_;rw [HIN.out];rintro e w2 ⟨rfl, hX⟩;replace HX := xT HX hX;replace KA := xE KA hX;replace KR := xE KR hX;clear hX a0 a1 a2 a3 g6;obtain ⟨a0, a1, a2, a3⟩ := KA.out.c4
 go_wp2_with fail
 refine (HBM.out _).mono ?_;rintro e w3 ⟨rfl, hX⟩;replace HX := xT HX hX;replace KR := xE KR hX;clear hX a0 a1 a2 a3 KA HBM
 go_upto_region 4 with (fail)
 obtain ⟨hXa, KM⟩ := xB1 w3 22 #[.int .i64 (k 0), .int .i64 (k 1), .int .i64 (k 2)];replace HX := xT HX hXa;replace KR := xE KR hXa;clear hXa;generalize w3.heap.size = gm at KM |-;generalize w3.alloc _ = w4 at KM HX KR |-;obtain ⟨m0, m1, m2⟩ := KM.out.c3;obtain ⟨r0, r1, r2⟩ := KR.out.c3;have rf0 := KR.out.free 0;have rf1 := KR.out.free 1;have rf2 := KR.out.free 2;go_wp2;refine bodyPost_ret (v := .tuple #[.agg #[.int .i64 (k 0), .int .i64 (k 1), .int .i64 (k 2)], .int .i64 n, .int .i64 0]) (by simp [results, Try.results85, go_sem, *]) rfl ?_;exact ⟨rfl, (Ext.setCell (Ext.setCell (Ext.setCell HX.out (by simp only; omega) _) (by simp only; omega) _) (by simp only; omega) _)⟩
theorem nP (ga gb gu gs gz ii kk uu : Nat) (zv sv av bv x1 x2 x3 : Int) (w : World) (_hi : (ii : Int) < 4) (_hk : (kk : Int) < 4) (_hu : (uu : Int) < 4) (_h1 : IntKind.i64.wrap (sv * av) = x1) (_h2 : IntKind.i64.wrap (x1 * bv) = x2) (_h3 : IntKind.i64.wrap (zv + x2) = x3) (c0 : w.cell? ⟨gu, ii * 4 + kk, none⟩ = some (.int .i64 (uu : Int))) (c1 : w.cell? ⟨gz, uu, none⟩ = some (.int .i64 zv)) (c2 : w.cell? ⟨gs, ii * 4 + kk, none⟩ = some (.int .i64 sv)) (c3 : w.cell? ⟨ga, ii, none⟩ = some (.int .i64 av)) (c4 : w.cell? ⟨gb, kk, none⟩ = some (.int .i64 bv)) : aS Try.prog Try.f109 10 22 48 w [26, 27, 28, 29, 30, 31, 32, 33, 34, 35, 36, 37, 38, 39, 40, 41, 42, 43, 44, 45, 46, 47] [.c (.int .i64 (ii : Int)), .c (.int .i64 (kk : Int)), .c (.pointer (some ⟨gu, ii * 4, none⟩)), .c (.pointer (some ⟨gu, ii * 4 + kk, none⟩)), .c (.int .i64 (uu : Int)), .c (.pointer (some ⟨gz, uu, none⟩)), .c (.int .i64 (zv)), .c (.int .i64 (ii : Int)), .c (.int .i64 (kk : Int)), .c (.pointer (some ⟨gs, ii * 4, none⟩)), .c (.pointer (some ⟨gs, ii * 4 + kk, none⟩)), .c (.int .i64 (sv)), .c (.int .i64 (ii : Int)), .c (.pointer (some ⟨ga, ii, none⟩)), .c (.int .i64 (av)), .c (.int .i64 (x1)), .c (.int .i64 (kk : Int)), .c (.pointer (some ⟨gb, kk, none⟩)), .c (.int .i64 (bv)), .c (.int .i64 (x2)), .c (.int .i64 (x3)), .c (.pointer (some ⟨gz, uu, none⟩))] [(2, .pointer (some ⟨ga, 0, none⟩)), (3, .pointer (some ⟨gb, 0, none⟩)), (5, .pointer (some ⟨gu, 0, none⟩)), (6, .pointer (some ⟨gs, 0, none⟩)), (7, .pointer (some ⟨gz, 0, none⟩)), (8, .int .i64 (ii : Int)), (9, .int .i64 (kk : Int))] := by
 refine aT [[], [], [0], [1, 2], [3], [4], [5], [], [], [7], [8, 9], [10], [], [12], [13], [11, 14], [], [16], [17], [15, 18], [6, 19], [4]] (by kernel_rfl) (by kernel_rfl) rfl trivial ?_;simp only [ae, Try.f109, ab, Option.bind_some, Nat.reduceBEq, if_true, if_false, Bool.false_eq_true, Option.getD_some];simp only [List.take_succ_cons, List.take_zero]
 repeat' first | refine ⟨?_, ?_⟩ | fail
 all_goals first | (intro us W b hJ K hK0 hK Qz; simp only [aO, ay, aB, List.getD_cons_succ, List.getD_cons_zero]) | exact True.intro
 all_goals try (intros; have q0 := Ext.cell hJ c0; have q1 := Ext.cell hJ c1; have q2 := Ext.cell hJ c2; have q3 := Ext.cell hJ c3; have q4 := Ext.cell hJ c4; go_simp; exact hK0 _ rfl)
theorem mr (a b : Nat -> Int) (w : World) (ha : ∀ i, i < 4 -> -4000000 <= a i /\ a i <= 4000000) (hb : ∀ i, i < 4 -> -4000000 <= b i /\ b i <= 4000000) :
  Calls Try.prog 109 #[.agg #[.int .i64 (a 0), .int .i64 (a 1), .int .i64 (a 2), .int .i64 (a 3)], .agg #[.int .i64 (b 0), .int .i64 (b 1), .int .i64 (b 2), .int .i64 (b 3)]] w (fun e w' => ∃ f : Nat -> Int, f = bg a b 4 /\ e = .returned (.agg #[.int .i64 (f 0), .int .i64 (f 1), .int .i64 (f 2), .int .i64 (f 3)]) /\ Ext w w') := by
 have HA := hid ha;have HB := hid hb;clear ha hb;have hXe : Ext w (((w.alloc (.cells #[.int .i64 (a 0), .int .i64 (a 1), .int .i64 (a 2), .int .i64 (a 3)] 23)).alloc (.cells #[.int .i64 (b 0), .int .i64 (b 1), .int .i64 (b 2), .int .i64 (b 3)] 23)).alloc (.cells #[.int .i64 (0), .int .i64 (0), .int .i64 (0), .int .i64 (0)] 23)) := ((((Ext.refl w).alloc _).alloc _).alloc _);have kA : Blk (((w.alloc (.cells #[.int .i64 (a 0), .int .i64 (a 1), .int .i64 (a 2), .int .i64 (a 3)] 23)).alloc (.cells #[.int .i64 (b 0), .int .i64 (b 1), .int .i64 (b 2), .int .i64 (b 3)] 23)).alloc (.cells #[.int .i64 (0), .int .i64 (0), .int .i64 (0), .int .i64 (0)] 23)) w.heap.size 23 #[.int .i64 (a 0), .int .i64 (a 1), .int .i64 (a 2), .int .i64 (a 3)] := Blk.alloc (Blk.alloc (Blk.at_ (by simp)) _) _;have kB : Blk (((w.alloc (.cells #[.int .i64 (a 0), .int .i64 (a 1), .int .i64 (a 2), .int .i64 (a 3)] 23)).alloc (.cells #[.int .i64 (b 0), .int .i64 (b 1), .int .i64 (b 2), .int .i64 (b 3)] 23)).alloc (.cells #[.int .i64 (0), .int .i64 (0), .int .i64 (0), .int .i64 (0)] 23)) (w.heap.size + 1) 23 #[.int .i64 (b 0), .int .i64 (b 1), .int .i64 (b 2), .int .i64 (b 3)] := Blk.alloc (Blk.at_ (by simp)) _;have kR : Blk (((w.alloc (.cells #[.int .i64 (a 0), .int .i64 (a 1), .int .i64 (a 2), .int .i64 (a 3)] 23)).alloc (.cells #[.int .i64 (b 0), .int .i64 (b 1), .int .i64 (b 2), .int .i64 (b 3)] 23)).alloc (.cells #[.int .i64 (0), .int .i64 (0), .int .i64 (0), .int .i64 (0)] 23)) (w.heap.size + 2) 23 #[.int .i64 (0), .int .i64 (0), .int .i64 (0), .int .i64 (0)] := Blk.at_ (by simp);go_enter Try.func109, Try.ntmps109
 go_upto_region 1 with (fail)
 generalize (((w.alloc _).alloc _).alloc _) = w1 at hXe kA kB kR |-;have HX := hid hXe;clear hXe;have KA := hid kA;clear kA;have KB := hid kB;clear kB;have KR := hid kR;clear kR
 go_upto_region 2 with (fail)
 have hXa : Ext w1 (w1.alloc (.cells #[.int .i64 (0), .int .i64 (1), .int .i64 (2), .int .i64 (3), .int .i64 (1), .int .i64 (0), .int .i64 (3), .int .i64 (2), .int .i64 (2), .int .i64 (3), .int .i64 (0), .int .i64 (1), .int .i64 (3), .int .i64 (2), .int .i64 (1), .int .i64 (0)] 254)) := (Ext.refl _).alloc _;have kU := Blk.new w1 254 #[.int .i64 (0), .int .i64 (1), .int .i64 (2), .int .i64 (3), .int .i64 (1), .int .i64 (0), .int .i64 (3), .int .i64 (2), .int .i64 (2), .int .i64 (3), .int .i64 (0), .int .i64 (1), .int .i64 (3), .int .i64 (2), .int .i64 (1), .int .i64 (0)];have zA := KA.out.lt;have zB := KB.out.lt;have zR := KR.out.lt;have zg := HX.out.size;replace HX := hid (HX.out.trans hXa);replace KA := hid (KA.out.ext hXa);replace KB := hid (KB.out.ext hXa);replace KR := hid (KR.out.ext hXa);generalize (w1.alloc _) = w2 at HX KA KB KR kU |-;have KU := hid kU;clear kU hXa;obtain ⟨gu, hgu⟩ : ∃ g, w1.heap.size = g := ⟨_, rfl⟩;rw [hgu] at KU |-;have hgu2 : w.heap.size + 2 < gu := by omega
 clear hgu zA zB zR zg
 go_upto_region 3 with (fail)
 have hXa : Ext w2 (w2.alloc (.cells #[.int .i64 (1), .int .i64 (1), .int .i64 (1), .int .i64 (1), .int .i64 (1), .int .i64 (-1), .int .i64 (1), .int .i64 (-1), .int .i64 (1), .int .i64 (-1), .int .i64 (-1), .int .i64 (1), .int .i64 (1), .int .i64 (1), .int .i64 (-1), .int .i64 (-1)] 254)) := (Ext.refl _).alloc _;have kS := Blk.new w2 254 #[.int .i64 (1), .int .i64 (1), .int .i64 (1), .int .i64 (1), .int .i64 (1), .int .i64 (-1), .int .i64 (1), .int .i64 (-1), .int .i64 (1), .int .i64 (-1), .int .i64 (-1), .int .i64 (1), .int .i64 (1), .int .i64 (1), .int .i64 (-1), .int .i64 (-1)];have zA := KA.out.lt;have zB := KB.out.lt;have zR := KR.out.lt;have zU := KU.out.lt;have zg := HX.out.size;replace HX := hid (HX.out.trans hXa);replace KA := hid (KA.out.ext hXa);replace KB := hid (KB.out.ext hXa);replace KR := hid (KR.out.ext hXa);replace KU := hid (KU.out.ext hXa);generalize (w2.alloc _) = w3 at HX KA KB KR KU kS |-;have KS := hid kS;clear kS hXa;obtain ⟨gs, hgs⟩ : ∃ g, w2.heap.size = g := ⟨_, rfl⟩;rw [hgs] at KS |-;have hgs2 : w.heap.size + 2 < gs := by omega
 clear hgs zA zB zR zg zU
 go_upto_region 4 with (fail)
 have hXa : Ext w3 (w3.alloc (.cells #[.int .i64 (0), .int .i64 (0), .int .i64 (0), .int .i64 (0)] 23)) := (Ext.refl _).alloc _;have kZ := Blk.new w3 23 #[.int .i64 (0), .int .i64 (0), .int .i64 (0), .int .i64 (0)];have zA := KA.out.lt;have zB := KB.out.lt;have zR := KR.out.lt;have zU := KU.out.lt;have zS := KS.out.lt;have zg := HX.out.size;replace HX := hid (HX.out.trans hXa);replace KA := hid (KA.out.ext hXa);replace KB := hid (KB.out.ext hXa);replace KR := hid (KR.out.ext hXa);replace KU := hid (KU.out.ext hXa);replace KS := hid (KS.out.ext hXa);generalize (w3.alloc _) = w4 at HX KA KB KR KU KS kZ |-;have KZ := hid kZ;clear kZ hXa;obtain ⟨gz, hgz⟩ : ∃ g, w3.heap.size = g := ⟨_, rfl⟩;rw [hgz] at KZ |-;have hgz2 : w.heap.size + 2 < gz /\ gu ≠ gz /\ gs ≠ gz := by omega
 clear hgz zA zB zR zg zU zS;replace KA : Hid (T4 w4 w.heap.size a) := KA;replace KB : Hid (T4 w4 (w.heap.size + 1) b) := KB;replace KU : Hid (Blk w4 gu 254 pY) := KU;replace KS : Hid (Blk w4 gs 254 pZ) := KS;replace KZ : Hid (T4 w4 gz (bg a b 0)) := KZ
 go_wp2_with fail
 go_loopg [20] 4 (fun fu iv W => ∃ i : Nat, fu = 4 - i /\ i <= 4 /\ iv = .int .i64 (i : Int) /\ Hid (T4 W w.heap.size a) /\ Hid (T4 W (w.heap.size + 1) b) /\ Hid (Blk W (w.heap.size + 2) 23 #[.int .i64 (0), .int .i64 (0), .int .i64 (0), .int .i64 (0)]) /\ Hid (Blk W gu 254 pY) /\ Hid (Blk W gs 254 pZ) /\ Hid (T4 W gz (bg a b i)) /\ Hid (Ext w W))
 case atStart => exact ⟨0, rfl, by omega, rfl, KA, KB, KR, KU, KS, KZ, HX⟩
 case round =>
  clear HX KA KB KR KU KS KZ;obtain ⟨i, rfl, hi, rfl, KA, KB, KR, KU, KS, KZ, HX⟩ := hrel
  by_cases hlt : i < 4
  .
   have q1 : decide (i < 4) = true := decide_eq_true hlt;have q1b : decide ((i : Int) < (4 : Int)) = true := decide_eq_true (by omega)
   go_wp2_with fail
   go_loopg [23] 4 (fun fu jv W => ∃ j : Nat, fu = 4 - j /\ j <= 4 /\ jv = .int .i64 (j : Int) /\ Hid (T4 W w.heap.size a) /\ Hid (T4 W (w.heap.size + 1) b) /\ Hid (Blk W (w.heap.size + 2) 23 #[.int .i64 (0), .int .i64 (0), .int .i64 (0), .int .i64 (0)]) /\ Hid (Blk W gu 254 pY) /\ Hid (Blk W gs 254 pZ) /\ Hid (T4 W gz (bK a b i (bg a b i) j)) /\ Hid (Ext w W))
   case atStart => exact ⟨0, rfl, by omega, rfl, KA, KB, KR, KU, KS, KZ, HX⟩
   case round =>
    clear HX KA KB KR KU KS KZ;obtain ⟨j, rfl, hj, rfl, KA, KB, KR, KU, KS, KZ, HX⟩ := hrel
    by_cases hlt2 : j < 4
    .
     have q2 : decide (j < 4) = true := decide_eq_true hlt2;have q2b : decide ((j : Int) < (4 : Int)) = true := decide_eq_true (by omega);obtain ⟨g1, g2, g3, _⟩ := jA hlt hlt2;obtain ⟨p1, p2⟩ := oP HA.out HB.out hlt hlt2;have p3 := dg HA.out HB.out hlt (eQ HA.out HB.out i (by omega)) j (by omega) (dB i j);have y1 : IntKind.i64.wrap (dM i j * a i) = dM i j * a i := IntWalk.i64_in _ (by omega);have y2 : IntKind.i64.wrap (dM i j * a i * b j) = dM i j * a i * b j := IntWalk.i64_in _ (by omega);have y3 : IntKind.i64.wrap (bK a b i (bg a b i) j (dB i j) + dM i j * a i * b j) = bK a b i (bg a b i) j (dB i j) + dM i j * a i * b j := IntWalk.i64_in _ (by omega)
     go_upto_region 10 with (fail)
     refine nP w.heap.size (w.heap.size + 1) gu gs gz i j (dB i j) _ _ (a i) (b j) _ _ _ _ (by omega) (by omega) (by omega) y1 y2 y3 ((KU.out.cell _).trans g1) (KZ.out.cell g2) ((KS.out.cell _).trans g3) (KA.out.cell hlt) (KB.out.cell hlt2) _ _ (by simp) ⟨rfl, rfl, rfl, rfl, rfl, rfl, rfl, trivial⟩ ?_;rintro w2 hX;simp only [EndK, ae, Try.f109, ab, Option.bind_some, Nat.reduceBEq, if_true, if_false, Bool.false_eq_true, Option.getD_some, List.drop_succ_cons, List.drop_zero];simp only [Act.put, List.setIfInBounds_toArray, List.set_cons_succ, List.set_cons_zero];replace HX := hid (HX.out.trans hX);replace KA := hid (KA.out.ext hX);replace KB := hid (KB.out.ext hX);replace KR := hid (KR.out.ext hX);replace KU := hid (KU.out.ext hX);replace KS := hid (KS.out.ext hX);replace KZ := hid (KZ.out.ext hX);clear hX;clear g1 g3 p1 p2 p3 y1 y2 y3;have z1 := KZ.out.cell g2;have z2 := KZ.out.free (dB i j)
     go_upto_region 11 with (fail)
     clear z1 z2;have hX2 : Ext w (w2.setCell ⟨gz, dB i j, none⟩ (.int .i64 (bK a b i (bg a b i) j (dB i j) + dM i j * a i * b j))) := HX.out.setCell (by simp only; omega) _;have hA2 := KA.out.far (q := ⟨gz, dB i j, none⟩) (by simp only; omega) (.int .i64 (bK a b i (bg a b i) j (dB i j) + dM i j * a i * b j));have hB2 := KB.out.far (q := ⟨gz, dB i j, none⟩) (by simp only; omega) (.int .i64 (bK a b i (bg a b i) j (dB i j) + dM i j * a i * b j));have hR2 := KR.out.far (p := ⟨gz, dB i j, none⟩) (by simp only; omega) (.int .i64 (bK a b i (bg a b i) j (dB i j) + dM i j * a i * b j));have hU2 := KU.out.far (p := ⟨gz, dB i j, none⟩) (by simp only; omega) (.int .i64 (bK a b i (bg a b i) j (dB i j) + dM i j * a i * b j));have hS2 := KS.out.far (p := ⟨gz, dB i j, none⟩) (by simp only; omega) (.int .i64 (bK a b i (bg a b i) j (dB i j) + dM i j * a i * b j));have hZ2 : T4 (w2.setCell ⟨gz, dB i j, none⟩ (.int .i64 (bK a b i (bg a b i) j (dB i j) + dM i j * a i * b j))) gz (bK a b i (bg a b i) (j + 1)) := KZ.out.put g2 _;generalize w2.setCell _ _ = w3 at hX2 hA2 hB2 hR2 hU2 hS2 hZ2 |-;clear HX KA KB KR KU KS KZ;have HX := hid hX2;have KA := hid hA2;have KB := hid hB2;have KR := hid hR2;have KU := hid hU2;have KS := hid hS2;have KZ := hid hZ2;clear hX2 hA2 hB2 hR2 hU2 hS2 hZ2;go_wp2;go_roundg (4 - (j + 1))
     case rel => exact ⟨j + 1, rfl, by omega, by go_num, KA, KB, KR, KU, KS, KZ, HX⟩
     case measure => omega
    .
     obtain rfl : j = 4 := by omega
     have h4 : decide ((4 : Int) < (4 : Int)) = false := by decide
     replace KZ : Hid (T4 wr gz (bg a b (i + 1))) := KZ;go_wp2;go_roundg (4 - (i + 1))
     case rel => exact ⟨i + 1, rfl, by omega, by go_num, KA, KB, KR, KU, KS, KZ, HX⟩
     case measure => omega
  .
   obtain rfl : i = 4 := by omega
   have h4 : decide ((4 : Int) < (4 : Int)) = false := by decide
   obtain ⟨f, hf⟩ : ∃ f, bg a b 4 = f := ⟨_, rfl⟩;rw [hf] at KZ;have HF := hid hf;clear hf;have z0 := KZ.out.cell (k := 0) (by decide);have z1 := KZ.out.cell (k := 1) (by decide);have z2 := KZ.out.cell (k := 2) (by decide);have z3 := KZ.out.cell (k := 3) (by decide);have r0 := KR.out.cell 0;have r1 := KR.out.cell 1;have r2 := KR.out.cell 2;have r3 := KR.out.cell 3;simp only [List.getElem?_toArray, List.getElem?_cons_zero, List.getElem?_cons_succ] at r0 r1 r2 r3;have rf0 := KR.out.free 0;have rf1 := KR.out.free 1;have rf2 := KR.out.free 2;have rf3 := KR.out.free 3;go_wp2;refine bodyPost_ret (v := .agg #[.int .i64 (f 0), .int .i64 (f 1), .int .i64 (f 2), .int .i64 (f 3)]) (by simp [results, Try.results109, go_sem, *]) rfl ?_;exact ⟨f, HF.out.symm, rfl, (Ext.setCell (Ext.setCell (Ext.setCell (Ext.setCell HX.out (by simp only; omega) _) (by simp only; omega) _) (by simp only; omega) _) (by simp only; omega) _)⟩
theorem bU (a b : Nat -> Int) (w : World) (ha : ∀ i, i < 4 -> -4000000 <= a i /\ a i <= 4000000) (hb : ∀ i, i < 4 -> -4000000 <= b i /\ b i <= 4000000) :
  Calls Try.prog 109 #[.agg #[.int .i64 (a 0), .int .i64 (a 1), .int .i64 (a 2), .int .i64 (a 3)], .agg #[.int .i64 (b 0), .int .i64 (b 1), .int .i64 (b 2), .int .i64 (b 3)]] w (fun e w' => e = .returned (.agg #[.int .i64 (ah a b 0), .int .i64 (ah a b 1), .int .i64 (ah a b 2), .int .i64 (ah a b 3)]) /\ Ext w w') := by
 refine (mr a b w ha hb).mono ?_;rintro e w' ⟨f, rfl, rfl, hX⟩;obtain ⟨h0, h1, h2, h3⟩ := mq a b;rw [h0, h1, h2, h3];exact ⟨rfl, hX⟩
end Go.Proofs.Ytikhlcgnlbinfaa
namespace Go.Proofs.Ytikhlcgnlbinfaa
open Lib (hid)
theorem ik (z : Int) : sgn (decide (z < 0)) z.natAbs = z := by
 unfold sgn
 by_cases h : z < 0
 .
  rw [decide_eq_true h]; simp; omega
 .
  rw [decide_eq_false h]; simp; omega
theorem eR {n m a b L : Nat} (h : Fit 65536 n a) (k : Fit 65536 m b) (hL : a + b <= L) : Fit 65536 (n * m) L := (h.mul (by omega) k).mono (by omega) hL
theorem dN {x y : Int} {a b L : Nat} (h : Fit 65536 x.natAbs a) (k : Fit 65536 y.natAbs b) (hL : a + b <= L) : Fit 65536 (x * y).natAbs L := by
 rw [Int.natAbs_mul]; exact eR h k hL
theorem kC {x y : Int} {a L : Nat} (h : Fit 65536 x.natAbs a) (k : Fit 65536 y.natAbs a) (hL : a + 1 <= L) : Fit 65536 (x + y).natAbs L :=
 ((h.add (by omega) k).le (Int.natAbs_add_le x y)).mono (by omega) hL
theorem mt {q r : Rat} {L M : Nat} (h : FitR q L) (k : FitR r M) : FitR (q + r) (L + M + 1) := by
 have e : aW (decide (q.num * (r.den : Int) + r.num * (q.den : Int) < 0)) (q.num * (r.den : Int) + r.num * (q.den : Int)).natAbs (q.den * r.den) = q + r := by
  unfold aW; rw [ik]; exact (Rat.add_def' q r).symm
 rw [<- e];refine ew (Nat.mul_pos q.den_pos r.den_pos) ?_ (eR h.2 k.2 (by omega));exact kC (dN h.1 (by simpa using k.2) (Nat.le_refl _)) (dN k.1 (by simpa using h.2) (by omega)) (by omega)
theorem il {q r : Rat} {L M : Nat} (h : FitR q L) (k : FitR r M) : FitR (q * r) (L + M) := by
 have e : aW (decide (q.num * r.num < 0)) (q.num * r.num).natAbs (q.den * r.den) = q * r := by
  unfold aW; rw [ik]; exact (Rat.mul_def' q r).symm
 rw [<- e];exact ew (Nat.mul_pos q.den_pos r.den_pos) (dN h.1 k.1 (Nat.le_refl _)) (eR h.2 k.2 (Nat.le_refl _))
end Go.Proofs.Ytikhlcgnlbinfaa
namespace Go.Proofs.Ytikhlcgnlbinfaa
open Lib (hid)
open Go.RowKit
theorem eS {n : Int} (h0 : -9223372036854775808 <= n) (h1 : n <= 9223372036854775807) : FitR ((n : Int) : Rat) 4 := by
 have h := gV (iP h0 h1);rw [show 2 * 2 = 4 from rfl] at h;exact h
theorem jC {n : Int} (_hn : 1 <= n) : (0 : Rat) < (n : Rat) := by
 have := Rat.intCast_lt_intCast.2 (show (0 : Int) < n by omega); simpa using this
theorem fK (a n : Int) (hn : 1 <= n) : ((a : Rat) / (n : Rat)).floor = a / n := by
 have hq := jC hn;have h1 := Rat.floor_le ((a : Rat) / (n : Rat));have h2 := Rat.lt_floor_add_one ((a : Rat) / (n : Rat));generalize ((a : Rat) / (n : Rat)).floor = f at *;have e : ((a : Rat) / (n : Rat)) * (n : Rat) = (a : Rat) := by rw [Rat.div_mul_cancel]; intro h; rw [h] at hq; exact absurd hq (by decide)
 have h3 : (f : Rat) * (n : Rat) <= (a : Rat) := by rw [<- e]; exact Rat.mul_le_mul_of_nonneg_right h1 (Rat.le_of_lt hq)
 have h4 : (a : Rat) < ((f + 1 : Int) : Rat) * (n : Rat) := by
  have := Rat.mul_lt_mul_of_pos_right h2 hq;rw [e] at this; exact this
 have h5 : f * n <= a := by apply Rat.intCast_le_intCast.1; rw [Rat.intCast_mul]; exact h3
 have h6 : a < (f + 1) * n := by apply Rat.intCast_lt_intCast.1; rw [Rat.intCast_mul]; exact h4
 have h7 := (Int.ediv_emod_unique (a := a) (b := n) (r := a - f * n) (q := f) (by omega)).2 ⟨by rw [Int.mul_comm]; omega, by omega, by rw [Int.add_mul] at h6; omega⟩;exact h7.1.symm
theorem im (a n : Int) : -((a : Rat) / (n : Rat)) = ((-a : Int) : Rat) / (n : Rat) := by
 rw [Rat.intCast_neg, Rat.div_def, Rat.div_def, Rat.neg_mul]
theorem pv (a b n : Int) (hn : 1 <= n) (h : a <= b) : ((a : Rat) / (n : Rat)) <= ((b : Rat) / (n : Rat)) := by
 have hq := jC hn;rw [Rat.div_def, Rat.div_def];exact Rat.mul_le_mul_of_nonneg_right (Rat.intCast_le_intCast.2 h) (Rat.le_of_lt (Rat.inv_pos.2 hq))
theorem kD (x : Int) {n : Int} (_hn : 1 <= n) : aW (decide (x < 0)) x.natAbs n.toNat = (x : Rat) / (n : Rat) := by
 unfold aW;rw [ed, Rat.mkRat_eq_div, <- Rat.intCast_natCast, show ((n.toNat : Nat) : Int) = n by omega]
theorem eT {n : Int} (h0 : -9223372036854775808 <= n) (h1 : n <= 9223372036854775807) : Fit 65536 n.natAbs 4 := by
 have h := (eS h0 h1).1;rw [Rat.num_intCast] at h;exact h
theorem mu {x n : Int} (h0 : -9223372036854775808 <= x) (h1 : x <= 9223372036854775807) (hn : 1 <= n) (hn2 : n <= 9223372036854775807) : FitR ((x : Rat) / (n : Rat)) 4 := by
 rw [<- kD x hn];have h := eT (n := n) (by omega) hn2;rw [show n.natAbs = n.toNat by omega] at h;exact ew (by omega) (eT h0 h1) h
theorem bD (x y : Int) (w : World) : Calls Try.prog 93 #[.agg #[.int .i64 x, .int .i64 y]] w fun e w' => e = .returned (.bool (dz x y)) /\ Ext w w' := by
 have HX := hid ((Ext.refl w).alloc (.cells #[.int .i64 x, .int .i64 y] 31))
 rcases fy x y with ⟨hb, b1, b2, b3⟩ | ⟨hb, b1 | ⟨b1, b2⟩ | ⟨b1, b2, b3⟩⟩
 all_goals
  rw [hb];clear hb;go_enter Try.func93, Try.ntmps93;go_wp2;go_ret;refine ⟨?_, HX.out⟩
  first
  | rfl
  | (show Ending.returned (.bool (decide (y <= 1152921504606846976))) = Ending.returned (.bool false); rw [decide_eq_false (by omega)])
/-- A number of the reference in memory, of at most L limbs. -/
def QFt (w : World) (v : Value) (q : Rat) (L : Nat) : Prop := QZ w v q /\ FitR q L
theorem QFt.ext {w w' : World} {v : Value} {q : Rat} {L : Nat} (h : QFt w v q L) (he : Ext w w') : QFt w' v q L := ⟨h.1.ext he, h.2⟩
def dO (w : World) (q : Rat) (L : Nat) (e : Ending) (w' : World) : Prop := ∃ v, e = .returned v /\ QFt w' v q L /\ Ext w w'
theorem gr {w : World} {q : Rat} {L : Nat} (hf : FitR q L) : ∀ e w', RetQz w q e w' -> dO w q L e w' := fun _ _ ⟨v, h1, h2, h3⟩ => ⟨v, h1, ⟨h2, hf⟩, h3⟩
theorem ak (n : Int) (w : World) (h0 : -9223372036854775808 <= n) (h1 : n <= 9223372036854775807) : Calls Try.prog 31 #[.int .i64 n] w (dO w (n : Rat) 4) :=
 (jZ n w h0 h1).mono (gr (eS h0 h1))
theorem du {va vb : Value} {q r : Rat} {L M : Nat} {w : World} (hx : QFt w va q L) (hy : QFt w vb r M) (hLM : L + M + 1 <= 400000) : Calls Try.prog 33 #[va, vb] w (dO w (q * r) (L + M)) :=
 (lH va vb q r L M w hx.1 hy.1 hx.2 hy.2 hLM).mono (gr (il hx.2 hy.2))
theorem jd {va vb : Value} {q r : Rat} {L M : Nat} {w : World} (hx : QFt w va q L) (hy : QFt w vb r M) (hLM : L + M + 1 <= 400000) : Calls Try.prog 32 #[va, vb] w (dO w (q + r) (L + M + 1)) :=
 (gU va vb q r L M w hx.1 hy.1 hx.2 hy.2 hLM).mono (gr (mt hx.2 hy.2))
theorem kE {q : Rat} {n : Int} {L : Nat} (h : FitR q L) (hn : 1 <= n) (hn2 : n <= 9223372036854775807) : FitR (q / (n : Rat)) (L + 4) := by
 have e : q / (n : Rat) = q * (((1 : Int) : Rat) / (n : Rat)) := by rw [Rat.div_def, Rat.div_def, Rat.intCast_one, Rat.one_mul]
 rw [e];exact il h (mu (by omega) (by omega) hn hn2)
theorem fg {va vb : Value} {q : Rat} {n : Int} {L : Nat} {w : World} (hx : QFt w va q L) (hy : QFt w vb (n : Rat) 4) (hn : 1 <= n) (hn2 : n <= 9223372036854775807) (hL : L + 4 + 1 <= 400000) : Calls Try.prog 34 #[va, vb] w (dO w (q / (n : Rat)) (L + 4)) :=
 (lK va vb q (n : Rat) L 4 w hx.1 hy.1 hx.2 hy.2 hL (fun h => by have := Rat.intCast_inj.1 (h.trans Rat.intCast_zero.symm); omega)).mono (gr (kE hx.2 hn hn2))
theorem pw {va vb : Value} {q r : Rat} {L M : Nat} {w : World} (hx : QFt w va q L) (hy : QFt w vb r M) (hLM : L + M + 1 <= 400000) : Calls Try.prog 37 #[va, vb] w fun e w' => e = .returned (.int .i64 (aU (q - r))) /\ Ext w w' :=
 ey va vb q r L M w hx.1 hy.1 hx.2 hy.2 hLM
theorem QFt.open {w : World} {v : Value} {q : Rat} {L : Nat} (h : QFt w v q L) : ∃ b A l c B m k, v = .agg #[.bool b, .slice A l c, .slice B m k] := by
 obtain ⟨b, A, l, c, B, m, k, e, _⟩ := h.1;exact ⟨b, A, l, c, B, m, k, e⟩
theorem mv (a b d : Int) (hd : 1 <= d) : -(-((a : Rat) * (b : Rat) / (d : Rat))).floor = aj (a * b) d := by
 unfold aj;rw [<- Rat.intCast_mul, im, fK _ _ hd]
theorem je {va : Value} {q : Rat} {L : Nat} {w : World} (h : QFt w va q L) (hL : L <= 400000) : Calls Try.prog 162 #[va] w (dm w (-(-q).floor)) := cR va q L w h.1 h.2 hL
theorem nQ {va : Value} {q : Rat} {L : Nat} {w : World} (h : QFt w va q L) (hL : L <= 400000) : Calls Try.prog 167 #[va] w (dm w q.floor) := bQ va q L w h.1 h.2 hL
theorem IntZ.shape {w : World} {v : Value} {z : Int} (h : IntZ w v z) : ∃ b A l c, v = .agg #[.bool b, .slice A l c] := by
 obtain ⟨A, l, c, e, _⟩ := h;exact ⟨_, A, l, c, e⟩
theorem ej (a b d : Int) (w : World) (ha0 : -9223372036854775808 <= a) (ha1 : a <= 9223372036854775807) (hb0 : -9223372036854775808 <= b) (hb1 : b <= 9223372036854775807) (hd0 : 1 <= d) (hd1 : d <= 9223372036854775807) :
  Calls Try.prog 102 #[.int .i64 a, .int .i64 b, .int .i64 d] w (fun e w' => e = .returned (.int .i64 (dn (aj (a * b) d))) /\ Ext w w') := by
 have HX := hid (Ext.refl w);have he := mv a b d hd0;obtain ⟨z, hzz⟩ : ∃ z, aj (a * b) d = z := ⟨_, rfl⟩;rw [hzz] at he |-;have HE := hid he;clear hzz he;go_enter Try.func102, Try.ntmps102
 go_wp2_with fail
 refine (ak (a) _ ha0 ha1).mono ?_;rintro e w51 ⟨va, rfl, qa, hX⟩;replace HX := xT HX hX;clear hX;have ha := hid qa;clear qa
 go_wp2_with fail
 refine (ak (b) _ hb0 hb1).mono ?_;rintro e w52 ⟨vb, rfl, qb, hX⟩;replace HX := xT HX hX;replace ha := hid (ha.out.ext hX);clear hX;have hb := hid qb;clear qb
 go_wp2_with fail
 refine (du ha.out hb.out (by omega)).mono ?_;rintro e w53 ⟨vm, rfl, qm, hX⟩;replace HX := xT HX hX;replace ha := hid (ha.out.ext hX);replace hb := hid (hb.out.ext hX);clear hX;have hm := hid qm;clear qm ha hb
 go_wp2_with fail
 refine (ak (d) _ (by omega) hd1).mono ?_;rintro e w54 ⟨vd, rfl, qd, hX⟩;replace HX := xT HX hX;replace hm := hid (hm.out.ext hX);clear hX;have hd := hid qd;clear qd
 go_wp2_with fail
 refine (fg hm.out hd.out hd0 hd1 (by omega)).mono ?_;rintro e w55 ⟨vx, rfl, qx, hX⟩;replace HX := xT HX hX;replace hm := hid (hm.out.ext hX);replace hd := hid (hd.out.ext hX);clear hX;have hx := hid qx;clear qx hm hd
 go_wp2_with fail
 refine (je hx.out (by omega)).mono ?_;rw [HE.out];rintro e w90 ⟨vz, rfl, hz, hX⟩;replace HX := xT HX hX;clear hX hx;have HZ := hid hz;clear hz
 go_wp2_with fail
 refine (bj _ _ _ HZ.out).mono ?_;rintro e w91 ⟨rfl, hX⟩;replace HX := xT HX hX;clear hX HZ;go_wp2;go_ret;exact ⟨rfl, HX.out⟩
theorem io (a v b u : Int) (hh : Bool) (w : World) (ha : -134400000 <= a /\ a <= 134400000) (hb : -134400000 <= b /\ b <= 134400000) (hu : 1 <= u /\ u <= 10000000) (hv : 1 <= v /\ v <= 10000000) :
  Calls Try.prog 164 #[.int .i64 a, .int .i64 v, .int .i64 b, .int .i64 u, .bool hh] w (fun e w' => ∃ x : Int, e = .returned (.int .i64 x) /\ Ext w w') := by
 have HX := hid (Ext.refl w);have y1 := IntWalk.i64_in (u + v) (by omega);go_enter Try.func164, Try.ntmps164
 go_wp2_with fail
 refine (ak (a) _ (by omega) (by omega)).mono ?_;rintro e w51 ⟨va, rfl, qa, hX⟩;replace HX := xT HX hX;clear hX;have ha := hid qa;clear qa
 go_wp2_with fail
 refine (ak (v) _ (by omega) (by omega)).mono ?_;rintro e w52 ⟨vv, rfl, qv, hX⟩;replace HX := xT HX hX;replace ha := hid (ha.out.ext hX);clear hX;have hv := hid qv;clear qv
 go_wp2_with fail
 refine (du ha.out hv.out (by omega)).mono ?_;rintro e w53 ⟨vm, rfl, qm, hX⟩;replace HX := xT HX hX;replace ha := hid (ha.out.ext hX);replace hv := hid (hv.out.ext hX);clear hX;have hm := hid qm;clear qm ha hv
 go_wp2_with fail
 refine (ak (b) _ (by omega) (by omega)).mono ?_;rintro e w54 ⟨vb, rfl, qb, hX⟩;replace HX := xT HX hX;replace hm := hid (hm.out.ext hX);clear hX;have hb := hid qb;clear qb
 go_wp2_with fail
 refine (ak (u) _ (by omega) (by omega)).mono ?_;rintro e w55 ⟨vu, rfl, qu, hX⟩;replace HX := xT HX hX;replace hm := hid (hm.out.ext hX);replace hb := hid (hb.out.ext hX);clear hX;have hu := hid qu;clear qu
 go_wp2_with fail
 refine (du hb.out hu.out (by omega)).mono ?_;rintro e w56 ⟨vn, rfl, qn, hX⟩;replace HX := xT HX hX;replace hm := hid (hm.out.ext hX);replace hb := hid (hb.out.ext hX);replace hu := hid (hu.out.ext hX);clear hX;have hn := hid qn;clear qn hb hu
 go_wp2_with fail
 refine (jd hm.out hn.out (by omega)).mono ?_;rintro e w57 ⟨vs, rfl, qs, hX⟩;replace HX := xT HX hX;replace hm := hid (hm.out.ext hX);replace hn := hid (hn.out.ext hX);clear hX;have hs := hid qs;clear qs hm hn
 go_wp2_with fail
 refine (ak (u + v) _ (by omega) (by omega)).mono ?_;rintro e w58 ⟨vd, rfl, qd, hX⟩;replace HX := xT HX hX;replace hs := hid (hs.out.ext hX);clear hX;have hd := hid qd;clear qd
 go_wp2_with fail
 refine (fg hs.out hd.out (by omega) (by omega) (by omega)).mono ?_;rintro e w59 ⟨vx, rfl, qx, hX⟩;replace HX := xT HX hX;replace hs := hid (hs.out.ext hX);replace hd := hid (hd.out.ext hX);clear hX;have hx := hid qx;clear qx hs hd y1;obtain ⟨s0, A0, l0, c0, B0, m0, k0, rfl⟩ := hx.out.open
 go_upto_region 2 with (fail)
 obtain ⟨wq, rfl⟩ : ∃ x : World, x = w59 := ⟨_, rfl⟩;obtain ⟨hXa, KX⟩ := xB1 wq 65 #[.bool s0, .slice A0 l0 c0, .slice B0 m0 k0];replace HX := xT HX hXa;replace hx := hid (hx.out.ext hXa);clear hXa;generalize wq.heap.size = gx at KX |-;generalize wq.alloc _ = w92 at KX HX hx |-;obtain ⟨x0, x1, x2⟩ := KX.out.c3
 go_wp2_with fail
 refine (nQ hx.out (by omega)).mono ?_;rintro e w93 ⟨vz, rfl, hz, hX⟩;replace HX := xT HX hX;replace hx := hid (hx.out.ext hX);replace KX := xE KX hX;clear hX x0 x1 x2;obtain ⟨s1, A1, l1, c1, rfl⟩ := hz.shape;have HZ := hid hz;clear hz
 go_upto_region 3 with (fail)
 obtain ⟨hXa, KZ⟩ := xB1 w93 63 #[.bool s1, .slice A1 l1 c1];have hgz : w.heap.size <= w93.heap.size := HX.out.size;have hne : gx ≠ w93.heap.size := by have := KX.out.lt; omega
 replace HX := xT HX hXa;replace HZ := hid (HZ.out.ext hXa);replace hx := hid (hx.out.ext hXa);replace KX := xE KX hXa;clear hXa;generalize w93.heap.size = gz at KZ hgz hne |-;generalize w93.alloc _ = w94 at KZ HX HZ hx KX |-;skip
 by_cases hb1 : hh = true
 .
  subst hb1;obtain ⟨x0, x1, x2⟩ := KX.out.c3
  go_wp2_with fail
  refine (je hx.out (by omega)).mono ?_;rintro e w95 ⟨vy, rfl, hy, hX⟩;replace HX := xT HX hX;replace KZ := xE KZ hX;replace KX := xE KX hX;clear hX x0 x1 x2 HZ;obtain ⟨s2, A2, l2, c2, rfl⟩ := hy.shape;obtain ⟨z0, z1⟩ := KZ.out.c2;have zf0 := KZ.out.free 0;have zf1 := KZ.out.free 1
  go_upto_region 5 with (fail)
  clear z0 z1 zf0 zf1;have hY2 := (hy.past (g := gz) (NoInts.two KZ.out) (b := s2) (A := A2) (l := l2) (c := c2));have hX2 : Ext w ((w95.setCell ⟨gz, 0, none⟩ (.bool s2)).setCell ⟨gz, 1, none⟩ (.slice A2 l2 c2)) := (HX.out.setCell hgz _).setCell hgz _;have hB : Blk ((w95.setCell ⟨gz, 0, none⟩ (.bool s2)).setCell ⟨gz, 1, none⟩ (.slice A2 l2 c2)) gz 63 #[.bool s2, .slice A2 l2 c2] := (KZ.out.set 0 _).set 1 _;generalize (w95.setCell _ _).setCell _ _ = w96 at hY2 hX2 hB |-;clear HX KZ KX hx hy;have HX := hid hX2;have KZ := hid hB;have HY := hid hY2;clear hX2 hY2;obtain ⟨z0, z1⟩ := KZ.out.c2
  go_wp2_with fail
  refine (bj _ _ _ HY.out).mono ?_;rintro e w97 ⟨rfl, hX⟩;replace HX := xT HX hX;clear hX;go_wp2;go_ret;exact ⟨_, rfl, HX.out⟩
 .
  obtain rfl : hh = false := by simpa using hb1
  clear hb1;obtain ⟨z0, z1⟩ := KZ.out.c2
  go_wp2_with fail
  refine (bj _ _ _ HZ.out).mono ?_;rintro e w97 ⟨rfl, hX⟩;replace HX := xT HX hX;clear hX;go_wp2;go_ret;exact ⟨_, rfl, HX.out⟩
theorem dX {q r : Rat} : aU (q - r) <= 0 ↔ q <= r := by
 rcases cC (q - r) with ⟨h1, h2⟩ | ⟨h1, h2⟩ | ⟨h1, h2⟩
 .
  constructor
  .
   intro _; grind
  .
   intro _; omega
 .
  constructor
  .
   intro _; grind
  .
   intro _; omega
 .
  constructor
  .
   intro h; omega
  .
   intro h;exfalso;grind
theorem ip {q r : Rat} : aU (q - r) < 0 ↔ q < r := by
 rcases cC (q - r) with ⟨h1, h2⟩ | ⟨h1, h2⟩ | ⟨h1, h2⟩
 .
  constructor
  .
   intro _; grind
  .
   intro _; omega
 .
  constructor
  .
   intro h; omega
  .
   intro h; exact absurd h (by grind)
 .
  constructor
  .
   intro h; omega
  .
   intro h; exact absurd h (by grind)
theorem mw (p q ac d sp : Int) (w : World) (_hp : -134400000 <= p /\ p <= 134400000) (_hq : -134400000 <= q /\ q <= 134400000) (ha : -100000 <= ac /\ ac <= 100000) (hd : 1 <= d /\ d <= 10000000) (_hs : 0 <= sp /\ sp <= 1000000) :
  Calls Try.prog 35 #[.int .i64 p, .int .i64 q, .int .i64 ac, .int .i64 d, .int .i64 sp] w (fun e w' => ∃ b : Bool, e = .returned (.bool b) /\ Hid (b = true -> fH p q ac d <= (sp : Rat)) /\ Ext w w') := by
 have HX := hid (Ext.refl w);have v1 : IntKind.i64.wrap (p - q) = p - q := IntWalk.i64_in _ (by omega);have v2 : IntKind.i64.wrap (q - p) = q - p := IntWalk.i64_in _ (by omega);have v3 : IntKind.i64.wrap (-ac) = -ac := IntWalk.i64_in _ (by omega);obtain ⟨mm, hm⟩ : ∃ x, max (p - q) (q - p) = x := ⟨_, rfl⟩;obtain ⟨ss, hss⟩ : ∃ x, max ac (-ac) = x := ⟨_, rfl⟩;have hm2 : (if p - q < q - p then q - p else p - q) = mm := by rw [<- hm]; split <;> omega
 have hs2 : (if ac < -ac then -ac else ac) = ss := by rw [<- hss]; split <;> omega
 have bm : 0 <= mm /\ mm <= 268800000 := by omega
 have bs : 0 <= ss /\ ss <= 100000 := by omega
 obtain ⟨b, hb⟩ : ∃ b, decide (aU ((mm : Rat) * ((1000000 : Int) : Rat) / (d : Rat) + (ss : Rat) * (d : Rat) / ((2000000 : Int) : Rat) - (sp : Rat)) <= 0) = b := ⟨_, rfl⟩
 have HB : Hid (b = true -> fH p q ac d <= (sp : Rat)) := hid (fun h => by
  rw [h, decide_eq_true_eq, dX] at hb;unfold fH;rw [hm, hss];exact hb)
 obtain ⟨sg, hsg⟩ : ∃ s, aU ((mm : Rat) * ((1000000 : Int) : Rat) / (d : Rat) + (ss : Rat) * (d : Rat) / ((2000000 : Int) : Rat) - (sp : Rat)) = s := ⟨_, rfl⟩;rw [hsg] at hb;have HSG := hid hsg;have HBB := hid hb;clear hb hsg;go_enter Try.func35, Try.ntmps35
 go_wp2_with fail
 refine (ak (mm) _ (by omega) (by omega)).mono ?_;rintro e w51 ⟨va, rfl, qa, hX⟩;replace HX := hid (HX.out.trans hX);clear hX;have ha := hid qa;clear qa
 go_wp2_with fail
 refine (ak (1000000) _ (by omega) (by omega)).mono ?_;rintro e w52 ⟨vb, rfl, qb, hX⟩;replace HX := hid (HX.out.trans hX);replace ha := hid (ha.out.ext hX);clear hX;have hb := hid qb;clear qb
 go_wp2_with fail
 refine (du ha.out hb.out (by omega)).mono ?_;rintro e w53 ⟨vm, rfl, qm, hX⟩;replace HX := hid (HX.out.trans hX);replace ha := hid (ha.out.ext hX);replace hb := hid (hb.out.ext hX);clear hX;have hm := hid qm;clear qm;clear ha;clear hb
 go_wp2_with fail
 refine (ak (d) _ (by omega) (by omega)).mono ?_;rintro e w54 ⟨vd, rfl, qd, hX⟩;replace HX := hid (HX.out.trans hX);replace hm := hid (hm.out.ext hX);clear hX;have hd := hid qd;clear qd
 go_wp2_with fail
 refine (fg hm.out hd.out (by omega) (by omega) (by omega)).mono ?_;rintro e w55 ⟨vx, rfl, qx, hX⟩;replace HX := hid (HX.out.trans hX);replace hm := hid (hm.out.ext hX);replace hd := hid (hd.out.ext hX);clear hX;have hx := hid qx;clear qx;clear hm;clear hd;clear v1 v2 hm hm2;obtain ⟨s1, A1, l1, c1, B1, m1, k1, rfl⟩ := hx.out.open
 go_upto_region 2 with (fail)
 obtain ⟨wq, rfl⟩ : ∃ x : World, x = w55 := ⟨_, rfl⟩;have hXa : Ext wq (wq.alloc (.cells #[.bool s1, .slice A1 l1 c1, .slice B1 m1 k1] 65)) := (Ext.refl _).alloc _;have hB := Blk.new wq 65 #[.bool s1, .slice A1 l1 c1, .slice B1 m1 k1];replace HX := hid (HX.out.trans hXa);replace hx := hid (hx.out.ext hXa);clear hXa;generalize wq.heap.size = gx at hB |-;generalize wq.alloc _ = w59 at hB HX hx |-;have Kgx := hid hB;clear hB
 go_wp2_with fail
 refine (ak (ss) _ (by omega) (by omega)).mono ?_;rintro e w61 ⟨va, rfl, qa, hX⟩;replace HX := hid (HX.out.trans hX);replace hx := hid (hx.out.ext hX);replace Kgx := hid (Kgx.out.ext hX);clear hX;have ha := hid qa;clear qa
 go_wp2_with fail
 refine (ak (d) _ (by omega) (by omega)).mono ?_;rintro e w62 ⟨vb, rfl, qb, hX⟩;replace HX := hid (HX.out.trans hX);replace hx := hid (hx.out.ext hX);replace Kgx := hid (Kgx.out.ext hX);replace ha := hid (ha.out.ext hX);clear hX;have hb := hid qb;clear qb
 go_wp2_with fail
 refine (du ha.out hb.out (by omega)).mono ?_;rintro e w63 ⟨vm, rfl, qm, hX⟩;replace HX := hid (HX.out.trans hX);replace hx := hid (hx.out.ext hX);replace Kgx := hid (Kgx.out.ext hX);replace ha := hid (ha.out.ext hX);replace hb := hid (hb.out.ext hX);clear hX;have hm := hid qm;clear qm;clear ha;clear hb
 go_wp2_with fail
 refine (ak (2000000) _ (by omega) (by omega)).mono ?_;rintro e w64 ⟨vd, rfl, qd, hX⟩;replace HX := hid (HX.out.trans hX);replace hx := hid (hx.out.ext hX);replace Kgx := hid (Kgx.out.ext hX);replace hm := hid (hm.out.ext hX);clear hX;have hd := hid qd;clear qd
 go_wp2_with fail
 refine (fg hm.out hd.out (by omega) (by omega) (by omega)).mono ?_;rintro e w65 ⟨vy, rfl, qy, hX⟩;replace HX := hid (HX.out.trans hX);replace hx := hid (hx.out.ext hX);replace Kgx := hid (Kgx.out.ext hX);replace hm := hid (hm.out.ext hX);replace hd := hid (hd.out.ext hX);clear hX;have hy := hid qy;clear qy;clear hm;clear hd;clear v3 hss hs2;obtain ⟨s2, A2, l2, c2, B2, m2, k2, rfl⟩ := hy.out.open
 go_upto_region 3 with (fail)
 obtain ⟨wq, rfl⟩ : ∃ x : World, x = w65 := ⟨_, rfl⟩;have hXa : Ext wq (wq.alloc (.cells #[.bool s2, .slice A2 l2 c2, .slice B2 m2 k2] 65)) := (Ext.refl _).alloc _;have hB := Blk.new wq 65 #[.bool s2, .slice A2 l2 c2, .slice B2 m2 k2];replace HX := hid (HX.out.trans hXa);replace hx := hid (hx.out.ext hXa);replace Kgx := hid (Kgx.out.ext hXa);replace hy := hid (hy.out.ext hXa);clear hXa;generalize wq.heap.size = gy at hB |-;generalize wq.alloc _ = w69 at hB HX hx Kgx hy |-;have Kgy := hid hB;clear hB;have x0 := Kgx.out.cell 0;have x1 := Kgx.out.cell 1;have x2 := Kgx.out.cell 2;simp only [List.getElem?_toArray, List.getElem?_cons_zero, List.getElem?_cons_succ] at x0 x1 x2;have y0 := Kgy.out.cell 0;have y1 := Kgy.out.cell 1;have y2 := Kgy.out.cell 2;simp only [List.getElem?_toArray, List.getElem?_cons_zero, List.getElem?_cons_succ] at y0 y1 y2
 go_wp2_with fail
 refine (jd hx.out hy.out (by omega)).mono ?_;rintro e w70 ⟨vs, rfl, qs, hX⟩;replace HX := hid (HX.out.trans hX);clear hX;have hsum := hid qs;clear qs hx hy x0 x1 x2 y0 y1 y2
 go_wp2_with fail
 refine (ak sp _ (by omega) (by omega)).mono ?_;rintro e w71 ⟨vp, rfl, qp, hX⟩;replace HX := hid (HX.out.trans hX);replace hsum := hid (hsum.out.ext hX);clear hX;have hsp := hid qp;clear qp
 go_wp2_with fail
 refine (pw hsum.out hsp.out (by omega)).mono ?_;rw [HSG.out];rintro e w72 ⟨rfl, hX⟩;replace HX := hid (HX.out.trans hX);replace hsum := hid (hsum.out.ext hX);clear hX;clear hsp hsum HSG Kgx Kgy;go_wp2;go_ret;exact ⟨b, by rw [<- HBB.out]; rfl, HB, HX.out⟩
theorem nR (gl LL : Nat) (ac xx dd y : Int) (ql : Rat) (s1 : Bool) (A1 B1 : Option Addr) (l1 c1 m1 k1 : Nat) (w : World) (_hac : -1152921504606846976 <= ac /\ ac <= 1152921504606846976) (_hxx : -1152921504606846976 <= xx /\ xx <= 1152921504606846976) (_hy : -1152921504606846976 <= y /\ y <= 1152921504606846976) (_h1 : IntKind.i64.wrap (xx - dd) = y) (hl : QFt w (.agg #[.bool s1, .slice A1 l1 c1, .slice B1 m1 k1]) ql LL) (_hLL : LL <= 1000) (c0 : w.cell? ⟨gl, 0, none⟩ = some (.bool s1)) (c1_ : w.cell? ⟨gl, 1, none⟩ = some (.slice A1 l1 c1)) (c2_ : w.cell? ⟨gl, 2, none⟩ = some (.slice B1 m1 k1)) : aS Try.prog Try.f36 2 14 42 w [28, 29, 30, 31, 32, 33, 34, 35, 36, 37, 38, 39, 40, 41] [.c (.agg #[.bool s1, .slice A1 l1 c1, .slice B1 m1 k1]), .c (.int .i64 (ac)), .p fun v W => QFt W v (ac : Rat) 4, .c (.int .i64 (xx)), .p fun v W => QFt W v (xx : Rat) 4, .p fun v W => QFt W v ((ac : Rat) * (xx : Rat)) (4 + 4), .c (.int .i64 (xx)), .c (.int .i64 (dd)), .c (.int .i64 (y)), .p fun v W => QFt W v (y : Rat) 4, .p fun v W => QFt W v ((ac : Rat) * (xx : Rat) * (y : Rat)) (4 + 4 + 4), .p fun v W => QFt W v ((2000000000000 : Int) : Rat) 4, .p fun v W => QFt W v (((ac : Rat) * (xx : Rat) * (y : Rat)) / ((2000000000000 : Int) : Rat)) (4 + 4 + 4 + 4), .p fun v W => QFt W v (ql + ((ac : Rat) * (xx : Rat) * (y : Rat)) / ((2000000000000 : Int) : Rat)) (LL + (4 + 4 + 4 + 4) + 1)] [(2, .int .i64 (ac)), (3, .int .i64 (dd)), (4, .int .i64 (xx)), (11, .pointer (some ⟨gl, 0, none⟩))] := by
 refine aT [[], [], [1], [], [3], [2, 4], [], [], [6, 7], [8], [5, 9], [], [10, 11], [0, 12]] (by kernel_rfl) (by kernel_rfl) rfl ⟨by intro v W W' h hX; exact QFt.ext h hX, by intro v W W' h hX; exact QFt.ext h hX, by intro v W W' h hX; exact QFt.ext h hX, by intro v W W' h hX; exact QFt.ext h hX, by intro v W W' h hX; exact QFt.ext h hX, by intro v W W' h hX; exact QFt.ext h hX, by intro v W W' h hX; exact QFt.ext h hX, by intro v W W' h hX; exact QFt.ext h hX, trivial⟩ ?_;simp only [ae, Try.f36, ab, Option.bind_some, Nat.reduceBEq, if_true, if_false, Bool.false_eq_true, Option.getD_some];simp only [List.take_succ_cons, List.take_zero]
 repeat' first | refine ⟨?_, ?_⟩ | fail
 all_goals first | (intro us W b hJ K hK0 hK Qz; simp only [aO, ay, aB, List.getD_cons_succ, List.getD_cons_zero]) | exact True.intro
 all_goals try (intros; have q0 := Ext.cell hJ c0; have q1 := Ext.cell hJ c1_; have q2 := Ext.cell hJ c2_; go_simp; exact hK0 _ rfl)
 .
  intro e29 e2 e3 e4 e11;go_simp;refine (ak ac _ (by omega) (by omega)).mono ?_;rintro e w' ⟨v, rfl, hv, hX⟩;exact hK _ _ hv hX
 .
  intro e31 e2 e3 e4 e11;go_simp;refine (ak xx _ (by omega) (by omega)).mono ?_;rintro e w' ⟨v, rfl, hv, hX⟩;exact hK _ _ hv hX
 .
  intro e30 d2 e32 d4 e2 e3 e4 e11;go_simp;refine (du d2 d4 (by omega)).mono ?_;rintro e w' ⟨v, rfl, hv, hX⟩;exact hK _ _ hv hX
 .
  intro e36 e2 e3 e4 e11;go_simp;refine (ak y _ (by omega) (by omega)).mono ?_;rintro e w' ⟨v, rfl, hv, hX⟩;exact hK _ _ hv hX
 .
  intro e33 d5 e37 d9 e2 e3 e4 e11;go_simp;refine (du d5 d9 (by omega)).mono ?_;rintro e w' ⟨v, rfl, hv, hX⟩;exact hK _ _ hv hX
 .
  intro e2 e3 e4 e11;go_simp;refine (ak 2000000000000 _ (by omega) (by omega)).mono ?_;rintro e w' ⟨v, rfl, hv, hX⟩;exact hK _ _ hv hX
 .
  intro e38 d10 e39 d11 e2 e3 e4 e11;go_simp;refine (fg d10 d11 (by omega) (by omega) (by omega)).mono ?_;rintro e w' ⟨v, rfl, hv, hX⟩;exact hK _ _ hv hX
 .
  intro e28 e40 d12 e2 e3 e4 e11;go_simp;refine (jd (hl.ext hJ) d12 (by omega)).mono ?_;rintro e w' ⟨v, rfl, hv, hX⟩;exact hK _ _ hv hX
theorem my (p q ac d x : Int) (w : World) (_hp : -134400000 <= p /\ p <= 134400000) (_hq : -134400000 <= q /\ q <= 134400000) (ha : -100000 <= ac /\ ac <= 100000) (hd : 1 <= d /\ d <= 10000000) (_hx : 0 <= x /\ x <= 10000000) :
  Calls Try.prog 36 #[.int .i64 p, .int .i64 q, .int .i64 ac, .int .i64 d, .int .i64 x] w (dO w (br p q ac d x) 100) := by
 have HX := hid ((Ext.refl w).alloc (.cells #[.bool false, .slice none 0 0, .slice none 0 0] 65));have KR := hid (Blk.new w 65 #[.bool false, .slice none 0 0, .slice none 0 0]);have v1 := IntWalk.i64_in (d - x) (by omega);have v2 := IntWalk.i64_in (x - d) (by omega);go_enter Try.func36, Try.ntmps36
 go_upto_region 1 with (fail)
 generalize w.alloc _ = w1 at HX KR |-
 go_wp2_with fail
 refine (ak (p) _ (by omega) (by omega)).mono ?_;rintro e w51 ⟨va, rfl, qa, hX⟩;replace HX := xT HX hX;replace KR := xE KR hX;clear hX;have ha := hid qa;clear qa
 go_wp2_with fail
 refine (ak (d - x) _ (by omega) (by omega)).mono ?_;rintro e w52 ⟨vb, rfl, qb, hX⟩;replace HX := xT HX hX;replace KR := xE KR hX;replace ha := hid (ha.out.ext hX);clear hX;have hb := hid qb;clear qb
 go_wp2_with fail
 refine (du ha.out hb.out (by omega)).mono ?_;rintro e w53 ⟨vm, rfl, qm, hX⟩;replace HX := xT HX hX;replace KR := xE KR hX;replace ha := hid (ha.out.ext hX);replace hb := hid (hb.out.ext hX);clear hX;have hm := hid qm;clear qm ha hb
 go_wp2_with fail
 refine (ak (q) _ (by omega) (by omega)).mono ?_;rintro e w54 ⟨vc, rfl, qc, hX⟩;replace HX := xT HX hX;replace KR := xE KR hX;replace hm := hid (hm.out.ext hX);clear hX;have hc := hid qc;clear qc
 go_wp2_with fail
 refine (ak (x) _ (by omega) (by omega)).mono ?_;rintro e w55 ⟨ve, rfl, qe, hX⟩;replace HX := xT HX hX;replace KR := xE KR hX;replace hm := hid (hm.out.ext hX);replace hc := hid (hc.out.ext hX);clear hX;have he := hid qe;clear qe
 go_wp2_with fail
 refine (du hc.out he.out (by omega)).mono ?_;rintro e w56 ⟨vn, rfl, qn, hX⟩;replace HX := xT HX hX;replace KR := xE KR hX;replace hm := hid (hm.out.ext hX);replace hc := hid (hc.out.ext hX);replace he := hid (he.out.ext hX);clear hX;have hn := hid qn;clear qn hc he
 go_wp2_with fail
 refine (jd hm.out hn.out (by omega)).mono ?_;rintro e w57 ⟨vs, rfl, qs, hX⟩;replace HX := xT HX hX;replace KR := xE KR hX;replace hm := hid (hm.out.ext hX);replace hn := hid (hn.out.ext hX);clear hX;have hs := hid qs;clear qs hm hn
 go_wp2_with fail
 refine (ak (d) _ (by omega) (by omega)).mono ?_;rintro e w58 ⟨vd, rfl, qd, hX⟩;replace HX := xT HX hX;replace KR := xE KR hX;replace hs := hid (hs.out.ext hX);clear hX;have hd := hid qd;clear qd
 go_wp2_with fail
 refine (fg hs.out hd.out (by omega) (by omega) (by omega)).mono ?_;rintro e w59 ⟨vl, rfl, ql, hX⟩;replace HX := xT HX hX;replace KR := xE KR hX;replace hs := hid (hs.out.ext hX);replace hd := hid (hd.out.ext hX);clear hX;have hl := hid ql;clear ql hs hd v1;obtain ⟨s1, A1, l1, c1, B1, m1, k1, rfl⟩ := hl.out.open
 go_upto_region 2 with (fail)
 obtain ⟨wq, rfl⟩ : ∃ x : World, x = w59 := ⟨_, rfl⟩;obtain ⟨hXa, Kgx⟩ := xB1 wq 65 #[.bool s1, .slice A1 l1 c1, .slice B1 m1 k1];replace HX := xT HX hXa;replace hl := hid (hl.out.ext hXa);replace KR := xE KR hXa;clear hXa;generalize wq.heap.size = gx at Kgx |-;generalize wq.alloc _ = w69 at Kgx HX hl KR |-;have hll := hl.out;refine nR gx _ ac x d (x - d) _ s1 A1 B1 l1 c1 m1 k1 _ (by omega) (by omega) (by omega) v2 hl.out (by omega) (Kgx.out.cell 0) (Kgx.out.cell 1) (Kgx.out.cell 2) _ _ (by simp) ⟨rfl, rfl, rfl, rfl, trivial⟩ ?_;rintro w70 hX xv2 _ xv4 _ xv5 _ xv9 _ xv10 _ xv11 _ xv12 _ xv13 hres;simp only [EndK, ae, Try.f36, ab, Option.bind_some, Nat.reduceBEq, if_true, if_false, Bool.false_eq_true, Option.getD_some, List.drop_succ_cons, List.drop_zero];simp only [Act.put, List.setIfInBounds_toArray, List.set_cons_succ, List.set_cons_zero];replace HX := xT HX hX;replace KR := xE KR hX;clear hX hll hl Kgx v2;obtain ⟨s2, A2, l2, c2, B2, m2, k2, rfl⟩ := hres.open;have HRS := hid hres;clear hres;obtain ⟨r0, r1, r2⟩ := KR.out.c3;have rf0 := KR.out.free 0;have rf1 := KR.out.free 1;have rf2 := KR.out.free 2;go_wp2;refine bodyPost_ret (v := .agg #[.bool s2, .slice A2 l2 c2, .slice B2 m2 k2]) (by simp [results, Try.results36, go_sem, *]) rfl ?_;exact ⟨_, rfl, ⟨HRS.out.1.past (NoInts.three KR.out), HRS.out.2.mono (by omega)⟩, Ext.boxed HX.out (Nat.le_refl _) _ _ _⟩
theorem bO (w : World) : Calls Try.prog 20 #[] w (fun e w' => e = .returned (.bool true) /\ Ext w w') := by
 have HX := hid (Ext.refl w);have hb := fun w => kz (fun i => if i < 2 then 1 else 0) w (by decide)
 have hb2 : ∀ w, Calls Try.prog 85 #[.agg #[.int .i64 1, .int .i64 1, .int .i64 0, .int .i64 0]] w (fun e w' => e = .returned (.tuple #[.agg #[.int .i64 (0), .int .i64 (2), .int .i64 (0)], .int .i64 2, .int .i64 0]) /\ Ext w w') := hb;have HB := hid hb2;have g6 : ∀ w, (Op.equalIn 10000 22 (.agg #[.int .i64 (0), .int .i64 (2), .int .i64 (0)]) (.agg #[.int .i64 (0), .int .i64 (2), .int .i64 (0)])).run Try.prog w = .ok true w := fun w => by rw [nu 9998]; simp
 clear hb hb2;go_enter Try.func20, Try.ntmps20
 go_wp2_with fail
 refine (HB.out _).mono ?_;rintro e w2 ⟨rfl, hX⟩;replace HX := xT HX hX;clear hX HB
 go_upto_region 2 with (fail)
 obtain ⟨hXa, KM⟩ := xB1 w2 22 #[.int .i64 (0), .int .i64 (2), .int .i64 (0)];replace HX := xT HX hXa;clear hXa;generalize w2.heap.size = gm at KM |-;generalize w2.alloc _ = w3 at KM HX |-;obtain ⟨m0, m1, m2⟩ := KM.out.c3;go_wp2;go_ret;exact ⟨rfl, HX.out⟩
theorem nS (gt : Nat) (r0 r1 rd far fu m : Int) (w : World) (hr0 : -9223372036854775808 <= r0 /\ r0 <= 9223372036854775807) (hrd : -9223372036854775808 <= rd /\ rd <= 9223372036854775807) (h1 : IntKind.i64.wrap (r1 - r0) = rd) (h2 : IntKind.u64.wrap far = fu) (_htm : fu.tmod 17 = m) (_hm : 0 <= m /\ m <= 16) (h3 : IntKind.u64.wrap m = m) (_h4 : IntKind.i64.wrap m = m) (c34 : w.cell? ⟨gt, 34, none⟩ = some (.int .i64 r0)) (c35 : w.cell? ⟨gt, 35, none⟩ = some (.int .i64 r1)) (c36 : w.cell? ⟨gt, 36, none⟩ = some (.int .i64 far)) (a : Act) (Q : Exit -> Act -> World -> Prop) (hsize : 210 <= a.tmps.size)
  (s1 : a.tmps[1]? = some (.pointer (some ⟨gt, 0, none⟩)))
  (hend : ∀ (xv0 xv1 xv2 xv3 xv4 xv5 xv6 xv7 xv8 xv9 xv10 xv11 xv12 xv13 xv14 xv15 xv16 xv17 xv18 xv19 xv20 xv21 xv22 : Value) (W : World), (xv0 = .pointer (some ⟨gt, 34, none⟩)) -> (xv1 = .pointer (some ⟨gt, 34, none⟩)) -> (xv2 = .int .i64 (r0)) -> (QFt W xv3 (r0 : Rat) 4) -> (xv4 = .pointer (some ⟨gt, 34, none⟩)) -> (xv5 = .pointer (some ⟨gt, 35, none⟩)) -> (xv6 = .int .i64 (r1)) -> (xv7 = .pointer (some ⟨gt, 34, none⟩)) -> (xv8 = .pointer (some ⟨gt, 34, none⟩)) -> (xv9 = .int .i64 (r0)) -> (xv10 = .int .i64 (rd)) -> (QFt W xv11 (rd : Rat) 4) -> (xv12 = .pointer (some ⟨gt, 36, none⟩)) -> (xv13 = .int .i64 (far)) -> (xv14 = .int .u64 fu) -> (xv15 = .int .u64 m) -> (xv16 = .int .i64 (m)) -> (QFt W xv17 (m : Rat) 4) -> (QFt W xv18 ((rd : Rat) * (m : Rat)) (4 + 4)) -> (QFt W xv19 ((16 : Int) : Rat) 4) -> (QFt W xv20 ((rd : Rat) * (m : Rat) / ((16 : Int) : Rat)) (4 + 4 + 4)) -> (QFt W xv21 ((r0 : Rat) + (rd : Rat) * (m : Rat) / ((16 : Int) : Rat)) (4 + (4 + 4 + 4) + 1)) -> (∃ g, xv22 = .pointer (some ⟨g, 0, none⟩) /\ w.heap.size <= g /\ Blk W g 65 #[.bool false, .slice none 0 0, .slice none 0 0]) -> Ext w W -> wpList Try.prog (ae Try.f3 27).toArray Q ((ae Try.f3 27).drop 23) (((((((((((((((((((((((a.put (some 188) xv0).put (some 189) xv1).put (some 190) xv2).put (some 191) xv3).put (some 192) xv4).put (some 193) xv5).put (some 194) xv6).put (some 195) xv7).put (some 196) xv8).put (some 197) xv9).put (some 198) xv10).put (some 199) xv11).put (some 200) xv12).put (some 201) xv13).put (some 202) xv14).put (some 203) xv15).put (some 204) xv16).put (some 205) xv17).put (some 206) xv18).put (some 207) xv19).put (some 208) xv20).put (some 209) xv21).put (some 27) xv22) W) :
  (Code.region 27 (ae Try.f3 27).toArray true).wp Try.prog Q a w := by
 have hmono : ∀ (W W' : World) (j : Nat) (u : Value), Ext W W' -> (fun (i : Nat) (v : Value) (W : World) => match i with
  | 0 => v = .pointer (some ⟨gt, 34, none⟩)
  | 1 => v = .pointer (some ⟨gt, 34, none⟩)
  | 2 => v = .int .i64 (r0)
  | 3 => QFt W v (r0 : Rat) 4
  | 4 => v = .pointer (some ⟨gt, 34, none⟩)
  | 5 => v = .pointer (some ⟨gt, 35, none⟩)
  | 6 => v = .int .i64 (r1)
  | 7 => v = .pointer (some ⟨gt, 34, none⟩)
  | 8 => v = .pointer (some ⟨gt, 34, none⟩)
  | 9 => v = .int .i64 (r0)
  | 10 => v = .int .i64 (rd)
  | 11 => QFt W v (rd : Rat) 4
  | 12 => v = .pointer (some ⟨gt, 36, none⟩)
  | 13 => v = .int .i64 (far)
  | 14 => v = .int .u64 fu
  | 15 => v = .int .u64 m
  | 16 => v = .int .i64 (m)
  | 17 => QFt W v (m : Rat) 4
  | 18 => QFt W v ((rd : Rat) * (m : Rat)) (4 + 4)
  | 19 => QFt W v ((16 : Int) : Rat) 4
  | 20 => QFt W v ((rd : Rat) * (m : Rat) / ((16 : Int) : Rat)) (4 + 4 + 4)
  | 21 => QFt W v ((r0 : Rat) + (rd : Rat) * (m : Rat) / ((16 : Int) : Rat)) (4 + (4 + 4 + 4) + 1)
  | 22 => ∃ g, v = .pointer (some ⟨g, 0, none⟩) /\ w.heap.size <= g /\ Blk W g 65 #[.bool false, .slice none 0 0, .slice none 0 0]
  | _ => True) j u W -> (fun (i : Nat) (v : Value) (W : World) => match i with
  | 0 => v = .pointer (some ⟨gt, 34, none⟩)
  | 1 => v = .pointer (some ⟨gt, 34, none⟩)
  | 2 => v = .int .i64 (r0)
  | 3 => QFt W v (r0 : Rat) 4
  | 4 => v = .pointer (some ⟨gt, 34, none⟩)
  | 5 => v = .pointer (some ⟨gt, 35, none⟩)
  | 6 => v = .int .i64 (r1)
  | 7 => v = .pointer (some ⟨gt, 34, none⟩)
  | 8 => v = .pointer (some ⟨gt, 34, none⟩)
  | 9 => v = .int .i64 (r0)
  | 10 => v = .int .i64 (rd)
  | 11 => QFt W v (rd : Rat) 4
  | 12 => v = .pointer (some ⟨gt, 36, none⟩)
  | 13 => v = .int .i64 (far)
  | 14 => v = .int .u64 fu
  | 15 => v = .int .u64 m
  | 16 => v = .int .i64 (m)
  | 17 => QFt W v (m : Rat) 4
  | 18 => QFt W v ((rd : Rat) * (m : Rat)) (4 + 4)
  | 19 => QFt W v ((16 : Int) : Rat) 4
  | 20 => QFt W v ((rd : Rat) * (m : Rat) / ((16 : Int) : Rat)) (4 + 4 + 4)
  | 21 => QFt W v ((r0 : Rat) + (rd : Rat) * (m : Rat) / ((16 : Int) : Rat)) (4 + (4 + 4 + 4) + 1)
  | 22 => ∃ g, v = .pointer (some ⟨g, 0, none⟩) /\ w.heap.size <= g /\ Blk W g 65 #[.bool false, .slice none 0 0, .slice none 0 0]
  | _ => True) j u W' := by
  intro W W' j u hX h
  match j, h with
  | 0, h => exact h
  | 1, h => exact h
  | 2, h => exact h
  | 3, h => exact QFt.ext h hX
  | 4, h => exact h
  | 5, h => exact h
  | 6, h => exact h
  | 7, h => exact h
  | 8, h => exact h
  | 9, h => exact h
  | 10, h => exact h
  | 11, h => exact QFt.ext h hX
  | 12, h => exact h
  | 13, h => exact h
  | 14, h => exact h
  | 15, h => exact h
  | 16, h => exact h
  | 17, h => exact QFt.ext h hX
  | 18, h => exact QFt.ext h hX
  | 19, h => exact QFt.ext h hX
  | 20, h => exact QFt.ext h hX
  | 21, h => exact QFt.ext h hX
  | 22, h => (obtain ⟨g, h1, h2, h3⟩ := h; exact ⟨g, h1, h2, h3.ext hX⟩)
  | _ + 23, h => exact h
 have hsz : ∀ d, some d ∈ ([some 188, some 189, some 190, some 191, some 192, some 193, some 194, some 195, some 196, some 197, some 198, some 199, some 200, some 201, some 202, some 203, some 204, some 205, some 206, some 207, some 208, some 209, some 27] : List (Option Tmp)) -> d < a.tmps.size := aI (by decide) hsize
 refine aJ 23 [some 188, some 189, some 190, some 191, some 192, some 193, some 194, some 195, some 196, some 197, some 198, some 199, some 200, some 201, some 202, some 203, some 204, some 205, some 206, some 207, some 208, some 209, some 27] [[], [0], [1], [2], [], [4], [5], [], [7], [8], [6, 9], [10], [], [12], [13], [14], [15], [16], [11, 17], [], [18, 19], [3, 20], []] [[], [], [], [], [], [], [], [], [], [], [], [], [], [], [], [], [], [], [], [], [], [], []] (fun (i : Nat) (v : Value) (W : World) => match i with
  | 0 => v = .pointer (some ⟨gt, 34, none⟩)
  | 1 => v = .pointer (some ⟨gt, 34, none⟩)
  | 2 => v = .int .i64 (r0)
  | 3 => QFt W v (r0 : Rat) 4
  | 4 => v = .pointer (some ⟨gt, 34, none⟩)
  | 5 => v = .pointer (some ⟨gt, 35, none⟩)
  | 6 => v = .int .i64 (r1)
  | 7 => v = .pointer (some ⟨gt, 34, none⟩)
  | 8 => v = .pointer (some ⟨gt, 34, none⟩)
  | 9 => v = .int .i64 (r0)
  | 10 => v = .int .i64 (rd)
  | 11 => QFt W v (rd : Rat) 4
  | 12 => v = .pointer (some ⟨gt, 36, none⟩)
  | 13 => v = .int .i64 (far)
  | 14 => v = .int .u64 fu
  | 15 => v = .int .u64 m
  | 16 => v = .int .i64 (m)
  | 17 => QFt W v (m : Rat) 4
  | 18 => QFt W v ((rd : Rat) * (m : Rat)) (4 + 4)
  | 19 => QFt W v ((16 : Int) : Rat) 4
  | 20 => QFt W v ((rd : Rat) * (m : Rat) / ((16 : Int) : Rat)) (4 + 4 + 4)
  | 21 => QFt W v ((r0 : Rat) + (rd : Rat) * (m : Rat) / ((16 : Int) : Rat)) (4 + (4 + 4 + 4) + 1)
  | 22 => ∃ g, v = .pointer (some ⟨g, 0, none⟩) /\ w.heap.size <= g /\ Blk W g 65 #[.bool false, .slice none 0 0, .slice none 0 0]
  | _ => True) (fun _ W => Ext w W) (by kernel_rfl) (by kernel_rfl) hsz (fun _ _ _ _ h => h) ((Ext.refl w).drew) ?_ ?_
 .
  clear hend;simp only [ae, Try.f3, ab, Option.bind_some, Nat.reduceBEq, if_true, if_false, Bool.false_eq_true, Option.getD_some];simp only [List.take_succ_cons, List.take_zero];refine ⟨?_, ?_, ?_, ?_, ?_, ?_, ?_, ?_, ?_, ?_, ?_, ?_, ?_, ?_, ?_, ?_, ?_, ?_, ?_, ?_, ?_, ?_, ?_, trivial⟩
  .
   intro done us W hJ hdep haft hnot b hb hb' K hK Q';have e1 := (hb' 1 (by simp)).trans s1;clear hb hb';go_simp;exact hK _ _ rfl (fun _ _ _ h => h) hJ
  .
   intro done us W hJ hdep haft hnot b hb hb' K hK Q';simp only [List.getD_cons_succ, List.getD_cons_zero, List.mem_cons, List.not_mem_nil, or_false, forall_eq] at hdep;have e188 := hb 0 188 rfl;have d0 := hdep;rw [d0.1] at e188;clear hb hb' hdep d0;go_simp;exact hK _ _ rfl (fun _ _ _ h => h) hJ
  .
   intro done us W hJ hdep haft hnot b hb hb' K hK Q';simp only [List.getD_cons_succ, List.getD_cons_zero, List.mem_cons, List.not_mem_nil, or_false, forall_eq] at hdep;have e189 := hb 1 189 rfl;have d1 := hdep;rw [d1.1] at e189;clear hb hb' hdep d1;have q := Ext.cell hJ c34;go_simp;exact hK _ _ rfl (fun _ _ _ h => h) hJ
  .
   intro done us W hJ hdep haft hnot b hb hb' K hK Q';simp only [List.getD_cons_succ, List.getD_cons_zero, List.mem_cons, List.not_mem_nil, or_false, forall_eq] at hdep;have e190 := hb 2 190 rfl;have d2 := hdep;rw [d2.1] at e190;clear hb hb' hdep d2;go_simp;refine (ak r0 _ hr0.1 hr0.2).mono ?_;rintro e w' ⟨v, rfl, hv, hX⟩;exact hK _ _ hv (fun j u _ h => hmono _ _ j u hX h) (Ext.trans hJ hX)
  .
   intro done us W hJ hdep haft hnot b hb hb' K hK Q';have e1 := (hb' 1 (by simp)).trans s1;clear hb hb';go_simp;exact hK _ _ rfl (fun _ _ _ h => h) hJ
  .
   intro done us W hJ hdep haft hnot b hb hb' K hK Q';simp only [List.getD_cons_succ, List.getD_cons_zero, List.mem_cons, List.not_mem_nil, or_false, forall_eq] at hdep;have e192 := hb 4 192 rfl;have d4 := hdep;rw [d4.1] at e192;clear hb hb' hdep d4;go_simp;exact hK _ _ rfl (fun _ _ _ h => h) hJ
  .
   intro done us W hJ hdep haft hnot b hb hb' K hK Q';simp only [List.getD_cons_succ, List.getD_cons_zero, List.mem_cons, List.not_mem_nil, or_false, forall_eq] at hdep;have e193 := hb 5 193 rfl;have d5 := hdep;rw [d5.1] at e193;clear hb hb' hdep d5;have q := Ext.cell hJ c35;go_simp;exact hK _ _ rfl (fun _ _ _ h => h) hJ
  .
   intro done us W hJ hdep haft hnot b hb hb' K hK Q';have e1 := (hb' 1 (by simp)).trans s1;clear hb hb';go_simp;exact hK _ _ rfl (fun _ _ _ h => h) hJ
  .
   intro done us W hJ hdep haft hnot b hb hb' K hK Q';simp only [List.getD_cons_succ, List.getD_cons_zero, List.mem_cons, List.not_mem_nil, or_false, forall_eq] at hdep;have e195 := hb 7 195 rfl;have d7 := hdep;rw [d7.1] at e195;clear hb hb' hdep d7;go_simp;exact hK _ _ rfl (fun _ _ _ h => h) hJ
  .
   intro done us W hJ hdep haft hnot b hb hb' K hK Q';simp only [List.getD_cons_succ, List.getD_cons_zero, List.mem_cons, List.not_mem_nil, or_false, forall_eq] at hdep;have e196 := hb 8 196 rfl;have d8 := hdep;rw [d8.1] at e196;clear hb hb' hdep d8;have q := Ext.cell hJ c34;go_simp;exact hK _ _ rfl (fun _ _ _ h => h) hJ
  .
   intro done us W hJ hdep haft hnot b hb hb' K hK Q';simp only [List.getD_cons_succ, List.getD_cons_zero, List.mem_cons, List.not_mem_nil, or_false, forall_eq_or_imp, forall_eq] at hdep;have e194 := hb 6 194 rfl;have e197 := hb 9 197 rfl;have d6 := hdep.1;have d9 := hdep.2;rw [d6.1] at e194;rw [d9.1] at e197;clear hb hb' hdep d6 d9;go_simp;exact hK _ _ rfl (fun _ _ _ h => h) hJ
  .
   intro done us W hJ hdep haft hnot b hb hb' K hK Q';simp only [List.getD_cons_succ, List.getD_cons_zero, List.mem_cons, List.not_mem_nil, or_false, forall_eq] at hdep;have e198 := hb 10 198 rfl;have d10 := hdep;rw [d10.1] at e198;clear hb hb' hdep d10;go_simp;refine (ak rd _ hrd.1 hrd.2).mono ?_;rintro e w' ⟨v, rfl, hv, hX⟩;exact hK _ _ hv (fun j u _ h => hmono _ _ j u hX h) (Ext.trans hJ hX)
  .
   intro done us W hJ hdep haft hnot b hb hb' K hK Q';have e1 := (hb' 1 (by simp)).trans s1;clear hb hb';go_simp;exact hK _ _ rfl (fun _ _ _ h => h) hJ
  .
   intro done us W hJ hdep haft hnot b hb hb' K hK Q';simp only [List.getD_cons_succ, List.getD_cons_zero, List.mem_cons, List.not_mem_nil, or_false, forall_eq] at hdep;have e200 := hb 12 200 rfl;have d12 := hdep;rw [d12.1] at e200;clear hb hb' hdep d12;have q := Ext.cell hJ c36;go_simp;exact hK _ _ rfl (fun _ _ _ h => h) hJ
  .
   intro done us W hJ hdep haft hnot b hb hb' K hK Q';simp only [List.getD_cons_succ, List.getD_cons_zero, List.mem_cons, List.not_mem_nil, or_false, forall_eq] at hdep;have e201 := hb 13 201 rfl;have d13 := hdep;rw [d13.1] at e201;clear hb hb' hdep d13;go_simp;exact hK _ _ rfl (fun _ _ _ h => h) hJ
  .
   intro done us W hJ hdep haft hnot b hb hb' K hK Q';simp only [List.getD_cons_succ, List.getD_cons_zero, List.mem_cons, List.not_mem_nil, or_false, forall_eq] at hdep;have e202 := hb 14 202 rfl;have d14 := hdep;rw [d14.1] at e202;clear hb hb' hdep d14;go_simp;exact hK _ _ rfl (fun _ _ _ h => h) hJ
  .
   intro done us W hJ hdep haft hnot b hb hb' K hK Q';simp only [List.getD_cons_succ, List.getD_cons_zero, List.mem_cons, List.not_mem_nil, or_false, forall_eq] at hdep;have e203 := hb 15 203 rfl;have d15 := hdep;rw [d15.1] at e203;clear hb hb' hdep d15;go_simp;exact hK _ _ rfl (fun _ _ _ h => h) hJ
  .
   intro done us W hJ hdep haft hnot b hb hb' K hK Q';simp only [List.getD_cons_succ, List.getD_cons_zero, List.mem_cons, List.not_mem_nil, or_false, forall_eq] at hdep;have e204 := hb 16 204 rfl;have d16 := hdep;rw [d16.1] at e204;clear hb hb' hdep d16;go_simp;refine (ak m _ (by omega) (by omega)).mono ?_;rintro e w' ⟨v, rfl, hv, hX⟩;exact hK _ _ hv (fun j u _ h => hmono _ _ j u hX h) (Ext.trans hJ hX)
  .
   intro done us W hJ hdep haft hnot b hb hb' K hK Q';simp only [List.getD_cons_succ, List.getD_cons_zero, List.mem_cons, List.not_mem_nil, or_false, forall_eq_or_imp, forall_eq] at hdep;have e199 := hb 11 199 rfl;have e205 := hb 17 205 rfl;have d11 := hdep.1;have d17 := hdep.2;clear hb hb' hdep ;go_simp;refine (du d11.1 d17.1 (by omega)).mono ?_;rintro e w' ⟨v, rfl, hv, hX⟩;exact hK _ _ hv (fun j u _ h => hmono _ _ j u hX h) (Ext.trans hJ hX)
  .
   intro done us W hJ hdep haft hnot b hb hb' K hK Q';clear hb hb';go_simp;refine (ak 16 _ (by omega) (by omega)).mono ?_;rintro e w' ⟨v, rfl, hv, hX⟩;exact hK _ _ hv (fun j u _ h => hmono _ _ j u hX h) (Ext.trans hJ hX)
  .
   intro done us W hJ hdep haft hnot b hb hb' K hK Q';simp only [List.getD_cons_succ, List.getD_cons_zero, List.mem_cons, List.not_mem_nil, or_false, forall_eq_or_imp, forall_eq] at hdep;have e206 := hb 18 206 rfl;have e207 := hb 19 207 rfl;have d18 := hdep.1;have d19 := hdep.2;clear hb hb' hdep ;go_simp;refine (fg d18.1 d19.1 (by omega) (by omega) (by omega)).mono ?_;rintro e w' ⟨v, rfl, hv, hX⟩;exact hK _ _ hv (fun j u _ h => hmono _ _ j u hX h) (Ext.trans hJ hX)
  .
   intro done us W hJ hdep haft hnot b hb hb' K hK Q';simp only [List.getD_cons_succ, List.getD_cons_zero, List.mem_cons, List.not_mem_nil, or_false, forall_eq_or_imp, forall_eq] at hdep;have e191 := hb 3 191 rfl;have e208 := hb 20 208 rfl;have d3 := hdep.1;have d20 := hdep.2;clear hb hb' hdep ;go_simp;refine (jd d3.1 d20.1 (by omega)).mono ?_;rintro e w' ⟨v, rfl, hv, hX⟩;exact hK _ _ hv (fun j u _ h => hmono _ _ j u hX h) (Ext.trans hJ hX)
  .
   intro done us W hJ hdep haft hnot b hb hb' K hK Q';clear hb hb';go_simp;exact hK _ _ ⟨W.heap.size, rfl, Ext.size hJ, Blk.new W _ _⟩ (fun j u _ h => hmono _ _ j u ((Ext.refl _).alloc _) h) (hJ.alloc _)
 .
  intro us W hV hJ;exact hend (us 0) (us 1) (us 2) (us 3) (us 4) (us 5) (us 6) (us 7) (us 8) (us 9) (us 10) (us 11) (us 12) (us 13) (us 14) (us 15) (us 16) (us 17) (us 18) (us 19) (us 20) (us 21) (us 22) W (hV 0 (by omega)) (hV 1 (by omega)) (hV 2 (by omega)) (hV 3 (by omega)) (hV 4 (by omega)) (hV 5 (by omega)) (hV 6 (by omega)) (hV 7 (by omega)) (hV 8 (by omega)) (hV 9 (by omega)) (hV 10 (by omega)) (hV 11 (by omega)) (hV 12 (by omega)) (hV 13 (by omega)) (hV 14 (by omega)) (hV 15 (by omega)) (hV 16 (by omega)) (hV 17 (by omega)) (hV 18 (by omega)) (hV 19 (by omega)) (hV 20 (by omega)) (hV 21 (by omega)) (hV 22 (by omega)) hJ
theorem nT (gt kk : Nat) (pa pb o0 o1 ea eb ea1 eb1 ta tb pp qq : Int) (w : World) (_hk : (kk : Int) < 3) (_h1 : IntKind.i64.wrap (ea + 1) = ea1) (_hz1 : (ea1 == 0) = false) (_hz2 : ea1 ≠ 0) (_htm : o0.tmod ea1 = ta) (_h2 : IntKind.i64.wrap ta = ta) (_h3 : IntKind.i64.wrap (pa + ta) = pp) (_h4 : IntKind.i64.wrap (eb + 1) = eb1) (_hz3 : (eb1 == 0) = false) (_hz4 : eb1 ≠ 0) (_htn : o1.tmod eb1 = tb) (_h5 : IntKind.i64.wrap tb = tb) (_h6 : IntKind.i64.wrap (pb + tb) = qq) (c0 : w.cell? ⟨gt, 1 + kk, none⟩ = some (.int .i64 pa)) (c1 : w.cell? ⟨gt, 11 + kk, none⟩ = some (.int .i64 pb)) (c24 : w.cell? ⟨gt, 24, none⟩ = some (.int .i64 o0)) (c25 : w.cell? ⟨gt, 25, none⟩ = some (.int .i64 o1)) (c4 : w.cell? ⟨gt, 4, none⟩ = some (.int .i64 ea)) (c14 : w.cell? ⟨gt, 14, none⟩ = some (.int .i64 eb)) : aS Try.prog Try.f3 31 30 251 w [223, 224, 225, 226, 227, 228, 229, 230, 231, 232, 233, 234, 235, 236, 237, 238, 239, 240, 241, 242, 243, 244, 245, 246, 247, 248, 249, 250, 30, 31] [.c (.int .i64 (kk : Int)), .c (.pointer (some ⟨gt, 0, none⟩)), .c (.pointer (some ⟨gt, 1, none⟩)), .c (.pointer (some ⟨gt, 1 + kk, none⟩)), .c (.int .i64 (pa)), .c (.pointer (some ⟨gt, 24, none⟩)), .c (.pointer (some ⟨gt, 24, none⟩)), .c (.int .i64 (o0)), .c (.pointer (some ⟨gt, 0, none⟩)), .c (.pointer (some ⟨gt, 4, none⟩)), .c (.int .i64 (ea)), .c (.int .i64 (ea1)), .c (.int .i64 (ta)), .c (.int .i64 (pp)), .c (.int .i64 (kk : Int)), .c (.pointer (some ⟨gt, 10, none⟩)), .c (.pointer (some ⟨gt, 11, none⟩)), .c (.pointer (some ⟨gt, 11 + kk, none⟩)), .c (.int .i64 (pb)), .c (.pointer (some ⟨gt, 24, none⟩)), .c (.pointer (some ⟨gt, 25, none⟩)), .c (.int .i64 (o1)), .c (.pointer (some ⟨gt, 10, none⟩)), .c (.pointer (some ⟨gt, 14, none⟩)), .c (.int .i64 (eb)), .c (.int .i64 (eb1)), .c (.int .i64 (tb)), .c (.int .i64 (qq)), .c (.int .i64 (pp)), .c (.int .i64 (qq))] [(1, .pointer (some ⟨gt, 0, none⟩)), (28, .int .i64 (kk : Int))] := by
 refine aT [[], [], [1], [0, 2], [3], [], [5], [6], [], [8], [9], [10], [7, 11], [4, 12], [], [], [15], [14, 16], [17], [], [19], [20], [], [22], [23], [24], [21, 25], [18, 26], [13], [27]] (by kernel_rfl) (by kernel_rfl) rfl trivial ?_;simp only [ae, Try.f3, ab, Option.bind_some, Nat.reduceBEq, if_true, if_false, Bool.false_eq_true, Option.getD_some];simp only [List.take_succ_cons, List.take_zero]
 repeat' first | refine ⟨?_, ?_⟩ | fail
 all_goals first | (intro us W b hJ K hK0 hK Qz; simp only [aO, ay, aB, List.getD_cons_succ, List.getD_cons_zero]) | exact True.intro
 all_goals try (intros; have q0 := Ext.cell hJ c0; have q1 := Ext.cell hJ c24; have q2 := Ext.cell hJ c4; have q3 := Ext.cell hJ c1; have q4 := Ext.cell hJ c25; have q5 := Ext.cell hJ c14; go_simp; exact hK0 _ rfl)
theorem nU (gl gk kk : Nat) (pp qq aa dd xx kv nn : Int) (fq : Rat) (s1 : Bool) (A1 B1 : Option Addr) (l1 c1 m1 k1 : Nat) (w : World) (hp : -134400000 <= pp /\ pp <= 134400000) (hq : -134400000 <= qq /\ qq <= 134400000) (ha : -100000 <= aa /\ aa <= 100000) (hd : 1 <= dd /\ dd <= 10000000) (hx : 0 <= xx /\ xx <= 10000000) (hkv : -9223372036854775808 <= kv /\ kv <= 9223372036854775807) (hnn : -9223372036854775808 <= nn /\ nn <= 9223372036854775807) (hn1 : 1 <= nn) (_hk : (kk : Int) < 3) (hl : QFt w (.agg #[.bool s1, .slice A1 l1 c1, .slice B1 m1 k1]) fq 17) (c0 : w.cell? ⟨gl, 0, none⟩ = some (.bool s1)) (c1_ : w.cell? ⟨gl, 1, none⟩ = some (.slice A1 l1 c1)) (c2_ : w.cell? ⟨gl, 2, none⟩ = some (.slice B1 m1 k1)) (c9 : w.cell? ⟨gk, kk, none⟩ = some (.int .i64 kv)) (a : Act) (Q : Exit -> Act -> World -> Prop) (hsize : 277 <= a.tmps.size)
  (s3 : a.tmps[3]? = some (.int .i64 (xx)))
  (s5 : a.tmps[5]? = some (.int .i64 (dd)))
  (s6 : a.tmps[6]? = some (.int .i64 (aa)))
  (s24 : a.tmps[24]? = some (.pointer (some ⟨gk, 0, none⟩)))
  (s25 : a.tmps[25]? = some (.int .i64 (nn)))
  (s27 : a.tmps[27]? = some (.pointer (some ⟨gl, 0, none⟩)))
  (s28 : a.tmps[28]? = some (.int .i64 (kk : Int)))
  (s30 : a.tmps[30]? = some (.int .i64 (pp)))
  (s31 : a.tmps[31]? = some (.int .i64 (qq)))
  (hend : ∀ (xv0 xv1 xv2 xv3 xv4 xv5 xv6 xv7 xv8 xv9 xv10 xv11 xv12 xv13 xv14 xv15 xv16 : Value) (W : World), (xv0 = .int .i64 (pp)) -> (xv1 = .int .i64 (qq)) -> (xv2 = .int .i64 (aa)) -> (xv3 = .int .i64 (dd)) -> (xv4 = .int .i64 (xx)) -> (QFt W xv5 (br pp qq aa dd xx) 100) -> (xv6 = .agg #[.bool s1, .slice A1 l1 c1, .slice B1 m1 k1]) -> (xv7 = .int .i64 (kk : Int)) -> (xv8 = .pointer (some ⟨gk, kk, none⟩)) -> (xv9 = .int .i64 (kv)) -> (QFt W xv10 (kv : Rat) 4) -> (QFt W xv11 (fq * (kv : Rat)) (17 + 4)) -> (xv12 = .int .i64 (nn)) -> (QFt W xv13 (nn : Rat) 4) -> (QFt W xv14 (fq * (kv : Rat) / (nn : Rat)) (17 + 4 + 4)) -> (QFt W xv15 (br pp qq aa dd xx + fq * (kv : Rat) / (nn : Rat)) (100 + (17 + 4 + 4) + 1)) -> (∃ g, xv16 = .pointer (some ⟨g, 0, none⟩) /\ w.heap.size <= g /\ Blk W g 65 #[.bool false, .slice none 0 0, .slice none 0 0]) -> Ext w W -> wpList Try.prog (ae Try.f3 34).toArray Q ((ae Try.f3 34).drop 17) (((((((((((((((((a.put (some 261) xv0).put (some 262) xv1).put (some 263) xv2).put (some 264) xv3).put (some 265) xv4).put (some 266) xv5).put (some 267) xv6).put (some 268) xv7).put (some 269) xv8).put (some 270) xv9).put (some 271) xv10).put (some 272) xv11).put (some 273) xv12).put (some 274) xv13).put (some 275) xv14).put (some 276) xv15).put (some 32) xv16) W) :
  (Code.region 34 (ae Try.f3 34).toArray true).wp Try.prog Q a w := by
 have hmono : ∀ (W W' : World) (j : Nat) (u : Value), Ext W W' -> (fun (i : Nat) (v : Value) (W : World) => match i with
  | 0 => v = .int .i64 (pp)
  | 1 => v = .int .i64 (qq)
  | 2 => v = .int .i64 (aa)
  | 3 => v = .int .i64 (dd)
  | 4 => v = .int .i64 (xx)
  | 5 => QFt W v (br pp qq aa dd xx) 100
  | 6 => v = .agg #[.bool s1, .slice A1 l1 c1, .slice B1 m1 k1]
  | 7 => v = .int .i64 (kk : Int)
  | 8 => v = .pointer (some ⟨gk, kk, none⟩)
  | 9 => v = .int .i64 (kv)
  | 10 => QFt W v (kv : Rat) 4
  | 11 => QFt W v (fq * (kv : Rat)) (17 + 4)
  | 12 => v = .int .i64 (nn)
  | 13 => QFt W v (nn : Rat) 4
  | 14 => QFt W v (fq * (kv : Rat) / (nn : Rat)) (17 + 4 + 4)
  | 15 => QFt W v (br pp qq aa dd xx + fq * (kv : Rat) / (nn : Rat)) (100 + (17 + 4 + 4) + 1)
  | 16 => ∃ g, v = .pointer (some ⟨g, 0, none⟩) /\ w.heap.size <= g /\ Blk W g 65 #[.bool false, .slice none 0 0, .slice none 0 0]
  | _ => True) j u W -> (fun (i : Nat) (v : Value) (W : World) => match i with
  | 0 => v = .int .i64 (pp)
  | 1 => v = .int .i64 (qq)
  | 2 => v = .int .i64 (aa)
  | 3 => v = .int .i64 (dd)
  | 4 => v = .int .i64 (xx)
  | 5 => QFt W v (br pp qq aa dd xx) 100
  | 6 => v = .agg #[.bool s1, .slice A1 l1 c1, .slice B1 m1 k1]
  | 7 => v = .int .i64 (kk : Int)
  | 8 => v = .pointer (some ⟨gk, kk, none⟩)
  | 9 => v = .int .i64 (kv)
  | 10 => QFt W v (kv : Rat) 4
  | 11 => QFt W v (fq * (kv : Rat)) (17 + 4)
  | 12 => v = .int .i64 (nn)
  | 13 => QFt W v (nn : Rat) 4
  | 14 => QFt W v (fq * (kv : Rat) / (nn : Rat)) (17 + 4 + 4)
  | 15 => QFt W v (br pp qq aa dd xx + fq * (kv : Rat) / (nn : Rat)) (100 + (17 + 4 + 4) + 1)
  | 16 => ∃ g, v = .pointer (some ⟨g, 0, none⟩) /\ w.heap.size <= g /\ Blk W g 65 #[.bool false, .slice none 0 0, .slice none 0 0]
  | _ => True) j u W' := by
  intro W W' j u hX h
  match j, h with
  | 0, h => exact h
  | 1, h => exact h
  | 2, h => exact h
  | 3, h => exact h
  | 4, h => exact h
  | 5, h => exact QFt.ext h hX
  | 6, h => exact h
  | 7, h => exact h
  | 8, h => exact h
  | 9, h => exact h
  | 10, h => exact QFt.ext h hX
  | 11, h => exact QFt.ext h hX
  | 12, h => exact h
  | 13, h => exact QFt.ext h hX
  | 14, h => exact QFt.ext h hX
  | 15, h => exact QFt.ext h hX
  | 16, h => (obtain ⟨g, h1, h2, h3⟩ := h; exact ⟨g, h1, h2, h3.ext hX⟩)
  | _ + 17, h => exact h
 have hsz : ∀ d, some d ∈ ([some 261, some 262, some 263, some 264, some 265, some 266, some 267, some 268, some 269, some 270, some 271, some 272, some 273, some 274, some 275, some 276, some 32] : List (Option Tmp)) -> d < a.tmps.size := aI (by decide) hsize
 refine aJ 17 [some 261, some 262, some 263, some 264, some 265, some 266, some 267, some 268, some 269, some 270, some 271, some 272, some 273, some 274, some 275, some 276, some 32] [[], [], [], [], [], [0, 1, 2, 3, 4], [], [], [7], [8], [9], [6, 10], [], [12], [11, 13], [5, 14], []] [[], [], [], [], [], [], [], [], [], [], [], [], [], [], [], [], []] (fun (i : Nat) (v : Value) (W : World) => match i with
  | 0 => v = .int .i64 (pp)
  | 1 => v = .int .i64 (qq)
  | 2 => v = .int .i64 (aa)
  | 3 => v = .int .i64 (dd)
  | 4 => v = .int .i64 (xx)
  | 5 => QFt W v (br pp qq aa dd xx) 100
  | 6 => v = .agg #[.bool s1, .slice A1 l1 c1, .slice B1 m1 k1]
  | 7 => v = .int .i64 (kk : Int)
  | 8 => v = .pointer (some ⟨gk, kk, none⟩)
  | 9 => v = .int .i64 (kv)
  | 10 => QFt W v (kv : Rat) 4
  | 11 => QFt W v (fq * (kv : Rat)) (17 + 4)
  | 12 => v = .int .i64 (nn)
  | 13 => QFt W v (nn : Rat) 4
  | 14 => QFt W v (fq * (kv : Rat) / (nn : Rat)) (17 + 4 + 4)
  | 15 => QFt W v (br pp qq aa dd xx + fq * (kv : Rat) / (nn : Rat)) (100 + (17 + 4 + 4) + 1)
  | 16 => ∃ g, v = .pointer (some ⟨g, 0, none⟩) /\ w.heap.size <= g /\ Blk W g 65 #[.bool false, .slice none 0 0, .slice none 0 0]
  | _ => True) (fun _ W => Ext w W) (by kernel_rfl) (by kernel_rfl) hsz (fun _ _ _ _ h => h) ((Ext.refl w).drew) ?_ ?_
 .
  clear hend;simp only [ae, Try.f3, ab, Option.bind_some, Nat.reduceBEq, if_true, if_false, Bool.false_eq_true, Option.getD_some];simp only [List.take_succ_cons, List.take_zero];refine ⟨?_, ?_, ?_, ?_, ?_, ?_, ?_, ?_, ?_, ?_, ?_, ?_, ?_, ?_, ?_, ?_, ?_, trivial⟩
  .
   intro done us W hJ hdep haft hnot b hb hb' K hK Q';have e30 := (hb' 30 (by simp)).trans s30;clear hb hb';go_simp;exact hK _ _ rfl (fun _ _ _ h => h) hJ
  .
   intro done us W hJ hdep haft hnot b hb hb' K hK Q';have e31 := (hb' 31 (by simp)).trans s31;clear hb hb';go_simp;exact hK _ _ rfl (fun _ _ _ h => h) hJ
  .
   intro done us W hJ hdep haft hnot b hb hb' K hK Q';have e6 := (hb' 6 (by simp)).trans s6;clear hb hb';go_simp;exact hK _ _ rfl (fun _ _ _ h => h) hJ
  .
   intro done us W hJ hdep haft hnot b hb hb' K hK Q';have e5 := (hb' 5 (by simp)).trans s5;clear hb hb';go_simp;exact hK _ _ rfl (fun _ _ _ h => h) hJ
  .
   intro done us W hJ hdep haft hnot b hb hb' K hK Q';have e3 := (hb' 3 (by simp)).trans s3;clear hb hb';go_simp;exact hK _ _ rfl (fun _ _ _ h => h) hJ
  .
   intro done us W hJ hdep haft hnot b hb hb' K hK Q';simp only [List.getD_cons_succ, List.getD_cons_zero, List.mem_cons, List.not_mem_nil, or_false, forall_eq_or_imp, forall_eq] at hdep;have e261 := hb 0 261 rfl;have e262 := hb 1 262 rfl;have e263 := hb 2 263 rfl;have e264 := hb 3 264 rfl;have e265 := hb 4 265 rfl;have d0 := hdep.1;have d1 := hdep.2.1;have d2 := hdep.2.2.1;have d3 := hdep.2.2.2.1;have d4 := hdep.2.2.2.2;rw [d0.1] at e261;rw [d1.1] at e262;rw [d2.1] at e263;rw [d3.1] at e264;rw [d4.1] at e265;clear hb hb' hdep d0 d1 d2 d3 d4;go_simp;refine (my pp qq aa dd xx _ hp hq ha hd hx).mono ?_;rintro e w' ⟨v, rfl, hv, hX⟩;exact hK _ _ hv (fun j u _ h => hmono _ _ j u hX h) (Ext.trans hJ hX)
  .
   intro done us W hJ hdep haft hnot b hb hb' K hK Q';have e27 := (hb' 27 (by simp)).trans s27;clear hb hb';have z0 := Ext.cell hJ c0;have z1 := Ext.cell hJ c1_;have z2 := Ext.cell hJ c2_;go_simp;exact hK _ _ rfl (fun _ _ _ h => h) hJ
  .
   intro done us W hJ hdep haft hnot b hb hb' K hK Q';have e28 := (hb' 28 (by simp)).trans s28;clear hb hb';go_simp;exact hK _ _ rfl (fun _ _ _ h => h) hJ
  .
   intro done us W hJ hdep haft hnot b hb hb' K hK Q';simp only [List.getD_cons_succ, List.getD_cons_zero, List.mem_cons, List.not_mem_nil, or_false, forall_eq] at hdep;have e24 := (hb' 24 (by simp)).trans s24;have e268 := hb 7 268 rfl;have d7 := hdep;rw [d7.1] at e268;clear hb hb' hdep d7;go_simp;exact hK _ _ rfl (fun _ _ _ h => h) hJ
  .
   intro done us W hJ hdep haft hnot b hb hb' K hK Q';simp only [List.getD_cons_succ, List.getD_cons_zero, List.mem_cons, List.not_mem_nil, or_false, forall_eq] at hdep;have e269 := hb 8 269 rfl;have d8 := hdep;rw [d8.1] at e269;clear hb hb' hdep d8;have q := Ext.cell hJ c9;go_simp;exact hK _ _ rfl (fun _ _ _ h => h) hJ
  .
   intro done us W hJ hdep haft hnot b hb hb' K hK Q';simp only [List.getD_cons_succ, List.getD_cons_zero, List.mem_cons, List.not_mem_nil, or_false, forall_eq] at hdep;have e270 := hb 9 270 rfl;have d9 := hdep;rw [d9.1] at e270;clear hb hb' hdep d9;go_simp;refine (ak kv _ hkv.1 hkv.2).mono ?_;rintro e w' ⟨v, rfl, hv, hX⟩;exact hK _ _ hv (fun j u _ h => hmono _ _ j u hX h) (Ext.trans hJ hX)
  .
   intro done us W hJ hdep haft hnot b hb hb' K hK Q';simp only [List.getD_cons_succ, List.getD_cons_zero, List.mem_cons, List.not_mem_nil, or_false, forall_eq_or_imp, forall_eq] at hdep;have e267 := hb 6 267 rfl;have e271 := hb 10 271 rfl;have d6 := hdep.1;have d10 := hdep.2;rw [d6.1] at e267;clear hb hb' hdep d6;go_simp;refine (du (hl.ext hJ) d10.1 (by omega)).mono ?_;rintro e w' ⟨v, rfl, hv, hX⟩;exact hK _ _ hv (fun j u _ h => hmono _ _ j u hX h) (Ext.trans hJ hX)
  .
   intro done us W hJ hdep haft hnot b hb hb' K hK Q';have e25 := (hb' 25 (by simp)).trans s25;clear hb hb';go_simp;exact hK _ _ rfl (fun _ _ _ h => h) hJ
  .
   intro done us W hJ hdep haft hnot b hb hb' K hK Q';simp only [List.getD_cons_succ, List.getD_cons_zero, List.mem_cons, List.not_mem_nil, or_false, forall_eq] at hdep;have e273 := hb 12 273 rfl;have d12 := hdep;rw [d12.1] at e273;clear hb hb' hdep d12;go_simp;refine (ak nn _ hnn.1 hnn.2).mono ?_;rintro e w' ⟨v, rfl, hv, hX⟩;exact hK _ _ hv (fun j u _ h => hmono _ _ j u hX h) (Ext.trans hJ hX)
  .
   intro done us W hJ hdep haft hnot b hb hb' K hK Q';simp only [List.getD_cons_succ, List.getD_cons_zero, List.mem_cons, List.not_mem_nil, or_false, forall_eq_or_imp, forall_eq] at hdep;have e272 := hb 11 272 rfl;have e274 := hb 13 274 rfl;have d11 := hdep.1;have d13 := hdep.2;clear hb hb' hdep ;go_simp;refine (fg d11.1 d13.1 hn1 hnn.2 (by omega)).mono ?_;rintro e w' ⟨v, rfl, hv, hX⟩;exact hK _ _ hv (fun j u _ h => hmono _ _ j u hX h) (Ext.trans hJ hX)
  .
   intro done us W hJ hdep haft hnot b hb hb' K hK Q';simp only [List.getD_cons_succ, List.getD_cons_zero, List.mem_cons, List.not_mem_nil, or_false, forall_eq_or_imp, forall_eq] at hdep;have e266 := hb 5 266 rfl;have e275 := hb 14 275 rfl;have d5 := hdep.1;have d14 := hdep.2;clear hb hb' hdep ;go_simp;refine (jd d5.1 d14.1 (by omega)).mono ?_;rintro e w' ⟨v, rfl, hv, hX⟩;exact hK _ _ hv (fun j u _ h => hmono _ _ j u hX h) (Ext.trans hJ hX)
  .
   intro done us W hJ hdep haft hnot b hb hb' K hK Q';clear hb hb';go_simp;exact hK _ _ ⟨W.heap.size, rfl, Ext.size hJ, Blk.new W _ _⟩ (fun j u _ h => hmono _ _ j u ((Ext.refl _).alloc _) h) (hJ.alloc _)
 .
  intro us W hV hJ;exact hend (us 0) (us 1) (us 2) (us 3) (us 4) (us 5) (us 6) (us 7) (us 8) (us 9) (us 10) (us 11) (us 12) (us 13) (us 14) (us 15) (us 16) W (hV 0 (by omega)) (hV 1 (by omega)) (hV 2 (by omega)) (hV 3 (by omega)) (hV 4 (by omega)) (hV 5 (by omega)) (hV 6 (by omega)) (hV 7 (by omega)) (hV 8 (by omega)) (hV 9 (by omega)) (hV 10 (by omega)) (hV 11 (by omega)) (hV 12 (by omega)) (hV 13 (by omega)) (hV 14 (by omega)) (hV 15 (by omega)) (hV 16 (by omega)) hJ
theorem nV (gl gm : Nat) (lo hi g1 g2 : Int) (q : Rat) (s1 : Bool) (A1 B1 : Option Addr) (l1 c1 m1 k1 : Nat) (w : World) (hlo : -9223372036854775808 <= lo /\ lo <= 9223372036854775807) (hhi : -9223372036854775808 <= hi /\ hi <= 9223372036854775807) (hl : QFt w (.agg #[.bool s1, .slice A1 l1 c1, .slice B1 m1 k1]) q 126) (hg1 : aU (q - (lo : Rat)) = g1) (hg2 : aU (q - (hi : Rat)) = g2) (q1 : decide (g1 < 0) = false) (q2 : decide (0 < g2) = false) (c0 : w.cell? ⟨gl, 0, none⟩ = some (.bool s1)) (c1_ : w.cell? ⟨gl, 1, none⟩ = some (.slice A1 l1 c1)) (c2_ : w.cell? ⟨gl, 2, none⟩ = some (.slice B1 m1 k1)) (cl : w.cell? ⟨gm, 0, none⟩ = some (.int .i64 lo)) (ch : w.cell? ⟨gm, 1, none⟩ = some (.int .i64 hi)) : aS Try.prog Try.f3 35 14 291 w [277, 278, 279, 280, 281, 282, 283, 284, 285, 286, 287, 288, 289, 290] [.c (.agg #[.bool s1, .slice A1 l1 c1, .slice B1 m1 k1]), .c (.pointer (some ⟨gm, 0, none⟩)), .c (.int .i64 (lo)), .p fun v W => QFt W v (lo : Rat) 4, .c (.int .i64 (g1)), .c (.bool false), .c (.bool false), .c (.agg #[.bool s1, .slice A1 l1 c1, .slice B1 m1 k1]), .c (.pointer (some ⟨gm, 1, none⟩)), .c (.int .i64 (hi)), .p fun v W => QFt W v (hi : Rat) 4, .c (.int .i64 (g2)), .c (.bool false), .c (.bool false)] [(29, .pointer (some ⟨gm, 0, none⟩)), (32, .pointer (some ⟨gl, 0, none⟩))] := by
 refine aT [[], [], [1], [2], [0, 3], [4], [5], [6], [6], [6, 8], [6, 9], [6, 7, 10], [6, 11], [6, 12]] (by kernel_rfl) (by kernel_rfl) rfl ⟨by intro v W W' h hX; exact QFt.ext h hX, by intro v W W' h hX; exact QFt.ext h hX, trivial⟩ ?_;simp only [ae, Try.f3, ab, Option.bind_some, Nat.reduceBEq, if_true, if_false, Bool.false_eq_true, Option.getD_some];simp only [List.take_succ_cons, List.take_zero]
 repeat' first | refine ⟨?_, ?_⟩ | fail
 all_goals first | (intro us W b hJ K hK0 hK Qz; simp only [aO, ay, aB, List.getD_cons_succ, List.getD_cons_zero]) | exact True.intro
 all_goals try (intros; have q0 := Ext.cell hJ c0; have q1 := Ext.cell hJ c1_; have q2 := Ext.cell hJ c2_; have q3 := Ext.cell hJ cl; have q4 := Ext.cell hJ ch; go_simp; exact hK0 _ rfl)
 .
  intro e279 e29 e32;go_simp;refine (ak lo _ hlo.1 hlo.2).mono ?_;rintro e w' ⟨v, rfl, hv, hX⟩;exact hK _ _ hv hX
 .
  intro e277 e280 d3 e29 e32;go_simp;refine (pw (hl.ext hJ) d3 (by omega)).mono ?_;rw [hg1];rintro e w' ⟨rfl, hX⟩;exact hK _ _ rfl hX
 .
  intro e283 e286 e29 e32;go_simp;refine (ak hi _ hhi.1 hhi.2).mono ?_;rintro e w' ⟨v, rfl, hv, hX⟩;exact hK _ _ hv hX
 .
  intro e283 e284 e287 d10 e29 e32;go_simp;refine (pw (hl.ext hJ) d10 (by omega)).mono ?_;rw [hg2];rintro e w' ⟨rfl, hX⟩;exact hK _ _ rfl hX
end Go.Proofs.Ytikhlcgnlbinfaa
