/- Lemmas of the proof that follows (Solves, part 9): walks of functions by contract, and plain lemmas. Conditions: none. -/
import Derived.Test.YtikhlcgnlbinfaaSolvesH
set_option maxRecDepth 100000
set_option maxHeartbeats 16000000
namespace Go.Proofs.Ytikhlcgnlbinfaa
open Lib (hid)
open Go.RowKit
theorem eS (d : Nat) (x y z a b c : Int) (w : World) : (Op.equalIn (d + 2) 22 (.agg #[.int .i64 x, .int .i64 y, .int .i64 z]) (.agg #[.int .i64 a, .int .i64 b, .int .i64 c])).run Try.prog w = .ok (decide (x = a /\ y = b /\ z = c)) w := by
 have hu : Try.prog.underlying 22 = some (.array 3 3) := by kernel_rfl
 have hi : Try.prog.underlying 3 = some (.int .i64) := by kernel_rfl
 have hn : (sizeOf 3).run Try.prog w = .ok 1 w := by kernel_rfl
 have hp : ∀ (p q r : Int) (i : Nat) (v : Value), (#[.int .i64 p, .int .i64 q, .int .i64 r] : Array Value)[i]? = some v -> (Go.part 3 #[.int .i64 p, .int .i64 q, .int .i64 r] i).run Try.prog w = .ok v w := fun p q r i v h => run_part_plain (P := Try.prog) w (by kernel_rfl) h
 have p0 := fun p q r => hp p q r 0 (.int .i64 p) rfl
 have p1 := fun p q r => hp p q r 1 (.int .i64 q) rfl
 have p2 := fun p q r => hp p q r 2 (.int .i64 r) rfl
 have he : ∀ (p q : Int), (Op.equalIn (d + 1) 3 (.int .i64 p) (.int .i64 q)).run Try.prog w = .ok (p == q) w := fun p q => run_equalIn_int (P := Try.prog) w d 3 .i64 .i64 p q hi
 rw [Op.equalIn];simp only [Sem.run_bind, run_underlying hu, Result.andThen_ok, hn];simp only [Std.Legacy.Range.forIn_eq_forIn_range', Std.Legacy.Range.size, List.range', List.forIn_cons, List.forIn_nil];simp [Sem.run_bind, Result.andThen_ok, p0, p1, p2, he]
 by_cases h1 : x = a
 .
  by_cases h2 : y = b
  .
   by_cases h3 : z = c
   .
    simp [h1, h2, h3]
   .
    simp [h1, h2, h3]
  .
   simp [h1, h2]
 .
  simp [h1]
/-- Whether a match, a problem is valid. -/
def jL (S : Int) (m : Mt) : Bool := decide ((0 <= m.a /\ m.a < S /\ -1 <= m.b /\ m.b < S /\ m.a ≠ m.b /\ ¬ (m.x = 0 /\ m.y = 0 /\ m.z = 0)) /\ (-100 <= m.x /\ m.x <= 100 /\ -100 <= m.y /\ m.y <= 100 /\ -100 <= m.z /\ m.z <= 100) /\ -274877906944 <= m.d /\ m.d <= 274877906944 /\ 1 <= m.w /\ m.w <= 1000)
theorem cN {S : Int} {m : Mt} : jL S m = true ↔ VM S m := by
 unfold jL;rw [decide_eq_true_iff];constructor
 .
  rintro ⟨⟨a1, a2, a3, a4, a5, a6⟩, ⟨b1, b2, b3, b4, b5, b6⟩, c1, c2, c3, c4⟩;exact ⟨a1, a2, a3, a4, a5, a6, b1, b2, b3, b4, b5, b6, c1, c2, c3, c4⟩
 .
  intro h;exact ⟨⟨h.a0, h.aS, h.b0, h.bS, h.ne, h.nz⟩, ⟨h.x1, h.x2, h.y1, h.y2, h.z1, h.z2⟩, h.d1, h.d2, h.w1, h.w2⟩
theorem eC {S : Int} {m : Mt} (h : ¬ VM S m) : jL S m = false := by
 rcases hb : jL S m with _ | _
 .
  rfl
 .
  exact absurd (cN.1 hb) h
def jg (S : Int) (ms : List Mt) : Bool := decide (1 <= S /\ S <= 8 /\ ms.length <= 64) && ms.all (jL S)
theorem bt {S : Int} {ms : List Mt} : jg S ms = true ↔ VP S ms := by
 unfold jg VP;rw [Bool.and_eq_true, decide_eq_true_iff, List.all_eq_true];constructor
 .
  rintro ⟨⟨h1, h2, h3⟩, h4⟩;exact ⟨h1, h2, h3, fun m hm => cN.1 (h4 m hm)⟩
 .
  rintro ⟨h1, h2, h3, h4⟩;exact ⟨⟨h1, h2, h3⟩, fun m hm => cN.2 (h4 m hm)⟩
theorem aV {S : Int} {ms : List Mt} (h : ¬ VP S ms) : jg S ms = false := by
 rcases hb : jg S ms with _ | _
 .
  rfl
 .
  exact absurd (bt.1 hb) h
theorem iI {S : Int} {n : Nat} : (1 <= S /\ S <= 8 /\ n <= 64) \/ S < 1 \/ (1 <= S /\ 8 < S) \/ (1 <= S /\ S <= 8 /\ 64 < n) := by omega
theorem og (S a b x y z : Int) : (0 <= a /\ a < S /\ -1 <= b /\ b < S /\ a ≠ b /\ ¬ (x = 0 /\ y = 0 /\ z = 0)) \/ a < 0 \/ (0 <= a /\ S <= a) \/ (0 <= a /\ a < S /\ b < -1) \/ (0 <= a /\ a < S /\ -1 <= b /\ S <= b) \/ (0 <= a /\ a < S /\ -1 <= b /\ b < S /\ a = b) \/ (0 <= a /\ a < S /\ -1 <= b /\ b < S /\ a ≠ b /\ x = 0 /\ y = 0 /\ z = 0) := by omega
theorem fA (S a b x y z d ww : Int) (w : World) :
  Calls Try.prog 121 #[.agg #[.int .i64 (a), .int .i64 (b), .int .i64 (x), .int .i64 (y), .int .i64 (z), .int .i64 (d), .int .i64 (ww)], .int .i64 (S)] w (fun e w' => e = .returned (.bool (jL S ⟨a, b, x, y, z, d, ww⟩)) /\ Ext w w') := by
 have HX := hid ((Ext.refl w).alloc (.cells #[.int .i64 (a), .int .i64 (b), .int .i64 (x), .int .i64 (y), .int .i64 (z), .int .i64 (d), .int .i64 (ww)] 90));obtain ⟨R, hR⟩ : ∃ R, jL S ⟨a, b, x, y, z, d, ww⟩ = R := ⟨_, rfl⟩;have HR := hid hR;rw [hR];clear hR
 rcases og S a b x y z with ⟨h1, h2, h3, h4, h5, h6⟩ | h1 | ⟨h1, h2⟩ | ⟨h1, h2, h3⟩ | ⟨h1, h2, h3, h4⟩ | ⟨h1, h2, h3, h4, h5⟩ | ⟨h1, h2, h3, h4, h5, h6, h7, h8⟩
 rotate_left
 .
  obtain rfl : R = false := by rw [<- HR.out]; exact eC (fun h => by have := h.a0; have := h.aS; have := h.b0; have := h.bS; have := h.ne; have := h.nz; simp only at *; omega)
  go_enter Try.func121, Try.ntmps121;go_wp2;go_ret;exact ⟨rfl, HX.out⟩
 .
  obtain rfl : R = false := by rw [<- HR.out]; exact eC (fun h => by have := h.a0; have := h.aS; have := h.b0; have := h.bS; have := h.ne; have := h.nz; simp only at *; omega)
  go_enter Try.func121, Try.ntmps121;go_wp2;go_ret;exact ⟨rfl, HX.out⟩
 .
  obtain rfl : R = false := by rw [<- HR.out]; exact eC (fun h => by have := h.a0; have := h.aS; have := h.b0; have := h.bS; have := h.ne; have := h.nz; simp only at *; omega)
  go_enter Try.func121, Try.ntmps121;go_wp2;go_ret;exact ⟨rfl, HX.out⟩
 .
  obtain rfl : R = false := by rw [<- HR.out]; exact eC (fun h => by have := h.a0; have := h.aS; have := h.b0; have := h.bS; have := h.ne; have := h.nz; simp only at *; omega)
  go_enter Try.func121, Try.ntmps121;go_wp2;go_ret;exact ⟨rfl, HX.out⟩
 .
  obtain rfl : R = false := by rw [<- HR.out]; exact eC (fun h => by have := h.a0; have := h.aS; have := h.b0; have := h.bS; have := h.ne; have := h.nz; simp only at *; omega)
  subst h5;go_enter Try.func121, Try.ntmps121;go_wp2;go_ret;exact ⟨rfl, HX.out⟩
 .
  obtain rfl : R = false := by rw [<- HR.out]; exact eC (fun h => by have := h.a0; have := h.aS; have := h.b0; have := h.bS; have := h.ne; have := h.nz; simp only at *; omega)
  subst h6 h7 h8;have g5 : (a == b) = false := by simpa using h5
  have g6 : ∀ w, (Op.equalIn 10000 22 (.agg #[.int .i64 0, .int .i64 0, .int .i64 0]) (.agg #[.int .i64 0, .int .i64 0, .int .i64 0])).run Try.prog w = .ok true w := fun w => by rw [eS 9998, decide_eq_true ⟨rfl, rfl, rfl⟩]
  go_enter Try.func121, Try.ntmps121;go_wp2;go_ret;exact ⟨rfl, HX.out⟩
 have g5 : (a == b) = false := by simpa using h5
 have g6 : ∀ w, (Op.equalIn 10000 22 (.agg #[.int .i64 x, .int .i64 y, .int .i64 z]) (.agg #[.int .i64 0, .int .i64 0, .int .i64 0])).run Try.prog w = .ok false w := fun w => by rw [eS 9998, decide_eq_false h6]
 have H6 := hid h6;clear h6;go_enter Try.func121, Try.ntmps121
 go_wp2_with fail
 go_loop [42] (fun iv => ∃ k : Nat, k <= 3 /\ iv = .int .i64 (k : Int) /\ Hid (∀ q, q < k -> -100 <= aA x y z q /\ aA x y z q <= 100)) (fun iv => 3 - (intOf iv).toNat)
 case atStart => exact ⟨0, by omega, rfl, hid (fun q hq => by omega)⟩
 case round =>
  obtain ⟨k, hk, rfl, HP⟩ := hrel
  by_cases hlt : k < 3
  .
   have q1 : decide (k < 3) = true := decide_eq_true hlt;have ik := n8 x y z hlt
   have HB : Hid (jL S ⟨a, b, x, y, z, d, ww⟩ = true -> -100 <= aA x y z k /\ aA x y z k <= 100) := hid (fun e => by
    have h := cN.1 e;have := h.x1; have := h.x2; have := h.y1; have := h.y2; have := h.z1; have := h.z2;simp only at *;unfold aA; split; omega; split <;> omega)
   obtain ⟨v, hv⟩ : ∃ v, aA x y z k = v := ⟨_, rfl⟩;rw [hv] at ik HB;have HV := hid hv;clear hv
   by_cases c1 : v < -100
   .
    obtain rfl : R = false := by
     rw [<- HR.out]
     rcases hb : jL S ⟨a, b, x, y, z, d, ww⟩ with _ | _
     .
      rfl
     .
      have := HB.out hb; omega
    go_wp2;go_ret
    exact ⟨rfl, HX.out⟩
   .
    by_cases c2 : 100 < v
    .
     obtain rfl : R = false := by
      rw [<- HR.out]
      rcases hb : jL S ⟨a, b, x, y, z, d, ww⟩ with _ | _
      .
       rfl
      .
       have := HB.out hb; omega
     go_wp2;go_ret
     exact ⟨rfl, HX.out⟩
    .
     go_wp2
     go_round
     case rel =>
      refine ⟨k + 1, by omega, by go_num, hid (fun q hq => ?_)⟩
      rcases Nat.lt_or_ge q k with h | h
      .
       exact HP.out q h
      .
       obtain rfl : q = k := by omega
       rw [HV.out]; omega
     case measure => simp [intOf]; omega
  .
   obtain rfl : k = 3 := by omega
   have HR2 : Hid (R = decide ((-274877906944 <= d /\ d <= 274877906944) /\ 1 <= ww /\ ww <= 1000)) := hid (by
    have e0 := HP.out 0 (by omega);have e1 := HP.out 1 (by omega);have e2 := HP.out 2 (by omega);simp only [aA] at e0 e1 e2;simp only [if_true, Nat.reduceEqDiff, if_false, Nat.succ_ne_zero] at e0 e1 e2;rw [<- HR.out];unfold jL;refine decide_eq_decide.2 ?_;have h6 := H6.out;simp only;omega)
   clear HP
   by_cases c1 : -274877906944 <= d
   .
    by_cases c2 : d <= 274877906944
    .
     by_cases c3 : 1 <= ww
     .
      by_cases c4 : ww <= 1000
      .
       obtain rfl : R = true := by rw [HR2.out]; exact decide_eq_true ⟨⟨c1, c2⟩, c3, c4⟩
       go_wp2;go_ret
       exact ⟨rfl, HX.out⟩
      .
       obtain rfl : R = false := by rw [HR2.out]; exact decide_eq_false (by omega)
       go_wp2;go_ret
       exact ⟨rfl, HX.out⟩
     .
      obtain rfl : R = false := by rw [HR2.out]; exact decide_eq_false (by omega)
      go_wp2;go_ret
      exact ⟨rfl, HX.out⟩
    .
     obtain rfl : R = false := by rw [HR2.out]; exact decide_eq_false (by omega)
     go_wp2;go_ret
     exact ⟨rfl, HX.out⟩
   .
    obtain rfl : R = false := by rw [HR2.out]; exact decide_eq_false (by omega)
    go_wp2;go_ret
    exact ⟨rfl, HX.out⟩
theorem bR (S : Int) (A : Option Addr) (n c : Nat) (ms : List Mt) (w : World) (h : MsAt w A n ms) :
  Calls Try.prog 43 #[.agg #[.int .i64 S, .slice A n c]] w (fun e w' => e = .returned (.bool (jg S ms)) /\ Ext w w') := by
 have HX := hid ((Ext.refl w).alloc (.cells #[.int .i64 S, .slice A n c] 76));have HP := hid (Blk.new w 76 #[.int .i64 S, .slice A n c]);have H := hid h;have HL := hid h.1;clear h;obtain ⟨R, hR⟩ : ∃ R, jg S ms = R := ⟨_, rfl⟩;have HR := hid hR;rw [hR];clear hR
 rcases iI (S := S) (n := n) with ⟨h1, h2, h3⟩ | h1 | ⟨h1, h2⟩ | ⟨h1, h2, h3⟩
 rotate_left
 .
  obtain rfl : R = false := by rw [<- HR.out]; exact aV (fun h => by have := h.1; omega)
  go_enter Try.func43, Try.ntmps43;go_wp2;go_ret;exact ⟨rfl, HX.out⟩
 .
  obtain rfl : R = false := by rw [<- HR.out]; exact aV (fun h => by have := h.2.1; omega)
  go_enter Try.func43, Try.ntmps43;go_wp2;go_ret;exact ⟨rfl, HX.out⟩
 .
  obtain rfl : R = false := by rw [<- HR.out]; exact aV (fun h => by have := h.2.2.1; have := HL.out; omega)
  go_enter Try.func43, Try.ntmps43;go_wp2;go_ret;exact ⟨rfl, HX.out⟩
 go_enter Try.func43, Try.ntmps43
 go_wp2_with fail
 generalize w.alloc _ = w1 at HX HP |-
 go_loopg [22] n (fun f iv wr => ∃ k : Nat, f = n - k /\ k <= n /\ iv = .int .i64 (k : Int) /\ Hid (∀ m ∈ ms.take k, jL S m = true) /\ Hid (Blk wr w.heap.size 76 #[.int .i64 S, .slice A n c]) /\ Hid (Ext w wr))
 case atStart => exact ⟨0, rfl, by omega, rfl, hid (by simp), HP, HX⟩
 case round =>
  clear HX HP;obtain ⟨k, rfl, hk, rfl, HV, HP, HX⟩ := hrel
  by_cases hlt : k < n
  .
   have q1 : decide (k < n) = true := decide_eq_true hlt;obtain ⟨g, o, ⟨a, b, x, y, z, d, ww⟩, rfl, hm, hmem, x0, x1, x2, x3, x4, x5, x6⟩ := (H.out.ext HX.out).get hlt;simp only at x0 x1 x2 x3 x4 x5 x6;have HM := hid hm;have HME := hid hmem;clear hm hmem
   go_upto_region 6 with (fail)
   have hXa : Ext wr (wr.alloc (.cells #[.int .i64 (a), .int .i64 (b), .int .i64 (x), .int .i64 (y), .int .i64 (z), .int .i64 (d), .int .i64 (ww)] 90)) := (Ext.refl _).alloc _;have hB := Blk.new wr 90 #[.int .i64 (a), .int .i64 (b), .int .i64 (x), .int .i64 (y), .int .i64 (z), .int .i64 (d), .int .i64 (ww)];replace HX := hid (HX.out.trans hXa);replace HP := hid (HP.out.ext hXa);clear hXa x0 x1 x2 x3 x4 x5 x6;generalize wr.heap.size = gm at hB |-;generalize wr.alloc _ = w2 at hB HX HP |-;have y0 := hB.cell 0;have y1 := hB.cell 1;have y2 := hB.cell 2;have y3 := hB.cell 3;have y4 := hB.cell 4;have y5 := hB.cell 5;have y6 := hB.cell 6;have p0 := HP.out.cell 0;simp only [List.getElem?_toArray, List.getElem?_cons_zero, List.getElem?_cons_succ] at y0 y1 y2 y3 y4 y5 y6 p0;clear hB;obtain ⟨r, hr⟩ : ∃ r, jL S ⟨a, b, x, y, z, d, ww⟩ = r := ⟨_, rfl⟩;have HB := hid hr;clear hr
   go_wp2_with fail
   refine (fA S a b x y z d ww _).mono ?_;rw [HB.out];rintro e w3 ⟨rfl, hX⟩;replace HX := hid (HX.out.trans hX);replace HP := hid (HP.out.ext hX);clear hX y0 y1 y2 y3 y4 y5 y6 p0
   by_cases hrr : r = true
   .
    subst hrr;go_wp2;go_roundg (n - (k + 1))
    case rel =>
     refine ⟨k + 1, rfl, by omega, by go_num, hid (fun m hm => ?_), HP, HX⟩;rw [List.take_add_one, HM.out] at hm
     rcases List.mem_append.1 hm with h | h
     .
      exact HV.out m h
     .
      simp at h; subst h; exact HB.out
    case measure => omega
   .
    obtain rfl : r = false := by simpa using hrr
    obtain rfl : R = false := by
     rw [<- HR.out];refine aV (fun h => ?_);have h1 := cN.2 (h.2.2.2 _ HME.out);rw [HB.out] at h1
     cases h1
    go_wp2;go_ret
    exact ⟨rfl, HX.out⟩
  .
   obtain rfl : k = n := by omega
   obtain rfl : R = true := by
    rw [<- HR.out];refine bt.2 ⟨h1, h2, by have := HL.out; omega, fun m hm => cN.1 (HV.out m ?_)⟩;rw [List.take_of_length_le (by have := HL.out; omega)];exact hm
   go_wp2;go_ret
   exact ⟨rfl, HX.out⟩
/-- Block g holds no integer of kind k. -/
def NoKind (k : IntKind) (w : World) (g : Nat) : Prop := ∃ t cs, Blk w g t cs /\ ∀ v ∈ cs, ∀ x, v ≠ .int k x
theorem NoKind.cell {k : IntKind} {w : World} {g : Nat} (h : NoKind k w g) {i : Nat} {x : Int} : w.cell? ⟨g, i, none⟩ ≠ some (.int k x) := by
 obtain ⟨t, cs, h1, h2⟩ := h;intro e;rw [h1.cell i] at e;exact h2 _ (Array.mem_of_getElem? e) x rfl
theorem Ints.keepsK {k : IntKind} {w w' : World} {A : Option Addr} {n : Nat} {xs : List Int} {L : List Nat} (h : Ints k w A n xs) (hk : Keeps L w w') (hN : ∀ g ∈ L, NoKind k w g) : Ints k w' A n xs := by
 refine ⟨h.1, h.2.1, fun hn => ?_⟩;obtain ⟨b, off, hA, hc⟩ := h.2.2 hn;refine ⟨b, off, hA, fun j u hj => ?_⟩;have hcell := hc j u hj
 have hne : b ∉ L := by
  intro e;rw [List.getElem?_map] at hj
  rcases hxj : xs[j]? with _ | y
  .
   rw [hxj] at hj; cases hj
  .
   rw [hxj] at hj;simp only [Option.map_some, Option.some.injEq] at hj;rw [<- hj] at hcell;exact (hN b e).cell hcell
 rw [<- hcell];exact World.cell?_of_block (w := w) (hk.block b (World.block_lt_of_cell? w _ hcell) hne)
theorem NatV.keepsK {k : IntKind} {B : Int} {w w' : World} {x : Value} {n : Nat} {L : List Nat} (h : NatV k B w x n) (hk : Keeps L w w') (hN : ∀ g ∈ L, NoKind k w g) : NatV k B w' x n := by
 obtain ⟨A, l, c, xs, h1, h2, h3⟩ := h;exact ⟨A, l, c, xs, h1, h2.keepsK hk hN, h3⟩
theorem NumX.keeps32 {w w' : World} {x : Value} {q : Rat} {L : List Nat} {K : Nat} (h : NumX w x q K) (hk : Keeps L w w') (hN : ∀ g ∈ L, NoKind .u32 w g) : NumX w' x q K := by
 obtain ⟨s, n, d, ⟨vn, vd, h1, h2, h3⟩, h4⟩ := h;exact ⟨s, n, d, ⟨vn, vd, h1, NatV.keepsK h2 hk hN, NatV.keepsK h3 hk hN⟩, h4⟩
section
variable {K base m n gt ct : Nat} {te tr : TypeId} {w w' : World} {vs : List Value} {T : Nat -> Nat -> Rat}
theorem TabG.keeps32 {L : List Nat} (h : TabG 3 (Tri fun w v q => NumX w v q K) te tr base w gt ct m n vs T) (he : Keeps L w w') (hL : ∀ g ∈ L, NoKind .u32 w g) (hn : ∀ g ∈ L, g ≠ gt /\ ∀ v ∈ vs, v.ownBlock ≠ some g) : TabG 3 (Tri fun w v q => NumX w v q K) te tr base w' gt ct m n vs T := by
 obtain ⟨hl, rows, hr, hnum⟩ := h.tbl;refine ⟨aj h.out he fun g hg hl => ?_, ⟨hl, rows, hr.keeps he fun v hv g hg hl => (hn g hl).2 v hv hg, fun i r hi => (hnum i r hi).imp fun cs x hx => ?_⟩, h.ni.imp id fun q => ⟨fun v hv => (q.1 v hv).keeps he fun g hg hl => (hn g hl).2 v hv hg, ?_⟩⟩
 .
  simp [Value.ownBlock] at hg;subst hg;exact (hn _ hl).1 rfl
 .
  obtain ⟨s, A, l, c, B, m, k, e, hx⟩ := hx;exact ⟨s, A, l, c, B, m, k, e, hx.keeps32 he hL⟩
 .
  obtain ⟨t, cs, h1, h2⟩ := q.2;exact ⟨t, cs, (he.block gt h1.lt fun hl => (hn gt hl).1 rfl).trans h1, h2⟩
end
/-- A row of 64-bit integers that fills its block. -/
theorem fB {w : World} {base g n : Nat} {e : TypeId} {xs : List Value} (h : w.ownsRow base e 1 (.slice (some ⟨g, 0, none⟩) n n) n xs) (hx : ∀ u ∈ xs, ∃ x, u = .int .i64 x) : NoKind .u32 w g := by
 obtain ⟨cur, hB, _, _, _, h3, h4⟩ := cA h;refine ⟨e, cur, hB, fun v hv x => ?_⟩
 have : v ∈ xs := by
  rw [<- h4, List.take_of_length_le (by simp [h3])]
  simpa using hv
 obtain ⟨y, rfl⟩ := hx v this;intro q
 cases q
/-- What a table's blocks are among. -/
def sL (L : List Nat) (gt : Nat) (vs : List Value) : Prop := gt ∈ L /\ ∀ v ∈ vs, ∀ g, v.ownBlock = some g -> g ∈ L
def br (gt : Nat) (vs : List Value) : List Nat := gt :: vs.filterMap Value.ownBlock
theorem dy (gt : Nat) (vs : List Value) : sL (br gt vs) gt vs := ⟨List.mem_cons_self, fun v hv g hg => List.mem_cons_of_mem _ (List.mem_filterMap.2 ⟨v, hv, hg⟩)⟩
theorem TabG.tabL_low {α : Type} {k base m n gt ct : Nat} {te tr : TypeId} {R : World -> List Value -> α -> Prop} {w : World} {vs : List Value} {T : Nat -> Nat -> α} (h : TabG k R te tr base w gt ct m n vs T) : ∀ g ∈ br gt vs, base <= g /\ g < w.heap.size := fun g hg => by
 rcases List.mem_cons.1 hg with rfl | hg
 .
  exact h.low
 .
  obtain ⟨v, hv, hvg⟩ := List.mem_filterMap.1 hg;exact h.tbl.low hv hvg
theorem rY : Elem Try.prog 78 61 1 24 (.slice none 0 0) := Elem.mk' (by kernel_rfl) (by kernel_rfl) rfl (by decide)
theorem iJ (ms : List Mt) (m : Mt) (i j : Nat) : cJ (ms ++ [m]) i j = cJ ms i j + m.w * aG m i * aG m j := by
 rw [jt]; simp [cJ]
theorem iK (ms : List Mt) (m : Mt) (i : Nat) : cK (ms ++ [m]) i = cK ms i - m.w * m.d * aG m i := by
 rw [ju]; simp [cK]; omega
theorem dz {α : Type} {ms : List α} {k : Nat} {m : α} (h : ms[k]? = some m) : ms.take (k + 1) = ms.take k ++ [m] := by
 rw [List.take_add_one, h]; rfl
theorem iL {S : Int} {ms : List Mt} (h : ∀ m ∈ ms, VM S m) (k i j : Nat) (_hk : k <= 64) : -640000000 <= cJ (ms.take k) i j /\ cJ (ms.take k) i j <= 640000000 := by
 have h1 := dv (ms := ms.take k) (fun m hm => h m (List.mem_of_mem_take hm)) i j;have h2 : (ms.take k).length <= k := List.length_take_le _ _;omega
theorem iM {S : Int} {ms : List Mt} (h : ∀ m ∈ ms, VM S m) (k i : Nat) (_hk : k <= 64) : -1759218604441600000 <= cK (ms.take k) i /\ cK (ms.take k) i <= 1759218604441600000 := by
 have h1 := dw (ms := ms.take k) (fun m hm => h m (List.mem_of_mem_take hm)) i;have h2 : (ms.take k).length <= k := List.length_take_le _ _;omega
theorem iN (vs : List Value) (q : Nat) (z v : Value) : (vs ++ List.replicate (q + 1) z).set vs.length v = (vs ++ [v]) ++ List.replicate q z := by
 rw [List.set_append_right _ _ (Nat.le_refl _), Nat.sub_self, List.replicate_succ, List.set_cons_zero, List.append_assoc];rfl
theorem qe (gt nn aa bb ga ca gm gc : Nat) (ee ww ci cj : Int) (w : World) (ha : w.cell? ⟨gt, aa, none⟩ = some (.slice (some ⟨ga, 0, none⟩) nn ca)) (he : w.cell? ⟨ga, bb, none⟩ = some (.int .i64 ee)) (hw : w.cell? ⟨gm, 6, none⟩ = some (.int .i64 ww)) (hci : w.cell? ⟨gc, aa, none⟩ = some (.int .i64 ci)) (hcj : w.cell? ⟨gc, bb, none⟩ = some (.int .i64 cj)) (_hA1 : aa < nn) (_hB1 : bb < nn) (_x1 : IntKind.i64.wrap (ww * ci) = ww * ci) (_x2 : IntKind.i64.wrap (ww * ci * cj) = ww * ci * cj) (_x3 : IntKind.i64.wrap (ee + ww * ci * cj) = ee + ww * ci * cj) : aF Try.prog Try.f40 21 21 76 w [55, 56, 57, 58, 59, 60, 61, 62, 63, 64, 65, 66, 67, 68, 69, 70, 71, 72, 73, 74, 75] [.c (.slice (some ⟨gt, 0, none⟩) nn nn), .c (.int .i64 (aa : Int)), .c (.pointer (some ⟨gt, aa, none⟩)), .c (.slice (some ⟨ga, 0, none⟩) nn ca), .c (.int .i64 (bb : Int)), .c (.pointer (some ⟨ga, bb, none⟩)), .c (.int .i64 (ee)), .c (.pointer (some ⟨gm, 6, none⟩)), .c (.int .i64 (ww)), .c (.slice (some ⟨gc, 0, none⟩) nn nn), .c (.int .i64 (aa : Int)), .c (.pointer (some ⟨gc, aa, none⟩)), .c (.int .i64 (ci)), .c (.int .i64 (ww * ci)), .c (.slice (some ⟨gc, 0, none⟩) nn nn), .c (.int .i64 (bb : Int)), .c (.pointer (some ⟨gc, bb, none⟩)), .c (.int .i64 (cj)), .c (.int .i64 (ww * ci * cj)), .c (.int .i64 (ee + ww * ci * cj)), .c (.pointer (some ⟨ga, bb, none⟩))] [(6, .slice (some ⟨gt, 0, none⟩) nn nn), (10, .pointer (some ⟨gm, 0, none⟩)), (11, .slice (some ⟨gc, 0, none⟩) nn nn), (12, .int .i64 (aa : Int)), (13, .int .i64 (bb : Int))] := by
 refine aJ [[], [], [0, 1], [2], [], [3, 4], [5], [], [7], [], [], [9, 10], [11], [8, 12], [], [], [14, 15], [16], [13, 17], [6, 18], [3, 4]] (by kernel_rfl) (by kernel_rfl) rfl trivial ?_;simp only [ae, Try.f40, ab, Option.bind_some, Nat.reduceBEq, if_true, if_false, Bool.false_eq_true, Option.getD_some];simp only [List.take_succ_cons, List.take_zero]
 repeat' first | refine ⟨?_, ?_⟩ | fail
 all_goals first | (intro us W b hJ K hK0 hK Qz; simp only [aC, al, am, List.getD_cons_succ, List.getD_cons_zero]) | exact True.intro
 all_goals try (intros; have q0 := Ext.cell hJ ha; have q1 := Ext.cell hJ he; have q2 := Ext.cell hJ hw; have q3 := Ext.cell hJ hci; have q4 := Ext.cell hJ hcj; go_simp; exact hK0 _ rfl)
theorem qf (gr nn aa gm gc : Nat) (ee ww dd ci : Int) (w : World) (he : w.cell? ⟨gr, aa, none⟩ = some (.int .i64 ee)) (hw : w.cell? ⟨gm, 6, none⟩ = some (.int .i64 ww)) (hd : w.cell? ⟨gm, 5, none⟩ = some (.int .i64 dd)) (hci : w.cell? ⟨gc, aa, none⟩ = some (.int .i64 ci)) (_hA1 : aa < nn) (_x1 : IntKind.i64.wrap (ww * dd) = ww * dd) (_x2 : IntKind.i64.wrap (ww * dd * ci) = ww * dd * ci) (_x3 : IntKind.i64.wrap (ee - ww * dd * ci) = ee - ww * dd * ci) : aF Try.prog Try.f40 23 16 93 w [77, 78, 79, 80, 81, 82, 83, 84, 85, 86, 87, 88, 89, 90, 91, 92] [.c (.slice (some ⟨gr, 0, none⟩) nn nn), .c (.int .i64 (aa : Int)), .c (.pointer (some ⟨gr, aa, none⟩)), .c (.int .i64 (ee)), .c (.pointer (some ⟨gm, 6, none⟩)), .c (.int .i64 (ww)), .c (.pointer (some ⟨gm, 5, none⟩)), .c (.int .i64 (dd)), .c (.int .i64 (ww * dd)), .c (.slice (some ⟨gc, 0, none⟩) nn nn), .c (.int .i64 (aa : Int)), .c (.pointer (some ⟨gc, aa, none⟩)), .c (.int .i64 (ci)), .c (.int .i64 (ww * dd * ci)), .c (.int .i64 (ee - ww * dd * ci)), .c (.pointer (some ⟨gr, aa, none⟩))] [(8, .slice (some ⟨gr, 0, none⟩) nn nn), (10, .pointer (some ⟨gm, 0, none⟩)), (11, .slice (some ⟨gc, 0, none⟩) nn nn), (12, .int .i64 (aa : Int))] := by
 refine aJ [[], [], [0, 1], [2], [], [4], [], [6], [5, 7], [], [], [9, 10], [11], [8, 12], [3, 13], [0, 1]] (by kernel_rfl) (by kernel_rfl) rfl trivial ?_;simp only [ae, Try.f40, ab, Option.bind_some, Nat.reduceBEq, if_true, if_false, Bool.false_eq_true, Option.getD_some];simp only [List.take_succ_cons, List.take_zero]
 repeat' first | refine ⟨?_, ?_⟩ | fail
 all_goals first | (intro us W b hJ K hK0 hK Qz; simp only [aC, al, am, List.getD_cons_succ, List.getD_cons_zero]) | exact True.intro
 all_goals try (intros; have q0 := Ext.cell hJ he; have q1 := Ext.cell hJ hw; have q2 := Ext.cell hJ hd; have q3 := Ext.cell hJ hci; go_simp; exact hK0 _ rfl)
theorem TabG.keepsU {te tr : TypeId} {base : Nat} {w w' : World} {gt ct m n g : Nat} {vs : List Value} {T : Nat -> Nat -> Int} (h : TabG 1 dk te tr base w gt ct m n vs T) (he : Keeps [g] w w') (hg : g ∉ br gt vs) : TabG 1 dk te tr base w' gt ct m n vs T := by
 obtain ⟨hl, rows, hr, hn⟩ := h.tbl;have hI := dy gt vs;exact ⟨aj h.out he (fun q hq hl => by simp [Value.ownBlock] at hq hl; subst hq hl; exact hg hI.1), ⟨hl, rows, hr.keeps he (fun v hv q hq hl => by simp at hl; subst hl; exact hg (hI.2 v hv q hq)), fun i r hi => (hn i r hi).any w'⟩, .inl rfl⟩
theorem gL (S nn : Nat) (A : Option Addr) (n c : Nat) (ms : List Mt) (w : World) (h : MsAt w A n ms) (hv : VP S ms) (hN : nn = 3 * S) :
  Calls Try.prog 40 #[.agg #[.int .i64 (S : Int), .slice A n c]] w (fun e w' => ∃ gt gr vs, e = .returned (.tuple #[.slice (some ⟨gt, 0, none⟩) nn nn, .slice (some ⟨gr, 0, none⟩) nn nn, .int .i64 0]) /\ TabG 1 dk 3 61 w.heap.size w' gt nn nn nn vs (cJ ms) /\ RowI w.heap.size w' gr nn nn (cK ms) /\ gr ∉ br gt vs /\ (∀ v ∈ vs, ∃ g, v = .slice (some ⟨g, 0, none⟩) nn nn) /\ Ext w w') := by
 have hS1 : 1 <= S := by have := hv.1; omega
 have hS8 : S <= 8 := by have := hv.2.1; omega
 have hn64 : n <= 64 := by have := hv.2.2.1; have := h.1; omega
 have hNb : nn <= 24 := by omega
 have hqN : IntKind.i64.wrap (3 * (S : Int)) = (nn : Int) := by rw [IntWalk.i64_in _ (by omega)]; omega
 have HNN := hid hN;have HX := hid ((Ext.refl w).alloc (.cells #[.int .i64 (S : Int), .slice A n c] 76));have HP := hid (Blk.new w 76 #[.int .i64 (S : Int), .slice A n c]);have HB := hid (bt.2 hv);have HVM := hid hv.2.2.2;have H := hid h;have HL := hid h.1;clear h hv hN;go_enter Try.func40, Try.ntmps40
 go_upto_region 1 with (fail)
 generalize w.alloc _ = w1 at HX HP |-;have p0 := HP.out.cell 0;have p1 := HP.out.cell 1;simp only [List.getElem?_toArray, List.getElem?_cons_zero, List.getElem?_cons_succ] at p0 p1
 go_wp2_with fail
 refine (bR (S : Int) A n c ms _ (H.out.ext HX.out)).mono ?_;rw [HB.out];rintro e w2 ⟨rfl, hX⟩;replace HX := hid (HX.out.trans hX);replace HP := hid (HP.out.ext hX);clear hX p0 p1;have p0 := HP.out.cell 0;simp only [List.getElem?_toArray, List.getElem?_cons_zero] at p0;have hs2 := HX.out.size;have hs3 := HP.out.lt
 go_upto_region 5 with (at_make; refine ap w2 rY rfl rfl _ _ rfl w.heap.size _ _ _ _ nn nn rfl rfl (by first | rfl | omega) (by first | rfl | omega) (Nat.le_refl _) (by omega) (by unfold maxLen; omega) hs2 ?_; intro w3 hown hext hsz)
 replace HX := hid (HX.out.trans hext);replace HP := hid (HP.out.ext hext);clear p0 hext hs2;have hgt : w.heap.size < w2.heap.size := hs3;generalize w2.heap.size = gt at hown hgt hsz |-;have HO := hid hown;clear hown hs3
 go_wp2_with fail
 go_loopg [24] nn (fun f iv wr => ∃ (k : Nat) (vs : List Value), f = nn - k /\ k <= nn /\ iv = .int .i64 (k : Int) /\ Hid (wr.ownsRow w.heap.size 61 1 (.slice (some ⟨gt, 0, none⟩) nn nn) nn (vs ++ List.replicate (nn - k) (.slice none 0 0))) /\ Hid (Tbl 1 dk 3 w.heap.size wr k nn vs (fun _ _ => 0)) /\ Hid (Blk wr w.heap.size 76 #[.int .i64 (S : Int), .slice A n c]) /\ Hid (Ext w wr) /\ Hid (∀ g ∈ vs.filterMap Value.ownBlock, w.heap.size < g) /\ Hid (∀ v ∈ vs, ∃ g, v = .slice (some ⟨g, 0, none⟩) nn nn))
 case atStart => exact ⟨0, [], rfl, by omega, rfl, hid (by rw [Nat.sub_zero, List.nil_append]; exact HO.out), hid (Tbl.nil 1 dk _ _ _ nn _), HP, HX, hid (by simp), hid (by simp)⟩
 case round =>
  clear HO HP HX hsz;obtain ⟨k, vs, rfl, hk, rfl, HO, HT, HP, HX, HLP, HFU⟩ := hrel
  by_cases hlt : k < nn
  .
   have q1 : decide (k < nn) = true := decide_eq_true hlt;have hs2 := HX.out.size
   go_upto_region 9 with (at_make; refine ap wr dX rfl rfl _ _ rfl w.heap.size _ _ _ _ nn nn rfl rfl (by first | rfl | omega) (by first | rfl | omega) (Nat.le_refl _) (by omega) (by unfold maxLen; omega) hs2 ?_; intro w4 hown hext hsz; have HOX := hid (World.ownsRow.ext' HO.out hext); have hfr := aL HOX.out k; have hxe := af HOX.out (i := k) (u := .slice none 0 0) (by rw [List.getElem?_append_right (by rw [HT.out.len]; omega), HT.out.len, Nat.sub_self, List.getElem?_replicate, if_pos (by omega)]))
   have hgn : ∀ v ∈ vs, v.ownBlock ≠ (Value.slice (some ⟨wr.heap.size, 0, none⟩) nn nn).ownBlock := fun v hv e => by
    have := HT.out.low hv (g := wr.heap.size) (by rw [e]; simp [Value.ownBlock]);omega
   have hput := bq (i := k) (u := .slice (some ⟨wr.heap.size, 0, none⟩) nn nn) HOX.out;have hgg : gt ≠ wr.heap.size := by have := (cB HO.out (g := gt) (by simp [Value.ownBlock])).2; omega
   have hkp : Keeps [gt] w4 (w4.setCell ⟨gt, k, none⟩ (.slice (some ⟨wr.heap.size, 0, none⟩) nn nn)) := (Keeps.refl [gt] w4).setCell (.inl (by simp)) _
   have hne1 : ∀ v ∈ vs, v.ownBlock ≠ some gt := fun v hv e => by
    obtain ⟨i, hi, rfl⟩ := List.getElem_of_mem hv;obtain ⟨v', r, h1, h2, _⟩ := HT.out.row (i := i) (by rw [<- HT.out.len]; exact hi);rw [List.getElem?_eq_getElem hi] at h1;injection h1 with h1;subst h1
    rcases de h2 HO.out (by decide) with h3 | h3
    .
     rw [h3] at e; cases e
    .
     rw [e] at h3; exact h3 (by simp [Value.ownBlock])
   have hT4 : Tbl 1 dk 3 w.heap.size (w4.setCell ⟨gt, k, none⟩ (.slice (some ⟨wr.heap.size, 0, none⟩) nn nn)) (k + 1) nn (vs ++ [.slice (some ⟨wr.heap.size, 0, none⟩) nn nn]) (fun _ _ => 0) := by
    have h1 := HT.out.ext bX hext;obtain ⟨hl, rows, hr, hn⟩ := h1;have h2 : Tbl 1 dk 3 w.heap.size (w4.setCell ⟨gt, k, none⟩ (.slice (some ⟨wr.heap.size, 0, none⟩) nn nn)) k nn vs (fun _ _ => 0) := ⟨hl, rows, hr.keeps hkp (fun v hv g hg hl2 => by simp at hl2; subst hl2; exact hne1 v hv hg), fun i r hi => (hn i r hi).any _⟩;have h3 := aj hown hkp (fun g hg hl2 => by simp [Value.ownBlock] at hg; simp at hl2; omega);refine (h2.push h3 (f := fun _ => 0) (NumK.new 1 dk _ _ nn (by simp) rfl rfl (x := 0) (fun i hi => by rw [List.getElem?_replicate, if_pos (by omega), Nat.mod_one]; rfl)) hgn).congr (fun i j _ _ => by split <;> rfl)
   have HT4 := hid hT4
   have HO4 : Hid ((w4.setCell ⟨gt, k, none⟩ (.slice (some ⟨wr.heap.size, 0, none⟩) nn nn)).ownsRow w.heap.size 61 1 (.slice (some ⟨gt, 0, none⟩) nn nn) nn ((vs ++ [.slice (some ⟨wr.heap.size, 0, none⟩) nn nn]) ++ List.replicate (nn - (k + 1)) (.slice none 0 0))) := hid (by
    rw [show nn - k = (nn - (k + 1)) + 1 by omega] at hput;have e := iN vs (nn - (k + 1)) (.slice none 0 0) (.slice (some ⟨wr.heap.size, 0, none⟩) nn nn);rw [HT.out.len] at e;rw [e] at hput;exact hput)
   have hpl := HP.out.lt;replace HP := hid ((HP.out.ext hext).far (p := ⟨gt, k, none⟩) (by simp only; omega) (.slice (some ⟨wr.heap.size, 0, none⟩) nn nn));replace HX := hid ((HX.out.trans hext).setCell (p := ⟨gt, k, none⟩) (by simp only; omega) (.slice (some ⟨wr.heap.size, 0, none⟩) nn nn));clear hgn hput hgg hkp hne1 hT4 HO HT hext hown hsz HOX hfr hxe;go_wp2;go_roundg (nn - (k + 1))
   case rel => exact ⟨k + 1, _, rfl, by omega, by go_num, HO4, HT4, HP, HX, hid (fun g hg => by
    rw [List.filterMap_append] at hg
    rcases List.mem_append.1 hg with h | h
    .
     exact HLP.out g h
    .
     simp [Value.ownBlock] at h; omega), hid (fun v hv => by
    rcases List.mem_append.1 hv with h | h
    .
     exact HFU.out v h
    .
     simp at h; subst h; exact ⟨_, rfl⟩)⟩
   case measure => omega
  .
   obtain rfl : nn = k := by omega
   have hT0 : TabG 1 dk 3 61 w.heap.size wr gt nn nn nn vs (fun _ _ => 0) := ⟨by have := HO.out; rw [Nat.sub_self, List.replicate_zero, List.append_nil] at this; exact this, HT.out, .inl rfl⟩;have HT0 := hid hT0;have hs2 := HX.out.size;clear hT0 HO HT
   go_upto_region 11 with (at_make; refine ap wr dX rfl rfl _ _ rfl w.heap.size _ _ _ _ nn nn rfl rfl (by first | rfl | omega) (by first | rfl | omega) (Nat.le_refl _) (by omega) (by unfold maxLen; omega) hs2 ?_; intro w5 hown hext hsz)
   have HLOW : Hid (∀ g ∈ br gt vs, w.heap.size <= g /\ g < wr.heap.size) := hid HT0.out.tabL_low;have hwr : w.heap.size <= wr.heap.size := hs2;have hpl := HP.out.lt
   have HLOWP : Hid (∀ g ∈ br gt vs, w.heap.size < g) := hid (fun g hg => by
    rcases List.mem_cons.1 hg with rfl | hg
    .
     omega
    .
     exact HLP.out g hg)
   replace HT := hid (HT0.out.ext bX hext);replace HX := hid (HX.out.trans hext);replace HP := hid (HP.out.ext hext);generalize wr.heap.size = gr at hown HLOW hwr hpl hsz |-;have HR := hid (RowI.zero hown);have hgrn : gr ∉ br gt vs := fun h => by have := HLOW.out _ h; omega
   have HGR := hid hgrn;clear hext hown hgrn HT0;have p0 := HP.out.cell 0;have p1 := HP.out.cell 1;simp only [List.getElem?_toArray, List.getElem?_cons_zero, List.getElem?_cons_succ] at p0 p1
   go_wp2_with fail
   clear p0 p1
   go_loopg [38] n (fun f iv wz => ∃ k : Nat, f = n - k /\ k <= n /\ iv = .int .i64 (k : Int) /\ Hid (TabG 1 dk 3 61 w.heap.size wz gt nn nn nn vs (cJ (ms.take k))) /\ Hid (RowI w.heap.size wz gr nn nn (cK (ms.take k))) /\ Hid (Blk wz w.heap.size 76 #[.int .i64 (S : Int), .slice A n c]) /\ Hid (Ext w wz))
   case atStart => exact ⟨0, rfl, by omega, rfl, hid (HT.out.congr (fun i j _ _ => by simp [cJ])), hid (HR.out.congr (fun i _ => by simp [cK])), HP, HX⟩
   case round =>
    clear HT HR HP HX hsz;obtain ⟨k, rfl, hk, rfl, HT, HR, HP, HX⟩ := hrel
    by_cases hkl : k < n
    .
     have q1 : decide (k < n) = true := decide_eq_true hkl;obtain ⟨g, o, mt, rfl, hm, hmem, x0, x1, x2, x3, x4, x5, x6⟩ := (H.out.ext HX.out).get hkl;have hvm := HVM.out mt hmem;have HTK := hid (dz hm);have HCB := hid (fun u => bE hvm u);have HTN := hid (fun i j => nE hvm i j);have HTR := hid (fun i => nF hvm i);have HTD := hid (kg hvm);have HBN := hid (fun i j => iL HVM.out k i j (by omega));have HBR := hid (fun i => iM HVM.out k i (by omega));have HVK := hid hvm;have hw1 := hvm.w1;have hw2 := hvm.w2;obtain ⟨⟨a, b, x, y, z, d, ww⟩, hmm⟩ : ∃ m', mt = m' := ⟨_, rfl⟩;have hmw : mt.w = ww := by rw [hmm]
     have hmd : mt.d = d := by rw [hmm]
     rw [hmw] at HTN HTR HTD hw1 hw2;rw [hmd] at HTR HTD;rw [hmm] at x0 x1 x2 x3 x4 x5 x6;simp only at x0 x1 x2 x3 x4 x5 x6;have HMW := hid hmw;have HMD := hid hmd;clear hmw hmd;have HMM := hid hmm;clear hm hmem hvm hmm
     go_upto_region 14 with (fail)
     have hgm1 : gr < wr.heap.size := HR.out.low.2;have hXa : Ext wr (wr.alloc (.cells #[.int .i64 (a), .int .i64 (b), .int .i64 (x), .int .i64 (y), .int .i64 (z), .int .i64 (d), .int .i64 (ww)] 90)) := (Ext.refl _).alloc _;have hB := Blk.new wr 90 #[.int .i64 (a), .int .i64 (b), .int .i64 (x), .int .i64 (y), .int .i64 (z), .int .i64 (d), .int .i64 (ww)];replace HX := hid (HX.out.trans hXa);replace HP := hid (HP.out.ext hXa);replace HT := hid (HT.out.ext bX hXa);replace HR := hid (HR.out.ext hXa);clear hXa x0 x1 x2 x3 x4 x5 x6;generalize wr.heap.size = gm at hB hgm1 |-;generalize wr.alloc _ = w6 at hB HX HP HT HR |-;have HM := hid hB;clear hB;have y0 := HM.out.cell 0;have y1 := HM.out.cell 1;have y2 := HM.out.cell 2;have y3 := HM.out.cell 3;have y4 := HM.out.cell 4;have y5 := HM.out.cell 5;have y6 := HM.out.cell 6;have p0 := HP.out.cell 0;have p1 := HP.out.cell 1;simp only [List.getElem?_toArray, List.getElem?_cons_zero, List.getElem?_cons_succ] at y0 y1 y2 y3 y4 y5 y6 p0 p1
     go_wp2_with fail
     have hco := oe (S := S) (N := nn) (n := n) (c := c) (A := some ⟨g, o, none⟩) (m := mt) (w := w6) HVK.out hS8 HNN.out;rw [HMM.out] at hco;unfold Mt.val at hco;simp only at hco;rw [<- HMM.out] at hco;refine hco.mono ?_;clear hco;rintro e w7 ⟨gc, rfl, hrc, hX⟩;clear y0 y1 y2 y3 y4 y5 y6 p0 p1;replace HX := hid (HX.out.trans hX);replace HP := hid (HP.out.ext hX);replace HT := hid (HT.out.ext bX hX);replace HR := hid (HR.out.ext hX);have hm6 := HM.out.lt;replace HM := hid (HM.out.ext hX);have hgc : gm < gc := by have := hrc.low.1; omega
     clear hX hm6;have HC := hid hrc;clear hrc;have hgcn : ∀ g' ∈ br gt vs, g' ≠ gc /\ g' ≠ gm := fun g' hg => by have := HLOW.out g' hg; omega
     have HGC : Hid (gc ∉ br gt vs) := hid (fun h => (hgcn gc h).1 rfl);have HGM : Hid (gm ∉ br gt vs) := hid (fun h => (hgcn gm h).2 rfl);clear hgcn;have HGC1 : Hid (gc ∉ gr :: br gt vs) := hid (fun h => by rcases List.mem_cons.1 h with h | h; omega; exact HGC.out h);have HGM1 : Hid (gm ∉ gr :: br gt vs) := hid (fun h => by rcases List.mem_cons.1 h with h | h; omega; exact HGM.out h)
     go_wp2_with fail
     go_loopg [47] nn (fun f iv wz => ∃ q : Nat, f = nn - q /\ q <= nn /\ iv = .int .i64 (q : Int) /\ Hid (TabG 1 dk 3 61 w.heap.size wz gt nn nn nn vs (fun i j => cJ (ms.take k) i j + (if i < q then ww * aG mt i * aG mt j else 0))) /\ Hid (RowI w.heap.size wz gr nn nn (fun i => cK (ms.take k) i - (if i < q then ww * d * aG mt i else 0))) /\ Hid (Keeps (gr :: br gt vs) w7 wz))
     case atStart => exact ⟨0, by omega, by omega, rfl, hid (HT.out.congr (fun i j _ _ => by rw [if_neg (by omega), Int.add_zero])), hid (HR.out.congr (fun i _ => by rw [if_neg (by omega), Int.sub_zero])), hid (Keeps.refl _ _)⟩
     case round =>
      clear HT HR;obtain ⟨q, rfl, hq, rfl, HT, HR, HK1⟩ := hrel
      by_cases hql : q < nn
      .
       have q3 : decide (q < nn) = true := decide_eq_true hql;replace HM := hid (HM.out.keeps HK1.out HGM1.out);replace HC := hid (HC.out.keeps HK1.out HGC1.out)
       go_wp2_with fail
       go_loopg [52] nn (fun f jv wz => ∃ r : Nat, f = nn - r /\ r <= nn /\ jv = .int .i64 (r : Int) /\ Hid (TabG 1 dk 3 61 w.heap.size wz gt nn nn nn vs (fun i j => (cJ (ms.take k) i j + (if i < q then ww * aG mt i * aG mt j else 0)) + (if i = q /\ j < r then ww * aG mt i * aG mt j else 0))) /\ Hid (Keeps (br gt vs) wr wz))
       case atStart => exact ⟨0, by omega, by omega, rfl, hid (HT.out.congr (fun i j _ _ => by rw [if_neg (show ¬ (i = q /\ j < 0) by omega), Int.add_zero])), hid (Keeps.refl _ _)⟩
       case round =>
        clear HT;obtain ⟨r, rfl, hr, rfl, HT, HK2⟩ := hrel;have hcr := (HC.out.keeps HK2.out HGC.out);have hmk := (HM.out.keeps HK2.out HGM.out);have m6 := hmk.cell 6;have m5 := hmk.cell 5;have xi := hcr.cell hql;simp only [List.getElem?_toArray, List.getElem?_cons_zero, List.getElem?_cons_succ] at m5 m6;have HMZ := hid hmk;have HCZ := hid hcr;clear hcr hmk
        by_cases hrl : r < nn
        .
         have q5 : decide (r < nn) = true := decide_eq_true hrl;have xj := HCZ.out.cell hrl;obtain ⟨ga, ca, ra, tca, hva, hoa, hra, ha1, ha2, hat, ha3, ha4⟩ := HT.out.row (by decide) (by omega) hql;have xe := af hoa (hra.one hrl);have fe := aL hoa r;rw [if_neg (by omega), if_neg (by omega), Int.add_zero, Int.add_zero] at xe;have HVA := hid hva;have hgal : ga ∈ br gt vs := (dy gt vs).2 _ (List.mem_of_getElem? hva) ga (by simp [Value.ownBlock]);have HGA := hid hgal;clear hva hoa hra hgal;have b1 := HBN.out q r;obtain ⟨b2, b3⟩ := HTN.out q r;have e1 := HCB.out q;have qx1 : IntKind.i64.wrap (ww * aG mt q) = ww * aG mt q := IntWalk.i64_in _ (by have := bQ (A := 1000) (B := 100) (show -1000 <= ww by omega) hw2 e1.1 e1.2; omega);have qx2 : IntKind.i64.wrap (ww * aG mt q * aG mt r) = ww * aG mt q * aG mt r := IntWalk.i64_in _ (by omega);have qx3 : IntKind.i64.wrap (cJ (ms.take k) q r + ww * aG mt q * aG mt r) = cJ (ms.take k) q r + ww * aG mt q * aG mt r := IntWalk.i64_in _ (by omega)
         go_upto_region 21 with (fail)
         refine qe gt nn q r ga ca gm gc _ ww _ _ wr tca xe m6 xi xj hql hrl qx1 qx2 qx3 _ _ (by simp) ⟨rfl, rfl, rfl, rfl, rfl, trivial⟩ ?_;rintro W hX;simp only [EndK, ae, Try.f40, ab, Option.bind_some, Nat.reduceBEq, if_true, if_false, Bool.false_eq_true, Option.getD_some, List.drop_succ_cons, List.drop_zero];simp only [Act.put, List.setIfInBounds_toArray, List.set_cons_succ, List.set_cons_zero];clear m5 m6 xi xj tca b1 b2 b3 qx1 qx2 qx3 HMZ HCZ;replace HT := hid (HT.out.ext bX hX);replace HK2 := hid (HK2.out.trans (Keeps.of_ext hX _))
         have fe2 : W.frozen? ⟨ga, r, none⟩ = false := by
          obtain ⟨v, rb, hv, ho, _⟩ := HT.out.tbl.row hql;rw [HVA.out] at hv;injection hv with hv;subst hv;exact aL ho r
         have xe2 := hX.cell xe;clear hX fe xe;have HP := hid (HT.out.put1 hql hrl HVA.out hat (cJ (ms.take k) q r + ww * aG mt q * aG mt r));go_wp2;go_roundg (nn - (r + 1))
         case rel =>
          refine ⟨r + 1, rfl, by omega, by go_num, hid (HP.out.1.congr (fun i j _ _ => ?_)), hid (HK2.out.trans (HP.out.2.mono (fun g hg _ => by simp at hg; subst hg; exact HGA.out)))⟩
          by_cases hij : i = q /\ j = r
          .
           obtain ⟨rfl, rfl⟩ := hij;rw [if_pos ⟨rfl, rfl⟩, if_neg (show ¬ i < i by omega), if_pos (show i = i /\ j < j + 1 by omega), Int.add_zero]
          .
           rw [if_neg hij]
           by_cases h2 : i = q /\ j < r
           .
            rw [if_pos h2, if_pos (show i = q /\ j < r + 1 by omega)]
           .
            rw [if_neg h2, if_neg (show ¬ (i = q /\ j < r + 1) by omega)]
         case measure => omega
        .
         obtain rfl : r = nn := by omega
         have q5 : decide (r < r) = false := by simp
         have hrr := HR.out.keeps HK2.out HGR.out;have xe := hrr.cell hql;have fe := hrr.free q;rw [if_neg (by omega), Int.sub_zero] at xe;have HRZ := hid hrr;clear hrr;have b1 := HBR.out q;obtain ⟨b2, b3⟩ := HTR.out q;have qx1 : IntKind.i64.wrap (ww * d) = ww * d := IntWalk.i64_in _ (by have := HTD.out; omega);have qx2 : IntKind.i64.wrap (ww * d * aG mt q) = ww * d * aG mt q := IntWalk.i64_in _ (by omega);have qx3 : IntKind.i64.wrap (cK (ms.take k) q - ww * d * aG mt q) = cK (ms.take k) q - ww * d * aG mt q := IntWalk.i64_in _ (by omega)
         go_upto_region 23 with (fail)
         refine qf gr r q gm gc _ ww d _ wr xe m6 m5 xi hql qx1 qx2 qx3 _ _ (by simp) ⟨rfl, rfl, rfl, rfl, trivial⟩ ?_;rintro W hX;simp only [EndK, ae, Try.f40, ab, Option.bind_some, Nat.reduceBEq, if_true, if_false, Bool.false_eq_true, Option.getD_some, List.drop_succ_cons, List.drop_zero];simp only [Act.put, List.setIfInBounds_toArray, List.set_cons_succ, List.set_cons_zero];clear m5 m6 xi b1 b2 b3 qx1 qx2 qx3 HMZ HCZ;replace HT := hid (HT.out.ext bX hX);replace HRZ := hid (HRZ.out.ext hX);replace HK2 := hid (HK2.out.trans (Keeps.of_ext hX _));have xe2 := hX.cell xe;have fe2 := HRZ.out.free q;clear hX fe xe;have HP := hid (HRZ.out.put hql (cK (ms.take k) q - ww * d * aG mt q));have HKR : Hid (Keeps [gr] W (W.setCell ⟨gr, q, none⟩ (.int .i64 (cK (ms.take k) q - ww * d * aG mt q)))) := hid ((Keeps.refl [gr] W).setCell (.inl (by simp)) _);go_wp2;go_roundg (r - (q + 1))
         case rel =>
          refine ⟨q + 1, rfl, by omega, by go_num, hid ((TabG.keepsU HT.out HKR.out (fun h => HGR.out h)).congr (fun i j _ hj => ?_)), hid (HP.out.congr (fun i _ => ?_)), hid ((HK1.out.trans (HK2.out.mono (fun g hg _ => List.mem_cons_of_mem _ hg))).trans (HKR.out.mono (fun g hg _ => by simp at hg; subst hg; exact List.mem_cons_self)))⟩
          .
           by_cases h2 : i = q
           .
            subst h2;rw [if_neg (show ¬ i < i by omega), if_pos (show i = i /\ j < r by omega), if_pos (show i < i + 1 by omega)];omega
           .
            rw [if_neg (show ¬ (i = q /\ j < r) by omega)]
            by_cases h3 : i < q
            .
             rw [if_pos h3, if_pos (by omega)]; omega
            .
             rw [if_neg h3, if_neg (by omega)]; omega
          .
           by_cases h2 : i = q
           .
            subst h2;rw [if_pos rfl, if_pos (by omega)]
           .
            rw [if_neg h2]
            by_cases h3 : i < q
            .
             rw [if_pos h3, if_pos (by omega)]
            .
             rw [if_neg h3, if_neg (by omega)]
         case measure => omega
      .
       obtain rfl : q = nn := by omega
       have q3 : decide (q < q) = false := by simp
       have hsw := HX.out.size
       replace HX := hid (HK1.out.ext HX.out (fun g' hg => by
        rcases List.mem_cons.1 hg with rfl | hg
        .
         omega
        .
         exact (HLOW.out g' hg).1))
       replace HP := hid (HP.out.keeps HK1.out (fun hg => by
        rcases List.mem_cons.1 hg with h | h
        .
         omega
        .
         have := HLOWP.out _ h; omega))
       go_wp2;go_roundg (n - (k + 1))
       case rel =>
        refine ⟨k + 1, rfl, by omega, by go_num, hid (HT.out.congr (fun i j hi _ => ?_)), hid (HR.out.congr (fun i hi => ?_)), HP, HX⟩
        .
         rw [HTK.out, iJ, if_pos hi, HMW.out]
        .
         rw [HTK.out, iK, if_pos hi, HMW.out, HMD.out]
       case measure => omega
    .
     obtain rfl : k = n := by omega
     have q1 : decide (k < k) = false := by simp
     have HTK : Hid (ms.take k = ms) := hid (List.take_of_length_le (by have := HL.out; omega));go_wp2
     go_ret3
     exact ⟨gt, gr, vs, rfl, HT.out.congr (fun i j _ _ => by rw [HTK.out]), HR.out.congr (fun i _ => by rw [HTK.out]), HGR.out, HFU.out, HX.out⟩
section
variable {P : Program}
/-- 'append(s, x...)' onto a row that fills its block: nothing that was there changes. -/
theorem iO (w : World) {t e : TypeId} {size bytes : Nat} {z : Value} (E : Elem P t e size bytes z) {ops : Array Oper} {rest : List Oper} {o : Oper} {a : Act} {Q : Exit -> Act -> World -> Prop}
  (hgd : o.guard = none) (s x : Operand) (ho : o.op = .call { callee := .builtin .append, args := #[s, x], argTypes := #[t, t] })
  (base : Nat) (g0 n : Nat) (xs : List Value) (hs : a.eval s = .slice (some ⟨g0, 0, none⟩) n n) (hown : w.ownsRow base e size (.slice (some ⟨g0, 0, none⟩) n n) n xs)
  (ad : Addr) (m c : Nat) (news : List Value) (hx : a.eval x = .slice (some ad) m c) (hl : news.length = m * size) (hat : At w (some ad) news) (h1 : ∀ u ∈ news, u.oneCell' = true) (_hm : 0 < m)
  (hbytes : (n + m) * bytes <= 140737488355328) (h63 : n + m <= maxLen) (hbase : base <= w.heap.size)
  (h : ∀ v' w', w'.ownsRow base e size v' (n + m) (xs ++ news) -> Ext w w' -> v'.ownBlock = some w.heap.size -> wpList P ops Q rest (a.put o.dst v') w') :
  wpList P ops Q (o :: rest) a w :=
 wpList_plain hgd fun K hK => by
  obtain ⟨i, hi, hz, hs', hb⟩ := E.info;have hnews : ∀ j u, news[j]? = some u -> w.cell? (ad.add j) = some u := hat.add ad rfl;have hmax : n + m <= 9223372036854775807 := by simp only [maxLen] at h63; omega
  obtain ⟨v', w', hr, h2, h3, _, h5⟩ := run_append_own_at (P := P) w base t o.type e i z size bytes E.und hi hz hs' hb E.cells E.pos _ n xs hown ad m c news hl hnews h1 h63 hbytes hbase;have hr' := run_append_grow (P := P) w t o.type e i z E.und hi hz ⟨g0, 0, none⟩ n n xs (by rw [hs']; exact hown.1) (hown.cells (g := g0) rfl) ad m c news (by rw [hs']; exact hl) hnews (by omega) (by omega) (by rw [hb]; exact growslice_fits (by omega) hbytes);rw [hr'] at hr;injection hr with e1 e2;have hX : Ext w w' := by rw [<- e2]; exact (Ext.refl w).drew.alloc _
  have hg : v'.ownBlock = some w.heap.size := by rw [<- e1]; simp [Value.ownBlock]
  unfold Oper.wp execOp;simp only [ho, resolve, invoke, builtin, Sem.run_bind, Sem.run_pure, Result.andThen_ok, List.map_toArray, List.map_cons, List.map_nil, hs, hx, hr', e1, e2];exact hK _ _ (h v' w' h2 hX hg)
end
theorem sr : Elem Try.prog 226 217 3 56 (.agg #[.bool false, .slice none 0 0, .slice none 0 0]) := Elem.mk' (by kernel_rfl) (by kernel_rfl) rfl (by decide)
theorem st : Elem Try.prog 199 226 1 24 (.slice none 0 0) := Elem.mk' (by kernel_rfl) (by kernel_rfl) rfl (by decide)
theorem sM : ∀ u ∈ (Value.agg #[.bool false, .slice none 0 0, .slice none 0 0]).cells, bC u := by
 intro u hu;simp [Value.cells] at hu
 rcases hu with rfl | rfl
 .
  exact ak _
 .
  exact ag _ _ _
theorem sD : ∀ u ∈ (Value.slice none 0 0).cells, bC u := by
 intro u hu;simp [Value.cells] at hu;subst hu;exact ag _ _ _
theorem TabG.mono {α : Type} {k base base' m n gt ct : Nat} {te tr : TypeId} {R : World -> List Value -> α -> Prop} {w : World} {vs : List Value} {T : Nat -> Nat -> α} (h : TabG k R te tr base w gt ct m n vs T) (hb : base' <= base) : TabG k R te tr base' w gt ct m n vs T := by
 obtain ⟨hl, rows, hr, hn⟩ := h.tbl;exact ⟨World.ownsRow.mono' h.out hb, ⟨hl, rows, ⟨hr.len, fun j v r h1 h2 => World.ownsRow.mono' (hr.row j v r h1 h2) hb, hr.far⟩, hn⟩, h.ni⟩
theorem TabG.impl {α β : Type} {k base m n gt ct : Nat} {te tr : TypeId} {R : World -> List Value -> α -> Prop} {w : World} {vs : List Value} {T : Nat -> Nat -> α} {R' : World -> List Value -> β -> Prop} {T' : Nat -> Nat -> β} (h : TabG k R te tr base w gt ct m n vs T) (hi : ∀ i j cs, i < m -> j < n -> R w cs (T i j) -> R' w cs (T' i j)) : TabG k R' te tr base w gt ct m n vs T' := by
 obtain ⟨hl, rows, hr, hn⟩ := h.tbl;refine ⟨h.out, ⟨hl, rows, hr, fun i r hri => ?_⟩, h.ni⟩;have him : i < m := by rw [<- hl, hr.len]; exact (List.getElem?_eq_some_iff.1 hri).1
 obtain ⟨h1, h2⟩ := hn i r hri;exact ⟨h1, fun j hj => by obtain ⟨cs, c1, c2, c3⟩ := h2 j hj; exact ⟨cs, c1, hi i j cs him hj c2, c3⟩⟩
theorem aW {w w' : World} {v : Value} (h : w.grownBy w' v.ownBlock) : Keeps v.ownBlock.toList w w' := Keeps.of_grown h (fun k hk => by rw [hk]; simp)
theorem bz {w : World} {base size n g : Nat} {te t : TypeId} {v : Value} {vs : List Value} {cs : Array Value} (h : w.ownsRow base te size v n vs) (hB : Blk w g t cs) (hne : te ≠ t) : v.ownBlock ≠ some g := fun e => by
 have := NoRow.of_own (tb := t) h e hne;exact this _ _ hB
theorem Tbl.away {α : Type} {k base m n g : Nat} {te t : TypeId} {R : World -> List Value -> α -> Prop} {w : World} {vs : List Value} {T : Nat -> Nat -> α} {cs : Array Value} (h : Tbl k R te base w m n vs T) (hB : Blk w g t cs) (hne : te ≠ t) : ∀ v ∈ vs, v.ownBlock ≠ some g := fun v hv => by
 obtain ⟨i, hi, rfl⟩ := List.getElem_of_mem hv;obtain ⟨v', r, h1, h2, _⟩ := h.row (i := i) (by rw [<- h.len]; exact hi);rw [List.getElem?_eq_getElem hi] at h1;injection h1 with h1;subst h1;exact bz h2 hB hne
theorem Tbl.awayRow {α : Type} {k base m n base' size' n' : Nat} {te te' : TypeId} {R : World -> List Value -> α -> Prop} {w : World} {vs vs' : List Value} {T : Nat -> Nat -> α} {v' : Value} (h : Tbl k R te base w m n vs T) (h' : w.ownsRow base' te' size' v' n' vs') (hne : te ≠ te') : ∀ v ∈ vs, ∀ g, v.ownBlock = some g -> g ∉ v'.ownBlock.toList := fun v hv g hg hl => by
 obtain ⟨i, hi, rfl⟩ := List.getElem_of_mem hv;obtain ⟨u, r, h1, h2, _⟩ := h.row (i := i) (by rw [<- h.len]; exact hi);rw [List.getElem?_eq_getElem hi] at h1;injection h1 with h1;subst h1
 rcases de h2 h' hne with h3 | h3
 .
  rw [h3] at hg; cases hg
 .
  rw [hg] at h3; exact h3 (show v'.ownBlock = some g by simpa using hl).symm
theorem NoInts.one {w : World} {g : Nat} {t : TypeId} {u : Value} (h : Blk w g t #[u]) (hu : bC u) : NoInts w g := ⟨t, _, h, fun v hv => by simp at hv; subst hv; exact hu⟩
theorem cO {w : World} {v : Value} (h : RowNI w v) : ∀ g ∈ v.ownBlock.toList, NoInts w g := fun g hg => h g (by simpa using hg)
theorem oh (S nn : Nat) (A : Option Addr) (n c : Nat) (ms : List Mt) (w : World) (h : MsAt w A n ms) (hv : VP S ms) (hN : nn = 3 * S) :
  Calls Try.prog 119 #[.agg #[.int .i64 (S : Int), .slice A n c]] w (fun e w' => ∃ go ct vs, e = .returned (.agg #[.slice (some ⟨go, 0, none⟩) nn ct]) /\ TabG 3 (Tri fun w v q => NumX w v q 2) 217 226 w.heap.size w' go ct nn (nn + 1) vs (a9 ms nn) /\ nn <= ct /\ Ext w w') := by
 have hS1 : 1 <= S := by have := hv.1; omega
 have hS8 : S <= 8 := by have := hv.2.1; omega
 have hNb : nn <= 24 := by omega
 have hN0 : 0 < nn := by omega
 have hbd : ∀ i j, (-9223372036854775808 <= cJ ms i j /\ cJ ms i j <= 9223372036854775807) /\ (-9223372036854775808 <= cK ms i /\ cK ms i <= 9223372036854775807) := fun i j => by
  have h1 := dv hv.2.2.2 i j;have h2 := dw hv.2.2.2 i;have := hv.2.2.1;omega
 have HBD := hid hbd;have H := hid h;have HV := hid hv;have HNN := hid hN;clear h hv hN hbd;have hXe : Ext w ((w.alloc (.cells #[.int .i64 (S : Int), .slice A n c] 76)).alloc (.cells #[.slice none 0 0] 201)) := ((Ext.refl w).alloc _).alloc _;have kP : Blk ((w.alloc (.cells #[.int .i64 (S : Int), .slice A n c] 76)).alloc (.cells #[.slice none 0 0] 201)) w.heap.size 76 #[.int .i64 (S : Int), .slice A n c] := Blk.alloc (Blk.new w _ _) _;have kR : Blk ((w.alloc (.cells #[.int .i64 (S : Int), .slice A n c] 76)).alloc (.cells #[.slice none 0 0] 201)) (w.heap.size + 1) 201 #[.slice none 0 0] := Blk.at_ (by simp);go_enter Try.func119, Try.ntmps119
 go_upto_region 1 with (fail)
 generalize (w.alloc _).alloc _ = w1 at hXe kP kR |-;have HX := hid hXe;have HR := hid kR;have p0 := kP.cell 0;have p1 := kP.cell 1;simp only [List.getElem?_toArray, List.getElem?_cons_zero, List.getElem?_cons_succ] at p0 p1;clear hXe kR
 go_wp2_with fail
 refine (gL S nn A n c ms _ (H.out.ext HX.out) HV.out HNN.out).mono ?_;rintro e w2 ⟨gt, gr, vsl, rfl, hT, hr, hgr, hful, hX⟩;have HFU := hid hful;clear hful;have hrs := HR.out.lt;replace HX := hid (HX.out.trans hX);replace HR := hid (HR.out.ext hX);have HE := hid hT;have HER := hid hr;have hs12 := hX.size;clear hX kP p0 p1 hT hr hgr
 go_upto_region 3 with (fail)
 have hX3 : Ext w2 (w2.alloc (.cells #[.slice none 0 0] 201)) := (Ext.refl _).alloc _;have HO := hid (Blk.new w2 201 #[.slice none 0 0]);obtain ⟨go, hgo⟩ : ∃ go, w2.heap.size = go := ⟨_, rfl⟩;generalize w2.alloc _ = w3 at hX3 HO |-;rw [hgo] at HO |-;have HX3 := hid hX3;clear hX3
 go_wp2_with fail
 go_loopg [20] nn (fun f iv wr => ∃ (k : Nat) (ov : Value) (vs : List Value), f = nn - k /\ k <= nn /\ iv = .int .i64 (k : Int) /\ Hid (wr.ownsRow go 226 1 ov k vs) /\ Hid (RowNI wr ov) /\ Hid (Tbl 3 (Tri fun w v q => NumX w v q 2) 217 w2.heap.size wr k (nn + 1) vs (a9 ms nn)) /\ Hid (TblNI wr vs) /\ Hid (Blk wr go 201 #[ov]) /\ Hid (Ext w2 wr))
 case atStart => exact ⟨0, .slice none 0 0, [], by omega, by omega, rfl, hid (World.ownsRow_nil _ _ _ _), hid (RowNI.nil _), hid (Tbl.nil _ _ _ _ _ _ _), hid (fun v hv => by simp at hv), HO, HX3⟩
 case round =>
  clear HO HX3;obtain ⟨k, ov, vs, rfl, hk, rfl, HOW, HON, HT, HTN, HO, HX3⟩ := hrel
  by_cases hlt : k < nn
  .
   have q1 : decide (k < nn) = true := decide_eq_true hlt;obtain ⟨ga, ca, ra, tca, hva, hoa, hra, ha1, ha2, hat, ha3, ha4⟩ := (HE.out.ext bX HX3.out).row (by decide) hN0 hlt
   have HCA : Hid (ca = nn) := hid (by
    obtain ⟨g', e⟩ := HFU.out _ (List.mem_of_getElem? hva);injection e)
   have xr := (HER.out.ext HX3.out).cell hlt;obtain rfl : nn = ca := HCA.out.symm;have HOA := hid hoa;have HRA := hid hra;clear hva hoa hra hat HCA;have hws : go < wr.heap.size := HO.out.lt
   go_wp2_with (at_builtin; refine iO _ dX rfl _ _ rfl w1.heap.size ga nn ra rfl (HOA.out.alloc _) _ 1 1 [.int .i64 (cK ms k)] rfl rfl (At.new' _ [_] _ rfl) (by simp [Value.oneCell']) (by omega) (by omega) (by unfold maxLen; omega) (by simp; omega) ?_; intro v5 w5 hown5 hX5 hv5; obtain ⟨Ae, ce, rfl⟩ := ar hown5)
   have hX9 : Ext wr w5 := ((Ext.refl wr).alloc _).trans hX5;have hown6 := hown5;have HX5 := hid hX9;have HOE := hid hown6;clear hX9 hX5 hown5 hown6 hv5 tca xr;obtain ⟨ge, rfl, hge1, hge2⟩ := eU HOE.out (by omega);have hws5 := HX5.out.size
   go_loopg [33, 9] (nn + 1) (fun f iv lw wz => ∃ (q : Nat) (lv : Value) (r : List Value), f = nn + 1 - q /\ q <= nn + 1 /\ iv = .int .i64 (q : Int) /\ lw = lv /\ Hid (wz.ownsRow w5.heap.size 217 3 lv q r) /\ Hid (NumK 3 (Tri fun w v q => NumX w v q 2) wz r q (a9 ms nn k)) /\ Hid (RowNI wz lv) /\ Hid (Ext w5 wz))
   case atStart => exact ⟨0, .slice none 0 0, [], by omega, by omega, rfl, rfl, hid (World.ownsRow_nil _ _ _ _), hid (NumK.nil _ _ _ _), hid (RowNI.nil _), hid (Ext.refl _)⟩
   case round =>
    obtain ⟨q, lv, r, rfl, hq, rfl, rfl, HLO, HLN, HLI, HXL⟩ := hrel;obtain ⟨Al, cl, rfl⟩ := ar HLO.out
    by_cases hql : q < nn + 1
    .
     have q3 : decide (q < nn + 1) = true := decide_eq_true hql;obtain ⟨zz, hzz⟩ : ∃ zz, zz = if q = nn then cK ms k else cJ ms k q := ⟨_, rfl⟩
     have hz2 : (ra ++ [Value.int .i64 (cK ms k)])[q]? = some (.int .i64 zz) := by
      rw [hzz]
      by_cases e : q = nn
      .
       rw [if_pos e, List.getElem?_append_right (by rw [HRA.out.1]; omega), HRA.out.1, e]; simp
      .
       rw [if_neg e, List.getElem?_append_left (by rw [HRA.out.1]; omega), HRA.out.one (by omega)]
     have xq := af (World.ownsRow.ext' HOE.out HXL.out) hz2;have HZZ : Hid (a9 ms nn k q = (zz : Rat)) := hid (by unfold a9; rw [hzz]; split <;> rfl)
     have hzb : -9223372036854775808 <= zz /\ zz <= 9223372036854775807 := by
      have h1 := HBD.out k q;rw [hzz]; split
      .
       exact h1.2
      .
       exact h1.1
     obtain ⟨hzb1, hzb2⟩ := hzb;clear hzz hz2;have hsz := HXL.out.size
     go_wp2_with fail
     refine (hY zz _ hzb1 hzb2).mono ?_;rintro e w6 ⟨v6, rfl, hv, hX⟩;obtain ⟨s4, A4, l4, c4, B4, m4, k4, rfl⟩ := NumX.open hv;have HN := hid (hv.ext ((Ext.refl w6).alloc (.cells #[.bool s4, .slice A4 l4 c4, .slice B4 m4 k4] 217)));have hX7 := hX.alloc (.cells #[.bool s4, .slice A4 l4 c4, .slice B4 m4 k4] 217);replace HLO := hid (World.ownsRow.ext' HLO.out hX7);replace HLN := hid (HLN.out.ext (aB 2) hX7);replace HLI := hid (HLI.out.ext hX7);replace HXL := hid (HXL.out.trans hX7);have hsz6 := hX.size;clear hv hX hX7 xq
     go_wp2_with (at_builtin; refine b7 _ sr sM rfl _ _ rfl w5.heap.size (.slice Al q cl) q r rfl HLO.out HLI.out _ 1 1 [.bool s4, .slice A4 l4 c4, .slice B4 m4 k4] rfl rfl (At.new' _ [_, _, _] _ rfl) (by intro u hu; simp at hu; rcases hu with rfl | rfl | rfl <;> rfl) (by intro u hu; simp at hu; rcases hu with rfl | rfl | rfl; exact ak _; exact ag _ _ _; exact ag _ _ _) (by omega) (by omega) (by unfold maxLen; omega) (by simp; omega) ?_; intro v8 w8 hown8 hgr8 hni8; have HG8 := hid hgr8; have HO8 := hid hown8; have HI8 := hid hni8; clear hgr8 hown8 hni8)
     go_roundg (nn + 1 - (q + 1))
     case rel =>
      refine ⟨q + 1, v8, _, rfl, by omega, by go_num, rfl, HO8, hid ?_, HI8, hid (HXL.out.grown HG8.out (fun b hb => (HLO.out.lt b hb).1))⟩;have h1 := HLN.out.keep (aB 2) (aW HG8.out) (cO HLI.out);have h2 := NumX.keepsNI HN.out (aW HG8.out) (cO HLI.out);refine (h1.snoc (cs := [.bool s4, .slice A4 l4 c4, .slice B4 m4 k4]) rfl (Tri.mk h2)).congr (fun c _ => ?_)
      by_cases e : c = q
      .
       rw [if_pos e, e, HZZ.out]
      .
       rw [if_neg e]
     case measure => omega
    .
     obtain rfl : q = nn + 1 := by omega
     obtain ⟨gl, rfl, hgl1, hgl2⟩ := eU HLO.out (by omega);obtain ⟨Ao, co, rfl⟩ := ar HOW.out;have hX := HX5.out.trans HXL.out;have HTW := hid (HT.out.ext (aB 2) hX);have HOWW := hid (World.ownsRow.ext' HOW.out hX);have HONW := hid (HON.out.ext hX);have HTNW := hid (HTN.out.ext hX);have HOO := hid (HO.out.ext hX);have HX3W := hid (HX3.out.trans hX);have hszl := HXL.out.size;have o0 := HOO.out.cell 0;have o1 := HOO.out.free 0;simp only [List.getElem?_toArray, List.getElem?_cons_zero] at o0
     have hfr : ∀ u ∈ vs, u.ownBlock ≠ (Value.slice (some ⟨gl, 0, none⟩) (nn + 1) cl).ownBlock := fun u hu e => by
      have := HT.out.low hu (g := gl) (by rw [e]; simp [Value.ownBlock]);omega
     have HPU := hid (HTW.out.push (World.ownsRow.mono' HLO.out (by omega : w2.heap.size <= w5.heap.size)) HLN.out hfr)
     have HPN : Hid (TblNI wr (vs ++ [.slice (some ⟨gl, 0, none⟩) (nn + 1) cl])) := hid (fun v hv => by
      rcases List.mem_append.1 hv with h | h
      .
       exact HTNW.out v h
      .
       simp at h; subst h; exact HLI.out)
     clear hX hfr
     go_wp2_with (at_builtin; refine b7 _ st sD rfl _ _ rfl go (.slice Ao k co) k vs rfl (HOWW.out.alloc _) (HONW.out.ext ((Ext.refl _).alloc _)) _ 1 1 [.slice (some ⟨gl, 0, none⟩) (nn + 1) cl] rfl rfl (At.new' _ [_] _ rfl) (by intro u hu; simp at hu; subst hu; rfl) (by intro u hu; simp at hu; subst hu; exact ag _ _ _) (by omega) (by omega) (by unfold maxLen; omega) (by simp; omega) ?_; intro v8 w8 hown8 hgr8 hni8; have HG8 := hid hgr8; have HO8 := hid hown8; have HI8 := hid hni8; have hB8 := (HOO.out.alloc _).grown hgr8 (fun e => bz HOWW.out HOO.out (by decide) e.symm); have o0' := hB8.cell 0; have o1' := hB8.free 0; have HB8 := hid hB8; simp only [List.getElem?_toArray, List.getElem?_cons_zero] at o0'; obtain ⟨Ao8, co8, rfl⟩ := ar hown8; clear hgr8 hown8 hni8 hB8)
     go_roundg (nn - (k + 1))
     case rel =>
      have hkw : Keeps [go] w8 (w8.setCell ⟨go, 0, none⟩ (.slice Ao8 (k + 1) co8)) := (Keeps.refl [go] w8).setCell (.inl (by simp)) _;have hT1 := (HPU.out.ext (aB 2) ((Ext.refl _).alloc (.cells #[.slice (some ⟨gl, 0, none⟩) (nn + 1) cl] 226)));have hT8 := hT1.keep (aB 2) (aW HG8.out) (cO (HONW.out.ext ((Ext.refl _).alloc _))) (hT1.awayRow (HOWW.out.alloc _) (by decide));have hT9 := hT8.keep (aB 2) hkw (fun g hg => by simp at hg; subst hg; exact NoInts.one HB8.out (ag _ _ _)) (fun v hv g hg hl => by simp at hl; subst hl; exact hT8.away HB8.out (by decide) v hv hg);have hN1 : TblNI w8 (vs ++ [.slice (some ⟨gl, 0, none⟩) (nn + 1) cl]) := fun v hv => ((HPN.out v hv).ext ((Ext.refl _).alloc _)).keeps (aW HG8.out) (fun g hg => hT1.awayRow (HOWW.out.alloc _) (by decide) v hv g hg)
      refine ⟨k + 1, _, _, rfl, by omega, by go_num, hid (aj HO8.out hkw (fun g hg hl => by simp at hl; subst hl; exact bz HO8.out HB8.out (by decide) hg)), hid (HI8.out.keeps hkw (fun g hg hl => by simp at hl; subst hl; exact bz HO8.out HB8.out (by decide) hg)), hid (hT9.congr (fun a b ha _ => ?_)), hid (fun v hv => (hN1 v hv).keeps hkw (fun g hg hl => by simp at hl; subst hl; exact hT8.away HB8.out (by decide) v hv hg)), hid ?_, hid ?_⟩
      .
       by_cases e : a = k
       .
        rw [if_pos e, e]
       .
        rw [if_neg e]
      .
       have := HB8.out.set 0 (.slice Ao8 (k + 1) co8)
       simpa using this
      .
       exact ((HX3W.out.alloc _).grown HG8.out (fun b hb => by have := (HOWW.out.lt b hb).1; omega)).setCell (by simp only; omega) _
     case measure => omega
  .
   obtain rfl : nn = k := by omega
   obtain ⟨Ao, co, rfl⟩ := ar HOW.out;obtain ⟨gv, rfl, hg1, hg2⟩ := eU HOW.out hN0;replace HR := hid (HR.out.ext HX3.out);have o0 := HO.out.cell 0;have r0 := HR.out.cell 0;have r1 := HR.out.free 0;simp only [List.getElem?_toArray, List.getElem?_cons_zero] at o0 r0;have HRO : Hid (w.heap.size + 1 < w2.heap.size) := hid (by omega);have HNIO : Hid (NoInts wr gv) := hid (HON.out gv (by simp [Value.ownBlock]));have hcap := (f9 HOW.out).1;have hTG : TabG 3 (Tri fun w v q => NumX w v q 2) 217 226 go wr gv co nn (nn + 1) vs (a9 ms nn) := ⟨HOW.out, by rw [<- hgo]; exact HT.out, .inr ⟨HTN.out, HNIO.out⟩⟩;have hkw : Keeps [w.heap.size + 1] wr (wr.setCell ⟨w.heap.size + 1, 0, none⟩ (.slice (some ⟨gv, 0, none⟩) nn co)) := (Keeps.refl _ wr).setCell (.inl (by simp)) _
   have hTF := hTG.keeps (aB 2) hkw (fun g hg => by simp at hg; subst hg; exact NoInts.one HR.out (ag _ _ _)) (fun g hg => by
    simp at hg;subst hg;refine ⟨by have := HRO.out; omega, hTG.tbl.away HR.out (by decide)⟩)
   have HTF := hid hTF;have hX9 := (HX.out.trans HX3.out).setCell (p := ⟨w.heap.size + 1, 0, none⟩) (by simp only; omega) (.slice (some ⟨gv, 0, none⟩) nn co);have HX9 := hid hX9;have hbg : w.heap.size <= go := by have := HX.out.size; omega
   clear hX9 hTF hTG hkw;go_wp2;refine bodyPost_ret (v := .agg #[.slice (some ⟨gv, 0, none⟩) nn co]) (by simp [results, Try.results119, go_sem, *]) rfl ?_;exact ⟨gv, co, vs, rfl, HTF.out.mono hbg, hcap, HX9.out⟩
theorem qg (gt ct mm aa bb nn ga gb ca cb : Nat) (tt : TypeId) (cur : Array Value) (w : World) (hB : Blk w gt tt cur) (ha : cur[aa]? = some (.slice (some ⟨ga, 0, none⟩) nn ca)) (hb : cur[bb]? = some (.slice (some ⟨gb, 0, none⟩) nn cb)) (hbs : bb < cur.size) (_hA1 : aa < mm) (hB1 : bb < mm) (a : Act) (Q : Exit -> Act -> World -> Prop) (hsize : 20 <= a.tmps.size)
  (s0 : a.tmps[0]? = some (.slice (some ⟨gt, 0, none⟩) mm ct))
  (s1 : a.tmps[1]? = some (.int .i64 (aa : Int)))
  (s2 : a.tmps[2]? = some (.int .i64 (bb : Int)))
  (hend : ∀ (xv0 xv1 xv2 xv3 xv4 xv5 xv6 xv7 xv8 xv9 xv10 xv11 xv12 xv13 xv14 xv15 : Value) (W : World), (xv0 = .slice (some ⟨gt, 0, none⟩) mm ct) -> (xv1 = .int .i64 (aa : Int)) -> (xv2 = .slice (some ⟨gt, 0, none⟩) mm ct) -> (xv3 = .int .i64 (bb : Int)) -> (xv4 = .slice (some ⟨gt, 0, none⟩) mm ct) -> (xv5 = .int .i64 (bb : Int)) -> (xv6 = .pointer (some ⟨gt, bb, none⟩)) -> (xv7 = .slice (some ⟨gb, 0, none⟩) nn cb) -> (xv8 = .slice (some ⟨gt, 0, none⟩) mm ct) -> (xv9 = .int .i64 (aa : Int)) -> (xv10 = .pointer (some ⟨gt, aa, none⟩)) -> (xv11 = .slice (some ⟨ga, 0, none⟩) nn ca) -> (xv12 = .pointer (some ⟨gt, aa, none⟩)) -> (True) -> (xv14 = .pointer (some ⟨gt, bb, none⟩)) -> (True) -> W = ((w.drew.setCell ⟨gt, aa, none⟩ (.slice (some ⟨gb, 0, none⟩) nn cb)).setCell ⟨gt, bb, none⟩ (.slice (some ⟨ga, 0, none⟩) nn ca)) -> wpList Try.prog (ae Try.f175 0).toArray Q ((ae Try.f175 0).drop 16) ((((((((((((((((a.put (some 6) xv0).put (some 7) xv1).put (some 8) xv2).put (some 9) xv3).put (some 10) xv4).put (some 11) xv5).put (some 12) xv6).put (some 13) xv7).put (some 14) xv8).put (some 15) xv9).put (some 16) xv10).put (some 17) xv11).put (some 18) xv12).put (none) xv13).put (some 19) xv14).put (none) xv15) W) :
  (Code.region 0 (ae Try.f175 0).toArray true).wp Try.prog Q a w := by
 have hsz : ∀ d, some d ∈ ([some 6, some 7, some 8, some 9, some 10, some 11, some 12, some 13, some 14, some 15, some 16, some 17, some 18, none, some 19, none] : List (Option Tmp)) -> d < a.tmps.size := cC (by decide) hsize
 refine bA 16 [some 6, some 7, some 8, some 9, some 10, some 11, some 12, some 13, some 14, some 15, some 16, some 17, some 18, none, some 19, none] [[], [], [], [], [], [], [4, 5], [6], [], [], [8, 9], [10], [0, 1], [7, 12], [2, 3], [11, 13, 14]] [[], [], [], [], [], [], [], [13, 15], [], [], [], [13, 15], [], [15], [], []] (fun i v _ => match i with
  | 0 => v = .slice (some ⟨gt, 0, none⟩) mm ct
  | 1 => v = .int .i64 (aa : Int)
  | 2 => v = .slice (some ⟨gt, 0, none⟩) mm ct
  | 3 => v = .int .i64 (bb : Int)
  | 4 => v = .slice (some ⟨gt, 0, none⟩) mm ct
  | 5 => v = .int .i64 (bb : Int)
  | 6 => v = .pointer (some ⟨gt, bb, none⟩)
  | 7 => v = .slice (some ⟨gb, 0, none⟩) nn cb
  | 8 => v = .slice (some ⟨gt, 0, none⟩) mm ct
  | 9 => v = .int .i64 (aa : Int)
  | 10 => v = .pointer (some ⟨gt, aa, none⟩)
  | 11 => v = .slice (some ⟨ga, 0, none⟩) nn ca
  | 12 => v = .pointer (some ⟨gt, aa, none⟩)
  | 13 => True
  | 14 => v = .pointer (some ⟨gt, bb, none⟩)
  | 15 => True
  | _ => True) (fun done W => (¬ done 13 -> ¬ done 15 -> W = w.drew) /\ (done 13 -> ¬ done 15 -> W = (w.drew.setCell ⟨gt, aa, none⟩ (.slice (some ⟨gb, 0, none⟩) nn cb))) /\ (done 15 -> W = ((w.drew.setCell ⟨gt, aa, none⟩ (.slice (some ⟨gb, 0, none⟩) nn cb)).setCell ⟨gt, bb, none⟩ (.slice (some ⟨ga, 0, none⟩) nn ca)))) (by kernel_rfl) (by kernel_rfl) hsz (fun p q W h hj => by have e : p = q := funext fun k => propext (h k); subst e; exact hj) ⟨fun _ _ => rfl, fun h => h.elim, fun h => h.elim⟩ ?_ ?_
 .
  clear hend;simp only [ae, Try.f175, ab, Option.bind_some, Nat.reduceBEq, if_true, Option.getD_some];simp only [List.take_succ_cons, List.take_zero];refine ⟨?_, ?_, ?_, ?_, ?_, ?_, ?_, ?_, ?_, ?_, ?_, ?_, ?_, ?_, ?_, ?_, trivial⟩
  .
   intro done us W hJ hdep haft hnot b hb hb' K hK Q';have e0 := (hb' 0 (by simp)).trans s0;clear hb hb';go_simp;exact hK _ _ rfl (fun _ _ _ h => h) (by simpa using hJ)
  .
   intro done us W hJ hdep haft hnot b hb hb' K hK Q';have e1 := (hb' 1 (by simp)).trans s1;clear hb hb';go_simp;exact hK _ _ rfl (fun _ _ _ h => h) (by simpa using hJ)
  .
   intro done us W hJ hdep haft hnot b hb hb' K hK Q';have e0 := (hb' 0 (by simp)).trans s0;clear hb hb';go_simp;exact hK _ _ rfl (fun _ _ _ h => h) (by simpa using hJ)
  .
   intro done us W hJ hdep haft hnot b hb hb' K hK Q';have e2 := (hb' 2 (by simp)).trans s2;clear hb hb';go_simp;exact hK _ _ rfl (fun _ _ _ h => h) (by simpa using hJ)
  .
   intro done us W hJ hdep haft hnot b hb hb' K hK Q';have e0 := (hb' 0 (by simp)).trans s0;clear hb hb';go_simp;exact hK _ _ rfl (fun _ _ _ h => h) (by simpa using hJ)
  .
   intro done us W hJ hdep haft hnot b hb hb' K hK Q';have e2 := (hb' 2 (by simp)).trans s2;clear hb hb';go_simp;exact hK _ _ rfl (fun _ _ _ h => h) (by simpa using hJ)
  .
   intro done us W hJ hdep haft hnot b hb hb' K hK Q';simp only [List.getD_cons_succ, List.getD_cons_zero, List.mem_cons, List.not_mem_nil, or_false, forall_eq_or_imp, forall_eq] at hdep;have e10 := hb 4 10 rfl;have e11 := hb 5 11 rfl;have d4 := hdep.1;have d5 := hdep.2;rw [d4.1] at e10;rw [d5.1] at e11;clear hb hb' hdep d4 d5;go_simp;exact hK _ _ rfl (fun _ _ _ h => h) (by simpa using hJ)
  .
   intro done us W hJ hdep haft hnot b hb hb' K hK Q';simp only [List.getD_cons_succ, List.getD_cons_zero, List.mem_cons, List.not_mem_nil, or_false, forall_eq] at hdep;simp only [List.getD_cons_succ, List.getD_cons_zero, List.mem_cons, List.not_mem_nil, or_false, forall_eq_or_imp, forall_eq] at haft;have e12 := hb 6 12 rfl;have d6 := hdep;rw [d6.1] at e12;clear hb hb' hdep d6;obtain rfl := hJ.1 haft.1 haft.2;have q1 := (hB.drew.cell bb).trans hb;go_simp;exact hK _ _ rfl (fun _ _ _ h => h) (by simpa using hJ)
  .
   intro done us W hJ hdep haft hnot b hb hb' K hK Q';have e0 := (hb' 0 (by simp)).trans s0;clear hb hb';go_simp;exact hK _ _ rfl (fun _ _ _ h => h) (by simpa using hJ)
  .
   intro done us W hJ hdep haft hnot b hb hb' K hK Q';have e1 := (hb' 1 (by simp)).trans s1;clear hb hb';go_simp;exact hK _ _ rfl (fun _ _ _ h => h) (by simpa using hJ)
  .
   intro done us W hJ hdep haft hnot b hb hb' K hK Q';simp only [List.getD_cons_succ, List.getD_cons_zero, List.mem_cons, List.not_mem_nil, or_false, forall_eq_or_imp, forall_eq] at hdep;have e14 := hb 8 14 rfl;have e15 := hb 9 15 rfl;have d8 := hdep.1;have d9 := hdep.2;rw [d8.1] at e14;rw [d9.1] at e15;clear hb hb' hdep d8 d9;go_simp;exact hK _ _ rfl (fun _ _ _ h => h) (by simpa using hJ)
  .
   intro done us W hJ hdep haft hnot b hb hb' K hK Q';simp only [List.getD_cons_succ, List.getD_cons_zero, List.mem_cons, List.not_mem_nil, or_false, forall_eq] at hdep;simp only [List.getD_cons_succ, List.getD_cons_zero, List.mem_cons, List.not_mem_nil, or_false, forall_eq_or_imp, forall_eq] at haft;have e16 := hb 10 16 rfl;have d10 := hdep;rw [d10.1] at e16;clear hb hb' hdep d10;obtain rfl := hJ.1 haft.1 haft.2;have q1 := (hB.drew.cell aa).trans ha;go_simp;exact hK _ _ rfl (fun _ _ _ h => h) (by simpa using hJ)
  .
   intro done us W hJ hdep haft hnot b hb hb' K hK Q';simp only [List.getD_cons_succ, List.getD_cons_zero, List.mem_cons, List.not_mem_nil, or_false, forall_eq_or_imp, forall_eq] at hdep;have e6 := hb 0 6 rfl;have e7 := hb 1 7 rfl;have d0 := hdep.1;have d1 := hdep.2;rw [d0.1] at e6;rw [d1.1] at e7;clear hb hb' hdep d0 d1;go_simp;exact hK _ _ rfl (fun _ _ _ h => h) (by simpa using hJ)
  .
   intro done us W hJ hdep haft hnot b hb hb' K hK Q';simp only [List.getD_cons_succ, List.getD_cons_zero, List.mem_cons, List.not_mem_nil, or_false, forall_eq_or_imp, forall_eq] at hdep;simp only [List.getD_cons_succ, List.getD_cons_zero, List.mem_cons, List.not_mem_nil, or_false, forall_eq] at haft;have e13 := hb 7 13 rfl;have e18 := hb 12 18 rfl;have d7 := hdep.1;have d12 := hdep.2;rw [d7.1] at e13;rw [d12.1] at e18;clear hb hb' hdep d7 d12;obtain rfl := hJ.1 hnot haft;have q1 := (hB.drew.cell aa).trans ha;have q2 := hB.drew.free aa;have hfin := hK undef _ trivial (fun _ _ _ h => h) ⟨fun h => absurd (.inr rfl) h, fun _ _ => rfl, fun h => absurd (h.resolve_right (by decide)) haft⟩;clear hK hJ;go_simp;exact hfin
  .
   intro done us W hJ hdep haft hnot b hb hb' K hK Q';simp only [List.getD_cons_succ, List.getD_cons_zero, List.mem_cons, List.not_mem_nil, or_false, forall_eq_or_imp, forall_eq] at hdep;have e8 := hb 2 8 rfl;have e9 := hb 3 9 rfl;have d2 := hdep.1;have d3 := hdep.2;rw [d2.1] at e8;rw [d3.1] at e9;clear hb hb' hdep d2 d3;go_simp;exact hK _ _ rfl (fun _ _ _ h => h) (by simpa using hJ)
  .
   intro done us W hJ hdep haft hnot b hb hb' K hK Q';simp only [List.getD_cons_succ, List.getD_cons_zero, List.mem_cons, List.not_mem_nil, or_false, forall_eq_or_imp, forall_eq] at hdep;have e17 := hb 11 17 rfl;have e19 := hb 14 19 rfl;have d11 := hdep.1;have d13 := hdep.2.1;have d14 := hdep.2.2;rw [d11.1] at e17;rw [d14.1] at e19;clear hb hb' hdep d11 d14;obtain rfl := hJ.2.1 d13.2 hnot;have hB1 := hB.set aa (.slice (some ⟨gb, 0, none⟩) nn cb);obtain ⟨u, hu⟩ : ∃ u, (cur.setIfInBounds aa (.slice (some ⟨gb, 0, none⟩) nn cb))[bb]? = some u := ⟨_, Array.getElem?_eq_getElem (by simpa using hbs)⟩;have q1 := (hB1.cell bb).trans hu;have q2 := hB.free bb;have hfin := hK undef _ trivial (fun _ _ _ h => h) ⟨fun _ h => absurd (.inr rfl) h, fun _ h => absurd (.inr rfl) h, fun _ => rfl⟩;clear hK hJ hB1;go_simp;exact hfin
 .
  intro us W hV hJ;exact hend (us 0) (us 1) (us 2) (us 3) (us 4) (us 5) (us 6) (us 7) (us 8) (us 9) (us 10) (us 11) (us 12) (us 13) (us 14) (us 15) W (hV 0 (by omega)) (hV 1 (by omega)) (hV 2 (by omega)) (hV 3 (by omega)) (hV 4 (by omega)) (hV 5 (by omega)) (hV 6 (by omega)) (hV 7 (by omega)) (hV 8 (by omega)) (hV 9 (by omega)) (hV 10 (by omega)) (hV 11 (by omega)) (hV 12 (by omega)) (hV 13 (by omega)) (hV 14 (by omega)) (hV 15 (by omega)) (by simpa using hJ)
theorem oi (gt ct mm aa bb nn ga gb ca cb : Nat) (tt : TypeId) (cur : Array Value) (w : World) (hB : Blk w gt tt cur) (ha : cur[aa]? = some (.slice (some ⟨ga, 0, none⟩) nn ca)) (hb : cur[bb]? = some (.slice (some ⟨gb, 0, none⟩) nn cb)) (hA1 : aa < mm) (hB1 : bb < mm) :
  Calls Try.prog 175 #[.slice (some ⟨gt, 0, none⟩) mm ct, .int .i64 (aa : Int), .int .i64 (bb : Int)] w (fun e w' => e = .returned (.tuple #[]) /\ w' = ((w.drew.setCell ⟨gt, aa, none⟩ (.slice (some ⟨gb, 0, none⟩) nn cb)).setCell ⟨gt, bb, none⟩ (.slice (some ⟨ga, 0, none⟩) nn ca))) := by
 have hbs : bb < cur.size := (Array.getElem?_eq_some_iff.1 hb).1;go_enter Try.func175, Try.ntmps175
 go_upto_region 0 with (fail)
 refine qg gt ct mm aa bb nn ga gb ca cb tt cur w hB ha hb hbs hA1 hB1 _ _ (by simp) rfl rfl rfl ?_;rintro xv0 xv1 xv2 xv3 xv4 xv5 xv6 xv7 xv8 xv9 xv10 xv11 xv12 xv13 xv14 xv15 W rfl rfl rfl rfl rfl rfl rfl rfl rfl rfl rfl rfl rfl _ rfl _ rfl;simp only [ae, Try.f175, ab, Option.bind_some, Nat.reduceBEq, if_true, Option.getD_some, List.drop_succ_cons, List.drop_zero];simp only [Act.put, List.setIfInBounds_toArray, List.set_cons_succ, List.set_cons_zero];go_wp2
 go_end0
 exact ⟨rfl, rfl⟩
theorem ol (gs gt ct mm aa bb nn ga gb ca cb : Nat) (w : World) (hs : w.cell? ⟨gs, 0, none⟩ = some (.slice (some ⟨gt, 0, none⟩) mm ct)) (ha : w.cell? ⟨gt, aa, none⟩ = some (.slice (some ⟨ga, 0, none⟩) nn ca)) (hb : w.cell? ⟨gt, bb, none⟩ = some (.slice (some ⟨gb, 0, none⟩) nn cb)) (_hA1 : aa < mm) (_hB1 : bb < mm) (a : Act) (Q : Exit -> Act -> World -> Prop) (hsize : 21 <= a.tmps.size)
  (s1 : a.tmps[1]? = some (.int .i64 (aa : Int)))
  (s2 : a.tmps[2]? = some (.int .i64 (bb : Int)))
  (s4 : a.tmps[4]? = some (.pointer (some ⟨gs, 0, none⟩)))
  (hend : ∀ (xv0 xv1 xv2 xv3 xv4 xv5 xv6 xv7 xv8 xv9 xv10 xv11 : Value) (W : World), (xv0 = .pointer (some ⟨gs, 0, none⟩)) -> (xv1 = .slice (some ⟨gt, 0, none⟩) mm ct) -> (xv2 = .int .i64 (aa : Int)) -> (xv3 = .pointer (some ⟨gt, aa, none⟩)) -> (xv4 = .slice (some ⟨ga, 0, none⟩) nn ca) -> (xv5 = .pointer (some ⟨gs, 0, none⟩)) -> (xv6 = .slice (some ⟨gt, 0, none⟩) mm ct) -> (xv7 = .int .i64 (bb : Int)) -> (xv8 = .pointer (some ⟨gt, bb, none⟩)) -> (xv9 = .slice (some ⟨gb, 0, none⟩) nn cb) -> (xv10 = .slice (some ⟨ga, 0, none⟩) nn ca) -> (xv11 = .slice (some ⟨gb, 0, none⟩) nn cb) -> Ext w W -> wpList Try.prog (ae Try.f177 1).toArray Q ((ae Try.f177 1).drop 12) ((((((((((((a.put (some 11) xv0).put (some 12) xv1).put (some 13) xv2).put (some 14) xv3).put (some 15) xv4).put (some 16) xv5).put (some 17) xv6).put (some 18) xv7).put (some 19) xv8).put (some 20) xv9).put (some 8) xv10).put (some 9) xv11) W) :
  (Code.region 1 (ae Try.f177 1).toArray true).wp Try.prog Q a w := by
 refine bB 12 [some 11, some 12, some 13, some 14, some 15, some 16, some 17, some 18, some 19, some 20, some 8, some 9] [[], [0], [], [1, 2], [3], [], [5], [], [6, 7], [8], [4], [9]] [cd (.pointer (some ⟨gs, 0, none⟩)), cd (.slice (some ⟨gt, 0, none⟩) mm ct), cd (.int .i64 (aa : Int)), cd (.pointer (some ⟨gt, aa, none⟩)), cd (.slice (some ⟨ga, 0, none⟩) nn ca), cd (.pointer (some ⟨gs, 0, none⟩)), cd (.slice (some ⟨gt, 0, none⟩) mm ct), cd (.int .i64 (bb : Int)), cd (.pointer (some ⟨gt, bb, none⟩)), cd (.slice (some ⟨gb, 0, none⟩) nn cb), cd (.slice (some ⟨ga, 0, none⟩) nn ca), cd (.slice (some ⟨gb, 0, none⟩) nn cb)] (by kernel_rfl) (by kernel_rfl) rfl (by decide) hsize ⟨aN, aN, aN, aN, aN, aN, aN, aN, aN, aN, aN, aN, trivial⟩ ?_ ?_
 .
  clear hend;simp only [ae, Try.f177, ab, Option.bind_some, Nat.reduceBEq, if_true, if_false, Bool.false_eq_true, Option.getD_some];simp only [List.take_succ_cons, List.take_zero];refine ⟨?_, ?_, ?_, ?_, ?_, ?_, ?_, ?_, ?_, ?_, ?_, ?_, trivial⟩
  .
   rintro us W hJ _ b hb hbz K hK0 hK Qz;have e4 := (hbz 4 (by simp)).trans s4;clear hb hbz;go_simp;exact hK0 _ rfl
  .
   rintro us W hJ d0 b hb hbz K hK0 hK Qz;have e11 := ay (hb 0 11 rfl) d0;clear hb hbz d0;have q := Ext.cell hJ hs;go_simp;exact hK0 _ rfl
  .
   rintro us W hJ _ b hb hbz K hK0 hK Qz;have e1 := (hbz 1 (by simp)).trans s1;clear hb hbz;go_simp;exact hK0 _ rfl
  .
   rintro us W hJ ⟨d1, d2⟩ b hb hbz K hK0 hK Qz;have e12 := ay (hb 1 12 rfl) d1;have e13 := ay (hb 2 13 rfl) d2;clear hb hbz d1 d2;go_simp;exact hK0 _ rfl
  .
   rintro us W hJ d3 b hb hbz K hK0 hK Qz;have e14 := ay (hb 3 14 rfl) d3;clear hb hbz d3;have q := Ext.cell hJ ha;go_simp;exact hK0 _ rfl
  .
   rintro us W hJ _ b hb hbz K hK0 hK Qz;have e4 := (hbz 4 (by simp)).trans s4;clear hb hbz;go_simp;exact hK0 _ rfl
  .
   rintro us W hJ d5 b hb hbz K hK0 hK Qz;have e16 := ay (hb 5 16 rfl) d5;clear hb hbz d5;have q := Ext.cell hJ hs;go_simp;exact hK0 _ rfl
  .
   rintro us W hJ _ b hb hbz K hK0 hK Qz;have e2 := (hbz 2 (by simp)).trans s2;clear hb hbz;go_simp;exact hK0 _ rfl
  .
   rintro us W hJ ⟨d6, d7⟩ b hb hbz K hK0 hK Qz;have e17 := ay (hb 6 17 rfl) d6;have e18 := ay (hb 7 18 rfl) d7;clear hb hbz d6 d7;go_simp;exact hK0 _ rfl
  .
   rintro us W hJ d8 b hb hbz K hK0 hK Qz;have e19 := ay (hb 8 19 rfl) d8;clear hb hbz d8;have q := Ext.cell hJ hb;go_simp;exact hK0 _ rfl
  .
   rintro us W hJ d4 b hb hbz K hK0 hK Qz;have e15 := ay (hb 4 15 rfl) d4;clear hb hbz d4;go_simp;exact hK0 _ rfl
  .
   rintro us W hJ d9 b hb hbz K hK0 hK Qz;have e20 := ay (hb 9 20 rfl) d9;clear hb hbz d9;go_simp;exact hK0 _ rfl
 .
  rintro us W ⟨v0, v1, v2, v3, v4, v5, v6, v7, v8, v9, v10, v11, _⟩ hJ;exact hend _ _ _ _ _ _ _ _ _ _ _ _ W v0 v1 v2 v3 v4 v5 v6 v7 v8 v9 v10 v11 hJ
theorem oo (gf nn ga gb ca cb kk L : Nat) (s1 : Bool) (A1 B1 : Option Addr) (l1 c1 m1 k1 : Nat) (s2 : Bool) (A2 B2 : Option Addr) (l2 c2 m2 k2 : Nat) (s3 : Bool) (A3 B3 : Option Addr) (l3 c3 m3 k3 : Nat) (x y q : Rat) (w : World) (x0 : w.cell? ⟨ga, kk * 3, none⟩ = some (.bool s1)) (x1 : w.cell? ⟨ga, kk * 3 + 1, none⟩ = some (.slice A1 l1 c1)) (x2 : w.cell? ⟨ga, kk * 3 + 2, none⟩ = some (.slice B1 m1 k1)) (y0 : w.cell? ⟨gb, kk * 3, none⟩ = some (.bool s2)) (y1 : w.cell? ⟨gb, kk * 3 + 1, none⟩ = some (.slice A2 l2 c2)) (y2 : w.cell? ⟨gb, kk * 3 + 2, none⟩ = some (.slice B2 m2 k2)) (f0 : w.cell? ⟨gf, 0, none⟩ = some (.bool s3)) (f1 : w.cell? ⟨gf, 1, none⟩ = some (.slice A3 l3 c3)) (f2 : w.cell? ⟨gf, 2, none⟩ = some (.slice B3 m3 k3)) (hx : NumX w (.agg #[.bool s1, .slice A1 l1 c1, .slice B1 m1 k1]) x L) (hy : NumX w (.agg #[.bool s2, .slice A2 l2 c2, .slice B2 m2 k2]) y L) (hq : NumX w (.agg #[.bool s3, .slice A3 l3 c3, .slice B3 m3 k3]) q L) (hfit : FitQ (x - q * y) L) (_hk : kk < nn) (_hL : L <= 100000) : aF Try.prog Try.f177 6 15 47 w [32, 33, 34, 35, 36, 37, 38, 39, 40, 41, 42, 43, 44, 45, 46] [.c (.slice (some ⟨ga, 0, none⟩) nn ca), .c (.int .i64 (kk : Int)), .c (.slice (some ⟨ga, 0, none⟩) nn ca), .c (.int .i64 (kk : Int)), .c (.pointer (some ⟨ga, kk * 3, none⟩)), .c (.agg #[.bool s1, .slice A1 l1 c1, .slice B1 m1 k1]), .c (.agg #[.bool s3, .slice A3 l3 c3, .slice B3 m3 k3]), .c (.slice (some ⟨gb, 0, none⟩) nn cb), .c (.int .i64 (kk : Int)), .c (.pointer (some ⟨gb, kk * 3, none⟩)), .c (.agg #[.bool s2, .slice A2 l2 c2, .slice B2 m2 k2]), .p fun v W => NumX W v (q * y) (L + L), .p fun v W => NumX W v (x - q * y) (L + (L + L) + 1), .p fun v W => NumX W v (x - q * y) (L), .c (.pointer (some ⟨ga, kk * 3, none⟩))] [(7, .pointer (some ⟨gf, 0, none⟩)), (8, .slice (some ⟨ga, 0, none⟩) nn ca), (9, .slice (some ⟨gb, 0, none⟩) nn cb), (10, .int .i64 (kk : Int))] := by
 refine aJ [[], [], [], [], [2, 3], [4], [], [], [], [7, 8], [9], [6, 10], [5, 11], [12], [0, 1]] (by kernel_rfl) (by kernel_rfl) rfl ⟨by intro v W W' h hX; exact NumX.ext h hX, by intro v W W' h hX; exact NumX.ext h hX, by intro v W W' h hX; exact NumX.ext h hX, trivial⟩ ?_;simp only [ae, Try.f177, ab, Option.bind_some, Nat.reduceBEq, if_true, if_false, Bool.false_eq_true, Option.getD_some];simp only [List.take_succ_cons, List.take_zero]
 repeat' first | refine ⟨?_, ?_⟩ | fail
 all_goals first | (intro us W b hJ K hK0 hK Qz; simp only [aC, al, am, List.getD_cons_succ, List.getD_cons_zero]) | exact True.intro
 all_goals try (intros; have q0 := Ext.cell hJ x0; have q1 := Ext.cell hJ x1; have q2 := Ext.cell hJ x2; have q3 := Ext.cell hJ f0; have q4 := Ext.cell hJ f1; have q5 := Ext.cell hJ f2; have q6 := Ext.cell hJ y0; have q7 := Ext.cell hJ y1; have q8 := Ext.cell hJ y2; go_simp; exact hK0 _ rfl)
 .
  intro e38 e42 e7 e8 e9 e10;go_simp;refine (pw (hq.ext hJ) (hy.ext hJ) (by omega) (by omega)).mono ?_;rintro e w' ⟨v, rfl, hv, hX⟩;exact hK _ _ hv hX
 .
  intro e37 e43 d11 e7 e8 e9 e10;go_simp;refine (re (hx.ext hJ) d11 (by omega)).mono ?_;rintro e w' ⟨v, rfl, hv, hX⟩;exact hK _ _ hv hX
 .
  intro e44 d12 e7 e8 e9 e10;go_simp;refine (cF d12 (by omega)).mono ?_;rintro e w' ⟨v, rfl, hv, hX⟩;exact hK _ _ (hv.numx hfit) hX
theorem gM {w : World} {v : Value} {q : Rat} {L g : Nat} (h : NumX w v q L) (hN : NoInts w g) (p : Nat) (b : Bool) (A1 A2 : Option Addr) (l1 c1 l2 c2 : Nat) : NumX (((w.setCell ⟨g, p, none⟩ (.bool b)).setCell ⟨g, p + 1, none⟩ (.slice A1 l1 c1)).setCell ⟨g, p + 2, none⟩ (.slice A2 l2 c2)) v q L :=
 NumX.keepsNI h ((((Keeps.refl [g] w).setCell (.inl (by simp)) _).setCell (.inl (by simp)) _).setCell (.inl (by simp)) _) fun q hq => by simp at hq; subst hq; exact hN
theorem qh (L base gt ct mm nn aa bb ga gb ca cb : Nat) (vs : List Value) (T : Nat -> Nat -> Rat) (s3 : Bool) (A3 B3 : Option Addr) (l3 c3 m3 k3 : Nat) (q : Rat) (w : World) (hT : TabG 3 (Tri fun w v q => NumX w v q L) 217 226 base w gt ct mm nn vs T) (hA1 : aa < mm) (hB1 : bb < mm) (_hab : aa ≠ bb) (hva : vs[aa]? = some (.slice (some ⟨ga, 0, none⟩) nn ca)) (hvb : vs[bb]? = some (.slice (some ⟨gb, 0, none⟩) nn cb)) (hq : NumX w (.agg #[.bool s3, .slice A3 l3 c3, .slice B3 m3 k3]) q L) (hfit : ∀ b, b < nn -> FitQ (T aa b - q * T bb b) L) (hL : L <= 100000) (_hnn : nn <= 1000) (_hbase : base <= w.heap.size) :
  Calls Try.prog 177 #[.agg #[.slice (some ⟨gt, 0, none⟩) mm ct], .int .i64 (aa : Int), .int .i64 (bb : Int), .agg #[.bool s3, .slice A3 l3 c3, .slice B3 m3 k3]] w (fun e w' => e = .returned (.tuple #[]) /\ Keeps [ga] w w' /\ TabG 3 (Tri fun w v q => NumX w v q L) 217 226 base w' gt ct mm nn vs (fun a b => if a = aa then T aa b - q * T bb b else T a b)) := by
 have hlow : ga < w.heap.size /\ gt < w.heap.size /\ ga ≠ gt := by
  obtain ⟨v, r, h1, ho, _⟩ := hT.tbl.row hA1;rw [hva] at h1;injection h1 with h1;subst h1;refine ⟨(cB ho (by simp [Value.ownBlock])).2, hT.low.2, ?_⟩;rintro rfl
  rcases de ho hT.out (by decide) with q | q
  .
   simp [Value.ownBlock] at q
  .
   exact q rfl
 obtain ⟨hga, hgt, hgg⟩ := hlow;have ha := af hT.out hva;have hb := af hT.out hvb;have HTB := hid hT;have HQ := hid hq;have HFIT := hid hfit;have HVA := hid hva;have HVB := hid hvb;have hAQ := hid ha;have hBQ := hid hb;clear hT hq hfit hva hvb ha hb;have hXe : Ext w ((w.alloc (.cells #[.slice (some ⟨gt, 0, none⟩) mm ct] 201)).alloc (.cells #[.bool s3, .slice A3 l3 c3, .slice B3 m3 k3] 217)) := (((Ext.refl w).alloc _).alloc _);have kS : Blk ((w.alloc (.cells #[.slice (some ⟨gt, 0, none⟩) mm ct] 201)).alloc (.cells #[.bool s3, .slice A3 l3 c3, .slice B3 m3 k3] 217)) w.heap.size 201 #[.slice (some ⟨gt, 0, none⟩) mm ct] := Blk.alloc (Blk.at_ (by simp)) _;have kF : Blk ((w.alloc (.cells #[.slice (some ⟨gt, 0, none⟩) mm ct] 201)).alloc (.cells #[.bool s3, .slice A3 l3 c3, .slice B3 m3 k3] 217)) (w.heap.size + 1) 217 #[.bool s3, .slice A3 l3 c3, .slice B3 m3 k3] := Blk.at_ (by simp);go_enter Try.func177, Try.ntmps177
 go_upto_region 1 with (fail)
 generalize ((w.alloc _).alloc _) = w1 at hXe kS kF |-;have HX := hid hXe;clear hXe;have KS := hid kS;clear kS;have KF := hid kF;clear kF
 go_wp2_with fail
 refine ol w.heap.size gt ct mm aa bb nn ga gb ca cb w1 (KS.out.cell 0) (HX.out.cell hAQ.out) (HX.out.cell hBQ.out) hA1 hB1 _ _ (by simp) rfl rfl rfl ?_;rintro xv0 xv1 xv2 xv3 xv4 xv5 xv6 xv7 xv8 xv9 xv10 xv11 w2 rfl rfl rfl rfl rfl rfl rfl rfl rfl rfl rfl rfl hXW;simp only [ae, Try.f177, ab, Option.bind_some, Nat.reduceBEq, if_true, if_false, Bool.false_eq_true, Option.getD_some, List.drop_succ_cons, List.drop_zero];simp only [Act.put, List.setIfInBounds_toArray, List.set_cons_succ, List.set_cons_zero];replace HX := hid (HX.out.trans hXW);replace KS := hid (KS.out.ext hXW);replace KF := hid (KF.out.ext hXW);clear hXW;clear hAQ hBQ;replace HTB := hid (HTB.out.ext (aB L) HX.out);replace HQ := hid (HQ.out.ext HX.out);have HK := hid (Keeps.of_ext HX.out [ga]);have HSZ := HX.out.size;clear HX KS
 go_wp2_with fail
 have HT0 : Hid (TabG 3 (Tri fun w v q => NumX w v q L) 217 226 base w2 gt ct mm nn vs (fun a b => if a = aa /\ b < 0 then T aa b - q * T bb b else T a b)) := hid (HTB.out.congr fun i j _ _ => by rw [if_neg (by omega)]);clear HTB
 go_loopg [23] nn (fun f iv wr => ∃ k : Nat, f = nn - k /\ k <= nn /\ iv = .int .i64 (k : Int) /\ Hid (TabG 3 (Tri fun w v q => NumX w v q L) 217 226 base wr gt ct mm nn vs (fun a b => if a = aa /\ b < k then T aa b - q * T bb b else T a b)) /\ Hid (Keeps [ga] w wr) /\ Hid (NumX wr (.agg #[.bool s3, .slice A3 l3 c3, .slice B3 m3 k3]) q L) /\ Hid (Blk wr (w.heap.size + 1) 217 #[.bool s3, .slice A3 l3 c3, .slice B3 m3 k3]))
 case atStart => exact ⟨0, rfl, by omega, rfl, HT0, HK, HQ, KF⟩
 case round =>
  clear HT0 HK HQ KF HSZ;obtain ⟨k, rfl, hk, rfl, HT, HK, HQ, KF⟩ := hrel
  by_cases hlt : k < nn
  .
   have q1 : decide (k < nn) = true := decide_eq_true hlt;obtain ⟨v, r, hv, ho, hr⟩ := HT.out.tbl.row hB1;rw [HVB.out] at hv;injection hv with hv;subst hv;obtain ⟨s2, A2, l2, c2, B2, m2, k2, y0, y1, y2, hy⟩ := hr.three hlt;replace y0 := af ho y0;replace y1 := af ho y1;replace y2 := af ho y2;have Hy := hid hy;clear hr hy;clear ho;obtain ⟨v, r, hv, ho, hr⟩ := HT.out.tbl.row hA1;rw [HVA.out] at hv;injection hv with hv;subst hv;obtain ⟨s1, A1, l1, c1, B1, m1, k1, x0, x1, x2, hx⟩ := hr.three hlt;replace x0 := af ho x0;replace x1 := af ho x1;replace x2 := af ho x2;have Hx := hid hx;clear hr hx;have HOA := hid ho;clear ho;rw [if_neg (by omega)] at Hy;rw [if_neg (by omega)] at Hx;have hX0 := hid x0;have hX1 := hid x1;have hX2 := hid x2;have hY0 := hid y0;have hY1 := hid y1;have hY2 := hid y2;clear x0 x1 x2;obtain ⟨tx, htx⟩ : ∃ tx, T bb k = tx := ⟨_, rfl⟩;obtain ⟨ux, hux⟩ : ∃ ux, T aa k = ux := ⟨_, rfl⟩;have hf := HFIT.out k hlt;rw [htx, hux] at hf;rw [htx] at Hy;rw [hux] at Hx;have HFK := hid hf;have HTX := hid htx;have HUX := hid hux;clear htx hux hf;obtain ⟨sg, hsg⟩ : ∃ sg, cE tx = sg := ⟨_, rfl⟩;have HSG := hid hsg;clear hsg
   go_wp2_with fail
   refine (j9 Hy.out).mono ?_;rw [HSG.out];rintro e w2 ⟨rfl, hX⟩;clear y0 y1 y2;replace HT := hid (HT.out.ext (aB L) hX);replace HK := hid (HK.out.trans (Keeps.of_ext hX [ga]));replace HQ := hid (HQ.out.ext hX);replace KF := hid (KF.out.ext hX);replace Hx := hid (Hx.out.ext hX);replace Hy := hid (Hy.out.ext hX);replace HOA := hid (World.ownsRow.ext' HOA.out hX);replace hX0 := hid (hX.cell hX0.out);replace hX1 := hid (hX.cell hX1.out);replace hX2 := hid (hX.cell hX2.out);replace hY0 := hid (hX.cell hY0.out);replace hY1 := hid (hX.cell hY1.out);replace hY2 := hid (hX.cell hY2.out);clear hX
   by_cases hs0 : sg = 0
   .
    subst hs0;have HZ : Hid (tx = 0) := hid (by rcases bd tx with ⟨_, h⟩ | ⟨h, _⟩ | ⟨_, h⟩; (have := HSG.out; omega); exact h; (have := HSG.out; omega));clear HFK HOA Hx Hy hX0 hX1 hX2 hY0 hY1 hY2;go_wp2;go_roundg (nn - (k + 1))
    case rel =>
     refine ⟨k + 1, rfl, by omega, by go_num, hid (HT.out.congr fun i j _ _ => ?_), HK, HQ, KF⟩
     by_cases hij : i = aa /\ j = k
     .
      obtain ⟨rfl, rfl⟩ := hij;rw [if_neg (by omega), if_pos (by omega), HTX.out, HZ.out];grind
     .
      by_cases h2 : i = aa /\ j < k
      .
       rw [if_pos h2, if_pos (by omega)]
      .
       rw [if_neg h2, if_neg (by omega)]
    case measure => omega
   .
    have g0 : (sg != 0) = true := by simpa using hs0
    clear HSG
    go_upto_region 6 with (fail)
    refine oo (w.heap.size + 1) nn ga gb ca cb k L s1 A1 B1 l1 c1 m1 k1 s2 A2 B2 l2 c2 m2 k2 s3 A3 B3 l3 c3 m3 k3 ux tx q w2 hX0.out hX1.out hX2.out hY0.out hY1.out hY2.out (KF.out.cell 0) (KF.out.cell 1) (KF.out.cell 2) Hx.out Hy.out HQ.out HFK.out hlt hL _ _ (by simp) ⟨rfl, rfl, rfl, rfl, trivial⟩ ?_;rintro W hX xv11 _ xv12 _ xv13 hv;simp only [EndK, ae, Try.f177, ab, Option.bind_some, Nat.reduceBEq, if_true, if_false, Bool.false_eq_true, Option.getD_some, List.drop_succ_cons, List.drop_zero];simp only [Act.put, List.setIfInBounds_toArray, List.set_cons_succ, List.set_cons_zero];clear hX0 hX1 hX2 hY0 hY1 hY2 Hx Hy;replace HT := hid (HT.out.ext (aB L) hX);replace HK := hid (HK.out.trans (Keeps.of_ext hX [ga]));replace HQ := hid (HQ.out.ext hX);replace KF := hid (KF.out.ext hX);replace HOA := hid (World.ownsRow.ext' HOA.out hX);clear hX;obtain ⟨s4, A4, l4, c4, B4, m4, k4, rfl⟩ := NumX.open hv;have HN := hid hv;clear hv
    have HNI : Hid (NoInts W ga) := hid (by
     rcases HT.out.ni with h | h
     .
      omega
     .
      exact h.1 _ (List.mem_of_getElem? HVA.out) ga (by simp [Value.ownBlock]))
    have hlr := HOA.out.1;obtain ⟨u0, hu0⟩ : ∃ u, r[k * 3]? = some u := ⟨_, List.getElem?_eq_getElem (by omega)⟩;obtain ⟨u1, hu1⟩ : ∃ u, r[k * 3 + 1]? = some u := ⟨_, List.getElem?_eq_getElem (by omega)⟩;obtain ⟨u2, hu2⟩ : ∃ u, r[k * 3 + 2]? = some u := ⟨_, List.getElem?_eq_getElem (by omega)⟩;have x0 := af HOA.out hu0;have x1 := af HOA.out hu1;have x2 := af HOA.out hu2;have f0 := aL HOA.out (k * 3);have f1 := aL HOA.out (k * 3 + 1);have f2 := aL HOA.out (k * 3 + 2);clear hu0 hu1 hu2 hlr;have hput := HT.out.put3 (aB L) hA1 hlt HVA.out hgg (x := ux - q * tx) (hx := gM HN.out HNI.out (k * 3) s4 A4 B4 l4 c4 m4 k4);have HP := hid hput;clear hput;go_wp2;go_roundg (nn - (k + 1))
    case rel =>
     refine ⟨k + 1, rfl, by omega, by go_num, hid (HP.out.1.congr fun i j _ _ => ?_), hid (HK.out.trans HP.out.2), hid (gM HQ.out HNI.out (k * 3) s4 A4 B4 l4 c4 m4 k4), hid (((KF.out.far (by simp only; omega) _).far (by simp only; omega) _).far (by simp only; omega) _)⟩
     by_cases hij : i = aa /\ j = k
     .
      obtain ⟨rfl, rfl⟩ := hij;rw [if_pos ⟨rfl, rfl⟩, if_pos (by omega), HTX.out, HUX.out]
     .
      rw [if_neg hij]
      by_cases h2 : i = aa /\ j < k
      .
       rw [if_pos h2, if_pos (by omega)]
      .
       rw [if_neg h2, if_neg (by omega)]
    case measure => omega
  .
   obtain rfl : k = nn := by omega
   go_wp2
   go_end0
   refine ⟨rfl, HK.out, HT.out.congr fun i j _ hj => ?_⟩
   by_cases h2 : i = aa
   .
    rw [if_pos ⟨h2, hj⟩, if_pos h2]
   .
    rw [if_neg (by omega), if_neg h2]
end Go.Proofs.Ytikhlcgnlbinfaa
