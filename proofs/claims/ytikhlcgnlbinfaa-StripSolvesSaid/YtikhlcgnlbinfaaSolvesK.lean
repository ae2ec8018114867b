/- Lemmas of the proof that follows (Solves, part 11): walks of functions by contract, and plain lemmas. Conditions: none. -/
import Derived.Test.YtikhlcgnlbinfaaSolvesJ
set_option maxRecDepth 100000
set_option maxHeartbeats 32000000
namespace Go.Proofs.Ytikhlcgnlbinfaa
open Lib (hid)
open Go.RowKit
theorem l6 (S a b x y z d ww : Int) : (0 <= a /\ a < S /\ -1 <= b /\ b < S /\ b ≠ a /\ -274877906944 <= d /\ d <= 274877906944 /\ 1 <= ww /\ ww <= 1000 /\ ¬ (x = 0 /\ y = 0 /\ z = 0)) \/ (a < 0) \/ (0 <= a /\ S <= a) \/ (0 <= a /\ a < S /\ b < -1) \/ (0 <= a /\ a < S /\ -1 <= b /\ S <= b) \/ (0 <= a /\ a < S /\ -1 <= b /\ b < S /\ b = a) \/ (0 <= a /\ a < S /\ -1 <= b /\ b < S /\ b ≠ a /\ d < -274877906944) \/ (0 <= a /\ a < S /\ -1 <= b /\ b < S /\ b ≠ a /\ -274877906944 <= d /\ 274877906944 < d) \/ (0 <= a /\ a < S /\ -1 <= b /\ b < S /\ b ≠ a /\ -274877906944 <= d /\ d <= 274877906944 /\ ww < 1) \/ (0 <= a /\ a < S /\ -1 <= b /\ b < S /\ b ≠ a /\ -274877906944 <= d /\ d <= 274877906944 /\ 1 <= ww /\ 1000 < ww) \/ (0 <= a /\ a < S /\ -1 <= b /\ b < S /\ b ≠ a /\ -274877906944 <= d /\ d <= 274877906944 /\ 1 <= ww /\ ww <= 1000 /\ (x = 0 /\ y = 0 /\ z = 0)) := by
 by_cases c0 : 0 <= a
 .
  by_cases c1 : a < S
  .
   by_cases c2 : -1 <= b
   .
    by_cases c3 : b < S
    .
     by_cases c4 : b ≠ a
     .
      by_cases c5 : -274877906944 <= d
      .
       by_cases c6 : d <= 274877906944
       .
        by_cases c7 : 1 <= ww
        .
         by_cases c8 : ww <= 1000
         .
          by_cases c9 : ¬ (x = 0 /\ y = 0 /\ z = 0)
          .
           exact .inl ⟨c0, c1, c2, c3, c4, c5, c6, c7, c8, c9⟩
          .
           exact .inr (.inr (.inr (.inr (.inr (.inr (.inr (.inr (.inr (.inr (⟨c0, c1, c2, c3, c4, c5, c6, c7, c8, Decidable.not_not.1 c9⟩))))))))))
         .
          exact .inr (.inr (.inr (.inr (.inr (.inr (.inr (.inr (.inr (.inl ⟨c0, c1, c2, c3, c4, c5, c6, c7, by omega⟩)))))))))
        .
         exact .inr (.inr (.inr (.inr (.inr (.inr (.inr (.inr (.inl ⟨c0, c1, c2, c3, c4, c5, c6, by omega⟩))))))))
       .
        exact .inr (.inr (.inr (.inr (.inr (.inr (.inr (.inl ⟨c0, c1, c2, c3, c4, c5, by omega⟩)))))))
      .
       exact .inr (.inr (.inr (.inr (.inr (.inr (.inl ⟨c0, c1, c2, c3, c4, by omega⟩))))))
     .
      exact .inr (.inr (.inr (.inr (.inr (.inl ⟨c0, c1, c2, c3, Decidable.not_not.1 c4⟩)))))
    .
     exact .inr (.inr (.inr (.inr (.inl ⟨c0, c1, c2, by omega⟩))))
   .
    exact .inr (.inr (.inr (.inl ⟨c0, c1, by omega⟩)))
  .
   exact .inr (.inr (.inl ⟨c0, by omega⟩))
 .
  exact .inr (.inl ((by omega)))
theorem dm (S : Int) (A : Option Addr) (n c : Nat) (ms : List Mt) (w : World) (h : MsAt w A n ms) :
  Calls Try.prog 42 #[.agg #[.int .i64 S, .slice A n c]] w (fun e w' => e = .returned (.bool (jg S ms)) /\ Ext w w') := by
 have HX := hid ((Ext.refl w).alloc (.cells #[.int .i64 S, .slice A n c] 76));have HP := hid (Blk.new w 76 #[.int .i64 S, .slice A n c]);have H := hid h;have HL := hid h.1;clear h;obtain ⟨R, hR⟩ : ∃ R, jg S ms = R := ⟨_, rfl⟩;have HR := hid hR;rw [hR];clear hR
 rcases iI (S := S) (n := n) with ⟨h1, h2, h3⟩ | h1 | ⟨h1, h2⟩ | ⟨h1, h2, h3⟩
 rotate_left
 .
  obtain rfl : R = false := by rw [<- HR.out]; exact aV (fun h => by have := h.1; omega)
  go_enter Try.func42, Try.ntmps42;go_wp2;go_ret;exact ⟨rfl, HX.out⟩
 .
  obtain rfl : R = false := by rw [<- HR.out]; exact aV (fun h => by have := h.2.1; omega)
  go_enter Try.func42, Try.ntmps42;go_wp2;go_ret;exact ⟨rfl, HX.out⟩
 .
  obtain rfl : R = false := by rw [<- HR.out]; exact aV (fun h => by have := h.2.2.1; have := HL.out; omega)
  go_enter Try.func42, Try.ntmps42;go_wp2;go_ret;exact ⟨rfl, HX.out⟩
 go_enter Try.func42, Try.ntmps42
 go_upto_region 1 with (fail)
 generalize w.alloc _ = w1 at HX HP |-;have p0 := HP.out.cell 0;have p1 := HP.out.cell 1;simp only [List.getElem?_toArray, List.getElem?_cons_zero, List.getElem?_cons_succ] at p0 p1
 go_wp2_with fail
 clear p0 p1
 go_loopg [3] n (fun f iv wr => ∃ k : Nat, f = n - k /\ k <= n /\ iv = .int .i64 (k : Int) /\ Hid (∀ m ∈ ms.take k, jL S m = true) /\ Hid (Blk wr w.heap.size 76 #[.int .i64 S, .slice A n c]) /\ Hid (Ext w wr))
 case atStart => exact ⟨0, rfl, by omega, rfl, hid (by simp), HP, HX⟩
 case round =>
  clear HX HP;obtain ⟨k, rfl, hk, rfl, HV, HP, HX⟩ := hrel;have p0 := HP.out.cell 0;have p1 := HP.out.cell 1;simp only [List.getElem?_toArray, List.getElem?_cons_zero, List.getElem?_cons_succ] at p0 p1
  by_cases hlt : k < n
  .
   have q1 : decide (k < n) = true := decide_eq_true hlt;obtain ⟨g, o, ⟨a, b, x, y, z, d, ww⟩, rfl, hm, hmem, x0, x1, x2, x3, x4, x5, x6⟩ := (H.out.ext HX.out).get hlt;simp only at x0 x1 x2 x3 x4 x5 x6;have HM := hid hm;have HME := hid hmem;clear hm hmem
   go_upto_region 7 with (fail)
   have hXa : Ext wr (wr.alloc (.cells #[.int .i64 (a), .int .i64 (b), .int .i64 (x), .int .i64 (y), .int .i64 (z), .int .i64 (d), .int .i64 (ww)] 90)) := (Ext.refl _).alloc _;have hB := Blk.new wr 90 #[.int .i64 (a), .int .i64 (b), .int .i64 (x), .int .i64 (y), .int .i64 (z), .int .i64 (d), .int .i64 (ww)];replace HX := hid (HX.out.trans hXa);replace HP := hid (HP.out.ext hXa);clear hXa x0 x1 x2 x3 x4 x5 x6 p0 p1;generalize wr.heap.size = gm at hB |-;generalize wr.alloc _ = w2 at hB HX HP |-;have HB := hid hB;clear hB;have y0 := HB.out.cell 0;have y1 := HB.out.cell 1;have y2 := HB.out.cell 2;have y3 := HB.out.cell 3;have y4 := HB.out.cell 4;have y5 := HB.out.cell 5;have y6 := HB.out.cell 6;simp only [List.getElem?_toArray, List.getElem?_cons_zero, List.getElem?_cons_succ] at y0 y1 y2 y3 y4 y5 y6;have p0 := HP.out.cell 0;simp only [List.getElem?_toArray, List.getElem?_cons_zero] at p0
   rcases l6 S a b x y z d ww with ⟨c0, c1, c2, c3, c4, c5, c6, c7, c8, c9⟩ | c0 | ⟨c0, c1⟩ | ⟨c0, c1, c2⟩ | ⟨c0, c1, c2, c3⟩ | ⟨c0, c1, c2, c3, c4⟩ | ⟨c0, c1, c2, c3, c4, c5⟩ | ⟨c0, c1, c2, c3, c4, c5, c6⟩ | ⟨c0, c1, c2, c3, c4, c5, c6, c7⟩ | ⟨c0, c1, c2, c3, c4, c5, c6, c7, c8⟩ | ⟨c0, c1, c2, c3, c4, c5, c6, c7, c8, rfl, rfl, rfl⟩
   rotate_left
   .
    obtain rfl : R = false := by rw [<- HR.out]; exact aV (fun h => by have h := h.2.2.2 _ HME.out; have := h.a0; have := h.aS; have := h.b0; have := h.bS; have := h.ne; have := h.nz; have := h.d1; have := h.d2; have := h.w1; have := h.w2; simp only at *; omega)
    go_wp2;go_ret
    exact ⟨rfl, HX.out⟩
   .
    obtain rfl : R = false := by rw [<- HR.out]; exact aV (fun h => by have h := h.2.2.2 _ HME.out; have := h.a0; have := h.aS; have := h.b0; have := h.bS; have := h.ne; have := h.nz; have := h.d1; have := h.d2; have := h.w1; have := h.w2; simp only at *; omega)
    go_wp2;go_ret
    exact ⟨rfl, HX.out⟩
   .
    obtain rfl : R = false := by rw [<- HR.out]; exact aV (fun h => by have h := h.2.2.2 _ HME.out; have := h.a0; have := h.aS; have := h.b0; have := h.bS; have := h.ne; have := h.nz; have := h.d1; have := h.d2; have := h.w1; have := h.w2; simp only at *; omega)
    go_wp2;go_ret
    exact ⟨rfl, HX.out⟩
   .
    obtain rfl : R = false := by rw [<- HR.out]; exact aV (fun h => by have h := h.2.2.2 _ HME.out; have := h.a0; have := h.aS; have := h.b0; have := h.bS; have := h.ne; have := h.nz; have := h.d1; have := h.d2; have := h.w1; have := h.w2; simp only at *; omega)
    go_wp2;go_ret
    exact ⟨rfl, HX.out⟩
   .
    obtain rfl : R = false := by rw [<- HR.out]; exact aV (fun h => by have h := h.2.2.2 _ HME.out; have := h.a0; have := h.aS; have := h.b0; have := h.bS; have := h.ne; have := h.nz; have := h.d1; have := h.d2; have := h.w1; have := h.w2; simp only at *; omega)
    subst c4;have g5 : (b == b) = true := by simp
    go_wp2;go_ret
    exact ⟨rfl, HX.out⟩
   .
    obtain rfl : R = false := by rw [<- HR.out]; exact aV (fun h => by have h := h.2.2.2 _ HME.out; have := h.a0; have := h.aS; have := h.b0; have := h.bS; have := h.ne; have := h.nz; have := h.d1; have := h.d2; have := h.w1; have := h.w2; simp only at *; omega)
    have g5 : (b == a) = false := by simpa using c4
    go_wp2;go_ret
    exact ⟨rfl, HX.out⟩
   .
    obtain rfl : R = false := by rw [<- HR.out]; exact aV (fun h => by have h := h.2.2.2 _ HME.out; have := h.a0; have := h.aS; have := h.b0; have := h.bS; have := h.ne; have := h.nz; have := h.d1; have := h.d2; have := h.w1; have := h.w2; simp only at *; omega)
    have g5 : (b == a) = false := by simpa using c4
    go_wp2;go_ret
    exact ⟨rfl, HX.out⟩
   .
    obtain rfl : R = false := by rw [<- HR.out]; exact aV (fun h => by have h := h.2.2.2 _ HME.out; have := h.a0; have := h.aS; have := h.b0; have := h.bS; have := h.ne; have := h.nz; have := h.d1; have := h.d2; have := h.w1; have := h.w2; simp only at *; omega)
    have g5 : (b == a) = false := by simpa using c4
    go_wp2;go_ret
    exact ⟨rfl, HX.out⟩
   .
    obtain rfl : R = false := by rw [<- HR.out]; exact aV (fun h => by have h := h.2.2.2 _ HME.out; have := h.a0; have := h.aS; have := h.b0; have := h.bS; have := h.ne; have := h.nz; have := h.d1; have := h.d2; have := h.w1; have := h.w2; simp only at *; omega)
    have g5 : (b == a) = false := by simpa using c4
    go_wp2;go_ret
    exact ⟨rfl, HX.out⟩
   .
    obtain rfl : R = false := by rw [<- HR.out]; exact aV (fun h => (h.2.2.2 _ HME.out).nz ⟨rfl, rfl, rfl⟩)
    have g5 : (b == a) = false := by simpa using c4
    have g6 : ∀ w, (Op.equalIn 10000 22 (.agg #[.int .i64 0, .int .i64 0, .int .i64 0]) (.agg #[.int .i64 0, .int .i64 0, .int .i64 0])).run Try.prog w = .ok true w := fun w => by rw [eS 9998, decide_eq_true ⟨rfl, rfl, rfl⟩]
    go_wp2;go_ret
    exact ⟨rfl, HX.out⟩
   have g5 : (b == a) = false := by simpa using c4
   have g6 : ∀ w, (Op.equalIn 10000 22 (.agg #[.int .i64 x, .int .i64 y, .int .i64 z]) (.agg #[.int .i64 0, .int .i64 0, .int .i64 0])).run Try.prog w = .ok false w := fun w => by rw [eS 9998, decide_eq_false c9]
   have HC9 := hid c9;clear c9
   go_wp2_with fail
   go_loopg [5] 3 (fun f iv wz => ∃ r : Nat, f = 3 - r /\ r <= 3 /\ iv = .int .i64 (r : Int) /\ Hid (∀ q, q < r -> -100 <= aA x y z q /\ aA x y z q <= 100) /\ wz = w2)
   case atStart => exact ⟨0, rfl, by omega, rfl, hid (fun q hq => by omega), rfl⟩
   case round =>
    obtain ⟨r, rfl, hr, rfl, HPK, rfl⟩ := hrel
    by_cases hrl : r < 3
    .
     have q2 : decide (r < 3) = true := decide_eq_true hrl;obtain ⟨v, hv⟩ : ∃ v, aA x y z r = v := ⟨_, rfl⟩
     have yv : wr.cell? ⟨gm, 2 + r, none⟩ = some (.int .i64 v) := by
      rw [<- hv]
      match r, hrl with
      | 0, _ => exact y2
      | 1, _ => exact y3
      | 2, _ => exact y4
      | _ + 3, h => omega
     have HVV := hid hv
     have HVB : Hid (jg S ms = true -> -100 <= v /\ v <= 100) := hid (fun e => by
      have h := (bt.1 e).2.2.2 _ HME.out;have h1 := h.x1; have h2 := h.x2; have h3 := h.y1; have h4 := h.y2; have h5 := h.z1; have h6 := h.z2;simp only at h1 h2 h3 h4 h5 h6;rw [<- hv];unfold aA; split; omega; split <;> omega)
     clear hv
     by_cases c10 : v < -100
     .
      obtain rfl : R = false := by
       rw [<- HR.out]
       rcases hb : jg S ms with _ | _
       .
        rfl
       .
        have := HVB.out hb; omega
      go_wp2;go_ret
      exact ⟨rfl, HX.out⟩
     .
      by_cases c11 : 100 < v
      .
       obtain rfl : R = false := by
        rw [<- HR.out]
        rcases hb : jg S ms with _ | _
        .
         rfl
        .
         have := HVB.out hb; omega
       go_wp2;go_ret
       exact ⟨rfl, HX.out⟩
      .
       go_wp2;go_roundg (3 - (r + 1))
       case rel =>
        refine ⟨r + 1, rfl, by omega, by go_num, hid (fun q hq => ?_), rfl⟩
        rcases Nat.lt_or_ge q r with h | h
        .
         exact HPK.out q h
        .
         obtain rfl : q = r := by omega
         rw [HVV.out]; omega
       case measure => omega
    .
     obtain rfl : r = 3 := by omega
     have HBT : Hid (jL S ⟨a, b, x, y, z, d, ww⟩ = true) := hid (by
      have e0 := HPK.out 0 (by omega);have e1 := HPK.out 1 (by omega);have e2 := HPK.out 2 (by omega);simp only [aA] at e0 e1 e2;simp only [if_true, Nat.reduceEqDiff, if_false, Nat.succ_ne_zero] at e0 e1 e2;have h9 := HC9.out;exact cN.2 ⟨c0, c1, c2, c3, fun e => c4 e.symm, h9, e0.1, e0.2, e1.1, e1.2, e2.1, e2.2, c5, c6, c7, c8⟩)
     clear HPK;go_wp2;go_roundg (n - (k + 1))
     case rel =>
      refine ⟨k + 1, rfl, by omega, by go_num, hid (fun m hm => ?_), HP, HX⟩;rw [List.take_add_one, HM.out] at hm
      rcases List.mem_append.1 hm with h | h
      .
       exact HV.out m h
      .
       simp at h; subst h; exact HBT.out
     case measure => omega
  .
   obtain rfl : k = n := by omega
   have q1 : decide (k < k) = false := by simp
   obtain rfl : R = true := by
    rw [<- HR.out];refine bt.2 ⟨h1, h2, by have := HL.out; omega, fun m hm => cN.1 (HV.out m ?_)⟩;rw [List.take_of_length_le (by have := HL.out; omega)];exact hm
   go_wp2;go_ret
   exact ⟨rfl, HX.out⟩
theorem f6 (L : Nat) : FitQ 0 (L + 1) := ⟨Fit.zero (by decide), Fit.one (by decide) (by omega)⟩
theorem fF {S : Int} {ms : List Mt} (h : ∀ m ∈ ms, VM S m) (hl : ms.length <= 64) {n : Nat} (hn : n <= 24) (j : Nat) : FitQ (bp n ms j) 53 := by
 unfold bp gH;split
 .
  rename_i i hp
  have hi := Stage.pivtop n j i hp;have h2 := ei n (a9 ms n) n;exact iQ h hl hn n (Nat.le_refl _) i (by omega) n (Nat.le_refl _)
 .
  exact f6 52
theorem mc (S : Int) (A : Option Addr) (n c : Nat) (ms : List Mt) (w : World) (h : MsAt w A n ms) (hv : ¬ VP S ms) :
  Calls Try.prog 48 #[.agg #[.int .i64 S, .slice A n c]] w (fun e w' => e = .returned (.tuple #[.slice none 0 0, .int .i64 50]) /\ Ext w w') := by
 have HX := hid ((Ext.refl w).alloc (.cells #[.int .i64 S, .slice A n c] 76));have HP := hid (Blk.new w 76 #[.int .i64 S, .slice A n c]);have HB := hid (aV hv);have H := hid h;have HV := hid hv;clear h hv;go_enter Try.func48, Try.ntmps48
 go_upto_region 1 with (fail)
 generalize w.alloc _ = w1 at HX HP |-;have p0 := HP.out.cell 0;have p1 := HP.out.cell 1;simp only [List.getElem?_toArray, List.getElem?_cons_zero, List.getElem?_cons_succ] at p0 p1
 go_wp2_with fail
 refine (bR S A n c ms _ (H.out.ext HX.out)).mono ?_;rw [HB.out];rintro e w2 ⟨rfl, hX⟩;replace HX := hid (HX.out.trans hX);replace HP := hid (HP.out.ext hX);clear hX p0 p1;go_wp2
 go_ret2
 exact ⟨rfl, HX.out⟩
theorem f7 (S : Nat) (A : Option Addr) (n c : Nat) (ms : List Mt) (w : World) (h : MsAt w A n ms) (hv : VP (S : Int) ms) :
  Calls Try.prog 48 #[.agg #[.int .i64 (S : Int), .slice A n c]] w (fun e w' => ∃ go, e = .returned (.tuple #[.slice (some ⟨go, 0, none⟩) S S, .int .i64 0]) /\ w.heap.size <= go /\ ShP RatC w' go 0 S (bp (3 * S) ms) /\ Ext w w') := by
 have HX := hid ((Ext.refl w).alloc (.cells #[.int .i64 (S : Int), .slice A n c] 76));have HP := hid (Blk.new w 76 #[.int .i64 (S : Int), .slice A n c]);have HB := hid (bt.2 hv);have H := hid h;have HV := hid hv;clear h hv;go_enter Try.func48, Try.ntmps48
 go_upto_region 1 with (fail)
 generalize w.alloc _ = w1 at HX HP |-;have p0 := HP.out.cell 0;have p1 := HP.out.cell 1;simp only [List.getElem?_toArray, List.getElem?_cons_zero, List.getElem?_cons_succ] at p0 p1
 go_wp2_with fail
 refine (bR (S : Int) A n c ms _ (H.out.ext HX.out)).mono ?_;rw [HB.out];rintro e w2 ⟨rfl, hX⟩;replace HX := hid (HX.out.trans hX);replace HP := hid (HP.out.ext hX);clear hX p0 p1;have hS8 : S <= 8 := by have := HV.out.2.1; omega
 have HF : Hid (∀ j, j < 3 * S -> FitQW (bp (3 * S) ms j)) := hid (fun j _ => FitQW.of4 ((fF HV.out.2.2.2 HV.out.2.2.1 (by omega) j)) (by omega));have p0 := HP.out.cell 0;have p1 := HP.out.cell 1;simp only [List.getElem?_toArray, List.getElem?_cons_zero, List.getElem?_cons_succ] at p0 p1
 go_wp2_with fail
 refine (oC S A n c ms _ (H.out.ext HX.out) HV.out).mono ?_;rintro e w3 ⟨go, rfl, hgo, hS, hX⟩;have HS := hid hS;have hs := HX.out.size;replace HX := hid (HX.out.trans hX);clear hS hX p0 p1
 go_wp2_with fail
 refine (rz 53 go 0 S S (bp (3 * S) ms) _ HS.out (by omega) HF.out (by omega)).mono ?_;rintro e w4 ⟨g2, rfl, hg2, hS2, hX⟩;have hs3 := HX.out.size;replace HX := hid (HX.out.trans hX);have HS2 := hid hS2;clear hS2 hX;go_wp2
 go_ret2
 exact ⟨g2, rfl, by omega, HS2.out, HX.out⟩
theorem oD (go S ss kk gr : Nat) (sy : Bool) (Ay By : Option Addr) (ly cy my ky : Nat) (q : Rat) (w : World) (x0 : w.cell? ⟨gr, 0, none⟩ = some (.bool sy)) (x1 : w.cell? ⟨gr, 1, none⟩ = some (.slice Ay ly cy)) (x2 : w.cell? ⟨gr, 2, none⟩ = some (.slice By my ky)) (hx : RatG w (.agg #[.bool sy, .slice Ay ly cy, .slice By my ky]) q) (_hs1 : ss < S) (_hk3 : (kk : Int) < 3) (_hk4 : kk < 3) : aF Try.prog Try.f126 14 7 43 w [36, 37, 38, 39, 40, 41, 42] [.c (.slice (some ⟨go, 0, none⟩) S S), .c (.int .i64 (ss : Int)), .c (.int .i64 (kk : Int)), .c (.agg #[.bool sy, .slice Ay ly cy, .slice By my ky]), .p fun v W => NumX W v (q) (256), .c (.pointer (some ⟨go, ss * 9, none⟩)), .c (.pointer (some ⟨go, ss * 9 + kk * 3, none⟩))] [(6, .slice (some ⟨go, 0, none⟩) S S), (7, .int .i64 (ss : Int)), (9, .int .i64 (kk : Int)), (10, .pointer (some ⟨gr, 0, none⟩))] := by
 refine aJ [[], [], [], [], [3], [0, 1], [2, 5]] (by kernel_rfl) (by kernel_rfl) rfl ⟨by intro v W W' h hX; exact NumX.ext h hX, trivial⟩ ?_;simp only [ae, Try.f126, ab, Option.bind_some, Nat.reduceBEq, if_true, if_false, Bool.false_eq_true, Option.getD_some];simp only [List.take_succ_cons, List.take_zero]
 repeat' first | refine ⟨?_, ?_⟩ | fail
 all_goals first | (intro us W b hJ K hK0 hK Qz; simp only [aC, al, am, List.getD_cons_succ, List.getD_cons_zero]) | exact True.intro
 all_goals try (intros; have q0 := Ext.cell hJ x0; have q1 := Ext.cell hJ x1; have q2 := Ext.cell hJ x2; go_simp; exact hK0 _ rfl)
 .
  intro e39 e6 e7 e9 e10;go_simp;refine (sK (hx.ext hJ)).mono ?_;rintro e w' ⟨v, rfl, hv, hX⟩;exact hK _ _ hv hX
theorem oE (S : Nat) (A : Option Addr) (n c : Nat) (ms : List Mt) (gt ot ct : Nat) (u : Nat -> Rat) (w : World) (h : MsAt w A n ms) (hv : VP (S : Int) ms) (hS : ShP RatG w gt ot S u) :
  Calls Try.prog 126 #[.agg #[.int .i64 (S : Int), .slice A n c], .slice (some ⟨gt, ot, none⟩) S ct] w (fun e w' => ∃ go, e = .returned (.tuple #[.slice (some ⟨go, 0, none⟩) S S, .int .i64 0]) /\ w.heap.size <= go /\ ShP (fun w v q => NumX w v q 256) w' go 0 S u /\ Ext w w') := by
 have HX := hid ((Ext.refl w).alloc (.cells #[.int .i64 (S : Int), .slice A n c] 76));have HP := hid (Blk.new w 76 #[.int .i64 (S : Int), .slice A n c]);have HB := hid (bt.2 hv);have H := hid h;have HV := hid hv;clear h hv;go_enter Try.func126, Try.ntmps126
 go_upto_region 1 with (fail)
 generalize w.alloc _ = w1 at HX HP |-;have p0 := HP.out.cell 0;have p1 := HP.out.cell 1;simp only [List.getElem?_toArray, List.getElem?_cons_zero, List.getElem?_cons_succ] at p0 p1
 go_wp2_with fail
 refine (bR (S : Int) A n c ms _ (H.out.ext HX.out)).mono ?_;rw [HB.out];rintro e w2 ⟨rfl, hX⟩;replace HX := hid (HX.out.trans hX);replace HP := hid (HP.out.ext hX);clear hX p0 p1;have p0 := HP.out.cell 0;simp only [List.getElem?_toArray, List.getElem?_cons_zero] at p0;have q0 : ((S : Int) != (S : Int)) = false := by simp
 have hS8 : S <= 8 := by have := HV.out.2.1; omega
 have HS := hid hS;clear hS;have hsx := HX.out.size
 go_upto_region 6 with (at_make; refine dg w2 r3 rfl _ _ rfl w.heap.size _ _ _ _ S S rfl rfl (by first | rfl | omega) (by first | rfl | omega) (Nat.le_refl _) (by omega) (by unfold maxLen; omega) hsx ?_; intro w4 us hown hz1 hz2 hext hsz)
 have hrow : RowN (fun w v q => NumX w v q 256) 263 9 w.heap.size w4 w2.heap.size S S (3 * S) (fun _ => none) := RowN.make9 hown hz1 hz2;replace HX := hid (HX.out.trans hext);generalize w2.heap.size = go at hrow hsx hsz |-;have HR := hid hrow;clear hrow hown hz1 hz2 hext p0
 go_wp2_with fail
 go_loopg [24] S (fun f iv wr => ∃ i : Nat, f = S - i /\ i <= S /\ iv = .int .i64 (i : Int) /\ Hid (RowN (fun w v q => NumX w v q 256) 263 9 w.heap.size wr go S S (3 * S) (fun j => if j < 3 * i then some (u j) else none)) /\ Hid (Ext w wr))
 case atStart => exact ⟨0, by omega, by omega, rfl, hid (HR.out.congr (fun j _ => by rw [if_neg (by omega)])), HX⟩
 case round =>
  clear HR HX hsz;obtain ⟨i, rfl, hi, rfl, HR, HX⟩ := hrel
  by_cases hlt : i < S
  .
   have q1 : decide (i < S) = true := decide_eq_true hlt;obtain ⟨s0, A0, l0, c0, B0, m0, k0, a0, b0, d0, e0⟩ := HS.out i 0 hlt (by omega);replace a0 := HX.out.cell a0;replace b0 := HX.out.cell b0;replace d0 := HX.out.cell d0;obtain ⟨s1, A1, l1, c1, B1, m1, k1, a1, b1, d1, e1⟩ := HS.out i 1 hlt (by omega);replace a1 := HX.out.cell a1;replace b1 := HX.out.cell b1;replace d1 := HX.out.cell d1;obtain ⟨s2, A2, l2, c2, B2, m2, k2, a2, b2, d2, e2⟩ := HS.out i 2 hlt (by omega);replace a2 := HX.out.cell a2;replace b2 := HX.out.cell b2;replace d2 := HX.out.cell d2;have HE0 := hid e0;have HE1 := hid e1;have HE2 := hid e2;clear e0 e1 e2;simp only [Nat.zero_mul, Nat.add_zero, Nat.one_mul] at a0 b0 d0 a1 b1 d1;have e3 : ot + i * 9 + 3 + 1 = ot + i * 9 + 4 := by omega
   have e4 : ot + i * 9 + 3 + 2 = ot + i * 9 + 5 := by omega
   have e6 : ot + i * 9 + 2 * 3 = ot + i * 9 + 6 := by omega
   have e7 : ot + i * 9 + 2 * 3 + 1 = ot + i * 9 + 7 := by omega
   have e8 : ot + i * 9 + 2 * 3 + 2 = ot + i * 9 + 8 := by omega
   rw [e3] at b1;rw [e4] at d1;rw [e7] at b2;rw [e8] at d2;rw [e6] at a2;clear e3 e4 e6 e7 e8
   go_upto_region 9 with (fail)
   have hXa : Ext wr (wr.alloc (.cells #[.bool s0, .slice A0 l0 c0, .slice B0 m0 k0, .bool s1, .slice A1 l1 c1, .slice B1 m1 k1, .bool s2, .slice A2 l2 c2, .slice B2 m2 k2] 98)) := (Ext.refl _).alloc _;have kB := Blk.new wr 98 #[.bool s0, .slice A0 l0 c0, .slice B0 m0 k0, .bool s1, .slice A1 l1 c1, .slice B1 m1 k1, .bool s2, .slice A2 l2 c2, .slice B2 m2 k2];replace HR := hid (HR.out.ext (bl 256) hXa);replace HX := hid (HX.out.trans hXa);clear hXa a0 b0 d0 a1 b1 d1 a2 b2 d2;generalize wr.heap.size = gv at kB |-;generalize wr.alloc _ = w5 at kB HR HX |-;have y0 := kB.cell 0;have y1 := kB.cell 1;have y2 := kB.cell 2;have y3 := kB.cell 3;have y4 := kB.cell 4;have y5 := kB.cell 5;have y6 := kB.cell 6;have y7 := kB.cell 7;have y8 := kB.cell 8;simp only [List.getElem?_toArray, List.getElem?_cons_zero, List.getElem?_cons_succ] at y0 y1 y2 y3 y4 y5 y6 y7 y8;clear kB
   go_wp2_with fail
   clear y0 y1 y2 y3 y4 y5 y6 y7 y8
   go_loopg [30] 3 (fun f kv wr => ∃ k : Nat, f = 3 - k /\ k <= 3 /\ kv = .int .i64 (k : Int) /\ Hid (RowN (fun w v q => NumX w v q 256) 263 9 w.heap.size wr go S S (3 * S) (fun j => if j < 3 * i + k then some (u j) else none)) /\ Hid (Ext w wr))
   case atStart => exact ⟨0, by omega, by omega, rfl, HR, HX⟩
   case round =>
    clear HR HX;obtain ⟨k, rfl, hk, rfl, HR, HX⟩ := hrel
    by_cases hkl : k < 3
    .
     have q2 : decide (k < 3) = true := decide_eq_true hkl;obtain ⟨s9, A9, l9, c9, B9, m9, k9, g1, g2, g3, hq⟩ := iR (P := RatG) (w := wr) (q := fun k => u (3 * i + k)) hkl (HE0.out.ext HX.out) (HE1.out.ext HX.out) (HE2.out.ext HX.out);have ik := r6 (.bool s0) (.slice A0 l0 c0) (.slice B0 m0 k0) (.bool s1) (.slice A1 l1 c1) (.slice B1 m1 k1) (.bool s2) (.slice A2 l2 c2) (.slice B2 m2 k2) hkl;rw [g1, g2, g3] at ik;have HQ := hid hq;clear hq g1 g2 g3;have hj3 : 3 * i + k < 3 * S := by omega
     go_upto_region 12 with (fail)
     have hXa : Ext wr (wr.alloc (.cells #[.bool s9, .slice A9 l9 c9, .slice B9 m9 k9] 97)) := (Ext.refl _).alloc _;have kB := Blk.new wr 97 #[.bool s9, .slice A9 l9 c9, .slice B9 m9 k9];replace HR := hid (HR.out.ext (bl 256) hXa);replace HX := hid (HX.out.trans hXa);replace HQ := hid (HQ.out.ext hXa);clear hXa ik;generalize wr.heap.size = gn at kB |-;generalize wr.alloc _ = w6 at kB HR HX HQ |-;have KB := hid kB;have y0 := kB.cell 0;have y1 := kB.cell 1;have y2 := kB.cell 2;simp only [List.getElem?_toArray, List.getElem?_cons_zero, List.getElem?_cons_succ] at y0 y1 y2;clear kB
     go_wp2_with fail
     refine (RatL.is HQ.out.small).mono ?_;rintro e w7 ⟨rfl, hX⟩;clear y0 y1 y2;replace HR := hid (HR.out.ext (bl 256) hX);replace HX := hid (HX.out.trans hX);replace HQ := hid (HQ.out.ext hX);replace KB := hid (KB.out.ext hX);clear hX
     go_upto_region 14 with (fail)
     refine oD go S i k gn s9 A9 B9 l9 c9 m9 k9 _ w7 (KB.out.cell 0) (KB.out.cell 1) (KB.out.cell 2) HQ.out hlt (by omega) hkl _ _ (by simp) ⟨rfl, rfl, rfl, rfl, trivial⟩ ?_;rintro W hX xv4 hv;simp only [EndK, ae, Try.f126, ab, Option.bind_some, Nat.reduceBEq, if_true, if_false, Bool.false_eq_true, Option.getD_some, List.drop_succ_cons, List.drop_zero];simp only [Act.put, List.setIfInBounds_toArray, List.set_cons_succ, List.set_cons_zero];obtain ⟨s4, A4, l4, c4, B4, m4, k4, rfl⟩ := NumX.open hv;have HV4 := hid hv;clear hv;replace HR := hid (HR.out.ext (bl 256) hX);replace HX := hid (HX.out.trans hX);clear hX KB HQ;have hpj : i * 9 + k * 3 = (3 * i + k) * 3 := by omega
     obtain ⟨s2, A2, l2, c2, B2, m2, k2, z0, z1, z2, _⟩ := HR.out.cells hj3 hpj;have f0 := HR.out.free (i * 9 + k * 3);have f1 := HR.out.free (i * 9 + k * 3 + 1);have f2 := HR.out.free (i * 9 + k * 3 + 2);have HPUT := hid (HR.out.put (bl 256) hj3 hpj HV4.out);clear hpj;go_wp2;go_roundg (3 - (k + 1))
     case rel =>
      refine ⟨k + 1, rfl, by omega, by go_num, hid (HPUT.out.congr (fun j _ => ?_)), hid (((HX.out.setCell (by simp only; omega) _).setCell (by simp only; omega) _).setCell (by simp only; omega) _)⟩
      by_cases e : j = 3 * i + k
      .
       rw [if_pos e, e, if_pos (by omega)]
      .
       rw [if_neg e]
       by_cases h2 : j < 3 * i + k
       .
        rw [if_pos h2, if_pos (by omega)]
       .
        rw [if_neg h2, if_neg (by omega)]
     case measure => omega
    .
     obtain rfl : k = 3 := by omega
     go_wp2;go_roundg (S - (i + 1))
     case rel => exact ⟨i + 1, rfl, by omega, by go_num, hid (HR.out.congr (fun j _ => by rw [show 3 * (i + 1) = 3 * i + 3 by omega])), HX⟩
     case measure => omega
  .
   obtain rfl : i = S := by omega
   go_wp2
   go_ret2
   exact ⟨go, rfl, by omega, HR.out.shp (fun j hj => by rw [if_pos hj]), HX.out⟩
theorem iU {n : Nat} {ms : List Mt} {u : Nat -> Rat} {k : Nat} {m : Mt} (h : ms[k]? = some m) : cP n (ms.take (k + 1)) u = cP n (ms.take k) u + cL n u m := by
 unfold cP;rw [dz h, iB];simp only [iA];grind
theorem me (gs gt ot S ct gm L M : Nat) (ma mb mx my mz md mw : Int) (un : Nat -> Rat) (su : Bool) (Au Bu : Option Addr) (lu cu mu ku : Nat) (q : Rat) (w : World) (x0 : w.cell? ⟨gs, 0, none⟩ = some (.bool su)) (x1 : w.cell? ⟨gs, 1, none⟩ = some (.slice Au lu cu)) (x2 : w.cell? ⟨gs, 2, none⟩ = some (.slice Bu mu ku)) (v0 : w.cell? ⟨gm, 0, none⟩ = some (.int .i64 (ma))) (v1 : w.cell? ⟨gm, 1, none⟩ = some (.int .i64 (mb))) (v2 : w.cell? ⟨gm, 2, none⟩ = some (.int .i64 (mx))) (v3 : w.cell? ⟨gm, 3, none⟩ = some (.int .i64 (my))) (v4 : w.cell? ⟨gm, 4, none⟩ = some (.int .i64 (mz))) (v5 : w.cell? ⟨gm, 5, none⟩ = some (.int .i64 (md))) (v6 : w.cell? ⟨gm, 6, none⟩ = some (.int .i64 (mw))) (hS : ShP (fun w v q => NumX w v q L) w gt ot S un) (hm : VM S ⟨ma, mb, mx, my, mz, md, mw⟩) (hx : NumX w (.agg #[.bool su, .slice Au lu cu, .slice Bu mu ku]) q M) (hL : L <= 100000) (_hM : M <= 1000000000) : aF Try.prog Try.f50 8 6 35 w [29, 30, 31, 32, 33, 34] [.c (.agg #[.bool su, .slice Au lu cu, .slice Bu mu ku]), .c (.slice (some ⟨gt, ot, none⟩) S ct), .c (.agg #[.int .i64 (ma), .int .i64 (mb), .int .i64 (mx), .int .i64 (my), .int .i64 (mz), .int .i64 (md), .int .i64 (mw)]), .p fun v W => NumX W v (cL (3 * S) un ⟨ma, mb, mx, my, mz, md, mw⟩) (12 * L + 30), .p fun v W => NumX W v (q + cL (3 * S) un ⟨ma, mb, mx, my, mz, md, mw⟩) (M + (12 * L + 30) + 1), .p fun v W => NumX W v (q + cL (3 * S) un ⟨ma, mb, mx, my, mz, md, mw⟩) (M + (12 * L + 30) + 1)] [(6, .slice (some ⟨gt, ot, none⟩) S ct), (8, .pointer (some ⟨gs, 0, none⟩)), (10, .pointer (some ⟨gm, 0, none⟩))] := by
 refine aJ [[], [], [], [1, 2], [0, 3], [4]] (by kernel_rfl) (by kernel_rfl) rfl ⟨by intro v W W' h hX; exact NumX.ext h hX, by intro v W W' h hX; exact NumX.ext h hX, by intro v W W' h hX; exact NumX.ext h hX, trivial⟩ ?_;simp only [ae, Try.f50, ab, Option.bind_some, Nat.reduceBEq, if_true, if_false, Bool.false_eq_true, Option.getD_some];simp only [List.take_succ_cons, List.take_zero]
 repeat' first | refine ⟨?_, ?_⟩ | fail
 all_goals first | (intro us W b hJ K hK0 hK Qz; simp only [aC, al, am, List.getD_cons_succ, List.getD_cons_zero]) | exact True.intro
 all_goals try (intros; have q0 := Ext.cell hJ x0; have q1 := Ext.cell hJ x1; have q2 := Ext.cell hJ x2; have q3 := Ext.cell hJ v0; have q4 := Ext.cell hJ v1; have q5 := Ext.cell hJ v2; have q6 := Ext.cell hJ v3; have q7 := Ext.cell hJ v4; have q8 := Ext.cell hJ v5; have q9 := Ext.cell hJ v6; go_simp; exact hK0 _ rfl)
 .
  intro e30 e31 e6 e8 e10;go_simp;refine (eh (m := ⟨ma, mb, mx, my, mz, md, mw⟩) (hS.ext (bs L) hJ) hm hL).mono ?_;rintro e w' ⟨v, rfl, hv, hX⟩;exact hK _ _ hv hX
 .
  intro e29 e32 d3 e6 e8 e10;go_simp;refine (rd (hx.ext hJ) d3 (by omega)).mono ?_;rintro e w' ⟨v, rfl, hv, hX⟩;exact hK _ _ hv hX
 .
  intro e33 d4 e6 e8 e10;go_simp;refine (cF d4 (by omega)).mono ?_;rintro e w' ⟨v, rfl, hv, hX⟩;exact hK _ _ (hv.numx d4.fit) hX
theorem mf (S : Nat) (A : Option Addr) (n c : Nat) (ms : List Mt) (gt ot ct : Nat) (u : Nat -> Rat) (w : World) (h : MsAt w A n ms) (hv : VP (S : Int) ms) (hS : ShP RatG w gt ot S u) (hf : FitQW (cP (3 * S) ms u)) :
  Calls Try.prog 50 #[.agg #[.int .i64 (S : Int), .slice A n c], .slice (some ⟨gt, ot, none⟩) S ct] w (fun e w' => ∃ v, e = .returned (.tuple #[v, .int .i64 0]) /\ RatC w' v (cP (3 * S) ms u) /\ Ext w w') := by
 have H := hid h;have HV := hid hv;clear h hv;have hXe : Ext w ((w.alloc (.cells #[.int .i64 (S : Int), .slice A n c] 76)).alloc (.cells #[.bool false, .slice none 0 0, .slice none 0 0] 97)) := ((Ext.refl w).alloc _).alloc _;have kP : Blk ((w.alloc (.cells #[.int .i64 (S : Int), .slice A n c] 76)).alloc (.cells #[.bool false, .slice none 0 0, .slice none 0 0] 97)) w.heap.size 76 #[.int .i64 (S : Int), .slice A n c] := Blk.alloc (Blk.new w _ _) _;have kR : Blk ((w.alloc (.cells #[.int .i64 (S : Int), .slice A n c] 76)).alloc (.cells #[.bool false, .slice none 0 0, .slice none 0 0] 97)) (w.heap.size + 1) 97 #[.bool false, .slice none 0 0, .slice none 0 0] := Blk.at_ (by simp);go_enter Try.func50, Try.ntmps50
 go_upto_region 1 with (fail)
 generalize (w.alloc _).alloc _ = w1 at hXe kP kR |-;have HX := hid hXe;have HP := hid kP;have HR := hid kR;clear hXe kP kR;have p0 := HP.out.cell 0;have p1 := HP.out.cell 1;simp only [List.getElem?_toArray, List.getElem?_cons_zero, List.getElem?_cons_succ] at p0 p1
 go_wp2_with fail
 have HS0 := hid hS;have HF := hid hf;have HVM := hid HV.out.2.2.2;have HL := hid H.out.1;have hn64 : n <= 64 := by have := HV.out.2.2.1; have := HL.out; omega
 clear hS hf;refine (oE S A n c ms gt ot ct u _ (H.out.ext HX.out) HV.out (HS0.out.ext n7 HX.out)).mono ?_;rintro e w2 ⟨go, rfl, hgo, hS, hX⟩;have HS := hid hS;replace HX := hid (HX.out.trans hX);replace HP := hid (HP.out.ext hX);replace HR := hid (HR.out.ext hX);clear hS hX p0 p1 hgo
 go_wp2_with fail
 refine (hY 0 _ (by omega) (by omega)).mono ?_;rintro e w3 ⟨v3, rfl, hv, hX⟩;obtain ⟨s0, A0, l0, c0, B0, m0, k0, rfl⟩ := NumX.open hv;replace HX := hid (HX.out.trans hX);replace HP := hid (HP.out.ext hX);replace HR := hid (HR.out.ext hX);replace HS := hid (HS.out.ext (bs 256) hX);have HN := hid hv;clear hv hX
 go_upto_region 5 with (fail)
 have hXa : Ext w3 (w3.alloc (.cells #[.bool s0, .slice A0 l0 c0, .slice B0 m0 k0] 217)) := (Ext.refl _).alloc _;have kS := Blk.new w3 217 #[.bool s0, .slice A0 l0 c0, .slice B0 m0 k0];have hrl := HR.out.lt;have hgl := HS.out.low (by have := HV.out.1; omega);replace HX := hid (HX.out.trans hXa);replace HP := hid (HP.out.ext hXa);replace HR := hid (HR.out.ext hXa);replace HS := hid (HS.out.ext (bs 256) hXa);replace HN : Hid (NumX _ (.agg #[.bool s0, .slice A0 l0 c0, .slice B0 m0 k0]) (cP (3 * S) (ms.take 0) u) (2 + 0 * 3103)) := hid (HN.out.ext hXa);clear hXa;generalize w3.alloc _ = w4 at kS HX HP HR HS HN |-;generalize w3.heap.size = gs at kS hrl hgl |-;have KS := hid kS;clear kS;have p1 := HP.out.cell 1;simp only [List.getElem?_toArray, List.getElem?_cons_zero, List.getElem?_cons_succ] at p1
 go_wp2_with fail
 clear p1
 go_loopg [25] n (fun f iv wr => ∃ (k : Nat) (s0 : Bool) (A0 B0 : Option Addr) (l0 c0 m0 k0 : Nat), f = n - k /\ k <= n /\ iv = .int .i64 (k : Int) /\ Hid (NumX wr (.agg #[.bool s0, .slice A0 l0 c0, .slice B0 m0 k0]) (cP (3 * S) (ms.take k) u) (2 + k * 3103)) /\ Hid (Blk wr gs 217 #[.bool s0, .slice A0 l0 c0, .slice B0 m0 k0]) /\ Hid (Blk wr (w.heap.size + 1) 97 #[.bool false, .slice none 0 0, .slice none 0 0]) /\ Hid (Ext w wr) /\ Hid (ShP (fun w v q => NumX w v q 256) wr go 0 S u))
 case atStart => exact ⟨0, s0, A0, B0, l0, c0, m0, k0, rfl, by omega, rfl, HN, KS, HR, HX, HS⟩
 case round =>
  clear HN KS HR HX HS;obtain ⟨k, s0, A0, B0, l0, c0, m0, k0, rfl, hk, rfl, HN, KS, HR, HX, HS⟩ := hrel
  by_cases hlt : k < n
  .
   have q1 : decide (k < n) = true := decide_eq_true hlt;obtain ⟨g, o, ⟨a, b, x, y, z, d, ww⟩, rfl, hm, hmem, x0, x1, x2, x3, x4, x5, x6⟩ := (H.out.ext HX.out).get hlt;simp only at x0 x1 x2 x3 x4 x5 x6;have HTK := hid (iU (n := 3 * S) (u := u) hm);have HMM := hid (HVM.out _ hmem);clear hm hmem
   go_upto_region 8 with (fail)
   have hXa : Ext wr (wr.alloc (.cells #[.int .i64 (a), .int .i64 (b), .int .i64 (x), .int .i64 (y), .int .i64 (z), .int .i64 (d), .int .i64 (ww)] 90)) := (Ext.refl _).alloc _;have kM := Blk.new wr 90 #[.int .i64 (a), .int .i64 (b), .int .i64 (x), .int .i64 (y), .int .i64 (z), .int .i64 (d), .int .i64 (ww)];replace HX := hid (HX.out.trans hXa);replace HR := hid (HR.out.ext hXa);replace KS := hid (KS.out.ext hXa);replace HN := hid (HN.out.ext hXa);replace HS := hid (HS.out.ext (bs 256) hXa);clear hXa x0 x1 x2 x3 x4 x5 x6;generalize wr.heap.size = gm at kM |-;generalize wr.alloc _ = w5 at kM HX HR KS HN HS |-;refine me gs go 0 S S gm 256 (2 + k * 3103) a b x y z d ww u s0 A0 B0 l0 c0 m0 k0 _ w5 (KS.out.cell 0) (KS.out.cell 1) (KS.out.cell 2) (kM.cell 0) (kM.cell 1) (kM.cell 2) (kM.cell 3) (kM.cell 4) (kM.cell 5) (kM.cell 6) HS.out HMM.out HN.out (by omega) (by omega) _ _ (by simp) ⟨rfl, rfl, rfl, trivial⟩ ?_;rintro W hX xv3 _ xv4 _ xv5 hv;simp only [EndK, ae, Try.f50, ab, Option.bind_some, Nat.reduceBEq, if_true, if_false, Bool.false_eq_true, Option.getD_some, List.drop_succ_cons, List.drop_zero];simp only [Act.put, List.setIfInBounds_toArray, List.set_cons_succ, List.set_cons_zero];clear kM HN;obtain ⟨s4, A4, l4, c4, B4, m4, k4, rfl⟩ := NumX.open hv;have HN := hid hv;replace HX := hid (HX.out.trans hX);replace HR := hid (HR.out.ext hX);replace KS := hid (KS.out.ext hX);replace HS := hid (HS.out.ext (bs 256) hX);clear hv hX;obtain ⟨r0, r1, r2, f0, f1, f2⟩ := KS.out.three;have HNI := hid (NoInts.three KS.out);go_wp2;go_roundg (n - (k + 1))
   case rel =>
    refine ⟨k + 1, s4, A4, B4, l4, c4, m4, k4, rfl, by omega, by go_num, hid ?_, hid (((KS.out.set 0 _).set 1 _).set 2 _), hid (((HR.out.far (by simp only; omega) _).far (by simp only; omega) _).far (by simp only; omega) _), hid (Ext.boxed HX.out (by omega) _ _ _), hid (ShP.keeps (bl 256) HS.out ((((Keeps.refl [gs] W).setCell (.inl (by simp)) _).setCell (.inl (by simp)) _).setCell (.inl (by simp)) _) (fun g hg => by simp at hg; subst hg; exact HNI.out) (by simp; omega))⟩;rw [HTK.out];exact (HN.out.mono (show 2 + k * 3103 + (12 * 256 + 30) + 1 <= 2 + (k + 1) * 3103 by omega)).boxed HNI.out _ _ _ _ _ _ _
   case measure => omega
  .
   obtain rfl : k = n := by omega
   have q1 : decide (k < k) = false := by simp
   have HTK : Hid (ms.take k = ms) := hid (List.take_of_length_le (by have := HL.out; omega));rw [HTK.out] at HN;obtain ⟨r0, r1, r2, f0, f1, f2⟩ := KS.out.three;clear f0 f1 f2
   go_wp2_with fail
   refine (nR HN.out (by omega) HF.out).mono ?_;rintro e w5 ⟨v5, rfl, hv, hX⟩;obtain ⟨s4, A4, l4, c4, B4, m4, k4, rfl⟩ := RatC.open hv;have HC := hid hv;replace HX := hid (HX.out.trans hX);replace HR := hid (HR.out.ext hX);clear hv hX r0 r1 r2;obtain ⟨r0, r1, r2, f0, f1, f2⟩ := HR.out.three;have HNI := hid (NoInts.three HR.out);go_wp2;refine bodyPost_ret (v := .tuple #[.agg #[.bool s4, .slice A4 l4 c4, .slice B4 m4 k4], .int .i64 0]) (by simp [results, Try.results50, go_sem, *]) rfl ?_;exact ⟨_, rfl, cQ _ _ _ _ _ HC.out ((((Keeps.refl [w.heap.size + 1] w5).setCell (.inl (by simp)) _).setCell (.inl (by simp)) _).setCell (.inl (by simp)) _) (fun g hg => by simp at hg; subst hg; exact HNI.out), Ext.boxed HX.out (by omega) _ _ _⟩
def eO : List Mt := [⟨0, -1, 0, 0, 1, 0, 1⟩, ⟨0, -1, 0, 0, 1, 30, 2⟩]
theorem ql : bp (3 * 1) eO 2 = ((-20 : Int) : Rat) := by decide +kernel
theorem ko : cP (3 * 1) eO (bp (3 * 1) eO) = ((600 : Int) : Rat) := by decide +kernel
theorem gN : VP ((1 : Nat) : Int) eO := bt.1 (by decide +kernel)
theorem dn {z : Int} (h0 : -9223372036854775808 <= z) (h1 : z <= 9223372036854775807) : FitQW ((z : Int) : Rat) := FitQW.of4 (ft h0 h1) (by omega)
theorem oF (go : Nat) (su : Bool) (Au Bu : Option Addr) (lu cu mu ku : Nat) (w : World) (x0 : w.cell? ⟨go, 6, none⟩ = some (.bool su)) (x1 : w.cell? ⟨go, 6 + 1, none⟩ = some (.slice Au lu cu)) (x2 : w.cell? ⟨go, 6 + 2, none⟩ = some (.slice Bu mu ku)) (hx : RatC w (.agg #[.bool su, .slice Au lu cu, .slice Bu mu ku]) ((-20 : Int) : Rat)) : aF Try.prog Try.f39 3 16 33 w [17, 18, 19, 20, 21, 22, 23, 24, 25, 26, 27, 28, 29, 30, 31, 32] [.c (.int .i64 (0)), .c (.bool false), .c (.bool false), .c (.slice (some ⟨go, 0, none⟩) 1 1), .c (.int .i64 (1)), .c (.bool false), .c (.bool false), .c (.bool false), .c (.slice (some ⟨go, 0, none⟩) 1 1), .c (.pointer (some ⟨go, 0, none⟩)), .c (.pointer (some ⟨go, 6, none⟩)), .c (.agg #[.bool su, .slice Au lu cu, .slice Bu mu ku]), .p fun v W => QZ W v ((-20 : Int) : Rat), .c (.bool true), .c (.bool false), .c (.bool false)] [(2, .slice (some ⟨go, 0, none⟩) 1 1), (3, .int .i64 (0))] := by
 refine aJ [[], [0], [1], [2], [2, 3], [2, 4], [2, 5], [6], [7], [7, 8], [7, 9], [7, 10], [7], [7, 11, 12], [7, 13], [7, 14]] (by kernel_rfl) (by kernel_rfl) rfl ⟨by intro v W W' h hX; exact QZ.ext h hX, trivial⟩ ?_;simp only [ae, Try.f39, ab, Option.bind_some, Nat.reduceBEq, if_true, if_false, Bool.false_eq_true, Option.getD_some];simp only [List.take_succ_cons, List.take_zero]
 repeat' first | refine ⟨?_, ?_⟩ | fail
 all_goals first | (intro us W b hJ K hK0 hK Qz; simp only [aC, al, am, List.getD_cons_succ, List.getD_cons_zero]) | exact True.intro
 all_goals try (intros; have q0 := Ext.cell hJ x0; have q1 := Ext.cell hJ x1; have q2 := Ext.cell hJ x2; go_simp; exact hK0 _ rfl)
 .
  intro e24 e2 e3;go_simp;refine (bO (-20) _ (by omega) (by omega)).mono ?_;rintro e w' ⟨v, rfl, hv, hX⟩;exact hK _ _ hv hX
 .
  intro e24 e28 e29 d12 e2 e3;go_simp;refine (ed (hx.ext hJ) d12 (dn (by omega) (by omega))).mono ?_;rintro e w' ⟨rfl, hX⟩;exact hK _ _ rfl hX
theorem oG (gx : Nat) (su : Bool) (Au Bu : Option Addr) (lu cu mu ku : Nat) (w : World) (x0 : w.cell? ⟨gx, 0, none⟩ = some (.bool su)) (x1 : w.cell? ⟨gx, 1, none⟩ = some (.slice Au lu cu)) (x2 : w.cell? ⟨gx, 2, none⟩ = some (.slice Bu mu ku)) (hx : RatC w (.agg #[.bool su, .slice Au lu cu, .slice Bu mu ku]) ((600 : Int) : Rat)) : aF Try.prog Try.f39 6 8 46 w [39, 40, 41, 42, 43, 44, 45, 0] [.c (.int .i64 (0)), .c (.bool true), .c (.bool true), .c (.agg #[.bool su, .slice Au lu cu, .slice Bu mu ku]), .p fun v W => QZ W v ((600 : Int) : Rat), .c (.bool true), .c (.bool true), .c (.bool true)] [(4, .pointer (some ⟨gx, 0, none⟩)), (5, .int .i64 (0))] := by
 refine aJ [[], [0], [1], [2], [2], [2, 3, 4], [2, 5], [6]] (by kernel_rfl) (by kernel_rfl) rfl ⟨by intro v W W' h hX; exact QZ.ext h hX, trivial⟩ ?_;simp only [ae, Try.f39, ab, Option.bind_some, Nat.reduceBEq, if_true, if_false, Bool.false_eq_true, Option.getD_some];simp only [List.take_succ_cons, List.take_zero]
 repeat' first | refine ⟨?_, ?_⟩ | fail
 all_goals first | (intro us W b hJ K hK0 hK Qz; simp only [aC, al, am, List.getD_cons_succ, List.getD_cons_zero]) | exact True.intro
 all_goals try (intros; have q0 := Ext.cell hJ x0; have q1 := Ext.cell hJ x1; have q2 := Ext.cell hJ x2; go_simp; exact hK0 _ rfl)
 .
  intro e41 e4 e5;go_simp;refine (bO 600 _ (by omega) (by omega)).mono ?_;rintro e w' ⟨v, rfl, hv, hX⟩;exact hK _ _ hv hX
 .
  intro e41 e42 e43 d4 e4 e5;go_simp;refine (ed (hx.ext hJ) d4 (dn (by omega) (by omega))).mono ?_;rintro e w' ⟨rfl, hX⟩;exact hK _ _ rfl hX
theorem eF (w : World) : Calls Try.prog 39 #[] w (fun e w' => e = .returned (.bool true) /\ Ext w w') := by
 have hXe : Ext w ((w.alloc (.cells #[.int .i64 0, .int .i64 (-1), .int .i64 0, .int .i64 0, .int .i64 1, .int .i64 0, .int .i64 1, .int .i64 0, .int .i64 (-1), .int .i64 0, .int .i64 0, .int .i64 1, .int .i64 30, .int .i64 2] 90)).alloc (.cells #[.int .i64 1, .slice (some ⟨w.heap.size, 0, none⟩) 2 2] 76)) := ((Ext.refl w).alloc _).alloc _;have kP : Blk ((w.alloc (.cells #[.int .i64 0, .int .i64 (-1), .int .i64 0, .int .i64 0, .int .i64 1, .int .i64 0, .int .i64 1, .int .i64 0, .int .i64 (-1), .int .i64 0, .int .i64 0, .int .i64 1, .int .i64 30, .int .i64 2] 90)).alloc (.cells #[.int .i64 1, .slice (some ⟨w.heap.size, 0, none⟩) 2 2] 76)) (w.heap.size + 1) 76 #[.int .i64 1, .slice (some ⟨w.heap.size, 0, none⟩) 2 2] := Blk.at_ (by simp);have hat : At (w.alloc (.cells #[.int .i64 0, .int .i64 (-1), .int .i64 0, .int .i64 0, .int .i64 1, .int .i64 0, .int .i64 1, .int .i64 0, .int .i64 (-1), .int .i64 0, .int .i64 0, .int .i64 1, .int .i64 30, .int .i64 2] 90)) (some ⟨w.heap.size, 0, none⟩) (p8 eO) := At.new w [.int .i64 0, .int .i64 (-1), .int .i64 0, .int .i64 0, .int .i64 1, .int .i64 0, .int .i64 1, .int .i64 0, .int .i64 (-1), .int .i64 0, .int .i64 0, .int .i64 1, .int .i64 30, .int .i64 2] 90;have HM : Hid (MsAt (w.alloc (.cells #[.int .i64 0, .int .i64 (-1), .int .i64 0, .int .i64 0, .int .i64 1, .int .i64 0, .int .i64 1, .int .i64 0, .int .i64 (-1), .int .i64 0, .int .i64 0, .int .i64 1, .int .i64 30, .int .i64 2] 90)) (some ⟨w.heap.size, 0, none⟩) 2 eO) := hid ⟨rfl, hat⟩;have HM2 := hid (HM.out.ext ((Ext.refl _).alloc (.cells #[.int .i64 1, .slice (some ⟨w.heap.size, 0, none⟩) 2 2] 76)));clear hat HM;go_enter Try.func39, Try.ntmps39
 go_upto_region 2 with (fail)
 generalize ((w.alloc _).alloc _) = w1 at hXe kP HM2 |-;generalize w.heap.size + 1 = gp at kP |-;generalize w.heap.size = gm at kP HM2 |-;have HX := hid hXe;have HP := hid kP;have p0 := kP.cell 0;have p1 := kP.cell 1;simp only [List.getElem?_toArray, List.getElem?_cons_zero, List.getElem?_cons_succ] at p0 p1;clear hXe kP
 go_wp2_with fail
 refine (f7 1 (some ⟨gm, 0, none⟩) 2 2 eO _ HM2.out gN).mono ?_;rintro e w2 ⟨go, rfl, _, hS, hX⟩;clear p0 p1;replace HX := hid (HX.out.trans hX);replace HP := hid (HP.out.ext hX);replace HM2 := hid (HM2.out.ext hX);have HS := hid hS;clear hS hX;obtain ⟨su, Au, lu, cu, Bu, mu, ku, x0, x1, x2, hx⟩ := HS.out 0 2 (by omega) (by omega);simp only [Nat.reduceMul, Nat.reduceAdd] at x0 x1 x2;rw [show (3 * 0 + 2 : Nat) = 2 from rfl, show (3 : Nat) = 3 * 1 from rfl, ql] at hx;have HC := hid hx;have hX0 := hid x0;have hX1 := hid x1;have hX2 := hid x2;clear hx x0 x1 x2
 go_upto_region 3 with (fail)
 refine oF go su Au Bu lu cu mu ku w2 hX0.out hX1.out hX2.out HC.out _ _ (by simp) ⟨rfl, rfl, trivial⟩ ?_;rintro W hX xv12 _;simp only [EndK, ae, Try.f39, ab, Option.bind_some, Nat.reduceBEq, if_true, if_false, Bool.false_eq_true, Option.getD_some, List.drop_succ_cons, List.drop_zero];simp only [Act.put, List.setIfInBounds_toArray, List.set_cons_succ, List.set_cons_zero];clear hX0 hX1 hX2 HC;replace HX := hid (HX.out.trans hX);replace HP := hid (HP.out.ext hX);replace HM2 := hid (HM2.out.ext hX);replace HS := hid (HS.out.ext dl hX);clear hX;have p0 := HP.out.cell 0;have p1 := HP.out.cell 1;simp only [List.getElem?_toArray, List.getElem?_cons_zero, List.getElem?_cons_succ] at p0 p1;have HF : Hid (FitQW (cP (3 * 1) eO (bp (3 * 1) eO))) := hid (by rw [ko]; exact dn (by omega) (by omega));have HFS : Hid (∀ j, FitQW (bp (3 * 1) eO j)) := hid (fun j => FitQW.of4 (fF gN.2.2.2 gN.2.2.1 (by omega) j) (by omega))
 go_wp2_with fail
 refine (mf 1 (some ⟨gm, 0, none⟩) 2 2 eO go 0 1 (bp (3 * 1) eO) _ HM2.out gN (HS.out.imp2 (fun j v _ h => h.good (HFS.out j))) HF.out).mono ?_;rintro e w3 ⟨v3, rfl, hv, hX⟩;rw [ko] at hv;obtain ⟨s4, A4, l4, c4, B4, m4, k4, rfl⟩ := RatC.open hv;replace HX := hid (HX.out.trans hX);have HC := hid hv;clear hv hX p0 p1
 go_upto_region 6 with (fail)
 have hXa : Ext w3 (w3.alloc (.cells #[.bool s4, .slice A4 l4 c4, .slice B4 m4 k4] 97)) := (Ext.refl _).alloc _;have kB := Blk.new w3 97 #[.bool s4, .slice A4 l4 c4, .slice B4 m4 k4];replace HX := hid (HX.out.trans hXa);replace HC := hid (HC.out.ext hXa);clear hXa;generalize w3.heap.size = gx at kB |-;generalize w3.alloc _ = w4 at kB HX HC |-;refine oG gx s4 A4 B4 l4 c4 m4 k4 w4 (kB.cell 0) (kB.cell 1) (kB.cell 2) HC.out _ _ (by simp) ⟨rfl, rfl, trivial⟩ ?_;rintro W hX xv4 _;simp only [EndK, ae, Try.f39, ab, Option.bind_some, Nat.reduceBEq, if_true, if_false, Bool.false_eq_true, Option.getD_some, List.drop_succ_cons, List.drop_zero];simp only [Act.put, List.setIfInBounds_toArray, List.set_cons_succ, List.set_cons_zero];have HX9 := hid (HX.out.trans hX);clear kB HC hX;go_wp2;go_ret;exact ⟨rfl, HX9.out⟩
def qm (S : Int) (ms : List Mt) : Bool := decide (200 < ms.length) || (jg S ms && decide (4 < S \/ 16 < ms.length))
theorem qo {S : Int} {ms : List Mt} : qm S ms = false ↔ ms.length <= 200 /\ (VP S ms -> S <= 4 /\ ms.length <= 16) := by
 unfold qm
 rcases hb : jg S ms with _ | _
 .
  have : ¬ VP S ms := fun h => by rw [bt.2 h] at hb; cases hb
  simp [this]
 .
  have := bt.1 hb;simp [this]
theorem dO (S : Int) (A : Option Addr) (n c : Nat) (ms : List Mt) (w : World) (h : MsAt w A n ms) :
  Calls Try.prog 38 #[.agg #[.int .i64 S, .slice A n c]] w (fun e w' => e = .returned (.bool (qm S ms)) /\ Ext w w') := by
 have HX := hid ((Ext.refl w).alloc (.cells #[.int .i64 S, .slice A n c] 76));have p0 := (Blk.new w 76 #[.int .i64 S, .slice A n c]).cell 0;have p1 := (Blk.new w 76 #[.int .i64 S, .slice A n c]).cell 1;simp only [List.getElem?_toArray, List.getElem?_cons_zero, List.getElem?_cons_succ] at p0 p1;have H := hid h;have HL := hid h.1;obtain ⟨R, hR⟩ : ∃ R, jg S ms = R := ⟨_, rfl⟩;obtain ⟨Z, hZ⟩ : ∃ Z, qm S ms = Z := ⟨_, rfl⟩;rw [hZ];have hZ2 := hZ;unfold qm at hZ2;rw [hR, h.1] at hZ2;have HR := hid hR;clear h hR hZ
 by_cases c1 : 200 < n
 .
  have e : decide (200 < n) = true := decide_eq_true c1;rw [e, Bool.true_or] at hZ2;subst hZ2;clear e;go_enter Try.func38, Try.ntmps38;go_wp2;go_ret;exact ⟨rfl, HX.out⟩
 .
  have e : decide (200 < n) = false := decide_eq_false c1;rw [e, Bool.false_or] at hZ2;clear e;have HZ := hid hZ2;clear hZ2;have g1 : decide (200 < (n : Int)) = false := decide_eq_false (by omega);go_enter Try.func38, Try.ntmps38
  go_wp2_with fail
  refine (dm S A n c ms _ (H.out.ext HX.out)).mono ?_;rw [HR.out];rintro e w1 ⟨rfl, hX⟩;have p0' := hX.cell p0;have p1' := hX.cell p1;replace HX := hid (HX.out.trans hX);clear hX p0 p1
  by_cases c2 : R = true
  .
   subst c2;have hZ2 := HZ.out;rw [Bool.true_and] at hZ2;clear HZ
   by_cases c3 : 4 < S
   .
    have e : decide (4 < S \/ 16 < n) = true := decide_eq_true (.inl c3);rw [e] at hZ2;subst hZ2;clear e;go_wp2;go_ret;exact ⟨rfl, HX.out⟩
   .
    have g2 : decide (4 < S) = false := decide_eq_false c3
    by_cases c4 : 16 < n
    .
     have g3 : decide (16 < (n : Int)) = true := decide_eq_true (by omega);have e : decide (4 < S \/ 16 < n) = true := decide_eq_true (.inr c4);rw [e] at hZ2;subst hZ2;clear e;go_wp2;go_ret;exact ⟨rfl, HX.out⟩
    .
     have g3 : decide (16 < (n : Int)) = false := decide_eq_false (by omega);have e : decide (4 < S \/ 16 < n) = false := decide_eq_false (by omega);rw [e] at hZ2;subst hZ2;clear e;go_wp2;go_ret;exact ⟨rfl, HX.out⟩
  .
   obtain rfl : R = false := by simpa using c2
   have hZ2 := HZ.out;rw [Bool.false_and] at hZ2;clear HZ;subst hZ2;go_wp2;go_ret;exact ⟨rfl, HX.out⟩
theorem Blk.put3 {W : World} {g : Nat} {T : TypeId} {z0 z1 z2 x0 x1 x2 v : Value} (h : Blk W g T #[z0, z1, z2]) (hu : v = .agg #[x0, x1, x2]) : Blk (((W.setCell ⟨g, 0, none⟩ x0).setCell ⟨g, 1, none⟩ x1).setCell ⟨g, 2, none⟩ x2) g T (nQ v) := by
 subst hu; exact ((h.set 0 _).set 1 _).set 2 _
theorem aR {n : Int} (h0 : -9223372036854775808 <= n) (h1 : n <= 9223372036854775807) : FitR ((n : Int) : Rat) 4 := by
 have h := iE (ft h0 h1);rw [show 2 * 2 = 4 from rfl] at h;exact h
/-- A number of the reference in a block of its own. -/
def QB (w : World) (g : Nat) (q : Rat) : Prop := ∃ s A l c B m k, Blk w g 65 #[.bool s, .slice A l c, .slice B m k] /\ QZ w (.agg #[.bool s, .slice A l c, .slice B m k]) q
theorem QB.ext {w w' : World} {g : Nat} {q : Rat} (h : QB w g q) (he : Ext w w') : QB w' g q := by
 obtain ⟨s, A, l, c, B, m, k, h1, h2⟩ := h;exact ⟨s, A, l, c, B, m, k, h1.ext he, h2.ext he⟩
theorem QB.ni {w : World} {g : Nat} {q : Rat} (h : QB w g q) : NoInts w g := by
 obtain ⟨s, A, l, c, B, m, k, h1, h2⟩ := h;exact NoInts.three h1
theorem QB.put {w : World} {g : Nat} {q r : Rat} (h : QB w g q) {s : Bool} {A B : Option Addr} {l c m k : Nat} (hv : QZ w (.agg #[.bool s, .slice A l c, .slice B m k]) r) : QB (((w.setCell ⟨g, 0, none⟩ (.bool s)).setCell ⟨g, 1, none⟩ (.slice A l c)).setCell ⟨g, 2, none⟩ (.slice B m k)) g r := by
 have hn := h.ni;obtain ⟨s', A', l', c', B', m', k', h1, h2⟩ := h;exact ⟨s, A, l, c, B, m, k, Blk.put3 h1 rfl, hv.past' hn⟩
theorem QB.cells {w : World} {g : Nat} {q : Rat} (h : QB w g q) : ∃ s A l c B m k, w.cell? ⟨g, 0, none⟩ = some (.bool s) /\ w.cell? ⟨g, 1, none⟩ = some (.slice A l c) /\ w.cell? ⟨g, 2, none⟩ = some (.slice B m k) /\ QZ w (.agg #[.bool s, .slice A l c, .slice B m k]) q := by
 obtain ⟨s, A, l, c, B, m, k, h1, h2⟩ := h;exact ⟨s, A, l, c, B, m, k, h1.cell 0, h1.cell 1, h1.cell 2, h2⟩
theorem QB.free {w : World} {g : Nat} {q : Rat} (h : QB w g q) (i : Nat) : w.frozen? ⟨g, i, none⟩ = false := by
 obtain ⟨s, A, l, c, B, m, k, h1, h2⟩ := h;exact h1.free i
theorem QB.new {w : World} {s : Bool} {A B : Option Addr} {l c m k : Nat} {q : Rat} (h : QZ w (.agg #[.bool s, .slice A l c, .slice B m k]) q) : QB (w.alloc (.cells #[.bool s, .slice A l c, .slice B m k] 65)) w.heap.size q :=
 ⟨s, A, l, c, B, m, k, Blk.new w _ _, h.ext ((Ext.refl w).alloc _)⟩
/-- One number for each unknown fits. -/
def fG (S : Nat) (u : Nat -> Rat) (L : Nat) : Prop := ∀ j, j < 3 * S -> FitR (u j) L
theorem qp (a b x y z d ww : Int) (u S : Nat) (w : World) (_hu : u < 24) (hm : VM S ⟨a, b, x, y, z, d, ww⟩) :
  Calls Try.prog 122 #[.agg #[.int .i64 a, .int .i64 b, .int .i64 x, .int .i64 y, .int .i64 z, .int .i64 d, .int .i64 ww], .int .i64 (u : Int)] w (fun e w' => e = .returned (.int .i64 (aG ⟨a, b, x, y, z, d, ww⟩ u)) /\ Ext w w') := by
 obtain ⟨m, hmm⟩ : ∃ m : Mt, m = ⟨a, b, x, y, z, d, ww⟩ := ⟨_, rfl⟩;have HX := hid ((Ext.refl w).alloc (.cells #[.int .i64 a, .int .i64 b, .int .i64 x, .int .i64 y, .int .i64 z, .int .i64 d, .int .i64 ww] 90));have HM : Hid (T7 (w.alloc (.cells #[.int .i64 a, .int .i64 b, .int .i64 x, .int .i64 y, .int .i64 z, .int .i64 d, .int .i64 ww] 90)) w.heap.size a b (Mt.nrm ⟨a, b, x, y, z, d, ww⟩) d ww) := hid (Blk.new w _ _)
 have hn : ∀ k, -100 <= Mt.nrm ⟨a, b, x, y, z, d, ww⟩ k /\ Mt.nrm ⟨a, b, x, y, z, d, ww⟩ k <= 100 := fun k => by
  have h1 := hm.x1; have h2 := hm.x2; have h3 := hm.y1; have h4 := hm.y2; have h5 := hm.z1; have h6 := hm.z2;simp only at h1 h2 h3 h4 h5 h6;unfold Mt.nrm; split; simp only; omega; split <;> simp only <;> omega
 obtain ⟨sv, hs⟩ : ∃ s, u / 3 = s := ⟨_, rfl⟩;obtain ⟨kv, hk⟩ : ∃ k, u % 3 = k := ⟨_, rfl⟩;have hk3 : kv < 3 := by rw [<- hk]; exact Nat.mod_lt _ (by omega)
 have hki : (kv : Int) < 3 := by omega
 obtain ⟨nk, hnk⟩ : ∃ r, Mt.nrm ⟨a, b, x, y, z, d, ww⟩ kv = r := ⟨_, rfl⟩;have hnb := hn kv;rw [hnk] at hnb;have HCF : Hid (aG ⟨a, b, x, y, z, d, ww⟩ u = if (sv : Int) = a then nk else if (sv : Int) = b then -nk else 0) := hid (by unfold aG; rw [hs, hk, hnk]);have ck := HM.out.cell hk3;rw [hnk] at ck;have t0 := Blk.cell (show Blk _ w.heap.size _ _ from HM.out) 0;have t1 := Blk.cell (show Blk _ w.heap.size _ _ from HM.out) 1;simp only [List.getElem?_toArray, List.getElem?_cons_zero, List.getElem?_cons_succ] at t0 t1;have ta : (u : Int).tdiv 3 = (sv : Int) := by rw [Int.tdiv_eq_ediv_of_nonneg (by omega)]; omega
 have tb : (u : Int).tmod 3 = (kv : Int) := by rw [Int.tmod_eq_emod_of_nonneg (by omega)]; omega
 have qc : IntKind.i64.wrap (sv : Int) = (sv : Int) := IntWalk.i64_in _ (by omega);have qd : IntKind.i64.wrap (kv : Int) = (kv : Int) := IntWalk.i64_in _ (by omega);have qn : IntKind.i64.wrap (-nk) = -nk := IntWalk.i64_in _ (by omega);clear hn hs hk hnk hnb hmm hm;go_enter Try.func122, Try.ntmps122
 go_upto_region 1 with (fail)
 generalize w.alloc _ = w1 at HX HM ck t0 t1 |-
 by_cases c1 : (sv : Int) = a
 .
  have q1 : ((sv : Int) == a) = true := by simpa using c1
  have HV : Hid (aG ⟨a, b, x, y, z, d, ww⟩ u = nk) := hid (by rw [HCF.out, if_pos c1]);clear c1 HCF;go_wp2;go_ret;exact ⟨by rw [HV.out]; rfl, HX.out⟩
 have q1 : ((sv : Int) == a) = false := by simpa using c1
 by_cases c2 : (sv : Int) = b
 .
  have q2 : ((sv : Int) == b) = true := by simpa using c2
  have HV : Hid (aG ⟨a, b, x, y, z, d, ww⟩ u = -nk) := hid (by rw [HCF.out, if_neg c1, if_pos c2]);clear c1 c2 HCF;go_wp2;go_ret;exact ⟨by rw [HV.out]; rfl, HX.out⟩
 have q2 : ((sv : Int) == b) = false := by simpa using c2
 have HV : Hid (aG ⟨a, b, x, y, z, d, ww⟩ u = 0) := hid (by rw [HCF.out, if_neg c1, if_neg c2]);clear c1 c2 HCF;go_wp2;go_ret;exact ⟨by rw [HV.out]; rfl, HX.out⟩
theorem eG {m : Mt} {u S : Nat} {w : World} (hu : u < 24) (hm : VM S m) :
  Calls Try.prog 122 #[m.val, .int .i64 (u : Int)] w (fun e w' => e = .returned (.int .i64 (aG m u)) /\ Ext w w') := by
 obtain ⟨a, b, x, y, z, d, ww⟩ := m;exact qp a b x y z d ww u S w hu hm
theorem qq (gs gt ot S ct uu sv kv L M : Nat) (cc : Int) (sp : Bool) (Ap Bp : Option Addr) (lp cp mp kp : Nat) (sq : Bool) (Aq Bq : Option Addr) (lq cq mq kq : Nat) (q r : Rat) (w : World) (x0 : w.cell? ⟨gs, 0, none⟩ = some (.bool sp)) (x1 : w.cell? ⟨gs, 1, none⟩ = some (.slice Ap lp cp)) (x2 : w.cell? ⟨gs, 2, none⟩ = some (.slice Bp mp kp)) (y0 : w.cell? ⟨gt, ot + sv * 9 + kv * 3, none⟩ = some (.bool sq)) (y1 : w.cell? ⟨gt, ot + sv * 9 + kv * 3 + 1, none⟩ = some (.slice Aq lq cq)) (y2 : w.cell? ⟨gt, ot + sv * 9 + kv * 3 + 2, none⟩ = some (.slice Bq mq kq)) (hx : QZ w (.agg #[.bool sp, .slice Ap lp cp, .slice Bp mp kp]) q) (hy : QZ w (.agg #[.bool sq, .slice Aq lq cq, .slice Bq mq kq]) r) (fq : FitR q M) (fr : FitR r L) (_hL : L <= 1000) (_hM : M <= 100000) (_hc : -100 <= cc /\ cc <= 100) (_ta : (uu : Int).tdiv 3 = (sv : Int)) (_tb : (uu : Int).tmod 3 = (kv : Int)) (_qa : IntKind.i64.wrap (sv : Int) = (sv : Int)) (_qb : IntKind.i64.wrap (kv : Int) = (kv : Int)) (_hsv : sv < S) (_hkv : kv < 3) (_hsi : (sv : Int) < (S : Int)) (_hki : (kv : Int) < 3) : aF Try.prog Try.f60 7 13 38 w [25, 26, 27, 28, 29, 30, 31, 32, 33, 34, 35, 36, 37] [.c (.agg #[.bool sp, .slice Ap lp cp, .slice Bp mp kp]), .c (.int .i64 (cc)), .p fun v W => QZ W v ((cc : Int) : Rat), .c (.slice (some ⟨gt, ot, none⟩) S ct), .c (.int .i64 (uu : Int)), .c (.int .i64 (sv : Int)), .c (.int .i64 (uu : Int)), .c (.int .i64 (kv : Int)), .c (.pointer (some ⟨gt, ot + sv * 9, none⟩)), .c (.pointer (some ⟨gt, ot + sv * 9 + kv * 3, none⟩)), .c (.agg #[.bool sq, .slice Aq lq cq, .slice Bq mq kq]), .p fun v W => QZ W v (((cc : Int) : Rat) * r), .p fun v W => QZ W v (q + ((cc : Int) : Rat) * r)] [(1, .slice (some ⟨gt, ot, none⟩) S ct), (7, .pointer (some ⟨gs, 0, none⟩)), (8, .int .i64 (uu : Int)), (9, .int .i64 (cc))] := by
 refine aJ [[], [], [1], [], [], [4], [], [6], [3, 5], [7, 8], [9], [2, 10], [0, 11]] (by kernel_rfl) (by kernel_rfl) rfl ⟨by intro v W W' h hX; exact QZ.ext h hX, by intro v W W' h hX; exact QZ.ext h hX, by intro v W W' h hX; exact QZ.ext h hX, trivial⟩ ?_;simp only [ae, Try.f60, ab, Option.bind_some, Nat.reduceBEq, if_true, if_false, Bool.false_eq_true, Option.getD_some];simp only [List.take_succ_cons, List.take_zero]
 repeat' first | refine ⟨?_, ?_⟩ | fail
 all_goals first | (intro us W b hJ K hK0 hK Qz; simp only [aC, al, am, List.getD_cons_succ, List.getD_cons_zero]) | exact True.intro
 all_goals try (intros; have q0 := Ext.cell hJ x0; have q1 := Ext.cell hJ x1; have q2 := Ext.cell hJ x2; have q3 := Ext.cell hJ y0; have q4 := Ext.cell hJ y1; have q5 := Ext.cell hJ y2; go_simp; exact hK0 _ rfl)
 .
  intro e26 e1 e7 e8 e9;go_simp;refine (bO cc W (by omega) (by omega)).mono ?_;rintro e w' ⟨v, rfl, hv, hX⟩;exact hK _ _ hv hX
 .
  intro e27 d2 e35 e1 e7 e8 e9;go_simp;refine (fl _ _ _ _ 4 L W d2 (hy.ext hJ) (aR (by omega) (by omega)) fr (by omega)).mono ?_;rintro e w' ⟨v, rfl, hv, hX⟩;exact hK _ _ hv hX
 .
  intro e25 e36 d11 e1 e7 e8 e9;go_simp;refine (iD _ _ _ _ M (4 + L) W (hx.ext hJ) d11 fq (db (aR (by omega) (by omega)) fr) (by omega)).mono ?_;rintro e w' ⟨v, rfl, hv, hX⟩;exact hK _ _ hv hX
theorem fH (m : Mt) (u : Nat -> Rat) : dA 0 m u = ((m.d : Int) : Rat) := by
 unfold dA rV;simp only [sumN];grind
theorem iV (k : Nat) (m : Mt) (u : Nat -> Rat) : dA (k + 1) m u = dA k m u + ((aG m k : Int) : Rat) * u k := by
 unfold dA rV;simp only [sumN];grind
theorem Keeps.three (g : Nat) (w : World) (x y z : Value) : Keeps [g] w (((w.setCell ⟨g, 0, none⟩ x).setCell ⟨g, 1, none⟩ y).setCell ⟨g, 2, none⟩ z) :=
 (((Keeps.refl [g] w).setCell (.inl (by simp)) _).setCell (.inl (by simp)) _).setCell (.inl (by simp)) _
theorem Blk.far3 {w : World} {g g' : Nat} {t : TypeId} {cs : Array Value} (h : Blk w g' t cs) (hn : g' ≠ g) (x y z : Value) : Blk (((w.setCell ⟨g, 0, none⟩ x).setCell ⟨g, 1, none⟩ y).setCell ⟨g, 2, none⟩ z) g' t cs :=
 ((h.far (p := ⟨g, 0, none⟩) hn _).far (p := ⟨g, 1, none⟩) hn _).far (p := ⟨g, 2, none⟩) hn _
theorem ShP.past {w : World} {g gt o S : Nat} {u : Nat -> Rat} (h : ShP QZ w gt o S u) (hN : NoInts w g) (hn : gt ≠ g) (x y z : Value) : ShP QZ (((w.setCell ⟨g, 0, none⟩ x).setCell ⟨g, 1, none⟩ y).setCell ⟨g, 2, none⟩ z) gt o S u :=
 h.keeps bT (Keeps.three g w x y z) (fun q hq => by simp at hq; subst hq; exact hN) (by simpa using hn)
theorem rE (S n c gt ot ct L : Nat) (A : Option Addr) (a b x y z d ww : Int) (un : Nat -> Rat) (w : World) (_hS8 : S <= 8) (hS : ShP QZ w gt ot S un) (hf : fG S un L) (hL : L <= 1000) (hm : VM S ⟨a, b, x, y, z, d, ww⟩) (_hgt : gt < w.heap.size) :
  Calls Try.prog 60 #[.agg #[.int .i64 (S : Int), .slice A n c], .slice (some ⟨gt, ot, none⟩) S ct, .agg #[.int .i64 a, .int .i64 b, .int .i64 x, .int .i64 y, .int .i64 z, .int .i64 d, .int .i64 ww]] w (RetQz w (dA (3 * S) ⟨a, b, x, y, z, d, ww⟩ un)) := by
 have HX := hid ((((Ext.refl w).alloc (.cells #[.int .i64 (S : Int), .slice A n c] 76)).alloc (.cells #[.int .i64 a, .int .i64 b, .int .i64 x, .int .i64 y, .int .i64 z, .int .i64 d, .int .i64 ww] 90)).alloc (.cells #[.bool false, .slice none 0 0, .slice none 0 0] 65));have HP : Hid (Blk (((w.alloc (.cells #[.int .i64 (S : Int), .slice A n c] 76)).alloc (.cells #[.int .i64 a, .int .i64 b, .int .i64 x, .int .i64 y, .int .i64 z, .int .i64 d, .int .i64 ww] 90)).alloc (.cells #[.bool false, .slice none 0 0, .slice none 0 0] 65)) w.heap.size 76 #[.int .i64 (S : Int), .slice A n c]) := hid (Blk.alloc (Blk.alloc (Blk.new w _ _) _) _);have HM : Hid (Blk (((w.alloc (.cells #[.int .i64 (S : Int), .slice A n c] 76)).alloc (.cells #[.int .i64 a, .int .i64 b, .int .i64 x, .int .i64 y, .int .i64 z, .int .i64 d, .int .i64 ww] 90)).alloc (.cells #[.bool false, .slice none 0 0, .slice none 0 0] 65)) (w.heap.size + 1) 90 #[.int .i64 a, .int .i64 b, .int .i64 x, .int .i64 y, .int .i64 z, .int .i64 d, .int .i64 ww]) := hid (Blk.alloc (Blk.at_ (by simp)) _);have HR : Hid (Blk (((w.alloc (.cells #[.int .i64 (S : Int), .slice A n c] 76)).alloc (.cells #[.int .i64 a, .int .i64 b, .int .i64 x, .int .i64 y, .int .i64 z, .int .i64 d, .int .i64 ww] 90)).alloc (.cells #[.bool false, .slice none 0 0, .slice none 0 0] 65)) (w.heap.size + 2) 65 #[.bool false, .slice none 0 0, .slice none 0 0]) := hid (Blk.at_ (by simp));have HS := hid (hS.ext bK HX.out);have HF := hid hf;have HMM := hid hm;have hd1 := hm.d1;have hd2 := hm.d2;simp only at hd1 hd2;clear hS hf hm;unfold RetQz;go_enter Try.func60, Try.ntmps60
 go_upto_region 1 with (fail)
 generalize ((w.alloc _).alloc _).alloc _ = w1 at HX HP HM HR HS |-;have t5 := HM.out.cell 5;simp only [List.getElem?_toArray, List.getElem?_cons_zero, List.getElem?_cons_succ] at t5
 go_wp2_with fail
 refine (bO d _ (by omega) (by omega)).mono ?_;rintro e w2 ⟨v, rfl, hv, hX2⟩;clear t5;replace HP := hid (HP.out.ext hX2);replace HM := hid (HM.out.ext hX2);replace HR := hid (HR.out.ext hX2);replace HS := hid (HS.out.ext bK hX2);replace HX := hid (HX.out.trans hX2);clear hX2;obtain ⟨s0, A0, l0, c0, B0, m0, k0, rfl⟩ := QZ.open hv
 go_upto_region 2 with (fail)
 have hX2 : Ext w2 (w2.alloc (.cells #[.bool s0, .slice A0 l0 c0, .slice B0 m0 k0] 65)) := (Ext.refl _).alloc _;have hgs : w.heap.size + 2 < w2.heap.size := HR.out.lt;have HB : Hid (QB (w2.alloc (.cells #[.bool s0, .slice A0 l0 c0, .slice B0 m0 k0] 65)) w2.heap.size (dA 0 ⟨a, b, x, y, z, d, ww⟩ un)) := hid (by rw [fH]; exact QB.new hv);clear hv;generalize w2.heap.size = gs at hgs HB |-;generalize w2.alloc _ = w3 at hX2 HB |-;replace HP := hid (HP.out.ext hX2);replace HM := hid (HM.out.ext hX2);replace HR := hid (HR.out.ext hX2);replace HS := hid (HS.out.ext bK hX2);replace HX := hid (HX.out.trans hX2);clear hX2;have HFT : Hid (FitR (dA 0 ⟨a, b, x, y, z, d, ww⟩ un) (4 + 0 * (L + 5))) := hid (by rw [fH]; exact (aR (n := d) (by omega) (by omega)).mono (by omega));clear hd1 hd2;have qS : IntKind.i64.wrap (3 * (S : Int)) = 3 * (S : Int) := IntWalk.i64_in _ (by omega)
 go_wp2_with fail
 go_loopg [8, 9] (3 * S) (fun fu iv _ W => ∃ k : Nat, fu = 3 * S - k /\ k <= 3 * S /\ iv = .int .i64 (k : Int) /\ Hid (QB W gs (dA k ⟨a, b, x, y, z, d, ww⟩ un)) /\ Hid (FitR (dA k ⟨a, b, x, y, z, d, ww⟩ un) (4 + k * (L + 5))) /\ Hid (Blk W w.heap.size 76 #[.int .i64 (S : Int), .slice A n c]) /\ Hid (Blk W (w.heap.size + 1) 90 #[.int .i64 a, .int .i64 b, .int .i64 x, .int .i64 y, .int .i64 z, .int .i64 d, .int .i64 ww]) /\ Hid (Blk W (w.heap.size + 2) 65 #[.bool false, .slice none 0 0, .slice none 0 0]) /\ Hid (ShP QZ W gt ot S un) /\ Hid (Ext w W))
 case atStart => exact ⟨0, by omega, by omega, rfl, HB, HFT, HP, HM, HR, HS, HX⟩
 case round =>
  clear HB HFT HP HM HR HS HX;obtain ⟨k, rfl, hk, rfl, HB, HFT, HP, HM, HR, HS, HX⟩ := hrel;have p0 := HP.out.cell 0;simp only [List.getElem?_toArray, List.getElem?_cons_zero, List.getElem?_cons_succ] at p0
  by_cases hk3 : k < 3 * S
  .
   have q1 : decide ((k : Int) < 3 * (S : Int)) = true := decide_eq_true (by omega);have t0 := HM.out.cell 0;have t1 := HM.out.cell 1;have t2 := HM.out.cell 2;have t3 := HM.out.cell 3;have t4 := HM.out.cell 4;have t5 := HM.out.cell 5;have t6 := HM.out.cell 6;simp only [List.getElem?_toArray, List.getElem?_cons_zero, List.getElem?_cons_succ] at t0 t1 t2 t3 t4 t5 t6
   go_wp2_with fail
   refine (eG (m := ⟨a, b, x, y, z, d, ww⟩) (u := k) (S := S) (by omega) HMM.out).mono ?_;rintro e w4 ⟨rfl, hX2⟩;clear p0 t0 t1 t2 t3 t4 t5 t6;replace HB := hid (HB.out.ext hX2);replace HP := hid (HP.out.ext hX2);replace HM := hid (HM.out.ext hX2);replace HR := hid (HR.out.ext hX2);replace HS := hid (HS.out.ext bK hX2);replace HX := hid (HX.out.trans hX2);clear hX2;obtain ⟨cc, hcc⟩ : ∃ cc, aG ⟨a, b, x, y, z, d, ww⟩ k = cc := ⟨_, rfl⟩;have hcb := bE HMM.out k;rw [hcc] at hcb;have HN : Hid (dA (k + 1) ⟨a, b, x, y, z, d, ww⟩ un = dA k ⟨a, b, x, y, z, d, ww⟩ un + ((cc : Int) : Rat) * un k) := hid (by rw [iV, hcc])
   have HFN : Hid (FitR (dA (k + 1) ⟨a, b, x, y, z, d, ww⟩ un) (4 + (k + 1) * (L + 5))) := hid (by
    rw [HN.out];exact (iT HFT.out (db (aR (n := cc) (by omega) (by omega)) (HF.out k hk3))).mono (by have e : (k + 1) * (L + 5) = k * (L + 5) + (L + 5) := Nat.succ_mul _ _; omega))
   rw [hcc];clear hcc
   by_cases hc0 : cc = 0
   .
    subst hc0;have HN2 : Hid (dA (k + 1) ⟨a, b, x, y, z, d, ww⟩ un = dA k ⟨a, b, x, y, z, d, ww⟩ un) := hid (by rw [HN.out, show (((0 : Int)) : Rat) = 0 from rfl, Rat.zero_mul, Rat.add_zero]);go_wp2;go_roundg (3 * S - (k + 1))
    case rel => exact ⟨k + 1, by omega, by omega, by go_num, hid (by rw [HN2.out]; exact HB.out), HFN, HP, HM, HR, HS, HX⟩
    case measure => omega
   have q2 : (cc != 0) = true := by simpa using hc0
   obtain ⟨sv, hs⟩ : ∃ s, k / 3 = s := ⟨_, rfl⟩;obtain ⟨kv, hkv⟩ : ∃ k', k % 3 = k' := ⟨_, rfl⟩;have hk3' : kv < 3 := by rw [<- hkv]; exact Nat.mod_lt _ (by omega)
   have hsv : sv < S := by omega
   have ta : (k : Int).tdiv 3 = (sv : Int) := by rw [Int.tdiv_eq_ediv_of_nonneg (by omega)]; omega
   have tb : (k : Int).tmod 3 = (kv : Int) := by rw [Int.tmod_eq_emod_of_nonneg (by omega)]; omega
   have ek : 3 * sv + kv = k := by omega
   obtain ⟨sq, Aq, lq, cq, Bq, mq, kq, y0, y1, y2, hy⟩ := HS.out sv kv hsv hk3';rw [ek] at hy;obtain ⟨sp, Ap, lp, cp, Bp, mp, kp, x0, x1, x2, hx⟩ := HB.out.cells;have hfu := HF.out k hk3;have HFK := hid hfu;obtain ⟨r, hr⟩ : ∃ r, un k = r := ⟨_, rfl⟩;obtain ⟨q, hq⟩ : ∃ q, dA k ⟨a, b, x, y, z, d, ww⟩ un = q := ⟨_, rfl⟩;rw [hr] at hy hfu HN;rw [hq] at hx HN;have hfq := HFT.out;rw [hq] at hfq;clear hr hs hkv ek hc0
   go_upto_region 7 with (fail)
   refine qq gs gt ot S ct k sv kv L (4 + k * (L + 5)) cc sp Ap Bp lp cp mp kp sq Aq Bq lq cq mq kq q r w4 x0 x1 x2 y0 y1 y2 hx hy hfq hfu hL (by have : k * (L + 5) <= 24 * (L + 5) := Nat.mul_le_mul_right _ (by omega); omega) hcb ta tb (IntWalk.i64_in _ (by omega)) (IntWalk.i64_in _ (by omega)) hsv hk3' (by omega) (by omega) _ _ (by simp) ⟨rfl, rfl, rfl, rfl, trivial⟩ ?_;rintro w5 hX2 xv2 _ xv11 _ xv12 hv;simp only [EndK, ae, Try.f60, ab, Option.bind_some, Nat.reduceBEq, if_true, if_false, Bool.false_eq_true, Option.getD_some, List.drop_succ_cons, List.drop_zero];simp only [Act.put, List.setIfInBounds_toArray, List.set_cons_succ, List.set_cons_zero];replace HB := hid (HB.out.ext hX2);replace HP := hid (HP.out.ext hX2);replace HM := hid (HM.out.ext hX2);replace HR := hid (HR.out.ext hX2);replace HS := hid (HS.out.ext bK hX2);replace HX := hid (HX.out.trans hX2);clear hX2;clear x0 x1 x2 y0 y1 y2 hx hy hfq hfu ta tb;obtain ⟨s4, A4, l4, c4, B4, m4, k4, rfl⟩ := QZ.open hv;have f0 := HB.out.free 0;have f1 := HB.out.free 1;have f2 := HB.out.free 2;obtain ⟨s5, A5, l5, c5, B5, m5, k5, z0, z1, z2, _⟩ := HB.out.cells;have hni := HB.out.ni;have hgt2 : gt ≠ gs := by omega
   have HB2 := hid (HB.out.put hv);have HP2 := hid (HP.out.far3 (g := gs) (by omega) (.bool s4) (.slice A4 l4 c4) (.slice B4 m4 k4));have HM2 := hid (HM.out.far3 (g := gs) (by omega) (.bool s4) (.slice A4 l4 c4) (.slice B4 m4 k4));have HR2 := hid (HR.out.far3 (g := gs) (by omega) (.bool s4) (.slice A4 l4 c4) (.slice B4 m4 k4));have HS2 := hid (HS.out.past hni hgt2 (.bool s4) (.slice A4 l4 c4) (.slice B4 m4 k4));have HX2 := hid (Ext.boxed HX.out (g := gs) (by omega) (.bool s4) (.slice A4 l4 c4) (.slice B4 m4 k4));clear hv hni HB HP HM HR HS HX;go_wp2;go_roundg (3 * S - (k + 1))
   case rel => exact ⟨k + 1, by omega, by omega, by go_num, hid (by rw [HN.out]; exact HB2.out), HFN, HP2, HM2, HR2, HS2, HX2⟩
   case measure => omega
  obtain rfl : k = 3 * S := by omega
  have q1 : decide (((3 * S : Nat) : Int) < 3 * (S : Int)) = false := decide_eq_false (by omega);have q1b : ((3 * S : Nat) : Int) = 3 * (S : Int) := by omega
  obtain ⟨sp, Ap, lp, cp, Bp, mp, kp, x0, x1, x2, hx⟩ := HB.out.cells;obtain ⟨r0, r1, r2, f0, f1, f2⟩ := HR.out.three;have HXX := hid hx;clear hx;go_wp2;refine bodyPost_ret (v := .agg #[.bool sp, .slice Ap lp cp, .slice Bp mp kp]) (by simp [results, Try.results60, go_sem, *]) rfl ?_;exact ⟨_, rfl, HXX.out.past (NoInts.three HR.out), Ext.boxed HX.out (by omega) _ _ _⟩
theorem qr {S L k : Nat} {m : Mt} {u : Nat -> Rat} (hm : VM S m) (hf : fG S u L) (_hk : k <= 3 * S) : FitR (dA k m u) (4 + k * (L + 5)) := by
 induction k with
 | zero => rw [fH]; exact (aR (n := m.d) (by have := hm.d1; omega) (by have := hm.d2; omega)).mono (by omega)
 | succ k ih =>
  rw [iV];have hb := bE hm k;exact (iT (ih (by omega)) (db (aR (n := aG m k) (by omega) (by omega)) (hf k (by omega)))).mono (by have e : (k + 1) * (L + 5) = k * (L + 5) + (L + 5) := Nat.succ_mul _ _; omega)
theorem iW {S L : Nat} {m : Mt} {u : Nat -> Rat} (hm : VM S m) (hf : fG S u L) (_hS8 : S <= 8) : FitR (dA (3 * S) m u) (4 + 24 * (L + 5)) :=
 (qr hm hf (Nat.le_refl _)).mono (by have : 3 * S * (L + 5) <= 24 * (L + 5) := Nat.mul_le_mul_right _ (by omega); omega)
theorem kr {S L : Nat} {m : Mt} {u : Nat -> Rat} (hm : VM S m) (hf : fG S u L) (hS8 : S <= 8) : FitR (cL (3 * S) u m) (12 + 48 * (L + 5)) := by
 have h := iW hm hf hS8;unfold cL;exact (db (aR (n := m.w) (by have := hm.w1; omega) (by have := hm.w2; omega)) (db h h)).mono (by omega)
theorem oH {S n c gt ot ct L : Nat} {A : Option Addr} {m : Mt} {un : Nat -> Rat} {w : World} (hS8 : S <= 8) (hS : ShP QZ w gt ot S un) (hf : fG S un L) (hL : L <= 1000) (hm : VM S m) (hgt : gt < w.heap.size) :
  Calls Try.prog 60 #[.agg #[.int .i64 (S : Int), .slice A n c], .slice (some ⟨gt, ot, none⟩) S ct, m.val] w (RetQz w (dA (3 * S) m un)) := by
 obtain ⟨a, b, x, y, z, d, ww⟩ := m;exact rE S n c gt ot ct L A a b x y z d ww un w hS8 hS hf hL hm hgt
theorem qt (gm gs M : Nat) (ww : Int) (sp : Bool) (Ap Bp : Option Addr) (lp cp mp kp : Nat) (q : Rat) (w : World) (x0 : w.cell? ⟨gs, 0, none⟩ = some (.bool sp)) (x1 : w.cell? ⟨gs, 1, none⟩ = some (.slice Ap lp cp)) (x2 : w.cell? ⟨gs, 2, none⟩ = some (.slice Bp mp kp)) (hw : w.cell? ⟨gm, 6, none⟩ = some (.int .i64 (ww))) (_h0 : 1 <= ww) (_h1 : ww <= 1000) (hx : QZ w (.agg #[.bool sp, .slice Ap lp cp, .slice Bp mp kp]) q) (fq : FitR q M) (_hM : M <= 100000) : aF Try.prog Try.f140 2 7 19 w [12, 13, 14, 15, 16, 17, 18] [.c (.pointer (some ⟨gm, 6, none⟩)), .c (.int .i64 (ww)), .p fun v W => QZ W v ((ww : Int) : Rat), .c (.agg #[.bool sp, .slice Ap lp cp, .slice Bp mp kp]), .p fun v W => QZ W v (((ww : Int) : Rat) * q), .c (.agg #[.bool sp, .slice Ap lp cp, .slice Bp mp kp]), .p fun v W => QZ W v (((ww : Int) : Rat) * q * q)] [(5, .pointer (some ⟨gm, 0, none⟩)), (7, .pointer (some ⟨gs, 0, none⟩))] := by
 refine aJ [[], [0], [1], [], [2, 3], [], [4, 5]] (by kernel_rfl) (by kernel_rfl) rfl ⟨by intro v W W' h hX; exact QZ.ext h hX, by intro v W W' h hX; exact QZ.ext h hX, by intro v W W' h hX; exact QZ.ext h hX, trivial⟩ ?_;simp only [ae, Try.f140, ab, Option.bind_some, Nat.reduceBEq, if_true, if_false, Bool.false_eq_true, Option.getD_some];simp only [List.take_succ_cons, List.take_zero]
 repeat' first | refine ⟨?_, ?_⟩ | fail
 all_goals first | (intro us W b hJ K hK0 hK Qz; simp only [aC, al, am, List.getD_cons_succ, List.getD_cons_zero]) | exact True.intro
 all_goals try (intros; have q0 := Ext.cell hJ hw; have q1 := Ext.cell hJ x0; have q2 := Ext.cell hJ x1; have q3 := Ext.cell hJ x2; go_simp; exact hK0 _ rfl)
 .
  intro e13 e5 e7;go_simp;refine (bO ww W (by omega) (by omega)).mono ?_;rintro e w' ⟨v, rfl, hv, hX⟩;exact hK _ _ hv hX
 .
  intro e14 d2 e15 e5 e7;go_simp;refine (fl _ _ _ _ 4 M W d2 (hx.ext hJ) (aR (by omega) (by omega)) fq (by omega)).mono ?_;rintro e w' ⟨v, rfl, hv, hX⟩;exact hK _ _ hv hX
 .
  intro e16 d4 e17 e5 e7;go_simp;refine (fl _ _ _ _ (4 + M) M W d4 (hx.ext hJ) (db (aR (by omega) (by omega)) fq) fq (by omega)).mono ?_;rintro e w' ⟨v, rfl, hv, hX⟩;exact hK _ _ hv hX
theorem rF (S n c gt ot ct L : Nat) (A : Option Addr) (a b x y z d ww : Int) (un : Nat -> Rat) (w : World) (hS8 : S <= 8) (hS : ShP QZ w gt ot S un) (hf : fG S un L) (hL : L <= 1000) (hm : VM S ⟨a, b, x, y, z, d, ww⟩) (hgt : gt < w.heap.size) :
  Calls Try.prog 140 #[.agg #[.int .i64 (S : Int), .slice A n c], .slice (some ⟨gt, ot, none⟩) S ct, .agg #[.int .i64 a, .int .i64 b, .int .i64 x, .int .i64 y, .int .i64 z, .int .i64 d, .int .i64 ww]] w (RetQz w (cL (3 * S) un ⟨a, b, x, y, z, d, ww⟩)) := by
 have HX := hid ((((Ext.refl w).alloc (.cells #[.int .i64 (S : Int), .slice A n c] 76)).alloc (.cells #[.int .i64 a, .int .i64 b, .int .i64 x, .int .i64 y, .int .i64 z, .int .i64 d, .int .i64 ww] 90)).alloc (.cells #[.bool false, .slice none 0 0, .slice none 0 0] 65));have HP : Hid (Blk (((w.alloc (.cells #[.int .i64 (S : Int), .slice A n c] 76)).alloc (.cells #[.int .i64 a, .int .i64 b, .int .i64 x, .int .i64 y, .int .i64 z, .int .i64 d, .int .i64 ww] 90)).alloc (.cells #[.bool false, .slice none 0 0, .slice none 0 0] 65)) w.heap.size 76 #[.int .i64 (S : Int), .slice A n c]) := hid (Blk.alloc (Blk.alloc (Blk.new w _ _) _) _);have HM : Hid (Blk (((w.alloc (.cells #[.int .i64 (S : Int), .slice A n c] 76)).alloc (.cells #[.int .i64 a, .int .i64 b, .int .i64 x, .int .i64 y, .int .i64 z, .int .i64 d, .int .i64 ww] 90)).alloc (.cells #[.bool false, .slice none 0 0, .slice none 0 0] 65)) (w.heap.size + 1) 90 #[.int .i64 a, .int .i64 b, .int .i64 x, .int .i64 y, .int .i64 z, .int .i64 d, .int .i64 ww]) := hid (Blk.alloc (Blk.at_ (by simp)) _);have HR : Hid (Blk (((w.alloc (.cells #[.int .i64 (S : Int), .slice A n c] 76)).alloc (.cells #[.int .i64 a, .int .i64 b, .int .i64 x, .int .i64 y, .int .i64 z, .int .i64 d, .int .i64 ww] 90)).alloc (.cells #[.bool false, .slice none 0 0, .slice none 0 0] 65)) (w.heap.size + 2) 65 #[.bool false, .slice none 0 0, .slice none 0 0]) := hid (Blk.at_ (by simp));have HS := hid hS;have HF := hid hf;have HMM := hid hm;clear hS hf hm;unfold RetQz;go_enter Try.func140, Try.ntmps140
 go_upto_region 1 with (fail)
 generalize ((w.alloc _).alloc _).alloc _ = w1 at HX HP HM HR |-;have p0 := HP.out.cell 0;have p1 := HP.out.cell 1;simp only [List.getElem?_toArray, List.getElem?_cons_zero, List.getElem?_cons_succ] at p0 p1;have t0 := HM.out.cell 0;have t1 := HM.out.cell 1;have t2 := HM.out.cell 2;have t3 := HM.out.cell 3;have t4 := HM.out.cell 4;have t5 := HM.out.cell 5;have t6 := HM.out.cell 6;simp only [List.getElem?_toArray, List.getElem?_cons_zero, List.getElem?_cons_succ] at t0 t1 t2 t3 t4 t5 t6
 go_wp2_with fail
 refine (oH (m := ⟨a, b, x, y, z, d, ww⟩) (S := S) (n := n) (c := c) (A := A) (ct := ct) hS8 (HS.out.ext bK HX.out) HF.out hL HMM.out (Nat.lt_of_lt_of_le hgt HX.out.size)).mono ?_;rintro e w2 ⟨v, rfl, hv, hX2⟩;clear p0 p1 t0 t1 t2 t3 t4 t5 t6;replace HP := hid (HP.out.ext hX2);replace HM := hid (HM.out.ext hX2);replace HR := hid (HR.out.ext hX2);replace HX := hid (HX.out.trans hX2);clear hX2;obtain ⟨s0, A0, l0, c0, B0, m0, k0, rfl⟩ := QZ.open hv
 go_upto_region 2 with (fail)
 have hX2 : Ext w2 (w2.alloc (.cells #[.bool s0, .slice A0 l0 c0, .slice B0 m0 k0] 65)) := (Ext.refl _).alloc _;have HB : Hid (QB (w2.alloc (.cells #[.bool s0, .slice A0 l0 c0, .slice B0 m0 k0] 65)) w2.heap.size (dA (3 * S) ⟨a, b, x, y, z, d, ww⟩ un)) := hid (QB.new hv);clear hv;generalize w2.heap.size = gs at HB |-;generalize w2.alloc _ = w3 at hX2 HB |-;replace HP := hid (HP.out.ext hX2);replace HM := hid (HM.out.ext hX2);replace HR := hid (HR.out.ext hX2);replace HX := hid (HX.out.trans hX2);clear hX2;obtain ⟨sp, Ap, lp, cp, Bp, mp, kp, x0, x1, x2, hx⟩ := HB.out.cells;have hfr := iW HMM.out HF.out hS8;have hw1 := HMM.out.w1;have hw2 := HMM.out.w2;simp only at hw1 hw2;have HV : Hid (cL (3 * S) un ⟨a, b, x, y, z, d, ww⟩ = ((ww : Int) : Rat) * dA (3 * S) ⟨a, b, x, y, z, d, ww⟩ un * dA (3 * S) ⟨a, b, x, y, z, d, ww⟩ un) := hid (by unfold cL; rw [Rat.mul_assoc]);generalize dA (3 * S) ⟨a, b, x, y, z, d, ww⟩ un = q at hx hfr HV;refine qt (w.heap.size + 1) gs (4 + 24 * (L + 5)) ww sp Ap Bp lp cp mp kp q w3 x0 x1 x2 (HM.out.cell 6) hw1 hw2 hx hfr (by omega) _ _ (by simp) ⟨rfl, rfl, trivial⟩ ?_;rintro w5 hX2 xv2 _ xv4 _ xv6 hv;simp only [EndK, ae, Try.f140, ab, Option.bind_some, Nat.reduceBEq, if_true, if_false, Bool.false_eq_true, Option.getD_some, List.drop_succ_cons, List.drop_zero];simp only [Act.put, List.setIfInBounds_toArray, List.set_cons_succ, List.set_cons_zero];replace HP := hid (HP.out.ext hX2);replace HM := hid (HM.out.ext hX2);replace HR := hid (HR.out.ext hX2);replace HX := hid (HX.out.trans hX2);clear hX2;clear x0 x1 x2 hx hfr hw1 hw2 HB;obtain ⟨s4, A4, l4, c4, B4, m4, k4, rfl⟩ := QZ.open hv;obtain ⟨r0, r1, r2, f0, f1, f2⟩ := HR.out.three;have HVV := hid hv;clear hv;go_wp2;refine bodyPost_ret (v := .agg #[.bool s4, .slice A4 l4 c4, .slice B4 m4 k4]) (by simp [results, Try.results140, go_sem, *]) rfl ?_;exact ⟨_, rfl, by rw [HV.out]; exact HVV.out.past (NoInts.three HR.out), Ext.boxed HX.out (by omega) _ _ _⟩
theorem oI {S n c gt ot ct L : Nat} {A : Option Addr} {m : Mt} {un : Nat -> Rat} {w : World} (hS8 : S <= 8) (hS : ShP QZ w gt ot S un) (hf : fG S un L) (hL : L <= 1000) (hm : VM S m) (hgt : gt < w.heap.size) :
  Calls Try.prog 140 #[.agg #[.int .i64 (S : Int), .slice A n c], .slice (some ⟨gt, ot, none⟩) S ct, m.val] w (RetQz w (cL (3 * S) un m)) := by
 obtain ⟨a, b, x, y, z, d, ww⟩ := m;exact rF S n c gt ot ct L A a b x y z d ww un w hS8 hS hf hL hm hgt
def aD (x y : Int) : Int := if x < y then -1 else if y < x then 1 else 0
/-- The first that is not 0. -/
def mg : List Int -> Int
 | [] => 0
 | x :: xs => if x = 0 then mg xs else x
theorem qu (l : List (Int × Int)) : decide (mg (l.map fun p => aD p.1 p.2) < 0) = eB l := by
 induction l with
 | nil => rfl
 | cons p l ih =>
  obtain ⟨x, y⟩ := p;simp only [List.map_cons, mg, eB]
  by_cases e : x = y
  .
   subst e;rw [if_pos (show aD x x = 0 by unfold aD; rw [if_neg (by omega), if_neg (by omega)]), if_pos rfl];exact ih
  .
   rw [if_neg e]
   by_cases h : x < y
   .
    have hc : aD x y = -1 := by unfold aD; rw [if_pos h]
    rw [hc, if_neg (by omega), decide_eq_true h];rfl
   .
    have hc : aD x y = 1 := by unfold aD; rw [if_neg h, if_pos (by omega)]
    rw [hc, if_neg (by omega), decide_eq_false h];rfl
theorem f8 (x : Int) (w : World) : Calls Try.prog 212 #[.int .i64 x] w (fun e w' => e = .returned (.bool false) /\ Ext w w') := by
 have q : (x != x) = false := by simp
 go_enter Try.func212, Try.ntmps212;go_wp2;go_ret;exact ⟨rfl, Ext.refl _⟩
theorem bU (x y : Int) (w : World) : Calls Try.prog 208 #[.int .i64 x, .int .i64 y] w (fun e w' => e = .returned (.int .i64 (aD x y)) /\ Ext w w') := by
 have HX := hid (Ext.refl w);go_enter Try.func208, Try.ntmps208
 go_wp2_with fail
 refine (f8 x _).mono ?_;rintro e w2 ⟨rfl, hX⟩;replace HX := hid (HX.out.trans hX);clear hX
 go_wp2_with fail
 refine (f8 y _).mono ?_;rintro e w3 ⟨rfl, hX⟩;replace HX := hid (HX.out.trans hX);clear hX
 by_cases h1 : x < y
 .
  have q1 : decide (x < y) = true := decide_eq_true h1;have HC : Hid (aD x y = -1) := hid (by unfold aD; rw [if_pos h1]);clear h1;go_wp2;go_ret;exact ⟨by rw [HC.out]; rfl, HX.out⟩
 .
  have q1 : decide (x < y) = false := decide_eq_false h1
  by_cases h2 : y < x
  .
   have q2 : decide (y < x) = true := decide_eq_true h2;have HC : Hid (aD x y = 1) := hid (by unfold aD; rw [if_neg h1, if_pos h2]);clear h1 h2;go_wp2;go_ret;exact ⟨by rw [HC.out]; rfl, HX.out⟩
  .
   have q2 : decide (y < x) = false := decide_eq_false h2;have HC : Hid (aD x y = 0) := hid (by unfold aD; rw [if_neg h1, if_neg h2]);clear h1 h2;go_wp2;go_ret;exact ⟨by rw [HC.out]; rfl, HX.out⟩
theorem rG (g n c : Nat) (zs : List Int) (w : World) (hn : zs.length = n) (_hn9 : n <= 100) (hc : ∀ i z, zs[i]? = some z -> w.cell? ⟨g, i, none⟩ = some (.int .i64 z)) :
  Calls Try.prog 207 #[.slice (some ⟨g, 0, none⟩) n c] w (fun e w' => e = .returned (.int .i64 (mg zs)) /\ Ext w w') := by
 have HC := hid hc;have HN := hid hn;clear hc hn;have HX := hid (Ext.refl w);go_enter Try.func207, Try.ntmps207
 go_wp2_with fail
 go_loopg [8] n (fun fu iv wr => ∃ k : Nat, fu = n - k /\ k <= n /\ iv = .int .i64 (k : Int) /\ Hid (mg zs = mg (zs.drop k)) /\ Hid (Ext w wr))
 case atStart => exact ⟨0, rfl, by omega, rfl, hid rfl, HX⟩
 case round =>
  clear HX;obtain ⟨k, rfl, hk, rfl, HD, HX⟩ := hrel
  by_cases hlt : k < n
  .
   have q1 : decide (k < n) = true := decide_eq_true hlt;have hkl : k < zs.length := by rw [HN.out]; exact hlt
   obtain ⟨z, hz⟩ : ∃ z, zs[k]? = some z := ⟨_, List.getElem?_eq_getElem hkl⟩;have x0 := Ext.cell HX.out (HC.out k z hz)
   have hdrop : mg (zs.drop k) = if z = 0 then mg (zs.drop (k + 1)) else z := by
    rw [List.drop_eq_getElem_cons hkl];have : zs[k] = z := by rw [List.getElem?_eq_getElem hkl] at hz; injection hz
    rw [this];rfl
   have HDR := hid hdrop;clear hdrop hz hkl
   by_cases h0 : z = 0
   .
    have q2 : (z != 0) = false := by simpa using h0
    have HE : Hid (mg zs = mg (zs.drop (k + 1))) := hid (by rw [HD.out, HDR.out, if_pos h0]);clear h0;go_wp2;go_roundg (n - (k + 1))
    case rel => exact ⟨k + 1, rfl, by omega, by go_num, HE, HX⟩
    case measure => omega
   .
    have q2 : (z != 0) = true := by simpa using h0
    have HE : Hid (mg zs = z) := hid (by rw [HD.out, HDR.out, if_neg h0]);clear h0;go_wp2;go_ret;exact ⟨by rw [HE.out]; rfl, HX.out⟩
  .
   obtain rfl : n = k := by omega
   have q1 : decide (n < n) = false := by simp
   have HE : Hid (mg zs = 0) := hid (by rw [HD.out, List.drop_of_length_le (by rw [HN.out]; omega)]; rfl);go_wp2;go_ret;exact ⟨by rw [HE.out]; rfl, HX.out⟩
theorem jP (ga gb : Nat) (va0 va1 va2 va3 va4 va5 va6 vb0 vb1 vb2 vb3 vb4 vb5 vb6 : Int) (w : World) (ca0 : w.cell? ⟨ga, 0, none⟩ = some (.int .i64 va0)) (ca1 : w.cell? ⟨ga, 1, none⟩ = some (.int .i64 va1)) (ca2 : w.cell? ⟨ga, 2, none⟩ = some (.int .i64 va2)) (ca3 : w.cell? ⟨ga, 3, none⟩ = some (.int .i64 va3)) (ca4 : w.cell? ⟨ga, 4, none⟩ = some (.int .i64 va4)) (ca5 : w.cell? ⟨ga, 5, none⟩ = some (.int .i64 va5)) (ca6 : w.cell? ⟨ga, 6, none⟩ = some (.int .i64 va6)) (cb0 : w.cell? ⟨gb, 0, none⟩ = some (.int .i64 vb0)) (cb1 : w.cell? ⟨gb, 1, none⟩ = some (.int .i64 vb1)) (cb2 : w.cell? ⟨gb, 2, none⟩ = some (.int .i64 vb2)) (cb3 : w.cell? ⟨gb, 3, none⟩ = some (.int .i64 vb3)) (cb4 : w.cell? ⟨gb, 4, none⟩ = some (.int .i64 vb4)) (cb5 : w.cell? ⟨gb, 5, none⟩ = some (.int .i64 vb5)) (cb6 : w.cell? ⟨gb, 6, none⟩ = some (.int .i64 vb6)) : aF Try.prog Try.f191 1 43 48 w [5, 6, 7, 8, 9, 10, 11, 12, 13, 14, 15, 16, 17, 18, 19, 20, 21, 22, 23, 24, 25, 26, 27, 28, 29, 30, 31, 32, 33, 34, 35, 36, 37, 38, 39, 40, 41, 42, 43, 44, 45, 46, 47] [.c (.pointer (some ⟨ga, 0, none⟩)), .c (.int .i64 (va0)), .c (.pointer (some ⟨gb, 0, none⟩)), .c (.int .i64 (vb0)), .c (.int .i64 (aD va0 vb0)), .c (.pointer (some ⟨ga, 1, none⟩)), .c (.int .i64 (va1)), .c (.pointer (some ⟨gb, 1, none⟩)), .c (.int .i64 (vb1)), .c (.int .i64 (aD va1 vb1)), .c (.pointer (some ⟨ga, 2, none⟩)), .c (.pointer (some ⟨ga, 2, none⟩)), .c (.int .i64 (va2)), .c (.pointer (some ⟨gb, 2, none⟩)), .c (.pointer (some ⟨gb, 2, none⟩)), .c (.int .i64 (vb2)), .c (.int .i64 (aD va2 vb2)), .c (.pointer (some ⟨ga, 2, none⟩)), .c (.pointer (some ⟨ga, 3, none⟩)), .c (.int .i64 (va3)), .c (.pointer (some ⟨gb, 2, none⟩)), .c (.pointer (some ⟨gb, 3, none⟩)), .c (.int .i64 (vb3)), .c (.int .i64 (aD va3 vb3)), .c (.pointer (some ⟨ga, 2, none⟩)), .c (.pointer (some ⟨ga, 4, none⟩)), .c (.int .i64 (va4)), .c (.pointer (some ⟨gb, 2, none⟩)), .c (.pointer (some ⟨gb, 4, none⟩)), .c (.int .i64 (vb4)), .c (.int .i64 (aD va4 vb4)), .c (.pointer (some ⟨ga, 5, none⟩)), .c (.int .i64 (va5)), .c (.pointer (some ⟨gb, 5, none⟩)), .c (.int .i64 (vb5)), .c (.int .i64 (aD va5 vb5)), .c (.pointer (some ⟨ga, 6, none⟩)), .c (.int .i64 (va6)), .c (.pointer (some ⟨gb, 6, none⟩)), .c (.int .i64 (vb6)), .c (.int .i64 (aD va6 vb6)), .p fun v W => ∃ g, v = .slice (some ⟨g, 0, none⟩) 7 7 /\ Blk W g 3 (([aD va0 vb0, aD va1 vb1, aD va2 vb2, aD va3 vb3, aD va4 vb4, aD va5 vb5, aD va6 vb6] : List Int).map fun z => Value.int .i64 z).toArray, .c (.int .i64 (mg [aD va0 vb0, aD va1 vb1, aD va2 vb2, aD va3 vb3, aD va4 vb4, aD va5 vb5, aD va6 vb6]))] [(2, .pointer (some ⟨ga, 0, none⟩)), (3, .pointer (some ⟨gb, 0, none⟩))] := by
 refine aJ [[], [0], [], [2], [1, 3], [], [5], [], [7], [6, 8], [], [10], [11], [], [13], [14], [12, 15], [], [17], [18], [], [20], [21], [19, 22], [], [24], [25], [], [27], [28], [26, 29], [], [31], [], [33], [32, 34], [], [36], [], [38], [37, 39], [4, 9, 16, 23, 30, 35, 40], [41]] (by kernel_rfl) (by kernel_rfl) rfl ⟨by intro v W W' h hX; exact h.elim fun g h => ⟨g, h.1, h.2.ext hX⟩, trivial⟩ ?_;simp only [ae, Try.f191, ab, Option.bind_some, Nat.reduceBEq, if_true, if_false, Bool.false_eq_true, Option.getD_some];simp only [List.take_succ_cons, List.take_zero]
 repeat' first | refine ⟨?_, ?_⟩ | fail
 all_goals first | (intro us W b hJ K hK0 hK Qz; simp only [aC, al, am, List.getD_cons_succ, List.getD_cons_zero]) | exact True.intro
 all_goals try (intros; have q0 := Ext.cell hJ ca0; have q1 := Ext.cell hJ cb0; have q2 := Ext.cell hJ ca1; have q3 := Ext.cell hJ cb1; have q4 := Ext.cell hJ ca2; have q5 := Ext.cell hJ cb2; have q6 := Ext.cell hJ ca3; have q7 := Ext.cell hJ cb3; have q8 := Ext.cell hJ ca4; have q9 := Ext.cell hJ cb4; have q10 := Ext.cell hJ ca5; have q11 := Ext.cell hJ cb5; have q12 := Ext.cell hJ ca6; have q13 := Ext.cell hJ cb6; go_simp; exact hK0 _ rfl)
 .
  intro e6 e8 e2 e3;go_simp;refine (bU va0 vb0 _).mono ?_;rintro e w' ⟨rfl, hX⟩;exact hK _ _ rfl hX
 .
  intro e11 e13 e2 e3;go_simp;refine (bU va1 vb1 _).mono ?_;rintro e w' ⟨rfl, hX⟩;exact hK _ _ rfl hX
 .
  intro e17 e20 e2 e3;go_simp;refine (bU va2 vb2 _).mono ?_;rintro e w' ⟨rfl, hX⟩;exact hK _ _ rfl hX
 .
  intro e24 e27 e2 e3;go_simp;refine (bU va3 vb3 _).mono ?_;rintro e w' ⟨rfl, hX⟩;exact hK _ _ rfl hX
 .
  intro e31 e34 e2 e3;go_simp;refine (bU va4 vb4 _).mono ?_;rintro e w' ⟨rfl, hX⟩;exact hK _ _ rfl hX
 .
  intro e37 e39 e2 e3;go_simp;refine (bU va5 vb5 _).mono ?_;rintro e w' ⟨rfl, hX⟩;exact hK _ _ rfl hX
 .
  intro e42 e44 e2 e3;go_simp;refine (bU va6 vb6 _).mono ?_;rintro e w' ⟨rfl, hX⟩;exact hK _ _ rfl hX
 .
  intro e9 e14 e21 e28 e35 e40 e45 e2 e3;have hX := (Ext.refl W).alloc (.cells #[.int .i64 (aD va0 vb0), .int .i64 (aD va1 vb1), .int .i64 (aD va2 vb2), .int .i64 (aD va3 vb3), .int .i64 (aD va4 vb4), .int .i64 (aD va5 vb5), .int .i64 (aD va6 vb6)] 3);have hn := Blk.new W 3 #[.int .i64 (aD va0 vb0), .int .i64 (aD va1 vb1), .int .i64 (aD va2 vb2), .int .i64 (aD va3 vb3), .int .i64 (aD va4 vb4), .int .i64 (aD va5 vb5), .int .i64 (aD va6 vb6)];go_simp;exact hK _ _ ⟨_, rfl, hn⟩ hX
 .
  intro e46 d41 e2 e3;obtain ⟨g, hv, hB⟩ := d41;rw [hv] at e46;go_simp;refine (rG g 7 7 [aD va0 vb0, aD va1 vb1, aD va2 vb2, aD va3 vb3, aD va4 vb4, aD va5 vb5, aD va6 vb6] W rfl (by omega) (fun i z hz => (hB.cell i).trans (by rw [List.getElem?_toArray, List.getElem?_map, hz]; rfl))).mono ?_;rintro e w' ⟨rfl, hX⟩;exact hK _ _ rfl hX
theorem mh (va0 va1 va2 va3 va4 va5 va6 vb0 vb1 vb2 vb3 vb4 vb5 vb6 : Int) (w : World) :
  Calls Try.prog 191 #[.agg #[.int .i64 (va0), .int .i64 (va1), .int .i64 (va2), .int .i64 (va3), .int .i64 (va4), .int .i64 (va5), .int .i64 (va6)], .agg #[.int .i64 (vb0), .int .i64 (vb1), .int .i64 (vb2), .int .i64 (vb3), .int .i64 (vb4), .int .i64 (vb5), .int .i64 (vb6)]] w (fun e w' => ∃ r : Int, e = .returned (.int .i64 r) /\ decide (r < 0) = o3 ⟨va0, va1, va2, va3, va4, va5, va6⟩ ⟨vb0, vb1, vb2, vb3, vb4, vb5, vb6⟩ /\ Ext w w') := by
 have hXe : Ext w ((w.alloc (.cells #[.int .i64 (va0), .int .i64 (va1), .int .i64 (va2), .int .i64 (va3), .int .i64 (va4), .int .i64 (va5), .int .i64 (va6)] 90)).alloc (.cells #[.int .i64 (vb0), .int .i64 (vb1), .int .i64 (vb2), .int .i64 (vb3), .int .i64 (vb4), .int .i64 (vb5), .int .i64 (vb6)] 90)) := ((Ext.refl w).alloc _).alloc _;have kA : Blk ((w.alloc (.cells #[.int .i64 (va0), .int .i64 (va1), .int .i64 (va2), .int .i64 (va3), .int .i64 (va4), .int .i64 (va5), .int .i64 (va6)] 90)).alloc (.cells #[.int .i64 (vb0), .int .i64 (vb1), .int .i64 (vb2), .int .i64 (vb3), .int .i64 (vb4), .int .i64 (vb5), .int .i64 (vb6)] 90)) w.heap.size 90 #[.int .i64 (va0), .int .i64 (va1), .int .i64 (va2), .int .i64 (va3), .int .i64 (va4), .int .i64 (va5), .int .i64 (va6)] := Blk.alloc (Blk.new w _ _) _;have kB : Blk ((w.alloc (.cells #[.int .i64 (va0), .int .i64 (va1), .int .i64 (va2), .int .i64 (va3), .int .i64 (va4), .int .i64 (va5), .int .i64 (va6)] 90)).alloc (.cells #[.int .i64 (vb0), .int .i64 (vb1), .int .i64 (vb2), .int .i64 (vb3), .int .i64 (vb4), .int .i64 (vb5), .int .i64 (vb6)] 90)) (w.heap.size + 1) 90 #[.int .i64 (vb0), .int .i64 (vb1), .int .i64 (vb2), .int .i64 (vb3), .int .i64 (vb4), .int .i64 (vb5), .int .i64 (vb6)] := Blk.at_ (by simp);go_enter Try.func191, Try.ntmps191
 go_upto_region 1 with (fail)
 generalize (w.alloc _).alloc _ = w1 at hXe kA kB |-;refine jP w.heap.size (w.heap.size + 1) va0 va1 va2 va3 va4 va5 va6 vb0 vb1 vb2 vb3 vb4 vb5 vb6 w1 (kA.cell 0) (kA.cell 1) (kA.cell 2) (kA.cell 3) (kA.cell 4) (kA.cell 5) (kA.cell 6) (kB.cell 0) (kB.cell 1) (kB.cell 2) (kB.cell 3) (kB.cell 4) (kB.cell 5) (kB.cell 6) _ _ (by simp) ⟨rfl, rfl, trivial⟩ ?_;rintro W hX xv41 _;simp only [EndK, ae, Try.f191, ab, Option.bind_some, Nat.reduceBEq, if_true, if_false, Bool.false_eq_true, Option.getD_some, List.drop_succ_cons, List.drop_zero];simp only [Act.put, List.setIfInBounds_toArray, List.set_cons_succ, List.set_cons_zero];replace hXe := hXe.trans hX;clear kA kB hX;have HX := hid hXe;clear hXe;go_wp2;go_ret;exact ⟨_, rfl, qu [(va0, vb0), (va1, vb1), (va2, vb2), (va3, vb3), (va4, vb4), (va5, vb5), (va6, vb6)], HX.out⟩
end Go.Proofs.Ytikhlcgnlbinfaa
namespace Go.Proofs.Ytikhlcgnlbinfaa
open Lib (hid)
theorem sa {P : Nat} (h : P <= BB 52) : P * P <= BB 104 := by
 have : BB 104 = BB 52 * BB 52 := eA 52 52;rw [this];exact Nat.mul_le_mul h h
theorem qx {S : Int} {m : Mt} (hm : VM S m) {n : Nat} (hn : n <= 24) {u : Nat -> Rat} (ht : pU n u) : FitQW (cL n u m) := by
 obtain ⟨P, h1, h2, h3⟩ := ht;exact FitQW.of4 ((nJ hm hn h1 h2 h3).fit (Nat.mul_pos h1 h1) (sa h2)) (by decide)
end Go.Proofs.Ytikhlcgnlbinfaa
namespace Go.Proofs.Ytikhlcgnlbinfaa
open Lib (hid)
open Go.RowKit
theorem NumX.past {w : World} {v : Value} {q : Rat} {K g : Nat} (h : NumX w v q K) (hN : NoInts w g) {b : Bool} {A1 A2 : Option Addr} {l1 c1 l2 c2 : Nat} : NumX (((w.setCell ⟨g, 0, none⟩ (.bool b)).setCell ⟨g, 1, none⟩ (.slice A1 l1 c1)).setCell ⟨g, 2, none⟩ (.slice A2 l2 c2)) v q K :=
 h.keepsNI ((((Keeps.refl [g] w).setCell (.inl (by simp)) _).setCell (.inl (by simp)) _).setCell (.inl (by simp)) _) (fun k hk => by simp at hk; subst hk; exact hN)
theorem iX {q : Rat} : cE q = 0 ↔ q = 0 := by
 rcases bd q with ⟨h1, h2⟩ | ⟨h1, h2⟩ | ⟨h1, h2⟩
 .
  rw [h2]; exact ⟨fun h => by omega, fun h => by subst h; exact absurd h1 (by decide)⟩
 .
  rw [h2]; exact ⟨fun _ => h1, fun _ => rfl⟩
 .
  rw [h2]; exact ⟨fun h => by omega, fun h => by subst h; exact absurd h1 (by decide)⟩
end Go.Proofs.Ytikhlcgnlbinfaa
