/- Lemmas of the proof that follows (Sends, part 4): walks of functions by contract, and plain lemmas. Conditions: none. -/
import Derived.Test.YtekhmfliaojabaaSendsC
namespace Go.Proofs.Ytekhmfliaojabaa
open Go.RowKit

theorem SndR.grow {base : Nat} {w : World} {g : Nat} {s : Snd} {v v' : Value} {xs : List Int} (hB : Blk w g 118 #[.int .i64 s.stream, .int .i64 s.window, .int .i64 s.acked, v])
    (hR : ∃ vs, w.ownsRow base 22 1 v' (s.bodies.length + 1) vs ∧ F2 (BodyV base w) vs (s.bodies ++ [xs])) (lo : base ≤ g) (ok : SndOk { s with bodies := s.bodies ++ [xs] }) :
    SndR base (w.setCell ⟨g, 3, none⟩ v') g v' { s with bodies := s.bodies ++ [xs] } := by
  have hK : Keeps [g] w (w.setCell ⟨g, 3, none⟩ v') := (Keeps.refl _ _).setCell (.inl (by simp)) _
  have hN : ∀ t, 118 ≠ t → ∀ k ∈ [g], NoRow t w k := by intro t ht k hk; simp at hk; subst hk; exact NoRow.of_blk hB ht
  obtain ⟨vs, h1, h2⟩ := hR
  refine ⟨?_, ⟨vs, ?_, h2.imp fun _ _ _ h => h.keeps hK (hN _ (by decide))⟩, lo, ok⟩
  · have := hB.set 3 v'
    simpa using this
  · have : w.ownsRow base 22 1 v' (s.bodies ++ [xs]).length vs := by rw [List.length_append]; exact h1
    refine ownsRow_keeps this hK fun k hv hl => ?_
    rcases h1.2 with ⟨rfl, _⟩ | ⟨g', cap, cur, rfl, _, hg, _⟩
    · simp [Value.ownBlock] at hv
    · simp [Value.ownBlock] at hv
      subst hv
      exact hN _ (show 118 ≠ 22 by decide) _ hl _ _ hg
theorem SndR.ack {base : Nat} {w : World} {g : Nat} {s : Snd} {v : Value} (h : SndR base w g v s) (z : Nat) (ok : SndOk { s with acked := z }) : SndR base (w.setCell ⟨g, 2, none⟩ (.int .i64 (z : Int))) g v { s with acked := z } := by
  have hB := h.blk
  have hK : Keeps [g] w (w.setCell ⟨g, 2, none⟩ (.int .i64 (z : Int))) := (Keeps.refl _ _).setCell (.inl (by simp)) _
  have hN : ∀ t, 118 ≠ t → ∀ k ∈ [g], NoRow t w k := by intro t ht k hk; simp at hk; subst hk; exact NoRow.of_blk hB ht
  obtain ⟨vs, h1, h2⟩ := h.row
  refine ⟨?_, ⟨vs, ?_, h2.imp fun _ _ _ h => h.keeps hK (hN _ (by decide))⟩, h.lo, ok⟩
  · have := hB.set 2 (.int .i64 (z : Int))
    simpa using this
  · refine ownsRow_keeps h1 hK fun k hv hl => ?_
    rcases h1.2 with ⟨rfl, _⟩ | ⟨g', cap, cur, rfl, _, hg, _⟩
    · simp [Value.ownBlock] at hv
    · simp [Value.ownBlock] at hv
      subst hv
      exact hN _ (show 118 ≠ 22 by decide) _ hl _ _ hg

set_option maxRecDepth 100000 in
set_option maxHeartbeats 2000000 in
theorem offerR_any (base g : Nat) (v : Value) (s : Snd) (Ab : Option Addr) (n c : Nat) (xs : List Int) (w : World) (h : SndR base w g v s) (hI : Ints .u8 w Ab n xs) (hc1 : n ≤ c) (hc2 : c ≤ 9223372036854775807) (hn : n ≤ 1000000) (h3 : s.bodies.length ≤ 1000000) :
    Calls Try.prog 37 #[.pointer (some ⟨g, 0, none⟩), .slice Ab n c] w (fun e w' => ∃ u v', e = .returned (.tuple #[u, .int .i64 (offerS s xs).2.2]) ∧ FrVO w.heap.size w' u (offerS s xs).2.1 ∧ SndR base w' g v' (offerS s xs).1 ∧ Keeps (g :: v.ownBlock.toList) w w') := by
  obtain ⟨A0, c0, rfl⟩ := h.slice
  have HS := Lib.hid h
  have HI := Lib.hid hI
  have HB := Lib.hid h.blk
  obtain ⟨lw0, lw1⟩ := h.ok.window
  have la := h.ok.acked
  have lb := h.base_le
  have HLb : Hid (∀ k ∈ (Value.slice A0 s.bodies.length c0).ownBlock.toList, k < w.heap.size) := Lib.hid (by obtain ⟨vs, ho, _⟩ := h.row; intro k hk; exact (ho.lt k (by simpa using hk)).2)
  have hgn := h.ne
  have HG := Lib.hid hgn
  clear h hI hgn
  have hXe : Ext w (w.alloc (.cells #[.int .i64 0, .int .i64 0, .slice none 0 0] 38)) := ((Ext.refl w).alloc _)
  have kt : Blk (w.alloc (.cells #[.int .i64 0, .int .i64 0, .slice none 0 0] 38)) w.heap.size 38 #[.int .i64 0, .int .i64 0, .slice none 0 0] := Blk.at_ (by simp)
  obtain ⟨z, hz⟩ : ∃ z, s.bodies.length = s.acked + z := ⟨s.bodies.length - s.acked, by omega⟩
  have HZ := Lib.hid hz
  have hz0 : s.acked + z ≤ s.bodies.length := by omega
  have hz1 : s.bodies.length ≤ s.acked + z := by omega
  clear hz
  by_cases hlen : 1024 < n
  · have hgt : decide ((1024 : Int) < (n : Int)) = true := decide_eq_true (by omega)
    go_enter Try.func37, Try.ntmps37
    go_upto_region 1 with (fail)
    generalize (w.alloc (.cells #[.int .i64 0, .int .i64 0, .slice none 0 0] 38)) = w1 at hXe kt ⊢
    have HX := Lib.hid hXe
    clear hXe
    have Kt := Lib.hid kt
    clear kt
    replace HS := Lib.hid (HS.out.ext HX.out)
    replace HI := Lib.hid (HI.out.ext HX.out)
    replace HB := Lib.hid (HB.out.ext HX.out)
    have ct0 : w1.cell? ⟨w.heap.size, 0, none⟩ = some (.int .i64 0) := Kt.out.cell 0
    have ft0 : w1.frozen? ⟨w.heap.size, 0, none⟩ = false := Kt.out.free 0
    have ct1 : w1.cell? ⟨w.heap.size, 1, none⟩ = some (.int .i64 0) := Kt.out.cell 1
    have ft1 : w1.frozen? ⟨w.heap.size, 1, none⟩ = false := Kt.out.free 1
    have ct2 : w1.cell? ⟨w.heap.size, 2, none⟩ = some (.slice none 0 0) := Kt.out.cell 2
    have ft2 : w1.frozen? ⟨w.heap.size, 2, none⟩ = false := Kt.out.free 2
    go_wp2
    refine bodyPost_ret (v := .tuple #[.agg #[.int .i64 0, .int .i64 0, .slice none 0 0], .int .i64 2]) (by simp [results, Try.results37, go_sem, *]) rfl ?_
    have e : offerS s xs = (s, fr0, 2) := by unfold offerS; rw [if_pos (by rw [HI.out.1]; exact hlen)]
    rw [e]
    exact ⟨_, _, rfl, ⟨none, 0, 0, rfl, World.ownsRow_nil _ _ _ _, rfl, by simp [fr0]⟩, HS.out.put3 Kt.out (by decide) (by decide) (by decide) _ _ _, (Keeps.of_ext HX.out _).fresh3 (Nat.le_refl _) _ _ _⟩

  · have hgt : decide ((1024 : Int) < (n : Int)) = false := decide_eq_false (by omega)
    go_enter Try.func37, Try.ntmps37
    go_upto_region 3 with (fail)
    generalize (w.alloc (.cells #[.int .i64 0, .int .i64 0, .slice none 0 0] 38)) = w1 at hXe kt ⊢
    have HX := Lib.hid hXe
    clear hXe
    have Kt := Lib.hid kt
    clear kt
    replace HS := Lib.hid (HS.out.ext HX.out)
    replace HI := Lib.hid (HI.out.ext HX.out)
    replace HB := Lib.hid (HB.out.ext HX.out)
    have hlx : ¬ 1024 < xs.length := by rw [HI.out.1]; exact hlen
    by_cases hw : s.window ≤ (z : Int)
    · have hfull : s.window ≤ (s.bodies.length : Int) - s.acked := by omega
      refine offerR_r3y g s.acked s.bodies.length z s.window A0 c0 _ (HB.out.cell 1) (HB.out.cell 2) (HB.out.cell 3) HZ h3 hw _ _ (by simp) rfl ?_
      rintro xv0 xv1 xv2 xv3 xv4 xv5 xv6 xv7 xv8 xv9 xv10 xv11 xv12 xv13 xv14 w2 rfl rfl rfl rfl rfl rfl rfl rfl rfl rfl rfl rfl rfl rfl rfl hXW
      simp only [rops, Try.f37, regOf, Option.bind_some, Nat.reduceBEq, if_true, if_false, Bool.false_eq_true, Option.getD_some, List.drop_succ_cons, List.drop_zero]
      simp only [Act.put, List.setIfInBounds_toArray, List.set_cons_succ, List.set_cons_zero]
      replace HX := Lib.hid (HX.out.trans hXW)
      replace HS := Lib.hid (HS.out.ext hXW)
      replace HI := Lib.hid (HI.out.ext hXW)
      replace HB := Lib.hid (HB.out.ext hXW)
      replace Kt := Lib.hid (Kt.out.ext hXW)
      clear hXW
      have ct0 : w2.cell? ⟨w.heap.size, 0, none⟩ = some (.int .i64 0) := Kt.out.cell 0
      have ft0 : w2.frozen? ⟨w.heap.size, 0, none⟩ = false := Kt.out.free 0
      have ct1 : w2.cell? ⟨w.heap.size, 1, none⟩ = some (.int .i64 0) := Kt.out.cell 1
      have ft1 : w2.frozen? ⟨w.heap.size, 1, none⟩ = false := Kt.out.free 1
      have ct2 : w2.cell? ⟨w.heap.size, 2, none⟩ = some (.slice none 0 0) := Kt.out.cell 2
      have ft2 : w2.frozen? ⟨w.heap.size, 2, none⟩ = false := Kt.out.free 2
      go_wp2
      refine bodyPost_ret (v := .tuple #[.agg #[.int .i64 0, .int .i64 0, .slice none 0 0], .int .i64 29]) (by simp [results, Try.results37, go_sem, *]) rfl ?_
      have e : offerS s xs = (s, fr0, 29) := by unfold offerS; rw [if_neg hlx, if_pos hfull]
      rw [e]
      exact ⟨_, _, rfl, ⟨none, 0, 0, rfl, World.ownsRow_nil _ _ _ _, rfl, by simp [fr0]⟩, HS.out.put3 Kt.out (by decide) (by decide) (by decide) _ _ _, (Keeps.of_ext HX.out _).fresh3 (Nat.le_refl _) _ _ _⟩
    · have hfull : ¬ s.window ≤ (s.bodies.length : Int) - s.acked := by omega
      refine offerR_r3n g s.acked s.bodies.length z s.window A0 c0 _ (HB.out.cell 1) (HB.out.cell 2) (HB.out.cell 3) HZ h3 (by omega) _ _ (by simp) rfl ?_
      rintro xv0 xv1 xv2 xv3 xv4 xv5 xv6 xv7 xv8 xv9 xv10 xv11 xv12 xv13 xv14 w2 rfl rfl rfl rfl rfl rfl rfl rfl rfl rfl rfl rfl rfl rfl rfl hXW
      simp only [rops, Try.f37, regOf, Option.bind_some, Nat.reduceBEq, if_true, if_false, Bool.false_eq_true, Option.getD_some, List.drop_succ_cons, List.drop_zero]
      simp only [Act.put, List.setIfInBounds_toArray, List.set_cons_succ, List.set_cons_zero]
      replace HX := Lib.hid (HX.out.trans hXW)
      replace HS := Lib.hid (HS.out.ext hXW)
      replace HI := Lib.hid (HI.out.ext hXW)
      replace HB := Lib.hid (HB.out.ext hXW)
      replace Kt := Lib.hid (Kt.out.ext hXW)
      clear hXW
      go_upto_region 5 with (fail)
      obtain ⟨vs, hown, hF⟩ := HS.out.row
      have hy2 := HX.out.size
      refine offerR_r5 base g s.bodies.length A0 c0 Ab n c xs s.bodies vs w2 (HB.out.cell 3) HI.out hc1 hc2 (by omega) h3 hown hF (by omega) (fun k hk => by have := HLb.out k hk; omega) _ _ (by simp) rfl rfl ?_
      rintro xv0 xv1 xv2 xv3 xv4 xv5 xv6 xv7 xv8 xv9 xv10 xv11 W4 rfl rfl rfl rfl rfl rfl _ _ _ ⟨vs', ho', hF'⟩ rfl rfl hK4
      simp only [rops, Try.f37, regOf, Option.bind_some, Nat.reduceBEq, if_true, if_false, Bool.false_eq_true, Option.getD_some, List.drop_succ_cons, List.drop_zero]
      simp only [Act.put, List.setIfInBounds_toArray, List.set_cons_succ, List.set_cons_zero]
      obtain ⟨A1, m1, c1, hm1, rfl⟩ := own_slice' ho'
      have hB4 := HB.out.keeps hK4 (fun hl => HG.out (Option.mem_toList.1 hl).symm)
      have hT4 := Kt.out.keeps hK4 (by intro hl; have := HLb.out _ hl; omega)
      have hK0 : Keeps (g :: (Value.slice A0 s.bodies.length c0).ownBlock.toList) w W4 := (Keeps.of_ext HX.out _).trans (hK4.mono fun k hk _ => by simp only [List.mem_cons]; exact .inr hk)
      have hgt : g ≠ w.heap.size := by have := HS.out.lt; intro e; subst e; exact absurd (show some _ = some _ from HB.out.symm.trans Kt.out) (by simp)
      have ho := offerS_ok (b := xs) HS.out.ok HI.out.2.1
      have eo : offerS s xs = ({ s with bodies := s.bodies ++ [xs] }, ⟨s.stream, s.bodies.length, xs⟩, 0) := by unfold offerS; rw [if_neg hlx, if_neg (by omega)]
      rw [eo] at ho
      have HE := Lib.hid eo
      have hS6 := SndR.grow hB4 ⟨vs', ho', hF'⟩ HS.out.lo ho
      have hT6 := hT4.far (p := ⟨g, 3, none⟩) (by simpa using hgt.symm) (.slice A1 m1 c1)
      have hK6 := hK0.setCell (p := ⟨g, 3, none⟩) (.inl (by simp)) (.slice A1 m1 c1)
      have HM1 := Lib.hid hm1
      have HS6 := Lib.hid hS6
      have HT6 := Lib.hid hT6
      have HK6 := Lib.hid hK6
      have f3 := hB4.cell 3
      have z3 := hB4.free 3
      clear hS6 hT6 hK6 hT4 hK4 hB4 hK0 ho eo ho' hF' hown hF hm1
      have hmz : (m1 : Int) - 1 = (s.bodies.length : Int) := by have := HM1.out; omega
      have hm2 : m1 ≤ 1000001 := by have := HM1.out; omega
      have qw : IntKind.i64.wrap ((m1 : Int) - 1) = (s.bodies.length : Int) := (IntWalk.i64_in _ (by omega)).trans hmz
      have HW := Lib.hid qw
      clear hmz qw
      have qw := HW.out
      go_wp2_with fail
      clear f3 z3
      have lhS : s.bodies.length < (s.bodies ++ [xs]).length := by simp
      refine (frameR_any base g _ s.bodies.length _ _ HS6.out lhS).mono ?_
      rintro e w7 ⟨v, rfl, ⟨A3, n3, c3, rfl, hO7⟩, hX7⟩
      have hS7 := Lib.hid (HS6.out.ext hX7)
      have hT7 := Lib.hid (HT6.out.ext hX7)
      have hK7 := Lib.hid (HK6.out.trans (Keeps.of_ext hX7 _))
      have HO7 := Lib.hid hO7
      have hz6 := Lib.hid HK6.out.size
      clear HS6 HT6 HK6 hX7 hO7
      have c0' := hT7.out.cell 0
      have c1' := hT7.out.cell 1
      have c2' := hT7.out.cell 2
      have f0 := hT7.out.free 0
      have f1 := hT7.out.free 1
      have f2 := hT7.out.free 2
      go_wp2
      refine bodyPost_ret (v := .tuple #[.agg #[.int .i64 s.stream, .int .i64 (s.bodies.length : Int), .slice A3 n3 c3], .int .i64 0]) (by simp [results, Try.results37, go_sem, *]) rfl ?_
      rw [HE.out]
      refine ⟨_, _, rfl, ⟨A3, n3, c3, rfl, ?_⟩, hS7.out.put3 hT7.out (by decide) (by decide) (by decide) _ _ _, hK7.out.fresh3 (Nat.le_refl _) _ _ _⟩
      have hg : (s.bodies ++ [xs]).getD s.bodies.length [] = xs := by simp [List.getD]
      rw [← hg]
      exact (HO7.out.put3 hT7.out (by decide) _ _ _).mono hz6.out
    



set_option maxRecDepth 100000 in
set_option maxHeartbeats 2000000 in
theorem ackR_any (base g : Nat) (v : Value) (s : Snd) (n : Int) (w : World) (h : SndR base w g v s) (h3 : s.bodies.length ≤ 1000000) :
    Calls Try.prog 39 #[.pointer (some ⟨g, 0, none⟩), .int .i64 n] w (fun e w' => e = .returned (.int .i64 (ackS s n).2) ∧ SndR base w' g v (ackS s n).1 ∧ Keeps (g :: v.ownBlock.toList) w w') := by
  obtain ⟨A0, c0, rfl⟩ := h.slice
  have HS := Lib.hid h
  have f2 := h.blk.cell 2
  have z2 := h.blk.free 2
  have f3 := h.blk.cell 3
  have HO := Lib.hid (ackS_ok n h.ok)
  clear h
  by_cases h1 : n < s.acked
  · have q1 : decide (n < (s.acked : Int)) = true := decide_eq_true h1
    have e : ackS s n = (s, 2) := by unfold ackS; rw [if_pos (.inl h1)]
    have HE := Lib.hid e
    clear e
    go_enter Try.func39, Try.ntmps39
    go_wp2
    go_ret
    rw [HE.out]
    exact ⟨rfl, HS.out, Keeps.refl _ _⟩
  · have q1 : decide (n < (s.acked : Int)) = false := decide_eq_false h1
    by_cases h2 : (s.bodies.length : Int) < n
    · have q2 : decide ((s.bodies.length : Int) < n) = true := decide_eq_true h2
      have e : ackS s n = (s, 2) := by unfold ackS; rw [if_pos (.inr h2)]
      have HE := Lib.hid e
      clear e
      go_enter Try.func39, Try.ntmps39
      go_wp2
      go_ret
      rw [HE.out]
      exact ⟨rfl, HS.out, Keeps.refl _ _⟩
    · have q2 : decide ((s.bodies.length : Int) < n) = false := decide_eq_false h2
      have e : ackS s n = ({ s with acked := n.toNat }, 0) := by unfold ackS; rw [if_neg (by omega)]
      have HE := Lib.hid e
      clear e
      go_enter Try.func39, Try.ntmps39
      go_wp2
      go_ret
      have ho := HO.out
      rw [HE.out] at ho ⊢
      refine ⟨rfl, ?_, (Keeps.refl _ _).setCell (.inl (by simp)) _⟩
      have := HS.out.ack n.toNat ho
      rw [show ((n.toNat : Nat) : Int) = n by omega] at this
      exact this


set_option maxRecDepth 100000 in
set_option maxHeartbeats 2000000 in
theorem pendR_any (base g : Nat) (v : Value) (s : Snd) (w : World) (h : SndR base w g v s) (h3 : s.bodies.length ≤ 1000000) :
    Calls Try.prog 42 #[.pointer (some ⟨g, 0, none⟩)] w (fun e w' => ∃ v, e = .returned v ∧ FrL w.heap.size w' v (pendS s) ∧ Ext w w') := by
  obtain ⟨A0, c0, rfl⟩ := h.slice
  have HS := Lib.hid h
  have la := h.ok.acked
  have f2 := h.blk.cell 2
  clear h
  go_enter Try.func42, Try.ntmps42
  go_wp2_with fail
  clear f2
  go_loopg [3, 4] (s.bodies.length - s.acked) (fun f v i wr => ∃ (k : Nat) (q : Nat) (fs : List Fr), f = s.bodies.length - s.acked - k ∧ s.acked + k ≤ s.bodies.length ∧ Hid (q = s.acked + k) ∧ i = .int .i64 (q : Int) ∧ Hid (fs = (pendS s).take k) ∧ Hid (FrL w.heap.size wr v fs) ∧ Hid (Ext w wr))
  case atStart => exact ⟨0, s.acked, [], rfl, by omega, Lib.hid rfl, rfl, Lib.hid (by simp), Lib.hid (FrL.nil _ _), Lib.hid (Ext.refl w)⟩
  case round =>
    obtain ⟨k, q, fs, rfl, hk, HQ, rfl, HF, HL, HX⟩ := hrel
    have hk0 : s.acked ≤ q := by have := HQ.out; omega
    have hk1 : q ≤ s.bodies.length := by have := HQ.out; omega
    have HR := Lib.hid (HS.out.ext HX.out)
    have hsl : ∃ A0 c0, u3 = .slice A0 fs.length c0 := by obtain ⟨vs0, hown0, _⟩ := HL.out; exact own_slice hown0
    obtain ⟨A5, c5, rfl⟩ := hsl
    have f3 := HR.out.blk.cell 3
    have hfl : fs.length ≤ k := by rw [HF.out, List.length_take]; omega
    by_cases hlt : q < s.bodies.length
    · have q3 : decide ((q : Int) < (s.bodies.length : Int)) = true := decide_eq_true (by omega)
      go_wp2_with fail
      refine (frameR_any base g _ q s _ HR.out hlt).mono ?_
      clear f3
      rintro e w1 ⟨_, rfl, ⟨A1, n1, c1, rfl, hO1⟩, hX1⟩
      have HX1 := Lib.hid hX1
      have HO1 := Lib.hid (hO1.mono HX.out.size)
      obtain ⟨vs, hown1, hcs1⟩ := HL.out.ext hX1
      have HC1 := Lib.hid hcs1
      clear hX1 hO1 hcs1
      go_wp2_with (at_builtin; refine wpList_app _ elF rfl _ _ rfl w.heap.size (.slice A5 fs.length c5) fs.length vs rfl (hown1.alloc _) _ 1 1 [.int .i64 s.stream, .int .i64 (q : Int), .slice A1 n1 c1] rfl rfl (At.new' _ [_, _, _] _ rfl) (by simp [Value.oneCell']) (by omega) (by unfold maxLen; omega) (by have := HX.out.size; have := HX1.out.size; simp; omega) ?_; intro v2 w2 hown2 hgr2 hdj; clear hdj)
      go_roundg (s.bodies.length - s.acked - (k + 1))
      case rel =>
        refine ⟨k + 1, q + 1, _, rfl, by have := HQ.out; omega, Lib.hid (by have := HQ.out; omega), by go_num, Lib.hid rfl, Lib.hid ?_, Lib.hid ((HX.out.trans HX1.out).push hown1 hgr2)⟩
        rw [pendS_take s (by have := HQ.out; omega), ← HQ.out, ← HF.out]
        exact FrL.snoc hown1 HC1.out HO1.out _ (by simpa using hown2) hgr2
      case measure => have := HQ.out; omega
    · have q3 : decide ((q : Int) < (s.bodies.length : Int)) = false := decide_eq_false (by omega)
      go_wp2
      go_ret
      refine ⟨_, rfl, ?_, HX.out⟩
      have e : fs = pendS s := by rw [HF.out, List.take_of_length_le]; rw [pendS_len]; have := HQ.out; omega
      rw [← e]
      exact HL.out

set_option maxRecDepth 100000 in
set_option maxHeartbeats 2000000 in
theorem againR_r5a (g b0 off nq cq k na nl : Nat) (z : Int) (A0 : Option Addr) (c0 : Nat) (w : World) (hc : w.cell? ⟨b0, off + k, none⟩ = some (.int .i64 z)) (f2 : w.cell? ⟨g, 2, none⟩ = some (.int .i64 (na : Int))) (f3 : w.cell? ⟨g, 3, none⟩ = some (.slice A0 nl c0)) (hk : k < nq) (h1 : z < (na : Int)) (a : Act) (Q : Exit → Act → World → Prop) (hsize : 33 ≤ a.tmps.size)
    (s0 : a.tmps[0]? = some (.pointer (some ⟨g, 0, none⟩)))
    (s1 : a.tmps[1]? = some (.slice (some ⟨b0, off, none⟩) nq cq))
    (s6 : a.tmps[6]? = some (.int .i64 (k : Int)))
    (hend : ∀ (xv0 xv1 xv2 xv3 xv4 xv5 xv6 xv7 xv8 xv9 xv10 xv11 xv12 xv13 xv14 xv15 xv16 xv17 xv18 xv19 xv20 : Value) (W : World), (xv0 = .slice (some ⟨b0, off, none⟩) nq cq) → (xv1 = .int .i64 (k : Int)) → (xv2 = .pointer (some ⟨b0, off + k, none⟩)) → (xv3 = .int .i64 z) → (xv4 = .pointer (some ⟨g, 0, none⟩)) → (xv5 = .pointer (some ⟨g, 0, none⟩)) → (xv6 = .pointer (some ⟨g, 2, none⟩)) → (xv7 = .int .i64 (na : Int)) → (xv8 = .bool false) → (xv9 = .bool false) → (xv10 = undef) → (xv11 = undef) → (xv12 = undef) → (xv13 = undef) → (xv14 = undef) → (xv15 = undef) → (xv16 = undef) → (xv17 = undef) → (xv18 = undef) → (xv19 = undef) → (xv20 = .bool false) → Ext w W → wpList Try.prog (rops Try.f44 5).toArray Q ((rops Try.f44 5).drop 21) (((((((((((((((((((((a.put (some 12) xv0).put (some 13) xv1).put (some 14) xv2).put (some 15) xv3).put (some 16) xv4).put (some 17) xv5).put (some 18) xv6).put (some 19) xv7).put (some 20) xv8).put (some 21) xv9).put (some 22) xv10).put (some 23) xv11).put (some 24) xv12).put (some 25) xv13).put (some 26) xv14).put (some 27) xv15).put (some 28) xv16).put (some 29) xv17).put (some 30) xv18).put (some 31) xv19).put (some 32) xv20) W) :
    (Code.region 5 (rops Try.f44 5).toArray true).wp Try.prog Q a w := by
  have hmono : ∀ (W W' : World) (j : Nat) (u : Value), Ext W W' → (fun (i : Nat) (v : Value) (W : World) => match i with
    | 0 => v = .slice (some ⟨b0, off, none⟩) nq cq
    | 1 => v = .int .i64 (k : Int)
    | 2 => v = .pointer (some ⟨b0, off + k, none⟩)
    | 3 => v = .int .i64 z
    | 4 => v = .pointer (some ⟨g, 0, none⟩)
    | 5 => v = .pointer (some ⟨g, 0, none⟩)
    | 6 => v = .pointer (some ⟨g, 2, none⟩)
    | 7 => v = .int .i64 (na : Int)
    | 8 => v = .bool false
    | 9 => v = .bool false
    | 10 => v = undef
    | 11 => v = undef
    | 12 => v = undef
    | 13 => v = undef
    | 14 => v = undef
    | 15 => v = undef
    | 16 => v = undef
    | 17 => v = undef
    | 18 => v = undef
    | 19 => v = undef
    | 20 => v = .bool false
    | _ => True) j u W → (fun (i : Nat) (v : Value) (W : World) => match i with
    | 0 => v = .slice (some ⟨b0, off, none⟩) nq cq
    | 1 => v = .int .i64 (k : Int)
    | 2 => v = .pointer (some ⟨b0, off + k, none⟩)
    | 3 => v = .int .i64 z
    | 4 => v = .pointer (some ⟨g, 0, none⟩)
    | 5 => v = .pointer (some ⟨g, 0, none⟩)
    | 6 => v = .pointer (some ⟨g, 2, none⟩)
    | 7 => v = .int .i64 (na : Int)
    | 8 => v = .bool false
    | 9 => v = .bool false
    | 10 => v = undef
    | 11 => v = undef
    | 12 => v = undef
    | 13 => v = undef
    | 14 => v = undef
    | 15 => v = undef
    | 16 => v = undef
    | 17 => v = undef
    | 18 => v = undef
    | 19 => v = undef
    | 20 => v = .bool false
    | _ => True) j u W' := by
    intro W W' j u hX h
    match j, h with
    | 0, h => exact h
    | 1, h => exact h
    | 2, h => exact h
    | 3, h => exact h
    | 4, h => exact h
    | 5, h => exact h
    | 6, h => exact h
    | 7, h => exact h
    | 8, h => exact h
    | 9, h => exact h
    | 10, h => exact h
    | 11, h => exact h
    | 12, h => exact h
    | 13, h => exact h
    | 14, h => exact h
    | 15, h => exact h
    | 16, h => exact h
    | 17, h => exact h
    | 18, h => exact h
    | 19, h => exact h
    | 20, h => exact h
    | _ + 21, h => exact h
  have hsz : ∀ d, some d ∈ ([some 12, some 13, some 14, some 15, some 16, some 17, some 18, some 19, some 20, some 21, some 22, some 23, some 24, some 25, some 26, some 27, some 28, some 29, some 30, some 31, some 32] : List (Option Tmp)) → d < a.tmps.size := slots_lt (by decide) hsize
  refine wp_region_j 21 [some 12, some 13, some 14, some 15, some 16, some 17, some 18, some 19, some 20, some 21, some 22, some 23, some 24, some 25, some 26, some 27, some 28, some 29, some 30, some 31, some 32] [[], [], [0, 1], [2], [], [4], [5], [6], [3, 7], [8], [9], [9], [9, 10, 11], [9, 12], [9], [9, 14], [9, 15], [9, 16], [9, 17], [9, 13, 18], [9, 19]] [[], [], [], [], [], [], [], [], [], [], [], [], [], [], [], [], [], [], [], [], []] (fun (i : Nat) (v : Value) (W : World) => match i with
    | 0 => v = .slice (some ⟨b0, off, none⟩) nq cq
    | 1 => v = .int .i64 (k : Int)
    | 2 => v = .pointer (some ⟨b0, off + k, none⟩)
    | 3 => v = .int .i64 z
    | 4 => v = .pointer (some ⟨g, 0, none⟩)
    | 5 => v = .pointer (some ⟨g, 0, none⟩)
    | 6 => v = .pointer (some ⟨g, 2, none⟩)
    | 7 => v = .int .i64 (na : Int)
    | 8 => v = .bool false
    | 9 => v = .bool false
    | 10 => v = undef
    | 11 => v = undef
    | 12 => v = undef
    | 13 => v = undef
    | 14 => v = undef
    | 15 => v = undef
    | 16 => v = undef
    | 17 => v = undef
    | 18 => v = undef
    | 19 => v = undef
    | 20 => v = .bool false
    | _ => True) (fun _ W => Ext w W) (by kernel_rfl) (by kernel_rfl) hsz (fun _ _ _ _ h => h) ((Ext.refl w).drew) ?_ ?_
  · clear hend
    simp only [rops, Try.f44, regOf, Option.bind_some, Nat.reduceBEq, if_true, if_false, Bool.false_eq_true, Option.getD_some]
    simp only [List.take_succ_cons, List.take_zero]
    refine ⟨?_, ?_, ?_, ?_, ?_, ?_, ?_, ?_, ?_, ?_, ?_, ?_, ?_, ?_, ?_, ?_, ?_, ?_, ?_, ?_, ?_, trivial⟩
    · intro done us W hJ hdep haft hnot b hb hb' K hK Q'
      have e1 := (hb' 1 (by simp)).trans s1
      clear hb hb'
      go_simp
      exact hK _ _ rfl (fun _ _ _ h => h) hJ
    · intro done us W hJ hdep haft hnot b hb hb' K hK Q'
      have e6 := (hb' 6 (by simp)).trans s6
      clear hb hb'
      go_simp
      exact hK _ _ rfl (fun _ _ _ h => h) hJ
    · intro done us W hJ hdep haft hnot b hb hb' K hK Q'
      simp only [List.getD_cons_succ, List.getD_cons_zero, List.mem_cons, List.not_mem_nil, or_false, forall_eq_or_imp, forall_eq] at hdep
      have e12 := hb 0 12 rfl
      have e13 := hb 1 13 rfl
      have d0 := hdep.1
      have d1 := hdep.2
      rw [d0.1] at e12
      rw [d1.1] at e13
      clear hb hb' hdep d0 d1
      go_simp
      exact hK _ _ rfl (fun _ _ _ h => h) hJ
    · intro done us W hJ hdep haft hnot b hb hb' K hK Q'
      simp only [List.getD_cons_succ, List.getD_cons_zero, List.mem_cons, List.not_mem_nil, or_false, forall_eq_or_imp, forall_eq] at hdep
      have e14 := hb 2 14 rfl
      have d2 := hdep
      rw [d2.1] at e14
      clear hb hb' hdep d2
      have q := Ext.cell hJ hc
      go_simp
      exact hK _ _ rfl (fun _ _ _ h => h) hJ
    · intro done us W hJ hdep haft hnot b hb hb' K hK Q'
      have e0 := (hb' 0 (by simp)).trans s0
      clear hb hb'
      go_simp
      exact hK _ _ rfl (fun _ _ _ h => h) hJ
    · intro done us W hJ hdep haft hnot b hb hb' K hK Q'
      simp only [List.getD_cons_succ, List.getD_cons_zero, List.mem_cons, List.not_mem_nil, or_false, forall_eq_or_imp, forall_eq] at hdep
      have e16 := hb 4 16 rfl
      have d4 := hdep
      rw [d4.1] at e16
      clear hb hb' hdep d4
      go_simp
      exact hK _ _ rfl (fun _ _ _ h => h) hJ
    · intro done us W hJ hdep haft hnot b hb hb' K hK Q'
      simp only [List.getD_cons_succ, List.getD_cons_zero, List.mem_cons, List.not_mem_nil, or_false, forall_eq_or_imp, forall_eq] at hdep
      have e17 := hb 5 17 rfl
      have d5 := hdep
      rw [d5.1] at e17
      clear hb hb' hdep d5
      go_simp
      exact hK _ _ rfl (fun _ _ _ h => h) hJ
    · intro done us W hJ hdep haft hnot b hb hb' K hK Q'
      simp only [List.getD_cons_succ, List.getD_cons_zero, List.mem_cons, List.not_mem_nil, or_false, forall_eq_or_imp, forall_eq] at hdep
      have e18 := hb 6 18 rfl
      have d6 := hdep
      rw [d6.1] at e18
      clear hb hb' hdep d6
      have q := Ext.cell hJ f2
      go_simp
      exact hK _ _ rfl (fun _ _ _ h => h) hJ
    · intro done us W hJ hdep haft hnot b hb hb' K hK Q'
      simp only [List.getD_cons_succ, List.getD_cons_zero, List.mem_cons, List.not_mem_nil, or_false, forall_eq_or_imp, forall_eq] at hdep
      have e15 := hb 3 15 rfl
      have e19 := hb 7 19 rfl
      have d3 := hdep.1
      have d7 := hdep.2
      rw [d3.1] at e15
      rw [d7.1] at e19
      clear hb hb' hdep d3 d7
      go_simp
      exact hK _ _ (by first | rfl | (congr 1; exact decide_eq_false (by omega))) (fun _ _ _ h => h) hJ
    · intro done us W hJ hdep haft hnot b hb hb' K hK Q'
      simp only [List.getD_cons_succ, List.getD_cons_zero, List.mem_cons, List.not_mem_nil, or_false, forall_eq_or_imp, forall_eq] at hdep
      have e20 := hb 8 20 rfl
      have d8 := hdep
      rw [d8.1] at e20
      clear hb hb' hdep d8
      go_simp
      exact hK _ _ rfl (fun _ _ _ h => h) hJ
    · intro done us W hJ hdep haft hnot b hb hb' K hK Q'
      simp only [List.getD_cons_succ, List.getD_cons_zero, List.mem_cons, List.not_mem_nil, or_false, forall_eq_or_imp, forall_eq] at hdep
      have e1 := (hb' 1 (by simp)).trans s1
      have e21 := hb 9 21 rfl
      have d9 := hdep
      rw [d9.1] at e21
      clear hb hb' hdep d9
      go_simp
      exact hK _ _ rfl (fun _ _ _ h => h) hJ
    · intro done us W hJ hdep haft hnot b hb hb' K hK Q'
      simp only [List.getD_cons_succ, List.getD_cons_zero, List.mem_cons, List.not_mem_nil, or_false, forall_eq_or_imp, forall_eq] at hdep
      have e6 := (hb' 6 (by simp)).trans s6
      have e21 := hb 9 21 rfl
      have d9 := hdep
      rw [d9.1] at e21
      clear hb hb' hdep d9
      go_simp
      exact hK _ _ rfl (fun _ _ _ h => h) hJ
    · intro done us W hJ hdep haft hnot b hb hb' K hK Q'
      simp only [List.getD_cons_succ, List.getD_cons_zero, List.mem_cons, List.not_mem_nil, or_false, forall_eq_or_imp, forall_eq] at hdep
      have e21 := hb 9 21 rfl
      have e22 := hb 10 22 rfl
      have e23 := hb 11 23 rfl
      have d9 := hdep.1
      have d10 := hdep.2.1
      have d11 := hdep.2.2
      rw [d9.1] at e21
      rw [d10.1] at e22
      rw [d11.1] at e23
      clear hb hb' hdep d9 d10 d11
      go_simp
      exact hK _ _ rfl (fun _ _ _ h => h) hJ
    · intro done us W hJ hdep haft hnot b hb hb' K hK Q'
      simp only [List.getD_cons_succ, List.getD_cons_zero, List.mem_cons, List.not_mem_nil, or_false, forall_eq_or_imp, forall_eq] at hdep
      have e21 := hb 9 21 rfl
      have e24 := hb 12 24 rfl
      have d9 := hdep.1
      have d12 := hdep.2
      rw [d9.1] at e21
      rw [d12.1] at e24
      clear hb hb' hdep d9 d12
      go_simp
      exact hK _ _ rfl (fun _ _ _ h => h) hJ
    · intro done us W hJ hdep haft hnot b hb hb' K hK Q'
      simp only [List.getD_cons_succ, List.getD_cons_zero, List.mem_cons, List.not_mem_nil, or_false, forall_eq_or_imp, forall_eq] at hdep
      have e0 := (hb' 0 (by simp)).trans s0
      have e21 := hb 9 21 rfl
      have d9 := hdep
      rw [d9.1] at e21
      clear hb hb' hdep d9
      go_simp
      exact hK _ _ rfl (fun _ _ _ h => h) hJ
    · intro done us W hJ hdep haft hnot b hb hb' K hK Q'
      simp only [List.getD_cons_succ, List.getD_cons_zero, List.mem_cons, List.not_mem_nil, or_false, forall_eq_or_imp, forall_eq] at hdep
      have e21 := hb 9 21 rfl
      have e26 := hb 14 26 rfl
      have d9 := hdep.1
      have d14 := hdep.2
      rw [d9.1] at e21
      rw [d14.1] at e26
      clear hb hb' hdep d9 d14
      go_simp
      exact hK _ _ rfl (fun _ _ _ h => h) hJ
    · intro done us W hJ hdep haft hnot b hb hb' K hK Q'
      simp only [List.getD_cons_succ, List.getD_cons_zero, List.mem_cons, List.not_mem_nil, or_false, forall_eq_or_imp, forall_eq] at hdep
      have e21 := hb 9 21 rfl
      have e27 := hb 15 27 rfl
      have d9 := hdep.1
      have d15 := hdep.2
      rw [d9.1] at e21
      rw [d15.1] at e27
      clear hb hb' hdep d9 d15
      go_simp
      exact hK _ _ rfl (fun _ _ _ h => h) hJ
    · intro done us W hJ hdep haft hnot b hb hb' K hK Q'
      simp only [List.getD_cons_succ, List.getD_cons_zero, List.mem_cons, List.not_mem_nil, or_false, forall_eq_or_imp, forall_eq] at hdep
      have e21 := hb 9 21 rfl
      have e28 := hb 16 28 rfl
      have d9 := hdep.1
      have d16 := hdep.2
      rw [d9.1] at e21
      rw [d16.1] at e28
      clear hb hb' hdep d9 d16
      go_simp
      exact hK _ _ rfl (fun _ _ _ h => h) hJ
    · intro done us W hJ hdep haft hnot b hb hb' K hK Q'
      simp only [List.getD_cons_succ, List.getD_cons_zero, List.mem_cons, List.not_mem_nil, or_false, forall_eq_or_imp, forall_eq] at hdep
      have e21 := hb 9 21 rfl
      have e29 := hb 17 29 rfl
      have d9 := hdep.1
      have d17 := hdep.2
      rw [d9.1] at e21
      rw [d17.1] at e29
      clear hb hb' hdep d9 d17
      go_simp
      exact hK _ _ rfl (fun _ _ _ h => h) hJ
    · intro done us W hJ hdep haft hnot b hb hb' K hK Q'
      simp only [List.getD_cons_succ, List.getD_cons_zero, List.mem_cons, List.not_mem_nil, or_false, forall_eq_or_imp, forall_eq] at hdep
      have e21 := hb 9 21 rfl
      have e25 := hb 13 25 rfl
      have e30 := hb 18 30 rfl
      have d9 := hdep.1
      have d13 := hdep.2.1
      have d18 := hdep.2.2
      rw [d9.1] at e21
      rw [d13.1] at e25
      rw [d18.1] at e30
      clear hb hb' hdep d9 d13 d18
      go_simp
      exact hK _ _ rfl (fun _ _ _ h => h) hJ
    · intro done us W hJ hdep haft hnot b hb hb' K hK Q'
      simp only [List.getD_cons_succ, List.getD_cons_zero, List.mem_cons, List.not_mem_nil, or_false, forall_eq_or_imp, forall_eq] at hdep
      have e21 := hb 9 21 rfl
      have e31 := hb 19 31 rfl
      have d9 := hdep.1
      have d19 := hdep.2
      rw [d9.1] at e21
      rw [d19.1] at e31
      clear hb hb' hdep d9 d19
      go_simp
      exact hK _ _ rfl (fun _ _ _ h => h) hJ
  · intro us W hV hJ
    exact hend (us 0) (us 1) (us 2) (us 3) (us 4) (us 5) (us 6) (us 7) (us 8) (us 9) (us 10) (us 11) (us 12) (us 13) (us 14) (us 15) (us 16) (us 17) (us 18) (us 19) (us 20) W (hV 0 (by omega)) (hV 1 (by omega)) (hV 2 (by omega)) (hV 3 (by omega)) (hV 4 (by omega)) (hV 5 (by omega)) (hV 6 (by omega)) (hV 7 (by omega)) (hV 8 (by omega)) (hV 9 (by omega)) (hV 10 (by omega)) (hV 11 (by omega)) (hV 12 (by omega)) (hV 13 (by omega)) (hV 14 (by omega)) (hV 15 (by omega)) (hV 16 (by omega)) (hV 17 (by omega)) (hV 18 (by omega)) (hV 19 (by omega)) (hV 20 (by omega)) hJ
set_option maxRecDepth 100000 in
set_option maxHeartbeats 2000000 in
theorem againR_r5b (g b0 off nq cq k na nl : Nat) (z : Int) (A0 : Option Addr) (c0 : Nat) (w : World) (hc : w.cell? ⟨b0, off + k, none⟩ = some (.int .i64 z)) (f2 : w.cell? ⟨g, 2, none⟩ = some (.int .i64 (na : Int))) (f3 : w.cell? ⟨g, 3, none⟩ = some (.slice A0 nl c0)) (hk : k < nq) (h1 : (na : Int) ≤ z) (h2 : (nl : Int) ≤ z) (a : Act) (Q : Exit → Act → World → Prop) (hsize : 33 ≤ a.tmps.size)
    (s0 : a.tmps[0]? = some (.pointer (some ⟨g, 0, none⟩)))
    (s1 : a.tmps[1]? = some (.slice (some ⟨b0, off, none⟩) nq cq))
    (s6 : a.tmps[6]? = some (.int .i64 (k : Int)))
    (hend : ∀ (xv0 xv1 xv2 xv3 xv4 xv5 xv6 xv7 xv8 xv9 xv10 xv11 xv12 xv13 xv14 xv15 xv16 xv17 xv18 xv19 xv20 : Value) (W : World), (xv0 = .slice (some ⟨b0, off, none⟩) nq cq) → (xv1 = .int .i64 (k : Int)) → (xv2 = .pointer (some ⟨b0, off + k, none⟩)) → (xv3 = .int .i64 z) → (xv4 = .pointer (some ⟨g, 0, none⟩)) → (xv5 = .pointer (some ⟨g, 0, none⟩)) → (xv6 = .pointer (some ⟨g, 2, none⟩)) → (xv7 = .int .i64 (na : Int)) → (xv8 = .bool true) → (xv9 = .bool true) → (xv10 = .slice (some ⟨b0, off, none⟩) nq cq) → (xv11 = .int .i64 (k : Int)) → (xv12 = .pointer (some ⟨b0, off + k, none⟩)) → (xv13 = .int .i64 z) → (xv14 = .pointer (some ⟨g, 0, none⟩)) → (xv15 = .pointer (some ⟨g, 0, none⟩)) → (xv16 = .pointer (some ⟨g, 3, none⟩)) → (xv17 = .slice A0 nl c0) → (xv18 = .int .i64 (nl : Int)) → (xv19 = .bool false) → (xv20 = .bool false) → Ext w W → wpList Try.prog (rops Try.f44 5).toArray Q ((rops Try.f44 5).drop 21) (((((((((((((((((((((a.put (some 12) xv0).put (some 13) xv1).put (some 14) xv2).put (some 15) xv3).put (some 16) xv4).put (some 17) xv5).put (some 18) xv6).put (some 19) xv7).put (some 20) xv8).put (some 21) xv9).put (some 22) xv10).put (some 23) xv11).put (some 24) xv12).put (some 25) xv13).put (some 26) xv14).put (some 27) xv15).put (some 28) xv16).put (some 29) xv17).put (some 30) xv18).put (some 31) xv19).put (some 32) xv20) W) :
    (Code.region 5 (rops Try.f44 5).toArray true).wp Try.prog Q a w := by
  have hmono : ∀ (W W' : World) (j : Nat) (u : Value), Ext W W' → (fun (i : Nat) (v : Value) (W : World) => match i with
    | 0 => v = .slice (some ⟨b0, off, none⟩) nq cq
    | 1 => v = .int .i64 (k : Int)
    | 2 => v = .pointer (some ⟨b0, off + k, none⟩)
    | 3 => v = .int .i64 z
    | 4 => v = .pointer (some ⟨g, 0, none⟩)
    | 5 => v = .pointer (some ⟨g, 0, none⟩)
    | 6 => v = .pointer (some ⟨g, 2, none⟩)
    | 7 => v = .int .i64 (na : Int)
    | 8 => v = .bool true
    | 9 => v = .bool true
    | 10 => v = .slice (some ⟨b0, off, none⟩) nq cq
    | 11 => v = .int .i64 (k : Int)
    | 12 => v = .pointer (some ⟨b0, off + k, none⟩)
    | 13 => v = .int .i64 z
    | 14 => v = .pointer (some ⟨g, 0, none⟩)
    | 15 => v = .pointer (some ⟨g, 0, none⟩)
    | 16 => v = .pointer (some ⟨g, 3, none⟩)
    | 17 => v = .slice A0 nl c0
    | 18 => v = .int .i64 (nl : Int)
    | 19 => v = .bool false
    | 20 => v = .bool false
    | _ => True) j u W → (fun (i : Nat) (v : Value) (W : World) => match i with
    | 0 => v = .slice (some ⟨b0, off, none⟩) nq cq
    | 1 => v = .int .i64 (k : Int)
    | 2 => v = .pointer (some ⟨b0, off + k, none⟩)
    | 3 => v = .int .i64 z
    | 4 => v = .pointer (some ⟨g, 0, none⟩)
    | 5 => v = .pointer (some ⟨g, 0, none⟩)
    | 6 => v = .pointer (some ⟨g, 2, none⟩)
    | 7 => v = .int .i64 (na : Int)
    | 8 => v = .bool true
    | 9 => v = .bool true
    | 10 => v = .slice (some ⟨b0, off, none⟩) nq cq
    | 11 => v = .int .i64 (k : Int)
    | 12 => v = .pointer (some ⟨b0, off + k, none⟩)
    | 13 => v = .int .i64 z
    | 14 => v = .pointer (some ⟨g, 0, none⟩)
    | 15 => v = .pointer (some ⟨g, 0, none⟩)
    | 16 => v = .pointer (some ⟨g, 3, none⟩)
    | 17 => v = .slice A0 nl c0
    | 18 => v = .int .i64 (nl : Int)
    | 19 => v = .bool false
    | 20 => v = .bool false
    | _ => True) j u W' := by
    intro W W' j u hX h
    match j, h with
    | 0, h => exact h
    | 1, h => exact h
    | 2, h => exact h
    | 3, h => exact h
    | 4, h => exact h
    | 5, h => exact h
    | 6, h => exact h
    | 7, h => exact h
    | 8, h => exact h
    | 9, h => exact h
    | 10, h => exact h
    | 11, h => exact h
    | 12, h => exact h
    | 13, h => exact h
    | 14, h => exact h
    | 15, h => exact h
    | 16, h => exact h
    | 17, h => exact h
    | 18, h => exact h
    | 19, h => exact h
    | 20, h => exact h
    | _ + 21, h => exact h
  have hsz : ∀ d, some d ∈ ([some 12, some 13, some 14, some 15, some 16, some 17, some 18, some 19, some 20, some 21, some 22, some 23, some 24, some 25, some 26, some 27, some 28, some 29, some 30, some 31, some 32] : List (Option Tmp)) → d < a.tmps.size := slots_lt (by decide) hsize
  refine wp_region_j 21 [some 12, some 13, some 14, some 15, some 16, some 17, some 18, some 19, some 20, some 21, some 22, some 23, some 24, some 25, some 26, some 27, some 28, some 29, some 30, some 31, some 32] [[], [], [0, 1], [2], [], [4], [5], [6], [3, 7], [8], [9], [9], [9, 10, 11], [9, 12], [9], [9, 14], [9, 15], [9, 16], [9, 17], [9, 13, 18], [9, 19]] [[], [], [], [], [], [], [], [], [], [], [], [], [], [], [], [], [], [], [], [], []] (fun (i : Nat) (v : Value) (W : World) => match i with
    | 0 => v = .slice (some ⟨b0, off, none⟩) nq cq
    | 1 => v = .int .i64 (k : Int)
    | 2 => v = .pointer (some ⟨b0, off + k, none⟩)
    | 3 => v = .int .i64 z
    | 4 => v = .pointer (some ⟨g, 0, none⟩)
    | 5 => v = .pointer (some ⟨g, 0, none⟩)
    | 6 => v = .pointer (some ⟨g, 2, none⟩)
    | 7 => v = .int .i64 (na : Int)
    | 8 => v = .bool true
    | 9 => v = .bool true
    | 10 => v = .slice (some ⟨b0, off, none⟩) nq cq
    | 11 => v = .int .i64 (k : Int)
    | 12 => v = .pointer (some ⟨b0, off + k, none⟩)
    | 13 => v = .int .i64 z
    | 14 => v = .pointer (some ⟨g, 0, none⟩)
    | 15 => v = .pointer (some ⟨g, 0, none⟩)
    | 16 => v = .pointer (some ⟨g, 3, none⟩)
    | 17 => v = .slice A0 nl c0
    | 18 => v = .int .i64 (nl : Int)
    | 19 => v = .bool false
    | 20 => v = .bool false
    | _ => True) (fun _ W => Ext w W) (by kernel_rfl) (by kernel_rfl) hsz (fun _ _ _ _ h => h) ((Ext.refl w).drew) ?_ ?_
  · clear hend
    simp only [rops, Try.f44, regOf, Option.bind_some, Nat.reduceBEq, if_true, if_false, Bool.false_eq_true, Option.getD_some]
    simp only [List.take_succ_cons, List.take_zero]
    refine ⟨?_, ?_, ?_, ?_, ?_, ?_, ?_, ?_, ?_, ?_, ?_, ?_, ?_, ?_, ?_, ?_, ?_, ?_, ?_, ?_, ?_, trivial⟩
    · intro done us W hJ hdep haft hnot b hb hb' K hK Q'
      have e1 := (hb' 1 (by simp)).trans s1
      clear hb hb'
      go_simp
      exact hK _ _ rfl (fun _ _ _ h => h) hJ
    · intro done us W hJ hdep haft hnot b hb hb' K hK Q'
      have e6 := (hb' 6 (by simp)).trans s6
      clear hb hb'
      go_simp
      exact hK _ _ rfl (fun _ _ _ h => h) hJ
    · intro done us W hJ hdep haft hnot b hb hb' K hK Q'
      simp only [List.getD_cons_succ, List.getD_cons_zero, List.mem_cons, List.not_mem_nil, or_false, forall_eq_or_imp, forall_eq] at hdep
      have e12 := hb 0 12 rfl
      have e13 := hb 1 13 rfl
      have d0 := hdep.1
      have d1 := hdep.2
      rw [d0.1] at e12
      rw [d1.1] at e13
      clear hb hb' hdep d0 d1
      go_simp
      exact hK _ _ rfl (fun _ _ _ h => h) hJ
    · intro done us W hJ hdep haft hnot b hb hb' K hK Q'
      simp only [List.getD_cons_succ, List.getD_cons_zero, List.mem_cons, List.not_mem_nil, or_false, forall_eq_or_imp, forall_eq] at hdep
      have e14 := hb 2 14 rfl
      have d2 := hdep
      rw [d2.1] at e14
      clear hb hb' hdep d2
      have q := Ext.cell hJ hc
      go_simp
      exact hK _ _ rfl (fun _ _ _ h => h) hJ
    · intro done us W hJ hdep haft hnot b hb hb' K hK Q'
      have e0 := (hb' 0 (by simp)).trans s0
      clear hb hb'
      go_simp
      exact hK _ _ rfl (fun _ _ _ h => h) hJ
    · intro done us W hJ hdep haft hnot b hb hb' K hK Q'
      simp only [List.getD_cons_succ, List.getD_cons_zero, List.mem_cons, List.not_mem_nil, or_false, forall_eq_or_imp, forall_eq] at hdep
      have e16 := hb 4 16 rfl
      have d4 := hdep
      rw [d4.1] at e16
      clear hb hb' hdep d4
      go_simp
      exact hK _ _ rfl (fun _ _ _ h => h) hJ
    · intro done us W hJ hdep haft hnot b hb hb' K hK Q'
      simp only [List.getD_cons_succ, List.getD_cons_zero, List.mem_cons, List.not_mem_nil, or_false, forall_eq_or_imp, forall_eq] at hdep
      have e17 := hb 5 17 rfl
      have d5 := hdep
      rw [d5.1] at e17
      clear hb hb' hdep d5
      go_simp
      exact hK _ _ rfl (fun _ _ _ h => h) hJ
    · intro done us W hJ hdep haft hnot b hb hb' K hK Q'
      simp only [List.getD_cons_succ, List.getD_cons_zero, List.mem_cons, List.not_mem_nil, or_false, forall_eq_or_imp, forall_eq] at hdep
      have e18 := hb 6 18 rfl
      have d6 := hdep
      rw [d6.1] at e18
      clear hb hb' hdep d6
      have q := Ext.cell hJ f2
      go_simp
      exact hK _ _ rfl (fun _ _ _ h => h) hJ
    · intro done us W hJ hdep haft hnot b hb hb' K hK Q'
      simp only [List.getD_cons_succ, List.getD_cons_zero, List.mem_cons, List.not_mem_nil, or_false, forall_eq_or_imp, forall_eq] at hdep
      have e15 := hb 3 15 rfl
      have e19 := hb 7 19 rfl
      have d3 := hdep.1
      have d7 := hdep.2
      rw [d3.1] at e15
      rw [d7.1] at e19
      clear hb hb' hdep d3 d7
      go_simp
      exact hK _ _ (by first | rfl | (congr 1; exact decide_eq_true (by omega))) (fun _ _ _ h => h) hJ
    · intro done us W hJ hdep haft hnot b hb hb' K hK Q'
      simp only [List.getD_cons_succ, List.getD_cons_zero, List.mem_cons, List.not_mem_nil, or_false, forall_eq_or_imp, forall_eq] at hdep
      have e20 := hb 8 20 rfl
      have d8 := hdep
      rw [d8.1] at e20
      clear hb hb' hdep d8
      go_simp
      exact hK _ _ rfl (fun _ _ _ h => h) hJ
    · intro done us W hJ hdep haft hnot b hb hb' K hK Q'
      simp only [List.getD_cons_succ, List.getD_cons_zero, List.mem_cons, List.not_mem_nil, or_false, forall_eq_or_imp, forall_eq] at hdep
      have e1 := (hb' 1 (by simp)).trans s1
      have e21 := hb 9 21 rfl
      have d9 := hdep
      rw [d9.1] at e21
      clear hb hb' hdep d9
      go_simp
      exact hK _ _ rfl (fun _ _ _ h => h) hJ
    · intro done us W hJ hdep haft hnot b hb hb' K hK Q'
      simp only [List.getD_cons_succ, List.getD_cons_zero, List.mem_cons, List.not_mem_nil, or_false, forall_eq_or_imp, forall_eq] at hdep
      have e6 := (hb' 6 (by simp)).trans s6
      have e21 := hb 9 21 rfl
      have d9 := hdep
      rw [d9.1] at e21
      clear hb hb' hdep d9
      go_simp
      exact hK _ _ rfl (fun _ _ _ h => h) hJ
    · intro done us W hJ hdep haft hnot b hb hb' K hK Q'
      simp only [List.getD_cons_succ, List.getD_cons_zero, List.mem_cons, List.not_mem_nil, or_false, forall_eq_or_imp, forall_eq] at hdep
      have e21 := hb 9 21 rfl
      have e22 := hb 10 22 rfl
      have e23 := hb 11 23 rfl
      have d9 := hdep.1
      have d10 := hdep.2.1
      have d11 := hdep.2.2
      rw [d9.1] at e21
      rw [d10.1] at e22
      rw [d11.1] at e23
      clear hb hb' hdep d9 d10 d11
      go_simp
      exact hK _ _ rfl (fun _ _ _ h => h) hJ
    · intro done us W hJ hdep haft hnot b hb hb' K hK Q'
      simp only [List.getD_cons_succ, List.getD_cons_zero, List.mem_cons, List.not_mem_nil, or_false, forall_eq_or_imp, forall_eq] at hdep
      have e21 := hb 9 21 rfl
      have e24 := hb 12 24 rfl
      have d9 := hdep.1
      have d12 := hdep.2
      rw [d9.1] at e21
      rw [d12.1] at e24
      clear hb hb' hdep d9 d12
      have q := Ext.cell hJ hc
      go_simp
      exact hK _ _ rfl (fun _ _ _ h => h) hJ
    · intro done us W hJ hdep haft hnot b hb hb' K hK Q'
      simp only [List.getD_cons_succ, List.getD_cons_zero, List.mem_cons, List.not_mem_nil, or_false, forall_eq_or_imp, forall_eq] at hdep
      have e0 := (hb' 0 (by simp)).trans s0
      have e21 := hb 9 21 rfl
      have d9 := hdep
      rw [d9.1] at e21
      clear hb hb' hdep d9
      go_simp
      exact hK _ _ rfl (fun _ _ _ h => h) hJ
    · intro done us W hJ hdep haft hnot b hb hb' K hK Q'
      simp only [List.getD_cons_succ, List.getD_cons_zero, List.mem_cons, List.not_mem_nil, or_false, forall_eq_or_imp, forall_eq] at hdep
      have e21 := hb 9 21 rfl
      have e26 := hb 14 26 rfl
      have d9 := hdep.1
      have d14 := hdep.2
      rw [d9.1] at e21
      rw [d14.1] at e26
      clear hb hb' hdep d9 d14
      go_simp
      exact hK _ _ rfl (fun _ _ _ h => h) hJ
    · intro done us W hJ hdep haft hnot b hb hb' K hK Q'
      simp only [List.getD_cons_succ, List.getD_cons_zero, List.mem_cons, List.not_mem_nil, or_false, forall_eq_or_imp, forall_eq] at hdep
      have e21 := hb 9 21 rfl
      have e27 := hb 15 27 rfl
      have d9 := hdep.1
      have d15 := hdep.2
      rw [d9.1] at e21
      rw [d15.1] at e27
      clear hb hb' hdep d9 d15
      go_simp
      exact hK _ _ rfl (fun _ _ _ h => h) hJ
    · intro done us W hJ hdep haft hnot b hb hb' K hK Q'
      simp only [List.getD_cons_succ, List.getD_cons_zero, List.mem_cons, List.not_mem_nil, or_false, forall_eq_or_imp, forall_eq] at hdep
      have e21 := hb 9 21 rfl
      have e28 := hb 16 28 rfl
      have d9 := hdep.1
      have d16 := hdep.2
      rw [d9.1] at e21
      rw [d16.1] at e28
      clear hb hb' hdep d9 d16
      have q := Ext.cell hJ f3
      go_simp
      exact hK _ _ rfl (fun _ _ _ h => h) hJ
    · intro done us W hJ hdep haft hnot b hb hb' K hK Q'
      simp only [List.getD_cons_succ, List.getD_cons_zero, List.mem_cons, List.not_mem_nil, or_false, forall_eq_or_imp, forall_eq] at hdep
      have e21 := hb 9 21 rfl
      have e29 := hb 17 29 rfl
      have d9 := hdep.1
      have d17 := hdep.2
      rw [d9.1] at e21
      rw [d17.1] at e29
      clear hb hb' hdep d9 d17
      go_simp
      exact hK _ _ rfl (fun _ _ _ h => h) hJ
    · intro done us W hJ hdep haft hnot b hb hb' K hK Q'
      simp only [List.getD_cons_succ, List.getD_cons_zero, List.mem_cons, List.not_mem_nil, or_false, forall_eq_or_imp, forall_eq] at hdep
      have e21 := hb 9 21 rfl
      have e25 := hb 13 25 rfl
      have e30 := hb 18 30 rfl
      have d9 := hdep.1
      have d13 := hdep.2.1
      have d18 := hdep.2.2
      rw [d9.1] at e21
      rw [d13.1] at e25
      rw [d18.1] at e30
      clear hb hb' hdep d9 d13 d18
      go_simp
      exact hK _ _ (by first | rfl | (congr 1; exact decide_eq_false (by omega))) (fun _ _ _ h => h) hJ
    · intro done us W hJ hdep haft hnot b hb hb' K hK Q'
      simp only [List.getD_cons_succ, List.getD_cons_zero, List.mem_cons, List.not_mem_nil, or_false, forall_eq_or_imp, forall_eq] at hdep
      have e21 := hb 9 21 rfl
      have e31 := hb 19 31 rfl
      have d9 := hdep.1
      have d19 := hdep.2
      rw [d9.1] at e21
      rw [d19.1] at e31
      clear hb hb' hdep d9 d19
      go_simp
      exact hK _ _ rfl (fun _ _ _ h => h) hJ
  · intro us W hV hJ
    exact hend (us 0) (us 1) (us 2) (us 3) (us 4) (us 5) (us 6) (us 7) (us 8) (us 9) (us 10) (us 11) (us 12) (us 13) (us 14) (us 15) (us 16) (us 17) (us 18) (us 19) (us 20) W (hV 0 (by omega)) (hV 1 (by omega)) (hV 2 (by omega)) (hV 3 (by omega)) (hV 4 (by omega)) (hV 5 (by omega)) (hV 6 (by omega)) (hV 7 (by omega)) (hV 8 (by omega)) (hV 9 (by omega)) (hV 10 (by omega)) (hV 11 (by omega)) (hV 12 (by omega)) (hV 13 (by omega)) (hV 14 (by omega)) (hV 15 (by omega)) (hV 16 (by omega)) (hV 17 (by omega)) (hV 18 (by omega)) (hV 19 (by omega)) (hV 20 (by omega)) hJ
set_option maxRecDepth 100000 in
set_option maxHeartbeats 2000000 in
theorem againR_r5c (g b0 off nq cq k na nl : Nat) (z : Int) (A0 : Option Addr) (c0 : Nat) (w : World) (hc : w.cell? ⟨b0, off + k, none⟩ = some (.int .i64 z)) (f2 : w.cell? ⟨g, 2, none⟩ = some (.int .i64 (na : Int))) (f3 : w.cell? ⟨g, 3, none⟩ = some (.slice A0 nl c0)) (hk : k < nq) (h1 : (na : Int) ≤ z) (h2 : z < (nl : Int)) (a : Act) (Q : Exit → Act → World → Prop) (hsize : 33 ≤ a.tmps.size)
    (s0 : a.tmps[0]? = some (.pointer (some ⟨g, 0, none⟩)))
    (s1 : a.tmps[1]? = some (.slice (some ⟨b0, off, none⟩) nq cq))
    (s6 : a.tmps[6]? = some (.int .i64 (k : Int)))
    (hend : ∀ (xv0 xv1 xv2 xv3 xv4 xv5 xv6 xv7 xv8 xv9 xv10 xv11 xv12 xv13 xv14 xv15 xv16 xv17 xv18 xv19 xv20 : Value) (W : World), (xv0 = .slice (some ⟨b0, off, none⟩) nq cq) → (xv1 = .int .i64 (k : Int)) → (xv2 = .pointer (some ⟨b0, off + k, none⟩)) → (xv3 = .int .i64 z) → (xv4 = .pointer (some ⟨g, 0, none⟩)) → (xv5 = .pointer (some ⟨g, 0, none⟩)) → (xv6 = .pointer (some ⟨g, 2, none⟩)) → (xv7 = .int .i64 (na : Int)) → (xv8 = .bool true) → (xv9 = .bool true) → (xv10 = .slice (some ⟨b0, off, none⟩) nq cq) → (xv11 = .int .i64 (k : Int)) → (xv12 = .pointer (some ⟨b0, off + k, none⟩)) → (xv13 = .int .i64 z) → (xv14 = .pointer (some ⟨g, 0, none⟩)) → (xv15 = .pointer (some ⟨g, 0, none⟩)) → (xv16 = .pointer (some ⟨g, 3, none⟩)) → (xv17 = .slice A0 nl c0) → (xv18 = .int .i64 (nl : Int)) → (xv19 = .bool true) → (xv20 = .bool true) → Ext w W → wpList Try.prog (rops Try.f44 5).toArray Q ((rops Try.f44 5).drop 21) (((((((((((((((((((((a.put (some 12) xv0).put (some 13) xv1).put (some 14) xv2).put (some 15) xv3).put (some 16) xv4).put (some 17) xv5).put (some 18) xv6).put (some 19) xv7).put (some 20) xv8).put (some 21) xv9).put (some 22) xv10).put (some 23) xv11).put (some 24) xv12).put (some 25) xv13).put (some 26) xv14).put (some 27) xv15).put (some 28) xv16).put (some 29) xv17).put (some 30) xv18).put (some 31) xv19).put (some 32) xv20) W) :
    (Code.region 5 (rops Try.f44 5).toArray true).wp Try.prog Q a w := by
  have hmono : ∀ (W W' : World) (j : Nat) (u : Value), Ext W W' → (fun (i : Nat) (v : Value) (W : World) => match i with
    | 0 => v = .slice (some ⟨b0, off, none⟩) nq cq
    | 1 => v = .int .i64 (k : Int)
    | 2 => v = .pointer (some ⟨b0, off + k, none⟩)
    | 3 => v = .int .i64 z
    | 4 => v = .pointer (some ⟨g, 0, none⟩)
    | 5 => v = .pointer (some ⟨g, 0, none⟩)
    | 6 => v = .pointer (some ⟨g, 2, none⟩)
    | 7 => v = .int .i64 (na : Int)
    | 8 => v = .bool true
    | 9 => v = .bool true
    | 10 => v = .slice (some ⟨b0, off, none⟩) nq cq
    | 11 => v = .int .i64 (k : Int)
    | 12 => v = .pointer (some ⟨b0, off + k, none⟩)
    | 13 => v = .int .i64 z
    | 14 => v = .pointer (some ⟨g, 0, none⟩)
    | 15 => v = .pointer (some ⟨g, 0, none⟩)
    | 16 => v = .pointer (some ⟨g, 3, none⟩)
    | 17 => v = .slice A0 nl c0
    | 18 => v = .int .i64 (nl : Int)
    | 19 => v = .bool true
    | 20 => v = .bool true
    | _ => True) j u W → (fun (i : Nat) (v : Value) (W : World) => match i with
    | 0 => v = .slice (some ⟨b0, off, none⟩) nq cq
    | 1 => v = .int .i64 (k : Int)
    | 2 => v = .pointer (some ⟨b0, off + k, none⟩)
    | 3 => v = .int .i64 z
    | 4 => v = .pointer (some ⟨g, 0, none⟩)
    | 5 => v = .pointer (some ⟨g, 0, none⟩)
    | 6 => v = .pointer (some ⟨g, 2, none⟩)
    | 7 => v = .int .i64 (na : Int)
    | 8 => v = .bool true
    | 9 => v = .bool true
    | 10 => v = .slice (some ⟨b0, off, none⟩) nq cq
    | 11 => v = .int .i64 (k : Int)
    | 12 => v = .pointer (some ⟨b0, off + k, none⟩)
    | 13 => v = .int .i64 z
    | 14 => v = .pointer (some ⟨g, 0, none⟩)
    | 15 => v = .pointer (some ⟨g, 0, none⟩)
    | 16 => v = .pointer (some ⟨g, 3, none⟩)
    | 17 => v = .slice A0 nl c0
    | 18 => v = .int .i64 (nl : Int)
    | 19 => v = .bool true
    | 20 => v = .bool true
    | _ => True) j u W' := by
    intro W W' j u hX h
    match j, h with
    | 0, h => exact h
    | 1, h => exact h
    | 2, h => exact h
    | 3, h => exact h
    | 4, h => exact h
    | 5, h => exact h
    | 6, h => exact h
    | 7, h => exact h
    | 8, h => exact h
    | 9, h => exact h
    | 10, h => exact h
    | 11, h => exact h
    | 12, h => exact h
    | 13, h => exact h
    | 14, h => exact h
    | 15, h => exact h
    | 16, h => exact h
    | 17, h => exact h
    | 18, h => exact h
    | 19, h => exact h
    | 20, h => exact h
    | _ + 21, h => exact h
  have hsz : ∀ d, some d ∈ ([some 12, some 13, some 14, some 15, some 16, some 17, some 18, some 19, some 20, some 21, some 22, some 23, some 24, some 25, some 26, some 27, some 28, some 29, some 30, some 31, some 32] : List (Option Tmp)) → d < a.tmps.size := slots_lt (by decide) hsize
  refine wp_region_j 21 [some 12, some 13, some 14, some 15, some 16, some 17, some 18, some 19, some 20, some 21, some 22, some 23, some 24, some 25, some 26, some 27, some 28, some 29, some 30, some 31, some 32] [[], [], [0, 1], [2], [], [4], [5], [6], [3, 7], [8], [9], [9], [9, 10, 11], [9, 12], [9], [9, 14], [9, 15], [9, 16], [9, 17], [9, 13, 18], [9, 19]] [[], [], [], [], [], [], [], [], [], [], [], [], [], [], [], [], [], [], [], [], []] (fun (i : Nat) (v : Value) (W : World) => match i with
    | 0 => v = .slice (some ⟨b0, off, none⟩) nq cq
    | 1 => v = .int .i64 (k : Int)
    | 2 => v = .pointer (some ⟨b0, off + k, none⟩)
    | 3 => v = .int .i64 z
    | 4 => v = .pointer (some ⟨g, 0, none⟩)
    | 5 => v = .pointer (some ⟨g, 0, none⟩)
    | 6 => v = .pointer (some ⟨g, 2, none⟩)
    | 7 => v = .int .i64 (na : Int)
    | 8 => v = .bool true
    | 9 => v = .bool true
    | 10 => v = .slice (some ⟨b0, off, none⟩) nq cq
    | 11 => v = .int .i64 (k : Int)
    | 12 => v = .pointer (some ⟨b0, off + k, none⟩)
    | 13 => v = .int .i64 z
    | 14 => v = .pointer (some ⟨g, 0, none⟩)
    | 15 => v = .pointer (some ⟨g, 0, none⟩)
    | 16 => v = .pointer (some ⟨g, 3, none⟩)
    | 17 => v = .slice A0 nl c0
    | 18 => v = .int .i64 (nl : Int)
    | 19 => v = .bool true
    | 20 => v = .bool true
    | _ => True) (fun _ W => Ext w W) (by kernel_rfl) (by kernel_rfl) hsz (fun _ _ _ _ h => h) ((Ext.refl w).drew) ?_ ?_
  · clear hend
    simp only [rops, Try.f44, regOf, Option.bind_some, Nat.reduceBEq, if_true, if_false, Bool.false_eq_true, Option.getD_some]
    simp only [List.take_succ_cons, List.take_zero]
    refine ⟨?_, ?_, ?_, ?_, ?_, ?_, ?_, ?_, ?_, ?_, ?_, ?_, ?_, ?_, ?_, ?_, ?_, ?_, ?_, ?_, ?_, trivial⟩
    · intro done us W hJ hdep haft hnot b hb hb' K hK Q'
      have e1 := (hb' 1 (by simp)).trans s1
      clear hb hb'
      go_simp
      exact hK _ _ rfl (fun _ _ _ h => h) hJ
    · intro done us W hJ hdep haft hnot b hb hb' K hK Q'
      have e6 := (hb' 6 (by simp)).trans s6
      clear hb hb'
      go_simp
      exact hK _ _ rfl (fun _ _ _ h => h) hJ
    · intro done us W hJ hdep haft hnot b hb hb' K hK Q'
      simp only [List.getD_cons_succ, List.getD_cons_zero, List.mem_cons, List.not_mem_nil, or_false, forall_eq_or_imp, forall_eq] at hdep
      have e12 := hb 0 12 rfl
      have e13 := hb 1 13 rfl
      have d0 := hdep.1
      have d1 := hdep.2
      rw [d0.1] at e12
      rw [d1.1] at e13
      clear hb hb' hdep d0 d1
      go_simp
      exact hK _ _ rfl (fun _ _ _ h => h) hJ
    · intro done us W hJ hdep haft hnot b hb hb' K hK Q'
      simp only [List.getD_cons_succ, List.getD_cons_zero, List.mem_cons, List.not_mem_nil, or_false, forall_eq_or_imp, forall_eq] at hdep
      have e14 := hb 2 14 rfl
      have d2 := hdep
      rw [d2.1] at e14
      clear hb hb' hdep d2
      have q := Ext.cell hJ hc
      go_simp
      exact hK _ _ rfl (fun _ _ _ h => h) hJ
    · intro done us W hJ hdep haft hnot b hb hb' K hK Q'
      have e0 := (hb' 0 (by simp)).trans s0
      clear hb hb'
      go_simp
      exact hK _ _ rfl (fun _ _ _ h => h) hJ
    · intro done us W hJ hdep haft hnot b hb hb' K hK Q'
      simp only [List.getD_cons_succ, List.getD_cons_zero, List.mem_cons, List.not_mem_nil, or_false, forall_eq_or_imp, forall_eq] at hdep
      have e16 := hb 4 16 rfl
      have d4 := hdep
      rw [d4.1] at e16
      clear hb hb' hdep d4
      go_simp
      exact hK _ _ rfl (fun _ _ _ h => h) hJ
    · intro done us W hJ hdep haft hnot b hb hb' K hK Q'
      simp only [List.getD_cons_succ, List.getD_cons_zero, List.mem_cons, List.not_mem_nil, or_false, forall_eq_or_imp, forall_eq] at hdep
      have e17 := hb 5 17 rfl
      have d5 := hdep
      rw [d5.1] at e17
      clear hb hb' hdep d5
      go_simp
      exact hK _ _ rfl (fun _ _ _ h => h) hJ
    · intro done us W hJ hdep haft hnot b hb hb' K hK Q'
      simp only [List.getD_cons_succ, List.getD_cons_zero, List.mem_cons, List.not_mem_nil, or_false, forall_eq_or_imp, forall_eq] at hdep
      have e18 := hb 6 18 rfl
      have d6 := hdep
      rw [d6.1] at e18
      clear hb hb' hdep d6
      have q := Ext.cell hJ f2
      go_simp
      exact hK _ _ rfl (fun _ _ _ h => h) hJ
    · intro done us W hJ hdep haft hnot b hb hb' K hK Q'
      simp only [List.getD_cons_succ, List.getD_cons_zero, List.mem_cons, List.not_mem_nil, or_false, forall_eq_or_imp, forall_eq] at hdep
      have e15 := hb 3 15 rfl
      have e19 := hb 7 19 rfl
      have d3 := hdep.1
      have d7 := hdep.2
      rw [d3.1] at e15
      rw [d7.1] at e19
      clear hb hb' hdep d3 d7
      go_simp
      exact hK _ _ (by first | rfl | (congr 1; exact decide_eq_true (by omega))) (fun _ _ _ h => h) hJ
    · intro done us W hJ hdep haft hnot b hb hb' K hK Q'
      simp only [List.getD_cons_succ, List.getD_cons_zero, List.mem_cons, List.not_mem_nil, or_false, forall_eq_or_imp, forall_eq] at hdep
      have e20 := hb 8 20 rfl
      have d8 := hdep
      rw [d8.1] at e20
      clear hb hb' hdep d8
      go_simp
      exact hK _ _ rfl (fun _ _ _ h => h) hJ
    · intro done us W hJ hdep haft hnot b hb hb' K hK Q'
      simp only [List.getD_cons_succ, List.getD_cons_zero, List.mem_cons, List.not_mem_nil, or_false, forall_eq_or_imp, forall_eq] at hdep
      have e1 := (hb' 1 (by simp)).trans s1
      have e21 := hb 9 21 rfl
      have d9 := hdep
      rw [d9.1] at e21
      clear hb hb' hdep d9
      go_simp
      exact hK _ _ rfl (fun _ _ _ h => h) hJ
    · intro done us W hJ hdep haft hnot b hb hb' K hK Q'
      simp only [List.getD_cons_succ, List.getD_cons_zero, List.mem_cons, List.not_mem_nil, or_false, forall_eq_or_imp, forall_eq] at hdep
      have e6 := (hb' 6 (by simp)).trans s6
      have e21 := hb 9 21 rfl
      have d9 := hdep
      rw [d9.1] at e21
      clear hb hb' hdep d9
      go_simp
      exact hK _ _ rfl (fun _ _ _ h => h) hJ
    · intro done us W hJ hdep haft hnot b hb hb' K hK Q'
      simp only [List.getD_cons_succ, List.getD_cons_zero, List.mem_cons, List.not_mem_nil, or_false, forall_eq_or_imp, forall_eq] at hdep
      have e21 := hb 9 21 rfl
      have e22 := hb 10 22 rfl
      have e23 := hb 11 23 rfl
      have d9 := hdep.1
      have d10 := hdep.2.1
      have d11 := hdep.2.2
      rw [d9.1] at e21
      rw [d10.1] at e22
      rw [d11.1] at e23
      clear hb hb' hdep d9 d10 d11
      go_simp
      exact hK _ _ rfl (fun _ _ _ h => h) hJ
    · intro done us W hJ hdep haft hnot b hb hb' K hK Q'
      simp only [List.getD_cons_succ, List.getD_cons_zero, List.mem_cons, List.not_mem_nil, or_false, forall_eq_or_imp, forall_eq] at hdep
      have e21 := hb 9 21 rfl
      have e24 := hb 12 24 rfl
      have d9 := hdep.1
      have d12 := hdep.2
      rw [d9.1] at e21
      rw [d12.1] at e24
      clear hb hb' hdep d9 d12
      have q := Ext.cell hJ hc
      go_simp
      exact hK _ _ rfl (fun _ _ _ h => h) hJ
    · intro done us W hJ hdep haft hnot b hb hb' K hK Q'
      simp only [List.getD_cons_succ, List.getD_cons_zero, List.mem_cons, List.not_mem_nil, or_false, forall_eq_or_imp, forall_eq] at hdep
      have e0 := (hb' 0 (by simp)).trans s0
      have e21 := hb 9 21 rfl
      have d9 := hdep
      rw [d9.1] at e21
      clear hb hb' hdep d9
      go_simp
      exact hK _ _ rfl (fun _ _ _ h => h) hJ
    · intro done us W hJ hdep haft hnot b hb hb' K hK Q'
      simp only [List.getD_cons_succ, List.getD_cons_zero, List.mem_cons, List.not_mem_nil, or_false, forall_eq_or_imp, forall_eq] at hdep
      have e21 := hb 9 21 rfl
      have e26 := hb 14 26 rfl
      have d9 := hdep.1
      have d14 := hdep.2
      rw [d9.1] at e21
      rw [d14.1] at e26
      clear hb hb' hdep d9 d14
      go_simp
      exact hK _ _ rfl (fun _ _ _ h => h) hJ
    · intro done us W hJ hdep haft hnot b hb hb' K hK Q'
      simp only [List.getD_cons_succ, List.getD_cons_zero, List.mem_cons, List.not_mem_nil, or_false, forall_eq_or_imp, forall_eq] at hdep
      have e21 := hb 9 21 rfl
      have e27 := hb 15 27 rfl
      have d9 := hdep.1
      have d15 := hdep.2
      rw [d9.1] at e21
      rw [d15.1] at e27
      clear hb hb' hdep d9 d15
      go_simp
      exact hK _ _ rfl (fun _ _ _ h => h) hJ
    · intro done us W hJ hdep haft hnot b hb hb' K hK Q'
      simp only [List.getD_cons_succ, List.getD_cons_zero, List.mem_cons, List.not_mem_nil, or_false, forall_eq_or_imp, forall_eq] at hdep
      have e21 := hb 9 21 rfl
      have e28 := hb 16 28 rfl
      have d9 := hdep.1
      have d16 := hdep.2
      rw [d9.1] at e21
      rw [d16.1] at e28
      clear hb hb' hdep d9 d16
      have q := Ext.cell hJ f3
      go_simp
      exact hK _ _ rfl (fun _ _ _ h => h) hJ
    · intro done us W hJ hdep haft hnot b hb hb' K hK Q'
      simp only [List.getD_cons_succ, List.getD_cons_zero, List.mem_cons, List.not_mem_nil, or_false, forall_eq_or_imp, forall_eq] at hdep
      have e21 := hb 9 21 rfl
      have e29 := hb 17 29 rfl
      have d9 := hdep.1
      have d17 := hdep.2
      rw [d9.1] at e21
      rw [d17.1] at e29
      clear hb hb' hdep d9 d17
      go_simp
      exact hK _ _ rfl (fun _ _ _ h => h) hJ
    · intro done us W hJ hdep haft hnot b hb hb' K hK Q'
      simp only [List.getD_cons_succ, List.getD_cons_zero, List.mem_cons, List.not_mem_nil, or_false, forall_eq_or_imp, forall_eq] at hdep
      have e21 := hb 9 21 rfl
      have e25 := hb 13 25 rfl
      have e30 := hb 18 30 rfl
      have d9 := hdep.1
      have d13 := hdep.2.1
      have d18 := hdep.2.2
      rw [d9.1] at e21
      rw [d13.1] at e25
      rw [d18.1] at e30
      clear hb hb' hdep d9 d13 d18
      go_simp
      exact hK _ _ (by first | rfl | (congr 1; exact decide_eq_true (by omega))) (fun _ _ _ h => h) hJ
    · intro done us W hJ hdep haft hnot b hb hb' K hK Q'
      simp only [List.getD_cons_succ, List.getD_cons_zero, List.mem_cons, List.not_mem_nil, or_false, forall_eq_or_imp, forall_eq] at hdep
      have e21 := hb 9 21 rfl
      have e31 := hb 19 31 rfl
      have d9 := hdep.1
      have d19 := hdep.2
      rw [d9.1] at e21
      rw [d19.1] at e31
      clear hb hb' hdep d9 d19
      go_simp
      exact hK _ _ rfl (fun _ _ _ h => h) hJ
  · intro us W hV hJ
    exact hend (us 0) (us 1) (us 2) (us 3) (us 4) (us 5) (us 6) (us 7) (us 8) (us 9) (us 10) (us 11) (us 12) (us 13) (us 14) (us 15) (us 16) (us 17) (us 18) (us 19) (us 20) W (hV 0 (by omega)) (hV 1 (by omega)) (hV 2 (by omega)) (hV 3 (by omega)) (hV 4 (by omega)) (hV 5 (by omega)) (hV 6 (by omega)) (hV 7 (by omega)) (hV 8 (by omega)) (hV 9 (by omega)) (hV 10 (by omega)) (hV 11 (by omega)) (hV 12 (by omega)) (hV 13 (by omega)) (hV 14 (by omega)) (hV 15 (by omega)) (hV 16 (by omega)) (hV 17 (by omega)) (hV 18 (by omega)) (hV 19 (by omega)) (hV 20 (by omega)) hJ

set_option maxRecDepth 100000 in
set_option maxHeartbeats 2000000 in
theorem againR_any (base g : Nat) (v : Value) (s : Snd) (Aq : Option Addr) (n c : Nat) (qs : List Int) (w : World) (h : SndR base w g v s) (h3 : s.bodies.length ≤ 1000000) (hI : Ints .i64 w Aq n qs) (hn : n ≤ 1000000) :
    Calls Try.prog 44 #[.pointer (some ⟨g, 0, none⟩), .slice Aq n c] w (fun e w' => ∃ v, e = .returned v ∧ FrL w.heap.size w' v (againS s qs) ∧ Ext w w') := by
  obtain ⟨A0, c0, rfl⟩ := h.slice
  have HS := Lib.hid h
  have HI := Lib.hid hI
  have la := h.ok.acked
  clear h hI
  go_enter Try.func44, Try.ntmps44
  go_wp2_with fail
  go_loopg [5, 9] n (fun f v i wr => ∃ (k : Nat) (fs : List Fr), f = n - k ∧ k ≤ n ∧ i = .int .i64 (k : Int) ∧ Hid (fs = againS s (qs.take k)) ∧ Hid (FrL w.heap.size wr v fs) ∧ Hid (Ext w wr))
  case atStart => exact ⟨0, [], rfl, by omega, rfl, Lib.hid (by simp [againS]), Lib.hid (FrL.nil _ _), Lib.hid (Ext.refl w)⟩
  case round =>
    obtain ⟨k, fs, rfl, hk, rfl, HF, HL, HX⟩ := hrel
    have HR := Lib.hid (HS.out.ext HX.out)
    have hsl : ∃ A0 c0, u5 = .slice A0 fs.length c0 := by obtain ⟨vs0, hown0, _⟩ := HL.out; exact own_slice hown0
    obtain ⟨A5, c5, rfl⟩ := hsl
    have hfl : fs.length ≤ k := by
      rw [HF.out]
      have := againS_len s (qs.take k)
      rw [List.length_take] at this
      omega
    by_cases hlt : k < n
    · obtain ⟨b, off, q, rfl, hq, hwf, hc⟩ := (HI.out.ext HX.out).get hlt
      have HQ := Lib.hid hq
      clear hq hwf
      have f2 := HR.out.blk.cell 2
      have f3 := HR.out.blk.cell 3
      by_cases hin : (s.acked : Int) ≤ q ∧ q < s.bodies.length
      · obtain ⟨z, rfl⟩ : ∃ z : Nat, q = z := ⟨q.toNat, by omega⟩
        have HIN := Lib.hid hin
        clear hin
        go_upto_region 5 with (fail)
        refine againR_r5c g b off n c k s.acked s.bodies.length (z : Int) A0 c0 wr hc f2 f3 hlt HIN.out.1 HIN.out.2 _ _ (by simp) rfl rfl rfl ?_
        rintro xv0 xv1 xv2 xv3 xv4 xv5 xv6 xv7 xv8 xv9 xv10 xv11 xv12 xv13 xv14 xv15 xv16 xv17 xv18 xv19 xv20 w3 rfl rfl rfl rfl rfl rfl rfl rfl rfl rfl rfl rfl rfl rfl rfl rfl rfl rfl rfl rfl rfl hXW
        simp only [rops, Try.f44, regOf, Option.bind_some, Nat.reduceBEq, if_true, if_false, Bool.false_eq_true, Option.getD_some, List.drop_succ_cons, List.drop_zero]
        simp only [Act.put, List.setIfInBounds_toArray, List.set_cons_succ, List.set_cons_zero]
        have HXW := Lib.hid (HX.out.trans hXW)
        have HLW := Lib.hid (HL.out.ext hXW)
        have HRW := Lib.hid (HR.out.ext hXW)
        have hcW := hXW.cell hc
        clear hXW f2 f3 hc
        go_wp2_with fail
        refine (frameR_any base g _ z s _ HRW.out (by have := HIN.out; omega)).mono ?_
        clear hcW
        rintro e w1 ⟨_, rfl, ⟨A1, n1, c1, rfl, hO1⟩, hX1⟩
        have HX1 := Lib.hid hX1
        have HO1 := Lib.hid (hO1.mono HXW.out.size)
        obtain ⟨vs, hown1, hcs1⟩ := HLW.out.ext hX1
        have HC1 := Lib.hid hcs1
        clear hX1 hO1 hcs1 HX HL
        have HX := HXW
        go_wp2_with (at_builtin; refine wpList_app _ elF rfl _ _ rfl w.heap.size (.slice A5 fs.length c5) fs.length vs rfl (hown1.alloc _) _ 1 1 [.int .i64 s.stream, .int .i64 (z : Int), .slice A1 n1 c1] rfl rfl (At.new' _ [_, _, _] _ rfl) (by simp [Value.oneCell']) (by omega) (by unfold maxLen; omega) (by have := HX.out.size; have := HX1.out.size; simp; omega) ?_; intro v2 w2 hown2 hgr2 hdj; clear hdj)
        go_roundg (n - (k + 1))
        case rel =>
          refine ⟨k + 1, _, rfl, by omega, by go_num, Lib.hid rfl, Lib.hid ?_, Lib.hid ((HX.out.trans HX1.out).push hown1 hgr2)⟩
          rw [againS_take s HQ.out, again1_yes (by have := HIN.out; omega) (by have := HIN.out; omega), ← HF.out]
          exact FrL.snoc hown1 HC1.out HO1.out _ (by simpa using hown2) hgr2
        case measure => omega
      · have HN := Lib.hid (again1_no hin)
        by_cases h1 : (s.acked : Int) ≤ q
        · have HG := Lib.hid h1
          have HH : Hid ((s.bodies.length : Int) ≤ q) := Lib.hid (by omega)
          clear hin h1
          go_upto_region 5 with (fail)
          refine againR_r5b g b off n c k s.acked s.bodies.length q A0 c0 wr hc f2 f3 hlt HG.out HH.out _ _ (by simp) rfl rfl rfl ?_
          rintro xv0 xv1 xv2 xv3 xv4 xv5 xv6 xv7 xv8 xv9 xv10 xv11 xv12 xv13 xv14 xv15 xv16 xv17 xv18 xv19 xv20 w3 rfl rfl rfl rfl rfl rfl rfl rfl rfl rfl rfl rfl rfl rfl rfl rfl rfl rfl rfl rfl rfl hXW
          simp only [rops, Try.f44, regOf, Option.bind_some, Nat.reduceBEq, if_true, if_false, Bool.false_eq_true, Option.getD_some, List.drop_succ_cons, List.drop_zero]
          simp only [Act.put, List.setIfInBounds_toArray, List.set_cons_succ, List.set_cons_zero]
          have HXW := Lib.hid (HX.out.trans hXW)
          have HLW := Lib.hid (HL.out.ext hXW)
          have HRW := Lib.hid (HR.out.ext hXW)
          have hcW := hXW.cell hc
          clear hXW f2 f3 hc
          go_wp2
          go_roundg (n - (k + 1))
          case rel => exact ⟨k + 1, fs, rfl, by omega, by go_num, Lib.hid (by rw [againS_take s HQ.out, HN.out, List.append_nil]; exact HF.out), HLW, HXW⟩
          case measure => omega
        · have HG : Hid (q < (s.acked : Int)) := Lib.hid (by omega)
          clear hin h1
          go_upto_region 5 with (fail)
          refine againR_r5a g b off n c k s.acked s.bodies.length q A0 c0 wr hc f2 f3 hlt HG.out _ _ (by simp) rfl rfl rfl ?_
          rintro xv0 xv1 xv2 xv3 xv4 xv5 xv6 xv7 xv8 xv9 xv10 xv11 xv12 xv13 xv14 xv15 xv16 xv17 xv18 xv19 xv20 w3 rfl rfl rfl rfl rfl rfl rfl rfl rfl rfl rfl rfl rfl rfl rfl rfl rfl rfl rfl rfl rfl hXW
          simp only [rops, Try.f44, regOf, Option.bind_some, Nat.reduceBEq, if_true, if_false, Bool.false_eq_true, Option.getD_some, List.drop_succ_cons, List.drop_zero]
          simp only [Act.put, List.setIfInBounds_toArray, List.set_cons_succ, List.set_cons_zero]
          have HXW := Lib.hid (HX.out.trans hXW)
          have HLW := Lib.hid (HL.out.ext hXW)
          have HRW := Lib.hid (HR.out.ext hXW)
          have hcW := hXW.cell hc
          clear hXW f2 f3 hc
          go_wp2
          go_roundg (n - (k + 1))
          case rel => exact ⟨k + 1, fs, rfl, by omega, by go_num, Lib.hid (by rw [againS_take s HQ.out, HN.out, List.append_nil]; exact HF.out), HLW, HXW⟩
          case measure => omega
    · go_wp2
      go_ret
      refine ⟨_, rfl, ?_, HX.out⟩
      have e : fs = againS s qs := by rw [HF.out, List.take_of_length_le]; rw [HI.out.1]; omega
      rw [← e]
      exact HL.out

end Go.Proofs.Ytekhmfliaojabaa
namespace Go.Proofs.Ytekhmfliaojabaa
open Go.RowKit

/-- A slice of elements of k cells reads as 'xs'. -/
def Els {α : Type} (E : World → List Value → α → Prop) (w : World) (A : Option Addr) (n : Nat) (xs : List α) : Prop := xs.length = n ∧ ∃ vs, CsR (E w) vs xs ∧ At w A vs
theorem Els.get {α : Type} {E : World → List Value → α → Prop} {k : Nat} (hk : ∀ w cs x, E w cs x → cs.length = k) {w : World} {A : Option Addr} {n : Nat} {xs : List α} (h : Els E w A n xs) (hp : 0 < k) {j : Nat} (hj : j < n) :
    ∃ b off f cs, A = some ⟨b, off, none⟩ ∧ xs[j]? = some f ∧ E w cs f ∧ ∀ i u, cs[i]? = some u → w.cell? ⟨b, off + j * k + i, none⟩ = some u := by
  obtain ⟨h1, vs, h2, h3⟩ := h
  have hf : xs[j]? = some xs[j] := List.getElem?_eq_getElem (by omega)
  obtain ⟨cs, h4, h5⟩ := h2.get (hk w) hf
  have hl := hk _ _ _ h4
  obtain ⟨u, hu⟩ : ∃ u, cs[0]? = some u := ⟨cs[0], List.getElem?_eq_getElem (by omega)⟩
  obtain ⟨b, off, hA, hc⟩ := h3 (by intro e; subst e; have := h5 0 _ hu; simp at this)
  exact ⟨b, off, _, cs, hA, hf, h4, fun i u hi => by rw [Nat.add_assoc]; exact hc _ _ (h5 i u hi)⟩
theorem SendE.len (w : World) (cs : List Value) (f : Int × Int × List Int × List Int) (h : SendE w cs f) : cs.length = 4 := by obtain ⟨_, _, _, _, _, _, rfl, _⟩ := h; rfl
theorem CallE.len (w : World) (cs : List Value) (f : Int × Int × Int × List Int) (h : CallE w cs f) : cs.length = 4 := by obtain ⟨_, _, _, rfl, _⟩ := h; rfl
theorem FrameE.len (w : World) (cs : List Value) (f : Int × Int × List Int) (h : FrameE w cs f) : cs.length = 3 := by obtain ⟨_, _, _, rfl, _⟩ := h; rfl

/-- The first state of a sender. -/
def snd0 (st wn : Int) : Snd := ⟨st, wn, 0, []⟩
def BadS (st wn : Int) : Prop := st < 0 ∨ 255 < st ∨ wn < 1 ∨ 64 < wn
theorem snd0_ok {st wn : Int} (h : ¬ BadS st wn) : SndOk (snd0 st wn) := by
  unfold BadS at h
  exact ⟨by simp only [snd0]; omega, by simp only [snd0]; omega, by simp [snd0], by simp [snd0]; omega, by simp [snd0]⟩


set_option maxRecDepth 100000 in
set_option maxHeartbeats 1000000 in
theorem newP_bad (st wn : Int) (w : World) (h : BadS st wn) : Calls Try.prog 34 #[.int .i64 st, .int .i64 wn] w (fun e w' => e = .returned (.tuple #[.pointer none, .int .i64 2]) ∧ Ext w w') := by
  unfold BadS at h
  by_cases h1 : st < 0
  · have q1 : decide (st < 0) = true := decide_eq_true h1
    clear h
    go_enter Try.func34, Try.ntmps34
    go_wp2
    go_ret2
    exact ⟨rfl, Ext.refl _⟩
  · have q1 : decide (st < 0) = false := decide_eq_false h1
    by_cases h2 : 256 ≤ st
    · have q2 : decide (256 ≤ st) = true := decide_eq_true h2
      clear h
      go_enter Try.func34, Try.ntmps34
      go_wp2
      go_ret2
      exact ⟨rfl, Ext.refl _⟩
    · have q2 : decide (256 ≤ st) = false := decide_eq_false h2
      by_cases h3 : wn < 1
      · have q3 : decide (wn < 1) = true := decide_eq_true h3
        clear h
        go_enter Try.func34, Try.ntmps34
        go_wp2
        go_ret2
        exact ⟨rfl, Ext.refl _⟩
      · have q3 : decide (wn < 1) = false := decide_eq_false h3
        have q4 : decide (64 < wn) = true := decide_eq_true (by omega)
        clear h
        go_enter Try.func34, Try.ntmps34
        go_wp2
        go_ret2
        exact ⟨rfl, Ext.refl _⟩
set_option maxRecDepth 100000 in
set_option maxHeartbeats 1000000 in
theorem newP_any (st wn : Int) (w : World) (h : ¬ BadS st wn) : Calls Try.prog 34 #[.int .i64 st, .int .i64 wn] w (fun e w' => ∃ g m, e = .returned (.tuple #[.pointer (some ⟨g, 0, none⟩), .int .i64 0]) ∧ SndP w.heap.size w' g m (snd0 st wn) ∧ Ext w w') := by
  have HS := Lib.hid (snd0_ok h)
  unfold BadS at h
  have q1 : decide (st < 0) = false := decide_eq_false (by omega)
  have q2 : decide (256 ≤ st) = false := decide_eq_false (by omega)
  have q3 : decide (wn < 1) = false := decide_eq_false (by omega)
  have q4 : decide (64 < wn) = false := decide_eq_false (by omega)
  clear h
  go_enter Try.func34, Try.ntmps34
  have hmm := @run_makeMap Try.prog
  go_wp2
  go_ret2
  refine ⟨_, w.heap.size, rfl, ⟨?_, ⟨[], ?_, trivial⟩, ⟨by simp, Nat.le_refl _⟩, HS.out⟩, ((Ext.refl w).alloc _).alloc _⟩
  · exact Blk.at_ (by simp)
  · exact (MapL.made w Try.prog 3).ext ((Ext.refl _).alloc _)


set_option maxRecDepth 100000 in
set_option maxHeartbeats 1000000 in
theorem newR_bad (st wn : Int) (w : World) (h : BadS st wn) : Calls Try.prog 35 #[.int .i64 st, .int .i64 wn] w (fun e w' => e = .returned (.tuple #[.pointer none, .int .i64 2]) ∧ Ext w w') := by
  unfold BadS at h
  by_cases h1 : st < 0
  · have q1 : decide (st < 0) = true := decide_eq_true h1
    clear h
    go_enter Try.func35, Try.ntmps35
    go_wp2
    go_ret2
    exact ⟨rfl, Ext.refl _⟩
  · have q1 : decide (st < 0) = false := decide_eq_false h1
    by_cases h2 : 255 < st
    · have q2 : decide (255 < st) = true := decide_eq_true h2
      clear h
      go_enter Try.func35, Try.ntmps35
      go_wp2
      go_ret2
      exact ⟨rfl, Ext.refl _⟩
    · have q2 : decide (255 < st) = false := decide_eq_false h2
      by_cases h3 : wn < 1
      · have q3 : decide (wn < 1) = true := decide_eq_true h3
        clear h
        go_enter Try.func35, Try.ntmps35
        go_wp2
        go_ret2
        exact ⟨rfl, Ext.refl _⟩
      · have q3 : decide (wn < 1) = false := decide_eq_false h3
        have q4 : decide (64 < wn) = true := decide_eq_true (by omega)
        clear h
        go_enter Try.func35, Try.ntmps35
        go_wp2
        go_ret2
        exact ⟨rfl, Ext.refl _⟩
set_option maxRecDepth 100000 in
set_option maxHeartbeats 1000000 in
theorem newR_any (st wn : Int) (w : World) (h : ¬ BadS st wn) : Calls Try.prog 35 #[.int .i64 st, .int .i64 wn] w (fun e w' => ∃ g v, e = .returned (.tuple #[.pointer (some ⟨g, 0, none⟩), .int .i64 0]) ∧ SndR w.heap.size w' g v (snd0 st wn) ∧ Ext w w') := by
  have HS := Lib.hid (snd0_ok h)
  unfold BadS at h
  have q1 : decide (st < 0) = false := decide_eq_false (by omega)
  have q2 : decide (255 < st) = false := decide_eq_false (by omega)
  have q3 : decide (wn < 1) = false := decide_eq_false (by omega)
  have q4 : decide (64 < wn) = false := decide_eq_false (by omega)
  clear h
  go_enter Try.func35, Try.ntmps35
  have hmm := @run_makeMap Try.prog
  go_wp2
  go_ret2
  refine ⟨_, .slice none 0 0, rfl, ⟨?_, ⟨[], World.ownsRow_nil _ _ _ _, trivial⟩, Nat.le_refl _, HS.out⟩, (Ext.refl w).alloc _⟩
  exact Blk.new _ _ _

end Go.Proofs.Ytekhmfliaojabaa
namespace Go.Proofs.Ytekhmfliaojabaa
open Go.ChangeShapes Go.WideShapes Go.ChangeAt Go.RowKit Go.Joins

section
variable {W : World} {H : Type} {enc : TypeId × Value → H} {a : Option Addr} {len cap fuel : Nat} {y : DataW H × List MemPlace} {b : Nat} {sp : Nat → Bool} {hd : Bool}
theorem sends_open (hf : DataW.trod enc Try.prog W b sp hd fuel 42 [.slice a len cap] = some y) : ∃ fs, Els SendE W a len fs ∧ len ≤ cap ∧ cap ≤ 9223372036854775807 := by
  obtain ⟨xs, vs, h1, h2, h3, h4, h5⟩ := slice_trod (k := 4) (R := SendE W) Try.underlying42 (by kernel_rfl) (SendE.len W) (fun fuel cs z hl hz => send_el hl hz) hf
  exact ⟨xs, ⟨h1, vs, h2, h3⟩, h4, h5⟩
end
end Go.Proofs.Ytekhmfliaojabaa
namespace Go.Proofs.Ytekhmfliaojabaa
open Go.RowKit

theorem str_any (w : World) {A : Option Addr} {n c : Nat} {xs : List Int} (h : Ints .u8 w A n xs) :
    (convert 22 9 (.slice A n c)).run Try.prog w = .ok (.string (strOfNums xs)) w := run_str w Try.underlying22 Try.underlying5 Try.underlying9 h

set_option maxHeartbeats 400000 in
theorem sameFrame_eq (s q : Int) (A B : Option Addr) (n c m d : Nat) (xs : List Int) (w : World) (hA : Ints .u8 w A n xs) (hB : Ints .u8 w B m xs) :
    Calls Try.prog 33 #[.agg #[.int .i64 s, .int .i64 q, .slice A n c], .agg #[.int .i64 s, .int .i64 q, .slice B m d]] w fun e w' => e = .returned (.bool true) ∧ Ext w w' := by
  have hx : Ext w ((w.alloc (.cells #[.int .i64 s, .int .i64 q, .slice A n c] 38)).alloc (.cells #[.int .i64 s, .int .i64 q, .slice B m d] 38)) := ((Ext.refl w).alloc _).alloc _
  have q1 := str_any _ (c := c) (hA.ext hx)
  have q2 := str_any _ (c := d) (hB.ext hx)
  obtain ⟨st, hst⟩ : ∃ st, strOfNums xs = st := ⟨_, rfl⟩
  rw [hst] at q1 q2
  have HX := Lib.hid hx
  clear hx hst hA hB
  go_enter Try.func33, Try.ntmps33
  go_wp2
  go_ret
  exact ⟨by simp, HX.out⟩
end Go.Proofs.Ytekhmfliaojabaa
namespace Go.Proofs.Ytekhmfliaojabaa
open Go.RowKit

/-- The act with the values 'us k', 'us (k + 1)', .. in the slots 'ds'. -/
def fillA (a : Act) : List Tmp → (Nat → Value) → Nat → Act
  | [], _, _ => a
  | d :: ds, us, k => fillA (a.put (some d) (us k)) ds us (k + 1)

/-- What one operation must give. -/
def MonoOp (P : Program) (ops : Array Oper) (V : Nat → Value → World → Prop) (D : List (List Nat)) (ds : List Tmp) (a : Act) (w0 : World) (i : Nat) (o : Oper) : Prop :=
  ∀ (us : Nat → Value) (W : World), Ext w0 W → (∀ j ∈ D.getD i [], V j (us j) W) → ∀ K : Act → World → Prop, (∀ v W', V i v W' → Ext W W' → K ((fillA a ds us 0).put o.dst v) W') → ∀ Q' : Exit → Act → World → Prop,
    if Region.wanted o (yielded ops (fillA a ds us 0).tmps) then o.wp P (fillA a ds us 0) W K Q' else K ((fillA a ds us 0).put o.dst undef) W
def MonoAll (P : Program) (ops : Array Oper) (V : Nat → Value → World → Prop) (D : List (List Nat)) (ds : List Tmp) (a : Act) (w0 : World) : Nat → List Oper → Prop
  | _, [] => True
  | i, o :: rest => MonoOp P ops V D ds a w0 i o ∧ MonoAll P ops V D ds a w0 (i + 1) rest

theorem MonoAll.at {P : Program} {ops : Array Oper} {V : Nat → Value → World → Prop} {D : List (List Nat)} {ds : List Tmp} {a : Act} {w0 : World} : ∀ (l : List Oper) (k : Nat), MonoAll P ops V D ds a w0 k l → ∀ i o, l[i]? = some o → MonoOp P ops V D ds a w0 (k + i) o := by
  intro l
  induction l with
  | nil => intro k _ i o h; simp at h
  | cons x l ih =>
    intro k h i o ho
    cases i with
    | zero => simp at ho; subst ho; exact h.1
    | succ i =>
      have := ih (k + 1) h.2 i o (by simpa using ho)
      rw [show k + 1 + i = k + (i + 1) by omega] at this
      exact this

section
variable {P : Program} {l : List Oper} {n : Nat} {ds : List Tmp} {D : List (List Nat)} {V : Nat → Value → World → Prop} {a : Act} {w0 : World} {Q : Exit → Act → World → Prop}

end
end Go.Proofs.Ytekhmfliaojabaa
namespace Go.Proofs.Ytekhmfliaojabaa
open Go.RowKit

set_option maxRecDepth 100000 in
set_option maxHeartbeats 1000000 in
theorem sameFrames_eq (A B : Option Addr) (n c d : Nat) (fs : List Fr) (w : World) (hA : Frs w A n fs) (hB : Frs w B n fs) (hn : n ≤ 1000000) :
    Calls Try.prog 40 #[.slice A n c, .slice B n d] w fun e w' => e = .returned (.bool true) ∧ Ext w w' := by
  have HA := Lib.hid hA
  have HB := Lib.hid hB
  clear hA hB
  have hnn : ((n : Int) != (n : Int)) = false := by simp
  go_enter Try.func40, Try.ntmps40
  go_wp2
  go_loopg [13] n (fun g i wr => ∃ k : Nat, g = n - k ∧ k ≤ n ∧ i = .int .i64 k ∧ Ext w wr)
  case atStart => exact ⟨0, rfl, by omega, rfl, Ext.refl w⟩
  case round =>
    obtain ⟨k, rfl, hk, rfl, hX⟩ := hrel
    have HX := Lib.hid hX
    clear hX
    by_cases hlt : k < n
    · obtain ⟨b, o, f, A1, n1, c1, rfl, hf, a0, a1, a2, hI1, hc1, hm1⟩ := (HA.out.ext HX.out).get hlt
      obtain ⟨b', o', f', A2, n2, c2, rfl, hf', b0, b1, b2, hI2, hc2, hm2⟩ := (HB.out.ext HX.out).get hlt
      obtain rfl : f' = f := by rw [hf] at hf'; exact (Option.some.inj hf').symm
      obtain ⟨fs1, fq, fb⟩ := f'
      simp only at a0 a1 a2 b0 b1 b2 hI1 hI2
      have HI1 := Lib.hid hI1
      have HI2 := Lib.hid hI2
      have hk0 : (0 : Int) ≤ (k : Int) := by omega
      have hk1 : (k : Int) < (n : Int) := by omega
      clear hf hf' hI1 hI2
      have HS : Hid (∀ W, Ext wr W → Calls Try.prog 33 #[.agg #[.int .i64 fs1, .int .i64 fq, .slice A1 n1 c1], .agg #[.int .i64 fs1, .int .i64 fq, .slice A2 n2 c2]] W fun e w' => e = .returned (.bool true) ∧ Ext wr w') := fun W hW =>
        (sameFrame_eq fs1 fq A1 A2 n1 c1 n2 c2 fb W (HI1.out.ext hW) (HI2.out.ext hW)).mono fun e w' ⟨he, hx⟩ => ⟨he, hW.trans hx⟩
      go_wp2_with fail
      go_region_held3 (fun w' => w'.cell? ⟨b, o + k * 3, none⟩ = some (.int .i64 fs1) ∧ w'.cell? ⟨b, o + k * 3 + 1, none⟩ = some (.int .i64 fq) ∧ w'.cell? ⟨b, o + k * 3 + 2, none⟩ = some (.slice A1 n1 c1) ∧ w'.cell? ⟨b', o' + k * 3, none⟩ = some (.int .i64 fs1) ∧ w'.cell? ⟨b', o' + k * 3 + 1, none⟩ = some (.int .i64 fq) ∧ w'.cell? ⟨b', o' + k * 3 + 2, none⟩ = some (.slice A2 n2 c2)) (first | go_keep | exact ⟨hE6.cell a0, hE6.cell a1, hE6.cell a2, hE6.cell b0, hE6.cell b1, hE6.cell b2⟩) (first | (go_at_call 33; refine (HS.out _ ((Ext.refl _).drew)).mono ?_; rintro e w6 ⟨rfl, hE6⟩))
      all_goals
        have HE6 := Lib.hid hE6
        clear hE6
        go_wp2
        go_roundg (n - (k + 1))
        case rel => exact ⟨k + 1, rfl, by omega, by go_num, HX.out.trans HE6.out⟩
        case measure => omega
    · go_wp2
      go_ret
      exact ⟨rfl, HX.out⟩
end Go.Proofs.Ytekhmfliaojabaa
