/- Lemmas of the proof that follows (Operates, part 13): walks of functions by contract, and plain lemmas. Conditions: none. -/
import Derived.Test.YteoijnaljkagfaaOperatesL
namespace Go.Proofs.Yteoijnaljkagfaa
open Go.RowKit

/-- The error of a result: none, if it is not too long. -/
def SizeE (q : Rat) (er : Int) : Prop := (er = 0 ∧ FitQW q) ∨ (er = 1 ∧ ¬ FitQW q)
theorem sizeE (q : Rat) : ∃ er, SizeE q er := by
  by_cases h : FitQW q
  · exact ⟨0, .inl ⟨rfl, h⟩⟩
  · exact ⟨1, .inr ⟨rfl, h⟩⟩
/-- The error of a quotient. -/
def DivE (q r : Rat) (er : Int) : Prop := (r = 0 ∧ er = 10) ∨ (r ≠ 0 ∧ SizeE (q / r) er)
theorem divE (q r : Rat) : ∃ er, DivE q r er := by
  by_cases h : r = 0
  · exact ⟨10, .inl ⟨h, rfl⟩⟩
  · obtain ⟨er, he⟩ := sizeE (q / r)
    exact ⟨er, .inr ⟨h, he⟩⟩
/-- A result of the program, with its error. -/
def ResX (w : World) (v : Value) (er : Int) (q : Rat) : Prop := (er = 0 ∧ RatC w v q ∧ FitQW q) ∨ (er ≠ 0 ∧ v = zeroR)
theorem ResX.ext {w w' : World} {v : Value} {er : Int} {q : Rat} (h : ResX w v er q) (he : Ext w w') : ResX w' v er q := by
  rcases h with ⟨h1, h2, h3⟩ | h
  · exact .inl ⟨h1, h2.ext he, h3⟩
  · exact .inr h
theorem ResX.open {w : World} {v : Value} {er : Int} {q : Rat} (h : ResX w v er q) : ∃ s A l c B m k, v = .agg #[.bool s, .slice A l c, .slice B m k] := by
  rcases h with ⟨_, h, _⟩ | ⟨_, rfl⟩
  · exact h.open
  · exact ⟨_, _, _, _, _, _, _, rfl⟩
def RetXr (w : World) (er : Int) (q : Rat) (e : Ending) (w' : World) : Prop := ∃ v, e = .returned (.tuple #[v, .int .i64 er]) ∧ ResX w' v er q ∧ Ext w w'
/-- A result of the reference, with its error. -/
def ResQ (w : World) (v : Value) (er : Int) (q : Rat) : Prop := ∃ s A l c B m k, v = .agg #[.bool s, .slice A l c, .slice B m k] ∧ (er = 0 → QZ w v q)
theorem ResQ.ext {w w' : World} {v : Value} {er : Int} {q : Rat} (h : ResQ w v er q) (he : Ext w w') : ResQ w' v er q := by
  obtain ⟨s, A, l, c, B, m, k, h1, h2⟩ := h
  exact ⟨s, A, l, c, B, m, k, h1, fun h => (h2 h).ext he⟩
theorem ResQ.open {w : World} {v : Value} {er : Int} {q : Rat} (h : ResQ w v er q) : ∃ s A l c B m k, v = .agg #[.bool s, .slice A l c, .slice B m k] := by
  obtain ⟨s, A, l, c, B, m, k, h1, h2⟩ := h
  exact ⟨s, A, l, c, B, m, k, h1⟩
def RetQr (w : World) (er : Int) (q : Rat) (e : Ending) (w' : World) : Prop := ∃ v, e = .returned (.tuple #[v, .int .i64 er]) ∧ ResQ w' v er q ∧ Ext w w'
section
variable {w : World} {va vb : Value} {q r : Rat} {er : Int}
theorem retC_X (hf : FitQW q) (h0 : er = 0) : ∀ e w', RetC w q e w' → RetXr w er q e w' := by
  rintro e w' ⟨v, rfl, h, hX⟩
  subst h0
  exact ⟨v, rfl, .inl ⟨rfl, h, hf⟩, hX⟩
theorem retE_X {er' : Int} (h0 : er = er') (h1 : er ≠ 0) : ∀ e w', RetE w zeroR er' e w' → RetXr w er q e w' := by
  rintro e w' ⟨rfl, hX⟩
  subst h0
  exact ⟨_, rfl, .inr ⟨h1, rfl⟩, hX⟩
theorem rout_e (h : QZ w va q) (he : SizeE q er) : Calls Try.prog 108 #[va] w fun e w' => ∃ s A l c B m k, e = .returned (.tuple #[.agg #[.bool s, .slice A l c, .slice B m k], .int .i64 er]) ∧ Ext w w' := by
  rcases he with ⟨rfl, hf⟩ | ⟨rfl, hf⟩
  · refine (rout_yes h hf).mono ?_
    rintro e w' ⟨v, rfl, hv, hX⟩
    obtain ⟨s, A, l, c, B, m, k, rfl⟩ := hv.open
    exact ⟨_, _, _, _, _, _, _, rfl, hX⟩
  · refine (rout_no h hf).mono ?_
    rintro e w' ⟨rfl, hX⟩
    exact ⟨_, _, _, _, _, _, _, rfl, hX⟩
theorem is_res (h : ResX w va er q) (k : ResQ w vb er q) : Calls Try.prog 23 #[va, .int .i64 er, vb, .int .i64 er] w fun e w' => e = .returned (.bool true) ∧ Ext w w' := by
  obtain ⟨s, A, l, c, B, m, kk, rfl, h2⟩ := k
  rcases h with ⟨rfl, h, hf⟩ | ⟨h, rfl⟩
  · exact is_ok h (h2 rfl) hf
  · exact is_e er s A B l c m kk w h

theorem addE (h : RatG w va q) (k : RatG w vb r) (he : SizeE (q + r) er) : Calls Try.prog 58 #[va, vb] w (RetXr w er (q + r)) := by
  obtain ⟨s0, A0, l0, c0, B0, m0, k0, rfl⟩ := h.open
  obtain ⟨s1, A1, l1, c1, B1, m1, k1, rfl⟩ := k.open
  rcases he with ⟨h0, hf⟩ | ⟨h0, hf⟩
  · exact (eadd_ok s0 s1 A0 B0 A1 B1 l0 c0 m0 k0 l1 c1 m1 k1 q r w h k hf).mono (retC_X hf h0)
  · exact (eadd_big s0 s1 A0 B0 A1 B1 l0 c0 m0 k0 l1 c1 m1 k1 q r w h k hf).mono (retE_X h0 (by omega))

theorem subE (h : RatG w va q) (k : RatG w vb r) (he : SizeE (q - r) er) : Calls Try.prog 51 #[va, vb] w (RetXr w er (q - r)) := by
  obtain ⟨s0, A0, l0, c0, B0, m0, k0, rfl⟩ := h.open
  obtain ⟨s1, A1, l1, c1, B1, m1, k1, rfl⟩ := k.open
  rcases he with ⟨h0, hf⟩ | ⟨h0, hf⟩
  · exact (esub_ok s0 s1 A0 B0 A1 B1 l0 c0 m0 k0 l1 c1 m1 k1 q r w h k hf).mono (retC_X hf h0)
  · exact (esub_big s0 s1 A0 B0 A1 B1 l0 c0 m0 k0 l1 c1 m1 k1 q r w h k hf).mono (retE_X h0 (by omega))

theorem mulE (h : RatG w va q) (k : RatG w vb r) (he : SizeE (q * r) er) : Calls Try.prog 59 #[va, vb] w (RetXr w er (q * r)) := by
  obtain ⟨s0, A0, l0, c0, B0, m0, k0, rfl⟩ := h.open
  obtain ⟨s1, A1, l1, c1, B1, m1, k1, rfl⟩ := k.open
  rcases he with ⟨h0, hf⟩ | ⟨h0, hf⟩
  · exact (emul_ok s0 s1 A0 B0 A1 B1 l0 c0 m0 k0 l1 c1 m1 k1 q r w h k hf).mono (retC_X hf h0)
  · exact (emul_big s0 s1 A0 B0 A1 B1 l0 c0 m0 k0 l1 c1 m1 k1 q r w h k hf).mono (retE_X h0 (by omega))

theorem divEr (h : RatG w va q) (k : RatG w vb r) (he : DivE q r er) : Calls Try.prog 60 #[va, vb] w (RetXr w er (q / r)) := by
  obtain ⟨s0, A0, l0, c0, B0, m0, k0, rfl⟩ := h.open
  obtain ⟨s1, A1, l1, c1, B1, m1, k1, rfl⟩ := k.open
  rcases he with ⟨hz, h0⟩ | ⟨hz, ⟨h0, hf⟩ | ⟨h0, hf⟩⟩
  · exact (ediv_zero s0 s1 A0 B0 A1 B1 l0 c0 m0 k0 l1 c1 m1 k1 q r w h k hz).mono (retE_X h0 (by omega))
  · exact (ediv_ok s0 s1 A0 B0 A1 B1 l0 c0 m0 k0 l1 c1 m1 k1 q r w h k hz hf).mono (retC_X hf h0)
  · exact (ediv_big s0 s1 A0 B0 A1 B1 l0 c0 m0 k0 l1 c1 m1 k1 q r w h k hz hf).mono (retE_X h0 (by omega))
theorem fitR_512 (h : FitQ q 256) : FitR q 512 := by
  have h2 := fitR_double h
  rw [show 2 * 256 = 512 from rfl] at h2
  exact h2
end

set_option maxRecDepth 100000 in
set_option maxHeartbeats 2000000 in
theorem two_add (s0 : Bool) (A0 B0 : Option Addr) (l0 c0 m0 k0 : Nat) (s1 : Bool) (A1 B1 : Option Addr) (l1 c1 m1 k1 : Nat) (q r : Rat) (er : Int) (w : World) (hx : RatG w (.agg #[.bool s0, .slice A0 l0 c0, .slice B0 m0 k0]) q) (hy : RatG w (.agg #[.bool s1, .slice A1 l1 c1, .slice B1 m1 k1]) r) (he : SizeE (q + r) er) :
    Calls Try.prog 61 #[.int .i64 0, .agg #[.bool s0, .slice A0 l0 c0, .slice B0 m0 k0], .agg #[.bool s1, .slice A1 l1 c1, .slice B1 m1 k1]] w (RetQr w er (q + r)) := by
  have HXX := Lib.hid hx
  have HYY := Lib.hid hy
  have HFQ := Lib.hid (fitR_512 hx.fit)
  have HFR := Lib.hid (fitR_512 hy.fit)
  clear hx hy
  obtain ⟨L, hL⟩ : ∃ L : Nat, L = 512 := ⟨_, rfl⟩
  rw [← hL] at HFQ HFR
  have hL2 : L + L + 1 ≤ 400000 := by omega
  clear hL
  have HE := Lib.hid he
  clear he
  have hXe : Ext w (((w.alloc (.cells #[.bool s0, .slice A0 l0 c0, .slice B0 m0 k0] 33)).alloc (.cells #[.bool s1, .slice A1 l1 c1, .slice B1 m1 k1] 33)).alloc (.cells #[.bool false, .slice none 0 0, .slice none 0 0] 42)) := ((((Ext.refl w).alloc _).alloc _).alloc _)
  have kA : Blk (((w.alloc (.cells #[.bool s0, .slice A0 l0 c0, .slice B0 m0 k0] 33)).alloc (.cells #[.bool s1, .slice A1 l1 c1, .slice B1 m1 k1] 33)).alloc (.cells #[.bool false, .slice none 0 0, .slice none 0 0] 42)) w.heap.size 33 #[.bool s0, .slice A0 l0 c0, .slice B0 m0 k0] := Blk.alloc (Blk.alloc (Blk.at_ (by simp)) _) _
  have kB : Blk (((w.alloc (.cells #[.bool s0, .slice A0 l0 c0, .slice B0 m0 k0] 33)).alloc (.cells #[.bool s1, .slice A1 l1 c1, .slice B1 m1 k1] 33)).alloc (.cells #[.bool false, .slice none 0 0, .slice none 0 0] 42)) (w.heap.size + 1) 33 #[.bool s1, .slice A1 l1 c1, .slice B1 m1 k1] := Blk.alloc (Blk.at_ (by simp)) _
  have kR : Blk (((w.alloc (.cells #[.bool s0, .slice A0 l0 c0, .slice B0 m0 k0] 33)).alloc (.cells #[.bool s1, .slice A1 l1 c1, .slice B1 m1 k1] 33)).alloc (.cells #[.bool false, .slice none 0 0, .slice none 0 0] 42)) (w.heap.size + 2) 42 #[.bool false, .slice none 0 0, .slice none 0 0] := Blk.at_ (by simp)
  go_enter Try.func61, Try.ntmps61
  go_wp2_with fail
  generalize (((w.alloc (.cells #[.bool s0, .slice A0 l0 c0, .slice B0 m0 k0] 33)).alloc (.cells #[.bool s1, .slice A1 l1 c1, .slice B1 m1 k1] 33)).alloc (.cells #[.bool false, .slice none 0 0, .slice none 0 0] 42)) = w1 at hXe kA kB kR ⊢
  have HX := Lib.hid hXe
  clear hXe
  have KA := Lib.hid kA
  clear kA
  have KB := Lib.hid kB
  clear kB
  have KR := Lib.hid kR
  clear kR
  replace HXX := Lib.hid (HXX.out.ext HX.out)
  replace HYY := Lib.hid (HYY.out.ext HX.out)
  have cA0 : w1.cell? ⟨w.heap.size, 0, none⟩ = some (.bool s0) := KA.out.cell 0
  have cA1 : w1.cell? ⟨w.heap.size, 1, none⟩ = some (.slice A0 l0 c0) := KA.out.cell 1
  have cA2 : w1.cell? ⟨w.heap.size, 2, none⟩ = some (.slice B0 m0 k0) := KA.out.cell 2
  go_wp2_with fail
  clear cA0 cA1 cA2
  refine (rof_yes HXX.out).mono ?_
  rintro e w2 ⟨v2, rfl, h2, hX⟩
  replace hX : Ext w1 w2 := by with_reducible exact hX
  replace HX := Lib.hid (HX.out.trans hX)
  replace HXX := Lib.hid (HXX.out.ext hX)
  replace HYY := Lib.hid (HYY.out.ext hX)
  replace KA := Lib.hid (KA.out.ext hX)
  replace KB := Lib.hid (KB.out.ext hX)
  replace KR := Lib.hid (KR.out.ext hX)
  clear hX
  obtain ⟨s2, A2, l2, c2, B2, m2, k2, rfl⟩ := h2.open
  have HQ2 := Lib.hid h2
  clear h2
  go_upto_region 2 with (fail)
  have hXa : Ext w2 (w2.alloc (.cells #[.bool s2, .slice A2 l2 c2, .slice B2 m2 k2] 42)) := (Ext.refl _).alloc _
  have kX := Blk.new w2 42 #[.bool s2, .slice A2 l2 c2, .slice B2 m2 k2]
  have zA := KA.out.lt
  have zB := KB.out.lt
  have zR := KR.out.lt
  have zg := HX.out.size
  replace HX := Lib.hid (HX.out.trans hXa)
  replace HXX := Lib.hid (HXX.out.ext hXa)
  replace HYY := Lib.hid (HYY.out.ext hXa)
  replace HQ2 := Lib.hid (HQ2.out.ext hXa)
  replace KA := Lib.hid (KA.out.ext hXa)
  replace KB := Lib.hid (KB.out.ext hXa)
  replace KR := Lib.hid (KR.out.ext hXa)
  generalize (w2.alloc (.cells #[.bool s2, .slice A2 l2 c2, .slice B2 m2 k2] 42)) = w3 at HX HXX HYY HQ2 KA KB KR kX ⊢
  have KX := Lib.hid kX
  clear kX hXa
  have cB0 : w3.cell? ⟨(w.heap.size + 1), 0, none⟩ = some (.bool s1) := KB.out.cell 0
  have cB1 : w3.cell? ⟨(w.heap.size + 1), 1, none⟩ = some (.slice A1 l1 c1) := KB.out.cell 1
  have cB2 : w3.cell? ⟨(w.heap.size + 1), 2, none⟩ = some (.slice B1 m1 k1) := KB.out.cell 2
  go_wp2_with fail
  clear cB0 cB1 cB2
  refine (rof_yes HYY.out).mono ?_
  rintro e w4 ⟨v3, rfl, h3, hX⟩
  replace hX : Ext w3 w4 := by with_reducible exact hX
  replace HX := Lib.hid (HX.out.trans hX)
  replace HXX := Lib.hid (HXX.out.ext hX)
  replace HYY := Lib.hid (HYY.out.ext hX)
  replace HQ2 := Lib.hid (HQ2.out.ext hX)
  replace KA := Lib.hid (KA.out.ext hX)
  replace KB := Lib.hid (KB.out.ext hX)
  replace KR := Lib.hid (KR.out.ext hX)
  replace KX := Lib.hid (KX.out.ext hX)
  clear hX
  obtain ⟨s3, A3, l3, c3, B3, m3, k3, rfl⟩ := h3.open
  have HQ3 := Lib.hid h3
  clear h3
  clear HXX
  clear HYY
  clear KA
  clear KB
  go_upto_region 3 with (fail)
  have hXa : Ext w4 (w4.alloc (.cells #[.bool s3, .slice A3 l3 c3, .slice B3 m3 k3] 42)) := (Ext.refl _).alloc _
  have kY := Blk.new w4 42 #[.bool s3, .slice A3 l3 c3, .slice B3 m3 k3]
  have zR := KR.out.lt
  have zX := KX.out.lt
  have zg := HX.out.size
  replace HX := Lib.hid (HX.out.trans hXa)
  replace HQ2 := Lib.hid (HQ2.out.ext hXa)
  replace HQ3 := Lib.hid (HQ3.out.ext hXa)
  replace KR := Lib.hid (KR.out.ext hXa)
  replace KX := Lib.hid (KX.out.ext hXa)
  generalize (w4.alloc (.cells #[.bool s3, .slice A3 l3 c3, .slice B3 m3 k3] 42)) = w5 at HX HQ2 HQ3 KR KX kY ⊢
  have KY := Lib.hid kY
  clear kY hXa
  go_upto_region 6 with (fail)
  have hXa : Ext w5 (w5.alloc (.cells #[.bool false, .slice none 0 0, .slice none 0 0] 42)) := (Ext.refl _).alloc _
  have kC := Blk.new w5 42 #[.bool false, .slice none 0 0, .slice none 0 0]
  have zR := KR.out.lt
  have zX := KX.out.lt
  have zY := KY.out.lt
  have zg := HX.out.size
  replace HX := Lib.hid (HX.out.trans hXa)
  replace HQ2 := Lib.hid (HQ2.out.ext hXa)
  replace HQ3 := Lib.hid (HQ3.out.ext hXa)
  replace KR := Lib.hid (KR.out.ext hXa)
  replace KX := Lib.hid (KX.out.ext hXa)
  replace KY := Lib.hid (KY.out.ext hXa)
  generalize (w5.alloc (.cells #[.bool false, .slice none 0 0, .slice none 0 0] 42)) = w6 at HX HQ2 HQ3 KR KX KY kC ⊢
  have KC := Lib.hid kC
  clear kC hXa
  have cX0 : w6.cell? ⟨w2.heap.size, 0, none⟩ = some (.bool s2) := KX.out.cell 0
  have cX1 : w6.cell? ⟨w2.heap.size, 1, none⟩ = some (.slice A2 l2 c2) := KX.out.cell 1
  have cX2 : w6.cell? ⟨w2.heap.size, 2, none⟩ = some (.slice B2 m2 k2) := KX.out.cell 2
  have cY0 : w6.cell? ⟨w4.heap.size, 0, none⟩ = some (.bool s3) := KY.out.cell 0
  have cY1 : w6.cell? ⟨w4.heap.size, 1, none⟩ = some (.slice A3 l3 c3) := KY.out.cell 1
  have cY2 : w6.cell? ⟨w4.heap.size, 2, none⟩ = some (.slice B3 m3 k3) := KY.out.cell 2
  clear cX0 cX1 cX2 cY0 cY1 cY2
  have cX0 : w6.cell? ⟨w2.heap.size, 0, none⟩ = some (.bool s2) := KX.out.cell 0
  have cX1 : w6.cell? ⟨w2.heap.size, 1, none⟩ = some (.slice A2 l2 c2) := KX.out.cell 1
  have cX2 : w6.cell? ⟨w2.heap.size, 2, none⟩ = some (.slice B2 m2 k2) := KX.out.cell 2
  have cY0 : w6.cell? ⟨w4.heap.size, 0, none⟩ = some (.bool s3) := KY.out.cell 0
  have cY1 : w6.cell? ⟨w4.heap.size, 1, none⟩ = some (.slice A3 l3 c3) := KY.out.cell 1
  have cY2 : w6.cell? ⟨w4.heap.size, 2, none⟩ = some (.slice B3 m3 k3) := KY.out.cell 2
  go_wp2_with fail
  clear cX0 cX1 cX2 cY0 cY1 cY2
  refine (qadd_any _ _ q r L L _ HQ2.out HQ3.out HFQ.out HFR.out hL2).mono ?_
  rintro e w7 ⟨v4, rfl, h4, hX⟩
  replace hX : Ext w6 w7 := by with_reducible exact hX
  replace HX := Lib.hid (HX.out.trans hX)
  replace HQ2 := Lib.hid (HQ2.out.ext hX)
  replace HQ3 := Lib.hid (HQ3.out.ext hX)
  replace KR := Lib.hid (KR.out.ext hX)
  replace KX := Lib.hid (KX.out.ext hX)
  replace KY := Lib.hid (KY.out.ext hX)
  replace KC := Lib.hid (KC.out.ext hX)
  clear hX
  obtain ⟨s4, A4, l4, c4, B4, m4, k4, rfl⟩ := h4.open
  have HQ4 := Lib.hid h4
  clear h4
  clear HQ2
  clear HQ3
  clear KX
  clear KY
  have cC0 : w7.cell? ⟨w5.heap.size, 0, none⟩ = some (.bool false) := KC.out.cell 0
  have fC0 : w7.frozen? ⟨w5.heap.size, 0, none⟩ = false := KC.out.free 0
  have cC1 : w7.cell? ⟨w5.heap.size, 1, none⟩ = some (.slice none 0 0) := KC.out.cell 1
  have fC1 : w7.frozen? ⟨w5.heap.size, 1, none⟩ = false := KC.out.free 1
  have cC2 : w7.cell? ⟨w5.heap.size, 2, none⟩ = some (.slice none 0 0) := KC.out.cell 2
  have fC2 : w7.frozen? ⟨w5.heap.size, 2, none⟩ = false := KC.out.free 2
  go_upto_region 16 with (fail)
  clear cC0 fC0 cC1 fC1 cC2 fC2
  have hXs : Ext w (((w7.setCell ⟨w5.heap.size, 0, none⟩ (.bool s4)).setCell ⟨w5.heap.size, 1, none⟩ (.slice A4 l4 c4)).setCell ⟨w5.heap.size, 2, none⟩ (.slice B4 m4 k4)) := (((HX.out.setCell (show w.heap.size ≤ w5.heap.size by omega) _).setCell (show w.heap.size ≤ w5.heap.size by omega) _).setCell (show w.heap.size ≤ w5.heap.size by omega) _)
  have kR : Blk (((w7.setCell ⟨w5.heap.size, 0, none⟩ (.bool s4)).setCell ⟨w5.heap.size, 1, none⟩ (.slice A4 l4 c4)).setCell ⟨w5.heap.size, 2, none⟩ (.slice B4 m4 k4)) (w.heap.size + 2) 42 #[.bool false, .slice none 0 0, .slice none 0 0] := (Blk.far (Blk.far (Blk.far KR.out (show (w.heap.size + 2) ≠ w5.heap.size by omega) _) (show (w.heap.size + 2) ≠ w5.heap.size by omega) _) (show (w.heap.size + 2) ≠ w5.heap.size by omega) _)
  have kC : Blk (((w7.setCell ⟨w5.heap.size, 0, none⟩ (.bool s4)).setCell ⟨w5.heap.size, 1, none⟩ (.slice A4 l4 c4)).setCell ⟨w5.heap.size, 2, none⟩ (.slice B4 m4 k4)) w5.heap.size 42 #[.bool s4, .slice A4 l4 c4, .slice B4 m4 k4] := (Blk.set (Blk.set (Blk.set KC.out 0 _) 1 _) 2 _)
  have hHQ4 := QZ.past HQ4.out (NoInts.three KC.out)
  generalize (((w7.setCell ⟨w5.heap.size, 0, none⟩ (.bool s4)).setCell ⟨w5.heap.size, 1, none⟩ (.slice A4 l4 c4)).setCell ⟨w5.heap.size, 2, none⟩ (.slice B4 m4 k4)) = w8 at hXs kR kC hHQ4 ⊢
  clear HX KR KC HQ4
  have HX := Lib.hid hXs
  clear hXs
  have KR := Lib.hid kR
  clear kR
  have KC := Lib.hid kC
  clear kC
  have HQ4 := Lib.hid hHQ4
  clear hHQ4
  have cC0 : w8.cell? ⟨w5.heap.size, 0, none⟩ = some (.bool s4) := KC.out.cell 0
  have cC1 : w8.cell? ⟨w5.heap.size, 1, none⟩ = some (.slice A4 l4 c4) := KC.out.cell 1
  have cC2 : w8.cell? ⟨w5.heap.size, 2, none⟩ = some (.slice B4 m4 k4) := KC.out.cell 2
  go_wp2_with fail
  clear cC0 cC1 cC2
  refine (rout_e HQ4.out HE.out).mono ?_
  rintro e w9 ⟨s5, A5, l5, c5, B5, m5, k5, rfl, hX⟩
  replace hX : Ext w8 w9 := by with_reducible exact hX
  replace HX := Lib.hid (HX.out.trans hX)
  replace HQ4 := Lib.hid (HQ4.out.ext hX)
  replace KR := Lib.hid (KR.out.ext hX)
  replace KC := Lib.hid (KC.out.ext hX)
  clear hX
  go_upto_region 17 with (fail)
  have hXa : Ext w9 (w9.alloc (.cells #[.bool s5, .slice A5 l5 c5, .slice B5 m5 k5] 33)) := (Ext.refl _).alloc _
  have kO := Blk.new w9 33 #[.bool s5, .slice A5 l5 c5, .slice B5 m5 k5]
  have zR := KR.out.lt
  have zC := KC.out.lt
  have zg := HX.out.size
  replace HX := Lib.hid (HX.out.trans hXa)
  replace HQ4 := Lib.hid (HQ4.out.ext hXa)
  replace KR := Lib.hid (KR.out.ext hXa)
  replace KC := Lib.hid (KC.out.ext hXa)
  generalize (w9.alloc (.cells #[.bool s5, .slice A5 l5 c5, .slice B5 m5 k5] 33)) = w10 at HX HQ4 KR KC kO ⊢
  have KO := Lib.hid kO
  clear kO hXa
  have cR0 : w10.cell? ⟨(w.heap.size + 2), 0, none⟩ = some (.bool false) := KR.out.cell 0
  have fR0 : w10.frozen? ⟨(w.heap.size + 2), 0, none⟩ = false := KR.out.free 0
  have cR1 : w10.cell? ⟨(w.heap.size + 2), 1, none⟩ = some (.slice none 0 0) := KR.out.cell 1
  have fR1 : w10.frozen? ⟨(w.heap.size + 2), 1, none⟩ = false := KR.out.free 1
  have cR2 : w10.cell? ⟨(w.heap.size + 2), 2, none⟩ = some (.slice none 0 0) := KR.out.cell 2
  have fR2 : w10.frozen? ⟨(w.heap.size + 2), 2, none⟩ = false := KR.out.free 2
  have cC0 : w10.cell? ⟨w5.heap.size, 0, none⟩ = some (.bool s4) := KC.out.cell 0
  have cC1 : w10.cell? ⟨w5.heap.size, 1, none⟩ = some (.slice A4 l4 c4) := KC.out.cell 1
  have cC2 : w10.cell? ⟨w5.heap.size, 2, none⟩ = some (.slice B4 m4 k4) := KC.out.cell 2
  go_wp2
  refine bodyPost_ret (v := .tuple #[.agg #[.bool s4, .slice A4 l4 c4, .slice B4 m4 k4], .int .i64 er]) (by simp [results, Try.results61, go_sem, *]) rfl ?_
  exact ⟨_, rfl, ⟨_, _, _, _, _, _, _, rfl, fun _ => QZ.past HQ4.out (NoInts.three KR.out)⟩, Ext.boxed HX.out (by omega) _ _ _⟩

set_option maxRecDepth 100000 in
set_option maxHeartbeats 2000000 in
theorem two_sub (s0 : Bool) (A0 B0 : Option Addr) (l0 c0 m0 k0 : Nat) (s1 : Bool) (A1 B1 : Option Addr) (l1 c1 m1 k1 : Nat) (q r : Rat) (er : Int) (w : World) (hx : RatG w (.agg #[.bool s0, .slice A0 l0 c0, .slice B0 m0 k0]) q) (hy : RatG w (.agg #[.bool s1, .slice A1 l1 c1, .slice B1 m1 k1]) r) (he : SizeE (q - r) er) :
    Calls Try.prog 61 #[.int .i64 1, .agg #[.bool s0, .slice A0 l0 c0, .slice B0 m0 k0], .agg #[.bool s1, .slice A1 l1 c1, .slice B1 m1 k1]] w (RetQr w er (q - r)) := by
  have HXX := Lib.hid hx
  have HYY := Lib.hid hy
  have HFQ := Lib.hid (fitR_512 hx.fit)
  have HFR := Lib.hid (fitR_512 hy.fit)
  clear hx hy
  obtain ⟨L, hL⟩ : ∃ L : Nat, L = 512 := ⟨_, rfl⟩
  rw [← hL] at HFQ HFR
  have hL2 : L + L + 1 ≤ 400000 := by omega
  clear hL
  have HE := Lib.hid he
  clear he
  have hXe : Ext w (((w.alloc (.cells #[.bool s0, .slice A0 l0 c0, .slice B0 m0 k0] 33)).alloc (.cells #[.bool s1, .slice A1 l1 c1, .slice B1 m1 k1] 33)).alloc (.cells #[.bool false, .slice none 0 0, .slice none 0 0] 42)) := ((((Ext.refl w).alloc _).alloc _).alloc _)
  have kA : Blk (((w.alloc (.cells #[.bool s0, .slice A0 l0 c0, .slice B0 m0 k0] 33)).alloc (.cells #[.bool s1, .slice A1 l1 c1, .slice B1 m1 k1] 33)).alloc (.cells #[.bool false, .slice none 0 0, .slice none 0 0] 42)) w.heap.size 33 #[.bool s0, .slice A0 l0 c0, .slice B0 m0 k0] := Blk.alloc (Blk.alloc (Blk.at_ (by simp)) _) _
  have kB : Blk (((w.alloc (.cells #[.bool s0, .slice A0 l0 c0, .slice B0 m0 k0] 33)).alloc (.cells #[.bool s1, .slice A1 l1 c1, .slice B1 m1 k1] 33)).alloc (.cells #[.bool false, .slice none 0 0, .slice none 0 0] 42)) (w.heap.size + 1) 33 #[.bool s1, .slice A1 l1 c1, .slice B1 m1 k1] := Blk.alloc (Blk.at_ (by simp)) _
  have kR : Blk (((w.alloc (.cells #[.bool s0, .slice A0 l0 c0, .slice B0 m0 k0] 33)).alloc (.cells #[.bool s1, .slice A1 l1 c1, .slice B1 m1 k1] 33)).alloc (.cells #[.bool false, .slice none 0 0, .slice none 0 0] 42)) (w.heap.size + 2) 42 #[.bool false, .slice none 0 0, .slice none 0 0] := Blk.at_ (by simp)
  go_enter Try.func61, Try.ntmps61
  go_wp2_with fail
  generalize (((w.alloc (.cells #[.bool s0, .slice A0 l0 c0, .slice B0 m0 k0] 33)).alloc (.cells #[.bool s1, .slice A1 l1 c1, .slice B1 m1 k1] 33)).alloc (.cells #[.bool false, .slice none 0 0, .slice none 0 0] 42)) = w1 at hXe kA kB kR ⊢
  have HX := Lib.hid hXe
  clear hXe
  have KA := Lib.hid kA
  clear kA
  have KB := Lib.hid kB
  clear kB
  have KR := Lib.hid kR
  clear kR
  replace HXX := Lib.hid (HXX.out.ext HX.out)
  replace HYY := Lib.hid (HYY.out.ext HX.out)
  have cA0 : w1.cell? ⟨w.heap.size, 0, none⟩ = some (.bool s0) := KA.out.cell 0
  have cA1 : w1.cell? ⟨w.heap.size, 1, none⟩ = some (.slice A0 l0 c0) := KA.out.cell 1
  have cA2 : w1.cell? ⟨w.heap.size, 2, none⟩ = some (.slice B0 m0 k0) := KA.out.cell 2
  go_wp2_with fail
  clear cA0 cA1 cA2
  refine (rof_yes HXX.out).mono ?_
  rintro e w2 ⟨v2, rfl, h2, hX⟩
  replace hX : Ext w1 w2 := by with_reducible exact hX
  replace HX := Lib.hid (HX.out.trans hX)
  replace HXX := Lib.hid (HXX.out.ext hX)
  replace HYY := Lib.hid (HYY.out.ext hX)
  replace KA := Lib.hid (KA.out.ext hX)
  replace KB := Lib.hid (KB.out.ext hX)
  replace KR := Lib.hid (KR.out.ext hX)
  clear hX
  obtain ⟨s2, A2, l2, c2, B2, m2, k2, rfl⟩ := h2.open
  have HQ2 := Lib.hid h2
  clear h2
  go_upto_region 2 with (fail)
  have hXa : Ext w2 (w2.alloc (.cells #[.bool s2, .slice A2 l2 c2, .slice B2 m2 k2] 42)) := (Ext.refl _).alloc _
  have kX := Blk.new w2 42 #[.bool s2, .slice A2 l2 c2, .slice B2 m2 k2]
  have zA := KA.out.lt
  have zB := KB.out.lt
  have zR := KR.out.lt
  have zg := HX.out.size
  replace HX := Lib.hid (HX.out.trans hXa)
  replace HXX := Lib.hid (HXX.out.ext hXa)
  replace HYY := Lib.hid (HYY.out.ext hXa)
  replace HQ2 := Lib.hid (HQ2.out.ext hXa)
  replace KA := Lib.hid (KA.out.ext hXa)
  replace KB := Lib.hid (KB.out.ext hXa)
  replace KR := Lib.hid (KR.out.ext hXa)
  generalize (w2.alloc (.cells #[.bool s2, .slice A2 l2 c2, .slice B2 m2 k2] 42)) = w3 at HX HXX HYY HQ2 KA KB KR kX ⊢
  have KX := Lib.hid kX
  clear kX hXa
  have cB0 : w3.cell? ⟨(w.heap.size + 1), 0, none⟩ = some (.bool s1) := KB.out.cell 0
  have cB1 : w3.cell? ⟨(w.heap.size + 1), 1, none⟩ = some (.slice A1 l1 c1) := KB.out.cell 1
  have cB2 : w3.cell? ⟨(w.heap.size + 1), 2, none⟩ = some (.slice B1 m1 k1) := KB.out.cell 2
  go_wp2_with fail
  clear cB0 cB1 cB2
  refine (rof_yes HYY.out).mono ?_
  rintro e w4 ⟨v3, rfl, h3, hX⟩
  replace hX : Ext w3 w4 := by with_reducible exact hX
  replace HX := Lib.hid (HX.out.trans hX)
  replace HXX := Lib.hid (HXX.out.ext hX)
  replace HYY := Lib.hid (HYY.out.ext hX)
  replace HQ2 := Lib.hid (HQ2.out.ext hX)
  replace KA := Lib.hid (KA.out.ext hX)
  replace KB := Lib.hid (KB.out.ext hX)
  replace KR := Lib.hid (KR.out.ext hX)
  replace KX := Lib.hid (KX.out.ext hX)
  clear hX
  obtain ⟨s3, A3, l3, c3, B3, m3, k3, rfl⟩ := h3.open
  have HQ3 := Lib.hid h3
  clear h3
  clear HXX
  clear HYY
  clear KA
  clear KB
  go_upto_region 3 with (fail)
  have hXa : Ext w4 (w4.alloc (.cells #[.bool s3, .slice A3 l3 c3, .slice B3 m3 k3] 42)) := (Ext.refl _).alloc _
  have kY := Blk.new w4 42 #[.bool s3, .slice A3 l3 c3, .slice B3 m3 k3]
  have zR := KR.out.lt
  have zX := KX.out.lt
  have zg := HX.out.size
  replace HX := Lib.hid (HX.out.trans hXa)
  replace HQ2 := Lib.hid (HQ2.out.ext hXa)
  replace HQ3 := Lib.hid (HQ3.out.ext hXa)
  replace KR := Lib.hid (KR.out.ext hXa)
  replace KX := Lib.hid (KX.out.ext hXa)
  generalize (w4.alloc (.cells #[.bool s3, .slice A3 l3 c3, .slice B3 m3 k3] 42)) = w5 at HX HQ2 HQ3 KR KX kY ⊢
  have KY := Lib.hid kY
  clear kY hXa
  go_upto_region 6 with (fail)
  have hXa : Ext w5 (w5.alloc (.cells #[.bool false, .slice none 0 0, .slice none 0 0] 42)) := (Ext.refl _).alloc _
  have kC := Blk.new w5 42 #[.bool false, .slice none 0 0, .slice none 0 0]
  have zR := KR.out.lt
  have zX := KX.out.lt
  have zY := KY.out.lt
  have zg := HX.out.size
  replace HX := Lib.hid (HX.out.trans hXa)
  replace HQ2 := Lib.hid (HQ2.out.ext hXa)
  replace HQ3 := Lib.hid (HQ3.out.ext hXa)
  replace KR := Lib.hid (KR.out.ext hXa)
  replace KX := Lib.hid (KX.out.ext hXa)
  replace KY := Lib.hid (KY.out.ext hXa)
  generalize (w5.alloc (.cells #[.bool false, .slice none 0 0, .slice none 0 0] 42)) = w6 at HX HQ2 HQ3 KR KX KY kC ⊢
  have KC := Lib.hid kC
  clear kC hXa
  have cX0 : w6.cell? ⟨w2.heap.size, 0, none⟩ = some (.bool s2) := KX.out.cell 0
  have cX1 : w6.cell? ⟨w2.heap.size, 1, none⟩ = some (.slice A2 l2 c2) := KX.out.cell 1
  have cX2 : w6.cell? ⟨w2.heap.size, 2, none⟩ = some (.slice B2 m2 k2) := KX.out.cell 2
  have cY0 : w6.cell? ⟨w4.heap.size, 0, none⟩ = some (.bool s3) := KY.out.cell 0
  have cY1 : w6.cell? ⟨w4.heap.size, 1, none⟩ = some (.slice A3 l3 c3) := KY.out.cell 1
  have cY2 : w6.cell? ⟨w4.heap.size, 2, none⟩ = some (.slice B3 m3 k3) := KY.out.cell 2
  clear cX0 cX1 cX2 cY0 cY1 cY2
  have cX0 : w6.cell? ⟨w2.heap.size, 0, none⟩ = some (.bool s2) := KX.out.cell 0
  have cX1 : w6.cell? ⟨w2.heap.size, 1, none⟩ = some (.slice A2 l2 c2) := KX.out.cell 1
  have cX2 : w6.cell? ⟨w2.heap.size, 2, none⟩ = some (.slice B2 m2 k2) := KX.out.cell 2
  have cY0 : w6.cell? ⟨w4.heap.size, 0, none⟩ = some (.bool s3) := KY.out.cell 0
  have cY1 : w6.cell? ⟨w4.heap.size, 1, none⟩ = some (.slice A3 l3 c3) := KY.out.cell 1
  have cY2 : w6.cell? ⟨w4.heap.size, 2, none⟩ = some (.slice B3 m3 k3) := KY.out.cell 2
  go_wp2_with fail
  clear cX0 cX1 cX2 cY0 cY1 cY2
  refine (qsub_any _ _ q r L L _ HQ2.out HQ3.out HFQ.out HFR.out hL2).mono ?_
  rintro e w7 ⟨v4, rfl, h4, hX⟩
  replace hX : Ext w6 w7 := by with_reducible exact hX
  replace HX := Lib.hid (HX.out.trans hX)
  replace HQ2 := Lib.hid (HQ2.out.ext hX)
  replace HQ3 := Lib.hid (HQ3.out.ext hX)
  replace KR := Lib.hid (KR.out.ext hX)
  replace KX := Lib.hid (KX.out.ext hX)
  replace KY := Lib.hid (KY.out.ext hX)
  replace KC := Lib.hid (KC.out.ext hX)
  clear hX
  obtain ⟨s4, A4, l4, c4, B4, m4, k4, rfl⟩ := h4.open
  have HQ4 := Lib.hid h4
  clear h4
  clear HQ2
  clear HQ3
  clear KX
  clear KY
  have cC0 : w7.cell? ⟨w5.heap.size, 0, none⟩ = some (.bool false) := KC.out.cell 0
  have fC0 : w7.frozen? ⟨w5.heap.size, 0, none⟩ = false := KC.out.free 0
  have cC1 : w7.cell? ⟨w5.heap.size, 1, none⟩ = some (.slice none 0 0) := KC.out.cell 1
  have fC1 : w7.frozen? ⟨w5.heap.size, 1, none⟩ = false := KC.out.free 1
  have cC2 : w7.cell? ⟨w5.heap.size, 2, none⟩ = some (.slice none 0 0) := KC.out.cell 2
  have fC2 : w7.frozen? ⟨w5.heap.size, 2, none⟩ = false := KC.out.free 2
  go_upto_region 16 with (fail)
  clear cC0 fC0 cC1 fC1 cC2 fC2
  have hXs : Ext w (((w7.setCell ⟨w5.heap.size, 0, none⟩ (.bool s4)).setCell ⟨w5.heap.size, 1, none⟩ (.slice A4 l4 c4)).setCell ⟨w5.heap.size, 2, none⟩ (.slice B4 m4 k4)) := (((HX.out.setCell (show w.heap.size ≤ w5.heap.size by omega) _).setCell (show w.heap.size ≤ w5.heap.size by omega) _).setCell (show w.heap.size ≤ w5.heap.size by omega) _)
  have kR : Blk (((w7.setCell ⟨w5.heap.size, 0, none⟩ (.bool s4)).setCell ⟨w5.heap.size, 1, none⟩ (.slice A4 l4 c4)).setCell ⟨w5.heap.size, 2, none⟩ (.slice B4 m4 k4)) (w.heap.size + 2) 42 #[.bool false, .slice none 0 0, .slice none 0 0] := (Blk.far (Blk.far (Blk.far KR.out (show (w.heap.size + 2) ≠ w5.heap.size by omega) _) (show (w.heap.size + 2) ≠ w5.heap.size by omega) _) (show (w.heap.size + 2) ≠ w5.heap.size by omega) _)
  have kC : Blk (((w7.setCell ⟨w5.heap.size, 0, none⟩ (.bool s4)).setCell ⟨w5.heap.size, 1, none⟩ (.slice A4 l4 c4)).setCell ⟨w5.heap.size, 2, none⟩ (.slice B4 m4 k4)) w5.heap.size 42 #[.bool s4, .slice A4 l4 c4, .slice B4 m4 k4] := (Blk.set (Blk.set (Blk.set KC.out 0 _) 1 _) 2 _)
  have hHQ4 := QZ.past HQ4.out (NoInts.three KC.out)
  generalize (((w7.setCell ⟨w5.heap.size, 0, none⟩ (.bool s4)).setCell ⟨w5.heap.size, 1, none⟩ (.slice A4 l4 c4)).setCell ⟨w5.heap.size, 2, none⟩ (.slice B4 m4 k4)) = w8 at hXs kR kC hHQ4 ⊢
  clear HX KR KC HQ4
  have HX := Lib.hid hXs
  clear hXs
  have KR := Lib.hid kR
  clear kR
  have KC := Lib.hid kC
  clear kC
  have HQ4 := Lib.hid hHQ4
  clear hHQ4
  have cC0 : w8.cell? ⟨w5.heap.size, 0, none⟩ = some (.bool s4) := KC.out.cell 0
  have cC1 : w8.cell? ⟨w5.heap.size, 1, none⟩ = some (.slice A4 l4 c4) := KC.out.cell 1
  have cC2 : w8.cell? ⟨w5.heap.size, 2, none⟩ = some (.slice B4 m4 k4) := KC.out.cell 2
  go_wp2_with fail
  clear cC0 cC1 cC2
  refine (rout_e HQ4.out HE.out).mono ?_
  rintro e w9 ⟨s5, A5, l5, c5, B5, m5, k5, rfl, hX⟩
  replace hX : Ext w8 w9 := by with_reducible exact hX
  replace HX := Lib.hid (HX.out.trans hX)
  replace HQ4 := Lib.hid (HQ4.out.ext hX)
  replace KR := Lib.hid (KR.out.ext hX)
  replace KC := Lib.hid (KC.out.ext hX)
  clear hX
  go_upto_region 17 with (fail)
  have hXa : Ext w9 (w9.alloc (.cells #[.bool s5, .slice A5 l5 c5, .slice B5 m5 k5] 33)) := (Ext.refl _).alloc _
  have kO := Blk.new w9 33 #[.bool s5, .slice A5 l5 c5, .slice B5 m5 k5]
  have zR := KR.out.lt
  have zC := KC.out.lt
  have zg := HX.out.size
  replace HX := Lib.hid (HX.out.trans hXa)
  replace HQ4 := Lib.hid (HQ4.out.ext hXa)
  replace KR := Lib.hid (KR.out.ext hXa)
  replace KC := Lib.hid (KC.out.ext hXa)
  generalize (w9.alloc (.cells #[.bool s5, .slice A5 l5 c5, .slice B5 m5 k5] 33)) = w10 at HX HQ4 KR KC kO ⊢
  have KO := Lib.hid kO
  clear kO hXa
  have cR0 : w10.cell? ⟨(w.heap.size + 2), 0, none⟩ = some (.bool false) := KR.out.cell 0
  have fR0 : w10.frozen? ⟨(w.heap.size + 2), 0, none⟩ = false := KR.out.free 0
  have cR1 : w10.cell? ⟨(w.heap.size + 2), 1, none⟩ = some (.slice none 0 0) := KR.out.cell 1
  have fR1 : w10.frozen? ⟨(w.heap.size + 2), 1, none⟩ = false := KR.out.free 1
  have cR2 : w10.cell? ⟨(w.heap.size + 2), 2, none⟩ = some (.slice none 0 0) := KR.out.cell 2
  have fR2 : w10.frozen? ⟨(w.heap.size + 2), 2, none⟩ = false := KR.out.free 2
  have cC0 : w10.cell? ⟨w5.heap.size, 0, none⟩ = some (.bool s4) := KC.out.cell 0
  have cC1 : w10.cell? ⟨w5.heap.size, 1, none⟩ = some (.slice A4 l4 c4) := KC.out.cell 1
  have cC2 : w10.cell? ⟨w5.heap.size, 2, none⟩ = some (.slice B4 m4 k4) := KC.out.cell 2
  go_wp2
  refine bodyPost_ret (v := .tuple #[.agg #[.bool s4, .slice A4 l4 c4, .slice B4 m4 k4], .int .i64 er]) (by simp [results, Try.results61, go_sem, *]) rfl ?_
  exact ⟨_, rfl, ⟨_, _, _, _, _, _, _, rfl, fun _ => QZ.past HQ4.out (NoInts.three KR.out)⟩, Ext.boxed HX.out (by omega) _ _ _⟩

set_option maxRecDepth 100000 in
set_option maxHeartbeats 2000000 in
theorem two_mul (s0 : Bool) (A0 B0 : Option Addr) (l0 c0 m0 k0 : Nat) (s1 : Bool) (A1 B1 : Option Addr) (l1 c1 m1 k1 : Nat) (q r : Rat) (er : Int) (w : World) (hx : RatG w (.agg #[.bool s0, .slice A0 l0 c0, .slice B0 m0 k0]) q) (hy : RatG w (.agg #[.bool s1, .slice A1 l1 c1, .slice B1 m1 k1]) r) (he : SizeE (q * r) er) :
    Calls Try.prog 61 #[.int .i64 2, .agg #[.bool s0, .slice A0 l0 c0, .slice B0 m0 k0], .agg #[.bool s1, .slice A1 l1 c1, .slice B1 m1 k1]] w (RetQr w er (q * r)) := by
  have HXX := Lib.hid hx
  have HYY := Lib.hid hy
  have HFQ := Lib.hid (fitR_512 hx.fit)
  have HFR := Lib.hid (fitR_512 hy.fit)
  clear hx hy
  obtain ⟨L, hL⟩ : ∃ L : Nat, L = 512 := ⟨_, rfl⟩
  rw [← hL] at HFQ HFR
  have hL2 : L + L + 1 ≤ 400000 := by omega
  clear hL
  have HE := Lib.hid he
  clear he
  have hXe : Ext w (((w.alloc (.cells #[.bool s0, .slice A0 l0 c0, .slice B0 m0 k0] 33)).alloc (.cells #[.bool s1, .slice A1 l1 c1, .slice B1 m1 k1] 33)).alloc (.cells #[.bool false, .slice none 0 0, .slice none 0 0] 42)) := ((((Ext.refl w).alloc _).alloc _).alloc _)
  have kA : Blk (((w.alloc (.cells #[.bool s0, .slice A0 l0 c0, .slice B0 m0 k0] 33)).alloc (.cells #[.bool s1, .slice A1 l1 c1, .slice B1 m1 k1] 33)).alloc (.cells #[.bool false, .slice none 0 0, .slice none 0 0] 42)) w.heap.size 33 #[.bool s0, .slice A0 l0 c0, .slice B0 m0 k0] := Blk.alloc (Blk.alloc (Blk.at_ (by simp)) _) _
  have kB : Blk (((w.alloc (.cells #[.bool s0, .slice A0 l0 c0, .slice B0 m0 k0] 33)).alloc (.cells #[.bool s1, .slice A1 l1 c1, .slice B1 m1 k1] 33)).alloc (.cells #[.bool false, .slice none 0 0, .slice none 0 0] 42)) (w.heap.size + 1) 33 #[.bool s1, .slice A1 l1 c1, .slice B1 m1 k1] := Blk.alloc (Blk.at_ (by simp)) _
  have kR : Blk (((w.alloc (.cells #[.bool s0, .slice A0 l0 c0, .slice B0 m0 k0] 33)).alloc (.cells #[.bool s1, .slice A1 l1 c1, .slice B1 m1 k1] 33)).alloc (.cells #[.bool false, .slice none 0 0, .slice none 0 0] 42)) (w.heap.size + 2) 42 #[.bool false, .slice none 0 0, .slice none 0 0] := Blk.at_ (by simp)
  go_enter Try.func61, Try.ntmps61
  go_wp2_with fail
  generalize (((w.alloc (.cells #[.bool s0, .slice A0 l0 c0, .slice B0 m0 k0] 33)).alloc (.cells #[.bool s1, .slice A1 l1 c1, .slice B1 m1 k1] 33)).alloc (.cells #[.bool false, .slice none 0 0, .slice none 0 0] 42)) = w1 at hXe kA kB kR ⊢
  have HX := Lib.hid hXe
  clear hXe
  have KA := Lib.hid kA
  clear kA
  have KB := Lib.hid kB
  clear kB
  have KR := Lib.hid kR
  clear kR
  replace HXX := Lib.hid (HXX.out.ext HX.out)
  replace HYY := Lib.hid (HYY.out.ext HX.out)
  have cA0 : w1.cell? ⟨w.heap.size, 0, none⟩ = some (.bool s0) := KA.out.cell 0
  have cA1 : w1.cell? ⟨w.heap.size, 1, none⟩ = some (.slice A0 l0 c0) := KA.out.cell 1
  have cA2 : w1.cell? ⟨w.heap.size, 2, none⟩ = some (.slice B0 m0 k0) := KA.out.cell 2
  go_wp2_with fail
  clear cA0 cA1 cA2
  refine (rof_yes HXX.out).mono ?_
  rintro e w2 ⟨v2, rfl, h2, hX⟩
  replace hX : Ext w1 w2 := by with_reducible exact hX
  replace HX := Lib.hid (HX.out.trans hX)
  replace HXX := Lib.hid (HXX.out.ext hX)
  replace HYY := Lib.hid (HYY.out.ext hX)
  replace KA := Lib.hid (KA.out.ext hX)
  replace KB := Lib.hid (KB.out.ext hX)
  replace KR := Lib.hid (KR.out.ext hX)
  clear hX
  obtain ⟨s2, A2, l2, c2, B2, m2, k2, rfl⟩ := h2.open
  have HQ2 := Lib.hid h2
  clear h2
  go_upto_region 2 with (fail)
  have hXa : Ext w2 (w2.alloc (.cells #[.bool s2, .slice A2 l2 c2, .slice B2 m2 k2] 42)) := (Ext.refl _).alloc _
  have kX := Blk.new w2 42 #[.bool s2, .slice A2 l2 c2, .slice B2 m2 k2]
  have zA := KA.out.lt
  have zB := KB.out.lt
  have zR := KR.out.lt
  have zg := HX.out.size
  replace HX := Lib.hid (HX.out.trans hXa)
  replace HXX := Lib.hid (HXX.out.ext hXa)
  replace HYY := Lib.hid (HYY.out.ext hXa)
  replace HQ2 := Lib.hid (HQ2.out.ext hXa)
  replace KA := Lib.hid (KA.out.ext hXa)
  replace KB := Lib.hid (KB.out.ext hXa)
  replace KR := Lib.hid (KR.out.ext hXa)
  generalize (w2.alloc (.cells #[.bool s2, .slice A2 l2 c2, .slice B2 m2 k2] 42)) = w3 at HX HXX HYY HQ2 KA KB KR kX ⊢
  have KX := Lib.hid kX
  clear kX hXa
  have cB0 : w3.cell? ⟨(w.heap.size + 1), 0, none⟩ = some (.bool s1) := KB.out.cell 0
  have cB1 : w3.cell? ⟨(w.heap.size + 1), 1, none⟩ = some (.slice A1 l1 c1) := KB.out.cell 1
  have cB2 : w3.cell? ⟨(w.heap.size + 1), 2, none⟩ = some (.slice B1 m1 k1) := KB.out.cell 2
  go_wp2_with fail
  clear cB0 cB1 cB2
  refine (rof_yes HYY.out).mono ?_
  rintro e w4 ⟨v3, rfl, h3, hX⟩
  replace hX : Ext w3 w4 := by with_reducible exact hX
  replace HX := Lib.hid (HX.out.trans hX)
  replace HXX := Lib.hid (HXX.out.ext hX)
  replace HYY := Lib.hid (HYY.out.ext hX)
  replace HQ2 := Lib.hid (HQ2.out.ext hX)
  replace KA := Lib.hid (KA.out.ext hX)
  replace KB := Lib.hid (KB.out.ext hX)
  replace KR := Lib.hid (KR.out.ext hX)
  replace KX := Lib.hid (KX.out.ext hX)
  clear hX
  obtain ⟨s3, A3, l3, c3, B3, m3, k3, rfl⟩ := h3.open
  have HQ3 := Lib.hid h3
  clear h3
  clear HXX
  clear HYY
  clear KA
  clear KB
  go_upto_region 3 with (fail)
  have hXa : Ext w4 (w4.alloc (.cells #[.bool s3, .slice A3 l3 c3, .slice B3 m3 k3] 42)) := (Ext.refl _).alloc _
  have kY := Blk.new w4 42 #[.bool s3, .slice A3 l3 c3, .slice B3 m3 k3]
  have zR := KR.out.lt
  have zX := KX.out.lt
  have zg := HX.out.size
  replace HX := Lib.hid (HX.out.trans hXa)
  replace HQ2 := Lib.hid (HQ2.out.ext hXa)
  replace HQ3 := Lib.hid (HQ3.out.ext hXa)
  replace KR := Lib.hid (KR.out.ext hXa)
  replace KX := Lib.hid (KX.out.ext hXa)
  generalize (w4.alloc (.cells #[.bool s3, .slice A3 l3 c3, .slice B3 m3 k3] 42)) = w5 at HX HQ2 HQ3 KR KX kY ⊢
  have KY := Lib.hid kY
  clear kY hXa
  go_upto_region 6 with (fail)
  have hXa : Ext w5 (w5.alloc (.cells #[.bool false, .slice none 0 0, .slice none 0 0] 42)) := (Ext.refl _).alloc _
  have kC := Blk.new w5 42 #[.bool false, .slice none 0 0, .slice none 0 0]
  have zR := KR.out.lt
  have zX := KX.out.lt
  have zY := KY.out.lt
  have zg := HX.out.size
  replace HX := Lib.hid (HX.out.trans hXa)
  replace HQ2 := Lib.hid (HQ2.out.ext hXa)
  replace HQ3 := Lib.hid (HQ3.out.ext hXa)
  replace KR := Lib.hid (KR.out.ext hXa)
  replace KX := Lib.hid (KX.out.ext hXa)
  replace KY := Lib.hid (KY.out.ext hXa)
  generalize (w5.alloc (.cells #[.bool false, .slice none 0 0, .slice none 0 0] 42)) = w6 at HX HQ2 HQ3 KR KX KY kC ⊢
  have KC := Lib.hid kC
  clear kC hXa
  have cX0 : w6.cell? ⟨w2.heap.size, 0, none⟩ = some (.bool s2) := KX.out.cell 0
  have cX1 : w6.cell? ⟨w2.heap.size, 1, none⟩ = some (.slice A2 l2 c2) := KX.out.cell 1
  have cX2 : w6.cell? ⟨w2.heap.size, 2, none⟩ = some (.slice B2 m2 k2) := KX.out.cell 2
  have cY0 : w6.cell? ⟨w4.heap.size, 0, none⟩ = some (.bool s3) := KY.out.cell 0
  have cY1 : w6.cell? ⟨w4.heap.size, 1, none⟩ = some (.slice A3 l3 c3) := KY.out.cell 1
  have cY2 : w6.cell? ⟨w4.heap.size, 2, none⟩ = some (.slice B3 m3 k3) := KY.out.cell 2
  clear cX0 cX1 cX2 cY0 cY1 cY2
  have cX0 : w6.cell? ⟨w2.heap.size, 0, none⟩ = some (.bool s2) := KX.out.cell 0
  have cX1 : w6.cell? ⟨w2.heap.size, 1, none⟩ = some (.slice A2 l2 c2) := KX.out.cell 1
  have cX2 : w6.cell? ⟨w2.heap.size, 2, none⟩ = some (.slice B2 m2 k2) := KX.out.cell 2
  have cY0 : w6.cell? ⟨w4.heap.size, 0, none⟩ = some (.bool s3) := KY.out.cell 0
  have cY1 : w6.cell? ⟨w4.heap.size, 1, none⟩ = some (.slice A3 l3 c3) := KY.out.cell 1
  have cY2 : w6.cell? ⟨w4.heap.size, 2, none⟩ = some (.slice B3 m3 k3) := KY.out.cell 2
  go_wp2_with fail
  clear cX0 cX1 cX2 cY0 cY1 cY2
  refine (qmul_any _ _ q r L L _ HQ2.out HQ3.out HFQ.out HFR.out hL2).mono ?_
  rintro e w7 ⟨v4, rfl, h4, hX⟩
  replace hX : Ext w6 w7 := by with_reducible exact hX
  replace HX := Lib.hid (HX.out.trans hX)
  replace HQ2 := Lib.hid (HQ2.out.ext hX)
  replace HQ3 := Lib.hid (HQ3.out.ext hX)
  replace KR := Lib.hid (KR.out.ext hX)
  replace KX := Lib.hid (KX.out.ext hX)
  replace KY := Lib.hid (KY.out.ext hX)
  replace KC := Lib.hid (KC.out.ext hX)
  clear hX
  obtain ⟨s4, A4, l4, c4, B4, m4, k4, rfl⟩ := h4.open
  have HQ4 := Lib.hid h4
  clear h4
  clear HQ2
  clear HQ3
  clear KX
  clear KY
  have cC0 : w7.cell? ⟨w5.heap.size, 0, none⟩ = some (.bool false) := KC.out.cell 0
  have fC0 : w7.frozen? ⟨w5.heap.size, 0, none⟩ = false := KC.out.free 0
  have cC1 : w7.cell? ⟨w5.heap.size, 1, none⟩ = some (.slice none 0 0) := KC.out.cell 1
  have fC1 : w7.frozen? ⟨w5.heap.size, 1, none⟩ = false := KC.out.free 1
  have cC2 : w7.cell? ⟨w5.heap.size, 2, none⟩ = some (.slice none 0 0) := KC.out.cell 2
  have fC2 : w7.frozen? ⟨w5.heap.size, 2, none⟩ = false := KC.out.free 2
  go_upto_region 16 with (fail)
  clear cC0 fC0 cC1 fC1 cC2 fC2
  have hXs : Ext w (((w7.setCell ⟨w5.heap.size, 0, none⟩ (.bool s4)).setCell ⟨w5.heap.size, 1, none⟩ (.slice A4 l4 c4)).setCell ⟨w5.heap.size, 2, none⟩ (.slice B4 m4 k4)) := (((HX.out.setCell (show w.heap.size ≤ w5.heap.size by omega) _).setCell (show w.heap.size ≤ w5.heap.size by omega) _).setCell (show w.heap.size ≤ w5.heap.size by omega) _)
  have kR : Blk (((w7.setCell ⟨w5.heap.size, 0, none⟩ (.bool s4)).setCell ⟨w5.heap.size, 1, none⟩ (.slice A4 l4 c4)).setCell ⟨w5.heap.size, 2, none⟩ (.slice B4 m4 k4)) (w.heap.size + 2) 42 #[.bool false, .slice none 0 0, .slice none 0 0] := (Blk.far (Blk.far (Blk.far KR.out (show (w.heap.size + 2) ≠ w5.heap.size by omega) _) (show (w.heap.size + 2) ≠ w5.heap.size by omega) _) (show (w.heap.size + 2) ≠ w5.heap.size by omega) _)
  have kC : Blk (((w7.setCell ⟨w5.heap.size, 0, none⟩ (.bool s4)).setCell ⟨w5.heap.size, 1, none⟩ (.slice A4 l4 c4)).setCell ⟨w5.heap.size, 2, none⟩ (.slice B4 m4 k4)) w5.heap.size 42 #[.bool s4, .slice A4 l4 c4, .slice B4 m4 k4] := (Blk.set (Blk.set (Blk.set KC.out 0 _) 1 _) 2 _)
  have hHQ4 := QZ.past HQ4.out (NoInts.three KC.out)
  generalize (((w7.setCell ⟨w5.heap.size, 0, none⟩ (.bool s4)).setCell ⟨w5.heap.size, 1, none⟩ (.slice A4 l4 c4)).setCell ⟨w5.heap.size, 2, none⟩ (.slice B4 m4 k4)) = w8 at hXs kR kC hHQ4 ⊢
  clear HX KR KC HQ4
  have HX := Lib.hid hXs
  clear hXs
  have KR := Lib.hid kR
  clear kR
  have KC := Lib.hid kC
  clear kC
  have HQ4 := Lib.hid hHQ4
  clear hHQ4
  have cC0 : w8.cell? ⟨w5.heap.size, 0, none⟩ = some (.bool s4) := KC.out.cell 0
  have cC1 : w8.cell? ⟨w5.heap.size, 1, none⟩ = some (.slice A4 l4 c4) := KC.out.cell 1
  have cC2 : w8.cell? ⟨w5.heap.size, 2, none⟩ = some (.slice B4 m4 k4) := KC.out.cell 2
  go_wp2_with fail
  clear cC0 cC1 cC2
  refine (rout_e HQ4.out HE.out).mono ?_
  rintro e w9 ⟨s5, A5, l5, c5, B5, m5, k5, rfl, hX⟩
  replace hX : Ext w8 w9 := by with_reducible exact hX
  replace HX := Lib.hid (HX.out.trans hX)
  replace HQ4 := Lib.hid (HQ4.out.ext hX)
  replace KR := Lib.hid (KR.out.ext hX)
  replace KC := Lib.hid (KC.out.ext hX)
  clear hX
  go_upto_region 17 with (fail)
  have hXa : Ext w9 (w9.alloc (.cells #[.bool s5, .slice A5 l5 c5, .slice B5 m5 k5] 33)) := (Ext.refl _).alloc _
  have kO := Blk.new w9 33 #[.bool s5, .slice A5 l5 c5, .slice B5 m5 k5]
  have zR := KR.out.lt
  have zC := KC.out.lt
  have zg := HX.out.size
  replace HX := Lib.hid (HX.out.trans hXa)
  replace HQ4 := Lib.hid (HQ4.out.ext hXa)
  replace KR := Lib.hid (KR.out.ext hXa)
  replace KC := Lib.hid (KC.out.ext hXa)
  generalize (w9.alloc (.cells #[.bool s5, .slice A5 l5 c5, .slice B5 m5 k5] 33)) = w10 at HX HQ4 KR KC kO ⊢
  have KO := Lib.hid kO
  clear kO hXa
  have cR0 : w10.cell? ⟨(w.heap.size + 2), 0, none⟩ = some (.bool false) := KR.out.cell 0
  have fR0 : w10.frozen? ⟨(w.heap.size + 2), 0, none⟩ = false := KR.out.free 0
  have cR1 : w10.cell? ⟨(w.heap.size + 2), 1, none⟩ = some (.slice none 0 0) := KR.out.cell 1
  have fR1 : w10.frozen? ⟨(w.heap.size + 2), 1, none⟩ = false := KR.out.free 1
  have cR2 : w10.cell? ⟨(w.heap.size + 2), 2, none⟩ = some (.slice none 0 0) := KR.out.cell 2
  have fR2 : w10.frozen? ⟨(w.heap.size + 2), 2, none⟩ = false := KR.out.free 2
  have cC0 : w10.cell? ⟨w5.heap.size, 0, none⟩ = some (.bool s4) := KC.out.cell 0
  have cC1 : w10.cell? ⟨w5.heap.size, 1, none⟩ = some (.slice A4 l4 c4) := KC.out.cell 1
  have cC2 : w10.cell? ⟨w5.heap.size, 2, none⟩ = some (.slice B4 m4 k4) := KC.out.cell 2
  go_wp2
  refine bodyPost_ret (v := .tuple #[.agg #[.bool s4, .slice A4 l4 c4, .slice B4 m4 k4], .int .i64 er]) (by simp [results, Try.results61, go_sem, *]) rfl ?_
  exact ⟨_, rfl, ⟨_, _, _, _, _, _, _, rfl, fun _ => QZ.past HQ4.out (NoInts.three KR.out)⟩, Ext.boxed HX.out (by omega) _ _ _⟩

set_option maxRecDepth 100000 in
set_option maxHeartbeats 2000000 in
theorem two_div (s0 : Bool) (A0 B0 : Option Addr) (l0 c0 m0 k0 : Nat) (s1 : Bool) (A1 B1 : Option Addr) (l1 c1 m1 k1 : Nat) (q r : Rat) (er : Int) (w : World) (hx : RatG w (.agg #[.bool s0, .slice A0 l0 c0, .slice B0 m0 k0]) q) (hy : RatG w (.agg #[.bool s1, .slice A1 l1 c1, .slice B1 m1 k1]) r) (hr : r ≠ 0) (he : SizeE (q / r) er) :
    Calls Try.prog 61 #[.int .i64 3, .agg #[.bool s0, .slice A0 l0 c0, .slice B0 m0 k0], .agg #[.bool s1, .slice A1 l1 c1, .slice B1 m1 k1]] w (RetQr w er (q / r)) := by
  have HXX := Lib.hid hx
  have HYY := Lib.hid hy
  have HFQ := Lib.hid (fitR_512 hx.fit)
  have HFR := Lib.hid (fitR_512 hy.fit)
  clear hx hy
  obtain ⟨L, hL⟩ : ∃ L : Nat, L = 512 := ⟨_, rfl⟩
  rw [← hL] at HFQ HFR
  have hL2 : L + L + 1 ≤ 400000 := by omega
  clear hL
  have HE := Lib.hid he
  clear he
  have HR := Lib.hid hr
  obtain ⟨sg, hsg⟩ : ∃ s, sgnQ r = s := ⟨_, rfl⟩
  have hs0 : (sg == 0) = false := by
    rw [← hsg]
    simp only [beq_eq_false_iff_ne, ne_eq]
    exact fun h => hr (sgnQ_is_zero h)
  have HS := Lib.hid hsg
  clear hsg hr
  have hXe : Ext w (((w.alloc (.cells #[.bool s0, .slice A0 l0 c0, .slice B0 m0 k0] 33)).alloc (.cells #[.bool s1, .slice A1 l1 c1, .slice B1 m1 k1] 33)).alloc (.cells #[.bool false, .slice none 0 0, .slice none 0 0] 42)) := ((((Ext.refl w).alloc _).alloc _).alloc _)
  have kA : Blk (((w.alloc (.cells #[.bool s0, .slice A0 l0 c0, .slice B0 m0 k0] 33)).alloc (.cells #[.bool s1, .slice A1 l1 c1, .slice B1 m1 k1] 33)).alloc (.cells #[.bool false, .slice none 0 0, .slice none 0 0] 42)) w.heap.size 33 #[.bool s0, .slice A0 l0 c0, .slice B0 m0 k0] := Blk.alloc (Blk.alloc (Blk.at_ (by simp)) _) _
  have kB : Blk (((w.alloc (.cells #[.bool s0, .slice A0 l0 c0, .slice B0 m0 k0] 33)).alloc (.cells #[.bool s1, .slice A1 l1 c1, .slice B1 m1 k1] 33)).alloc (.cells #[.bool false, .slice none 0 0, .slice none 0 0] 42)) (w.heap.size + 1) 33 #[.bool s1, .slice A1 l1 c1, .slice B1 m1 k1] := Blk.alloc (Blk.at_ (by simp)) _
  have kR : Blk (((w.alloc (.cells #[.bool s0, .slice A0 l0 c0, .slice B0 m0 k0] 33)).alloc (.cells #[.bool s1, .slice A1 l1 c1, .slice B1 m1 k1] 33)).alloc (.cells #[.bool false, .slice none 0 0, .slice none 0 0] 42)) (w.heap.size + 2) 42 #[.bool false, .slice none 0 0, .slice none 0 0] := Blk.at_ (by simp)
  go_enter Try.func61, Try.ntmps61
  go_wp2_with fail
  generalize (((w.alloc (.cells #[.bool s0, .slice A0 l0 c0, .slice B0 m0 k0] 33)).alloc (.cells #[.bool s1, .slice A1 l1 c1, .slice B1 m1 k1] 33)).alloc (.cells #[.bool false, .slice none 0 0, .slice none 0 0] 42)) = w1 at hXe kA kB kR ⊢
  have HX := Lib.hid hXe
  clear hXe
  have KA := Lib.hid kA
  clear kA
  have KB := Lib.hid kB
  clear kB
  have KR := Lib.hid kR
  clear kR
  replace HXX := Lib.hid (HXX.out.ext HX.out)
  replace HYY := Lib.hid (HYY.out.ext HX.out)
  have cA0 : w1.cell? ⟨w.heap.size, 0, none⟩ = some (.bool s0) := KA.out.cell 0
  have cA1 : w1.cell? ⟨w.heap.size, 1, none⟩ = some (.slice A0 l0 c0) := KA.out.cell 1
  have cA2 : w1.cell? ⟨w.heap.size, 2, none⟩ = some (.slice B0 m0 k0) := KA.out.cell 2
  go_wp2_with fail
  clear cA0 cA1 cA2
  refine (rof_yes HXX.out).mono ?_
  rintro e w2 ⟨v2, rfl, h2, hX⟩
  replace hX : Ext w1 w2 := by with_reducible exact hX
  replace HX := Lib.hid (HX.out.trans hX)
  replace HXX := Lib.hid (HXX.out.ext hX)
  replace HYY := Lib.hid (HYY.out.ext hX)
  replace KA := Lib.hid (KA.out.ext hX)
  replace KB := Lib.hid (KB.out.ext hX)
  replace KR := Lib.hid (KR.out.ext hX)
  clear hX
  obtain ⟨s2, A2, l2, c2, B2, m2, k2, rfl⟩ := h2.open
  have HQ2 := Lib.hid h2
  clear h2
  go_upto_region 2 with (fail)
  have hXa : Ext w2 (w2.alloc (.cells #[.bool s2, .slice A2 l2 c2, .slice B2 m2 k2] 42)) := (Ext.refl _).alloc _
  have kX := Blk.new w2 42 #[.bool s2, .slice A2 l2 c2, .slice B2 m2 k2]
  have zA := KA.out.lt
  have zB := KB.out.lt
  have zR := KR.out.lt
  have zg := HX.out.size
  replace HX := Lib.hid (HX.out.trans hXa)
  replace HXX := Lib.hid (HXX.out.ext hXa)
  replace HYY := Lib.hid (HYY.out.ext hXa)
  replace HQ2 := Lib.hid (HQ2.out.ext hXa)
  replace KA := Lib.hid (KA.out.ext hXa)
  replace KB := Lib.hid (KB.out.ext hXa)
  replace KR := Lib.hid (KR.out.ext hXa)
  generalize (w2.alloc (.cells #[.bool s2, .slice A2 l2 c2, .slice B2 m2 k2] 42)) = w3 at HX HXX HYY HQ2 KA KB KR kX ⊢
  have KX := Lib.hid kX
  clear kX hXa
  have cB0 : w3.cell? ⟨(w.heap.size + 1), 0, none⟩ = some (.bool s1) := KB.out.cell 0
  have cB1 : w3.cell? ⟨(w.heap.size + 1), 1, none⟩ = some (.slice A1 l1 c1) := KB.out.cell 1
  have cB2 : w3.cell? ⟨(w.heap.size + 1), 2, none⟩ = some (.slice B1 m1 k1) := KB.out.cell 2
  go_wp2_with fail
  clear cB0 cB1 cB2
  refine (rof_yes HYY.out).mono ?_
  rintro e w4 ⟨v3, rfl, h3, hX⟩
  replace hX : Ext w3 w4 := by with_reducible exact hX
  replace HX := Lib.hid (HX.out.trans hX)
  replace HXX := Lib.hid (HXX.out.ext hX)
  replace HYY := Lib.hid (HYY.out.ext hX)
  replace HQ2 := Lib.hid (HQ2.out.ext hX)
  replace KA := Lib.hid (KA.out.ext hX)
  replace KB := Lib.hid (KB.out.ext hX)
  replace KR := Lib.hid (KR.out.ext hX)
  replace KX := Lib.hid (KX.out.ext hX)
  clear hX
  obtain ⟨s3, A3, l3, c3, B3, m3, k3, rfl⟩ := h3.open
  have HQ3 := Lib.hid h3
  clear h3
  clear HXX
  clear HYY
  clear KA
  clear KB
  go_upto_region 3 with (fail)
  have hXa : Ext w4 (w4.alloc (.cells #[.bool s3, .slice A3 l3 c3, .slice B3 m3 k3] 42)) := (Ext.refl _).alloc _
  have kY := Blk.new w4 42 #[.bool s3, .slice A3 l3 c3, .slice B3 m3 k3]
  have zR := KR.out.lt
  have zX := KX.out.lt
  have zg := HX.out.size
  replace HX := Lib.hid (HX.out.trans hXa)
  replace HQ2 := Lib.hid (HQ2.out.ext hXa)
  replace HQ3 := Lib.hid (HQ3.out.ext hXa)
  replace KR := Lib.hid (KR.out.ext hXa)
  replace KX := Lib.hid (KX.out.ext hXa)
  generalize (w4.alloc (.cells #[.bool s3, .slice A3 l3 c3, .slice B3 m3 k3] 42)) = w5 at HX HQ2 HQ3 KR KX kY ⊢
  have KY := Lib.hid kY
  clear kY hXa
  go_upto_region 6 with (fail)
  have hXa : Ext w5 (w5.alloc (.cells #[.bool false, .slice none 0 0, .slice none 0 0] 42)) := (Ext.refl _).alloc _
  have kC := Blk.new w5 42 #[.bool false, .slice none 0 0, .slice none 0 0]
  have zR := KR.out.lt
  have zX := KX.out.lt
  have zY := KY.out.lt
  have zg := HX.out.size
  replace HX := Lib.hid (HX.out.trans hXa)
  replace HQ2 := Lib.hid (HQ2.out.ext hXa)
  replace HQ3 := Lib.hid (HQ3.out.ext hXa)
  replace KR := Lib.hid (KR.out.ext hXa)
  replace KX := Lib.hid (KX.out.ext hXa)
  replace KY := Lib.hid (KY.out.ext hXa)
  generalize (w5.alloc (.cells #[.bool false, .slice none 0 0, .slice none 0 0] 42)) = w6 at HX HQ2 HQ3 KR KX KY kC ⊢
  have KC := Lib.hid kC
  clear kC hXa
  have cX0 : w6.cell? ⟨w2.heap.size, 0, none⟩ = some (.bool s2) := KX.out.cell 0
  have cX1 : w6.cell? ⟨w2.heap.size, 1, none⟩ = some (.slice A2 l2 c2) := KX.out.cell 1
  have cX2 : w6.cell? ⟨w2.heap.size, 2, none⟩ = some (.slice B2 m2 k2) := KX.out.cell 2
  have cY0 : w6.cell? ⟨w4.heap.size, 0, none⟩ = some (.bool s3) := KY.out.cell 0
  have cY1 : w6.cell? ⟨w4.heap.size, 1, none⟩ = some (.slice A3 l3 c3) := KY.out.cell 1
  have cY2 : w6.cell? ⟨w4.heap.size, 2, none⟩ = some (.slice B3 m3 k3) := KY.out.cell 2
  go_wp2_with fail
  clear cX0 cX1 cX2 cY0 cY1 cY2
  refine (rsign_any _ _ _ HQ3.out.num).mono ?_
  rw [sgI_num, HS.out]
  rintro e w7 ⟨rfl, hX⟩
  replace hX : Ext w6 w7 := by with_reducible exact hX
  replace HX := Lib.hid (HX.out.trans hX)
  replace HQ2 := Lib.hid (HQ2.out.ext hX)
  replace HQ3 := Lib.hid (HQ3.out.ext hX)
  replace KR := Lib.hid (KR.out.ext hX)
  replace KX := Lib.hid (KX.out.ext hX)
  replace KY := Lib.hid (KY.out.ext hX)
  replace KC := Lib.hid (KC.out.ext hX)
  clear hX
  have cX0 : w7.cell? ⟨w2.heap.size, 0, none⟩ = some (.bool s2) := KX.out.cell 0
  have cX1 : w7.cell? ⟨w2.heap.size, 1, none⟩ = some (.slice A2 l2 c2) := KX.out.cell 1
  have cX2 : w7.cell? ⟨w2.heap.size, 2, none⟩ = some (.slice B2 m2 k2) := KX.out.cell 2
  have cY0 : w7.cell? ⟨w4.heap.size, 0, none⟩ = some (.bool s3) := KY.out.cell 0
  have cY1 : w7.cell? ⟨w4.heap.size, 1, none⟩ = some (.slice A3 l3 c3) := KY.out.cell 1
  have cY2 : w7.cell? ⟨w4.heap.size, 2, none⟩ = some (.slice B3 m3 k3) := KY.out.cell 2
  go_wp2_with fail
  clear cX0 cX1 cX2 cY0 cY1 cY2
  refine (qdiv_any _ _ q r L L _ HQ2.out HQ3.out HFQ.out HFR.out hL2 HR.out).mono ?_
  rintro e w8 ⟨v4, rfl, h4, hX⟩
  replace hX : Ext w7 w8 := by with_reducible exact hX
  replace HX := Lib.hid (HX.out.trans hX)
  replace HQ2 := Lib.hid (HQ2.out.ext hX)
  replace HQ3 := Lib.hid (HQ3.out.ext hX)
  replace KR := Lib.hid (KR.out.ext hX)
  replace KX := Lib.hid (KX.out.ext hX)
  replace KY := Lib.hid (KY.out.ext hX)
  replace KC := Lib.hid (KC.out.ext hX)
  clear hX
  obtain ⟨s4, A4, l4, c4, B4, m4, k4, rfl⟩ := h4.open
  have HQ4 := Lib.hid h4
  clear h4
  clear HQ2
  clear HQ3
  clear KX
  clear KY
  have cC0 : w8.cell? ⟨w5.heap.size, 0, none⟩ = some (.bool false) := KC.out.cell 0
  have fC0 : w8.frozen? ⟨w5.heap.size, 0, none⟩ = false := KC.out.free 0
  have cC1 : w8.cell? ⟨w5.heap.size, 1, none⟩ = some (.slice none 0 0) := KC.out.cell 1
  have fC1 : w8.frozen? ⟨w5.heap.size, 1, none⟩ = false := KC.out.free 1
  have cC2 : w8.cell? ⟨w5.heap.size, 2, none⟩ = some (.slice none 0 0) := KC.out.cell 2
  have fC2 : w8.frozen? ⟨w5.heap.size, 2, none⟩ = false := KC.out.free 2
  go_upto_region 16 with (fail)
  clear cC0 fC0 cC1 fC1 cC2 fC2
  have hXs : Ext w (((w8.setCell ⟨w5.heap.size, 0, none⟩ (.bool s4)).setCell ⟨w5.heap.size, 1, none⟩ (.slice A4 l4 c4)).setCell ⟨w5.heap.size, 2, none⟩ (.slice B4 m4 k4)) := (((HX.out.setCell (show w.heap.size ≤ w5.heap.size by omega) _).setCell (show w.heap.size ≤ w5.heap.size by omega) _).setCell (show w.heap.size ≤ w5.heap.size by omega) _)
  have kR : Blk (((w8.setCell ⟨w5.heap.size, 0, none⟩ (.bool s4)).setCell ⟨w5.heap.size, 1, none⟩ (.slice A4 l4 c4)).setCell ⟨w5.heap.size, 2, none⟩ (.slice B4 m4 k4)) (w.heap.size + 2) 42 #[.bool false, .slice none 0 0, .slice none 0 0] := (Blk.far (Blk.far (Blk.far KR.out (show (w.heap.size + 2) ≠ w5.heap.size by omega) _) (show (w.heap.size + 2) ≠ w5.heap.size by omega) _) (show (w.heap.size + 2) ≠ w5.heap.size by omega) _)
  have kC : Blk (((w8.setCell ⟨w5.heap.size, 0, none⟩ (.bool s4)).setCell ⟨w5.heap.size, 1, none⟩ (.slice A4 l4 c4)).setCell ⟨w5.heap.size, 2, none⟩ (.slice B4 m4 k4)) w5.heap.size 42 #[.bool s4, .slice A4 l4 c4, .slice B4 m4 k4] := (Blk.set (Blk.set (Blk.set KC.out 0 _) 1 _) 2 _)
  have hHQ4 := QZ.past HQ4.out (NoInts.three KC.out)
  generalize (((w8.setCell ⟨w5.heap.size, 0, none⟩ (.bool s4)).setCell ⟨w5.heap.size, 1, none⟩ (.slice A4 l4 c4)).setCell ⟨w5.heap.size, 2, none⟩ (.slice B4 m4 k4)) = w9 at hXs kR kC hHQ4 ⊢
  clear HX KR KC HQ4
  have HX := Lib.hid hXs
  clear hXs
  have KR := Lib.hid kR
  clear kR
  have KC := Lib.hid kC
  clear kC
  have HQ4 := Lib.hid hHQ4
  clear hHQ4
  have cC0 : w9.cell? ⟨w5.heap.size, 0, none⟩ = some (.bool s4) := KC.out.cell 0
  have cC1 : w9.cell? ⟨w5.heap.size, 1, none⟩ = some (.slice A4 l4 c4) := KC.out.cell 1
  have cC2 : w9.cell? ⟨w5.heap.size, 2, none⟩ = some (.slice B4 m4 k4) := KC.out.cell 2
  go_wp2_with fail
  clear cC0 cC1 cC2
  refine (rout_e HQ4.out HE.out).mono ?_
  rintro e w10 ⟨s5, A5, l5, c5, B5, m5, k5, rfl, hX⟩
  replace hX : Ext w9 w10 := by with_reducible exact hX
  replace HX := Lib.hid (HX.out.trans hX)
  replace HQ4 := Lib.hid (HQ4.out.ext hX)
  replace KR := Lib.hid (KR.out.ext hX)
  replace KC := Lib.hid (KC.out.ext hX)
  clear hX
  go_upto_region 17 with (fail)
  have hXa : Ext w10 (w10.alloc (.cells #[.bool s5, .slice A5 l5 c5, .slice B5 m5 k5] 33)) := (Ext.refl _).alloc _
  have kO := Blk.new w10 33 #[.bool s5, .slice A5 l5 c5, .slice B5 m5 k5]
  have zR := KR.out.lt
  have zC := KC.out.lt
  have zg := HX.out.size
  replace HX := Lib.hid (HX.out.trans hXa)
  replace HQ4 := Lib.hid (HQ4.out.ext hXa)
  replace KR := Lib.hid (KR.out.ext hXa)
  replace KC := Lib.hid (KC.out.ext hXa)
  generalize (w10.alloc (.cells #[.bool s5, .slice A5 l5 c5, .slice B5 m5 k5] 33)) = w11 at HX HQ4 KR KC kO ⊢
  have KO := Lib.hid kO
  clear kO hXa
  have cR0 : w11.cell? ⟨(w.heap.size + 2), 0, none⟩ = some (.bool false) := KR.out.cell 0
  have fR0 : w11.frozen? ⟨(w.heap.size + 2), 0, none⟩ = false := KR.out.free 0
  have cR1 : w11.cell? ⟨(w.heap.size + 2), 1, none⟩ = some (.slice none 0 0) := KR.out.cell 1
  have fR1 : w11.frozen? ⟨(w.heap.size + 2), 1, none⟩ = false := KR.out.free 1
  have cR2 : w11.cell? ⟨(w.heap.size + 2), 2, none⟩ = some (.slice none 0 0) := KR.out.cell 2
  have fR2 : w11.frozen? ⟨(w.heap.size + 2), 2, none⟩ = false := KR.out.free 2
  have cC0 : w11.cell? ⟨w5.heap.size, 0, none⟩ = some (.bool s4) := KC.out.cell 0
  have cC1 : w11.cell? ⟨w5.heap.size, 1, none⟩ = some (.slice A4 l4 c4) := KC.out.cell 1
  have cC2 : w11.cell? ⟨w5.heap.size, 2, none⟩ = some (.slice B4 m4 k4) := KC.out.cell 2
  go_wp2
  refine bodyPost_ret (v := .tuple #[.agg #[.bool s4, .slice A4 l4 c4, .slice B4 m4 k4], .int .i64 er]) (by simp [results, Try.results61, go_sem, *]) rfl ?_
  exact ⟨_, rfl, ⟨_, _, _, _, _, _, _, rfl, fun _ => QZ.past HQ4.out (NoInts.three KR.out)⟩, Ext.boxed HX.out (by omega) _ _ _⟩

set_option maxRecDepth 100000 in
set_option maxHeartbeats 2000000 in
theorem two_zero (s0 : Bool) (A0 B0 : Option Addr) (l0 c0 m0 k0 : Nat) (s1 : Bool) (A1 B1 : Option Addr) (l1 c1 m1 k1 : Nat) (q r : Rat) (er : Int) (w : World) (hx : RatG w (.agg #[.bool s0, .slice A0 l0 c0, .slice B0 m0 k0]) q) (hy : RatG w (.agg #[.bool s1, .slice A1 l1 c1, .slice B1 m1 k1]) r) (hr : r = 0) (he : er = 10) :
    Calls Try.prog 61 #[.int .i64 3, .agg #[.bool s0, .slice A0 l0 c0, .slice B0 m0 k0], .agg #[.bool s1, .slice A1 l1 c1, .slice B1 m1 k1]] w (RetQr w er (q / r)) := by
  have HXX := Lib.hid hx
  have HYY := Lib.hid hy
  have HFQ := Lib.hid (fitR_512 hx.fit)
  have HFR := Lib.hid (fitR_512 hy.fit)
  clear hx hy
  obtain ⟨L, hL⟩ : ∃ L : Nat, L = 512 := ⟨_, rfl⟩
  rw [← hL] at HFQ HFR
  have hL2 : L + L + 1 ≤ 400000 := by omega
  clear hL
  have HS : Hid (sgnQ r = 0) := by show _ = _; rw [hr]; rfl
  clear hr
  subst he
  have hXe : Ext w (((w.alloc (.cells #[.bool s0, .slice A0 l0 c0, .slice B0 m0 k0] 33)).alloc (.cells #[.bool s1, .slice A1 l1 c1, .slice B1 m1 k1] 33)).alloc (.cells #[.bool false, .slice none 0 0, .slice none 0 0] 42)) := ((((Ext.refl w).alloc _).alloc _).alloc _)
  have kA : Blk (((w.alloc (.cells #[.bool s0, .slice A0 l0 c0, .slice B0 m0 k0] 33)).alloc (.cells #[.bool s1, .slice A1 l1 c1, .slice B1 m1 k1] 33)).alloc (.cells #[.bool false, .slice none 0 0, .slice none 0 0] 42)) w.heap.size 33 #[.bool s0, .slice A0 l0 c0, .slice B0 m0 k0] := Blk.alloc (Blk.alloc (Blk.at_ (by simp)) _) _
  have kB : Blk (((w.alloc (.cells #[.bool s0, .slice A0 l0 c0, .slice B0 m0 k0] 33)).alloc (.cells #[.bool s1, .slice A1 l1 c1, .slice B1 m1 k1] 33)).alloc (.cells #[.bool false, .slice none 0 0, .slice none 0 0] 42)) (w.heap.size + 1) 33 #[.bool s1, .slice A1 l1 c1, .slice B1 m1 k1] := Blk.alloc (Blk.at_ (by simp)) _
  have kR : Blk (((w.alloc (.cells #[.bool s0, .slice A0 l0 c0, .slice B0 m0 k0] 33)).alloc (.cells #[.bool s1, .slice A1 l1 c1, .slice B1 m1 k1] 33)).alloc (.cells #[.bool false, .slice none 0 0, .slice none 0 0] 42)) (w.heap.size + 2) 42 #[.bool false, .slice none 0 0, .slice none 0 0] := Blk.at_ (by simp)
  go_enter Try.func61, Try.ntmps61
  go_wp2_with fail
  generalize (((w.alloc (.cells #[.bool s0, .slice A0 l0 c0, .slice B0 m0 k0] 33)).alloc (.cells #[.bool s1, .slice A1 l1 c1, .slice B1 m1 k1] 33)).alloc (.cells #[.bool false, .slice none 0 0, .slice none 0 0] 42)) = w1 at hXe kA kB kR ⊢
  have HX := Lib.hid hXe
  clear hXe
  have KA := Lib.hid kA
  clear kA
  have KB := Lib.hid kB
  clear kB
  have KR := Lib.hid kR
  clear kR
  replace HXX := Lib.hid (HXX.out.ext HX.out)
  replace HYY := Lib.hid (HYY.out.ext HX.out)
  have cA0 : w1.cell? ⟨w.heap.size, 0, none⟩ = some (.bool s0) := KA.out.cell 0
  have cA1 : w1.cell? ⟨w.heap.size, 1, none⟩ = some (.slice A0 l0 c0) := KA.out.cell 1
  have cA2 : w1.cell? ⟨w.heap.size, 2, none⟩ = some (.slice B0 m0 k0) := KA.out.cell 2
  go_wp2_with fail
  clear cA0 cA1 cA2
  refine (rof_yes HXX.out).mono ?_
  rintro e w2 ⟨v2, rfl, h2, hX⟩
  replace hX : Ext w1 w2 := by with_reducible exact hX
  replace HX := Lib.hid (HX.out.trans hX)
  replace HXX := Lib.hid (HXX.out.ext hX)
  replace HYY := Lib.hid (HYY.out.ext hX)
  replace KA := Lib.hid (KA.out.ext hX)
  replace KB := Lib.hid (KB.out.ext hX)
  replace KR := Lib.hid (KR.out.ext hX)
  clear hX
  obtain ⟨s2, A2, l2, c2, B2, m2, k2, rfl⟩ := h2.open
  have HQ2 := Lib.hid h2
  clear h2
  go_upto_region 2 with (fail)
  have hXa : Ext w2 (w2.alloc (.cells #[.bool s2, .slice A2 l2 c2, .slice B2 m2 k2] 42)) := (Ext.refl _).alloc _
  have kX := Blk.new w2 42 #[.bool s2, .slice A2 l2 c2, .slice B2 m2 k2]
  have zA := KA.out.lt
  have zB := KB.out.lt
  have zR := KR.out.lt
  have zg := HX.out.size
  replace HX := Lib.hid (HX.out.trans hXa)
  replace HXX := Lib.hid (HXX.out.ext hXa)
  replace HYY := Lib.hid (HYY.out.ext hXa)
  replace HQ2 := Lib.hid (HQ2.out.ext hXa)
  replace KA := Lib.hid (KA.out.ext hXa)
  replace KB := Lib.hid (KB.out.ext hXa)
  replace KR := Lib.hid (KR.out.ext hXa)
  generalize (w2.alloc (.cells #[.bool s2, .slice A2 l2 c2, .slice B2 m2 k2] 42)) = w3 at HX HXX HYY HQ2 KA KB KR kX ⊢
  have KX := Lib.hid kX
  clear kX hXa
  have cB0 : w3.cell? ⟨(w.heap.size + 1), 0, none⟩ = some (.bool s1) := KB.out.cell 0
  have cB1 : w3.cell? ⟨(w.heap.size + 1), 1, none⟩ = some (.slice A1 l1 c1) := KB.out.cell 1
  have cB2 : w3.cell? ⟨(w.heap.size + 1), 2, none⟩ = some (.slice B1 m1 k1) := KB.out.cell 2
  go_wp2_with fail
  clear cB0 cB1 cB2
  refine (rof_yes HYY.out).mono ?_
  rintro e w4 ⟨v3, rfl, h3, hX⟩
  replace hX : Ext w3 w4 := by with_reducible exact hX
  replace HX := Lib.hid (HX.out.trans hX)
  replace HXX := Lib.hid (HXX.out.ext hX)
  replace HYY := Lib.hid (HYY.out.ext hX)
  replace HQ2 := Lib.hid (HQ2.out.ext hX)
  replace KA := Lib.hid (KA.out.ext hX)
  replace KB := Lib.hid (KB.out.ext hX)
  replace KR := Lib.hid (KR.out.ext hX)
  replace KX := Lib.hid (KX.out.ext hX)
  clear hX
  obtain ⟨s3, A3, l3, c3, B3, m3, k3, rfl⟩ := h3.open
  have HQ3 := Lib.hid h3
  clear h3
  clear HXX
  clear HYY
  clear KA
  clear KB
  go_upto_region 3 with (fail)
  have hXa : Ext w4 (w4.alloc (.cells #[.bool s3, .slice A3 l3 c3, .slice B3 m3 k3] 42)) := (Ext.refl _).alloc _
  have kY := Blk.new w4 42 #[.bool s3, .slice A3 l3 c3, .slice B3 m3 k3]
  have zR := KR.out.lt
  have zX := KX.out.lt
  have zg := HX.out.size
  replace HX := Lib.hid (HX.out.trans hXa)
  replace HQ2 := Lib.hid (HQ2.out.ext hXa)
  replace HQ3 := Lib.hid (HQ3.out.ext hXa)
  replace KR := Lib.hid (KR.out.ext hXa)
  replace KX := Lib.hid (KX.out.ext hXa)
  generalize (w4.alloc (.cells #[.bool s3, .slice A3 l3 c3, .slice B3 m3 k3] 42)) = w5 at HX HQ2 HQ3 KR KX kY ⊢
  have KY := Lib.hid kY
  clear kY hXa
  go_upto_region 6 with (fail)
  have hXa : Ext w5 (w5.alloc (.cells #[.bool false, .slice none 0 0, .slice none 0 0] 42)) := (Ext.refl _).alloc _
  have kC := Blk.new w5 42 #[.bool false, .slice none 0 0, .slice none 0 0]
  have zR := KR.out.lt
  have zX := KX.out.lt
  have zY := KY.out.lt
  have zg := HX.out.size
  replace HX := Lib.hid (HX.out.trans hXa)
  replace HQ2 := Lib.hid (HQ2.out.ext hXa)
  replace HQ3 := Lib.hid (HQ3.out.ext hXa)
  replace KR := Lib.hid (KR.out.ext hXa)
  replace KX := Lib.hid (KX.out.ext hXa)
  replace KY := Lib.hid (KY.out.ext hXa)
  generalize (w5.alloc (.cells #[.bool false, .slice none 0 0, .slice none 0 0] 42)) = w6 at HX HQ2 HQ3 KR KX KY kC ⊢
  have KC := Lib.hid kC
  clear kC hXa
  have cX0 : w6.cell? ⟨w2.heap.size, 0, none⟩ = some (.bool s2) := KX.out.cell 0
  have cX1 : w6.cell? ⟨w2.heap.size, 1, none⟩ = some (.slice A2 l2 c2) := KX.out.cell 1
  have cX2 : w6.cell? ⟨w2.heap.size, 2, none⟩ = some (.slice B2 m2 k2) := KX.out.cell 2
  have cY0 : w6.cell? ⟨w4.heap.size, 0, none⟩ = some (.bool s3) := KY.out.cell 0
  have cY1 : w6.cell? ⟨w4.heap.size, 1, none⟩ = some (.slice A3 l3 c3) := KY.out.cell 1
  have cY2 : w6.cell? ⟨w4.heap.size, 2, none⟩ = some (.slice B3 m3 k3) := KY.out.cell 2
  go_wp2_with fail
  clear cX0 cX1 cX2 cY0 cY1 cY2
  refine (rsign_any _ _ _ HQ3.out.num).mono ?_
  rw [sgI_num, HS.out]
  rintro e w7 ⟨rfl, hX⟩
  replace hX : Ext w6 w7 := by with_reducible exact hX
  replace HX := Lib.hid (HX.out.trans hX)
  replace HQ2 := Lib.hid (HQ2.out.ext hX)
  replace HQ3 := Lib.hid (HQ3.out.ext hX)
  replace KR := Lib.hid (KR.out.ext hX)
  replace KX := Lib.hid (KX.out.ext hX)
  replace KY := Lib.hid (KY.out.ext hX)
  replace KC := Lib.hid (KC.out.ext hX)
  clear hX
  have cR0 : w7.cell? ⟨(w.heap.size + 2), 0, none⟩ = some (.bool false) := KR.out.cell 0
  have fR0 : w7.frozen? ⟨(w.heap.size + 2), 0, none⟩ = false := KR.out.free 0
  have cR1 : w7.cell? ⟨(w.heap.size + 2), 1, none⟩ = some (.slice none 0 0) := KR.out.cell 1
  have fR1 : w7.frozen? ⟨(w.heap.size + 2), 1, none⟩ = false := KR.out.free 1
  have cR2 : w7.cell? ⟨(w.heap.size + 2), 2, none⟩ = some (.slice none 0 0) := KR.out.cell 2
  have fR2 : w7.frozen? ⟨(w.heap.size + 2), 2, none⟩ = false := KR.out.free 2
  go_wp2
  refine bodyPost_ret (v := .tuple #[.agg #[.bool false, .slice none 0 0, .slice none 0 0], .int .i64 10]) (by simp [results, Try.results61, go_sem, *]) rfl ?_
  exact ⟨_, rfl, ⟨_, _, _, _, _, _, _, rfl, fun h => absurd h (by omega)⟩, Ext.boxed HX.out (by omega) _ _ _⟩

set_option maxRecDepth 100000 in
set_option maxHeartbeats 2000000 in
theorem two_nxs (s0 : Bool) (A0 B0 : Option Addr) (l0 c0 m0 k0 : Nat) (s1 : Bool) (A1 B1 : Option Addr) (l1 c1 m1 k1 : Nat) (q : Rat) (op : Int) (w : World) (hx : RatL w (.agg #[.bool s0, .slice A0 l0 c0, .slice B0 m0 k0]) true) (hy : RatG w (.agg #[.bool s1, .slice A1 l1 c1, .slice B1 m1 k1]) q) :
    Calls Try.prog 61 #[.int .i64 op, .agg #[.bool s0, .slice A0 l0 c0, .slice B0 m0 k0], .agg #[.bool s1, .slice A1 l1 c1, .slice B1 m1 k1]] w (RetE w (.agg #[.bool false, .slice none 0 0, .slice none 0 0]) 1) := by
  have HXX := Lib.hid hx
  have HYY := Lib.hid hy
  clear hx hy
  have hXe : Ext w (((w.alloc (.cells #[.bool s0, .slice A0 l0 c0, .slice B0 m0 k0] 33)).alloc (.cells #[.bool s1, .slice A1 l1 c1, .slice B1 m1 k1] 33)).alloc (.cells #[.bool false, .slice none 0 0, .slice none 0 0] 42)) := ((((Ext.refl w).alloc _).alloc _).alloc _)
  have kA : Blk (((w.alloc (.cells #[.bool s0, .slice A0 l0 c0, .slice B0 m0 k0] 33)).alloc (.cells #[.bool s1, .slice A1 l1 c1, .slice B1 m1 k1] 33)).alloc (.cells #[.bool false, .slice none 0 0, .slice none 0 0] 42)) w.heap.size 33 #[.bool s0, .slice A0 l0 c0, .slice B0 m0 k0] := Blk.alloc (Blk.alloc (Blk.at_ (by simp)) _) _
  have kB : Blk (((w.alloc (.cells #[.bool s0, .slice A0 l0 c0, .slice B0 m0 k0] 33)).alloc (.cells #[.bool s1, .slice A1 l1 c1, .slice B1 m1 k1] 33)).alloc (.cells #[.bool false, .slice none 0 0, .slice none 0 0] 42)) (w.heap.size + 1) 33 #[.bool s1, .slice A1 l1 c1, .slice B1 m1 k1] := Blk.alloc (Blk.at_ (by simp)) _
  have kR : Blk (((w.alloc (.cells #[.bool s0, .slice A0 l0 c0, .slice B0 m0 k0] 33)).alloc (.cells #[.bool s1, .slice A1 l1 c1, .slice B1 m1 k1] 33)).alloc (.cells #[.bool false, .slice none 0 0, .slice none 0 0] 42)) (w.heap.size + 2) 42 #[.bool false, .slice none 0 0, .slice none 0 0] := Blk.at_ (by simp)
  go_enter Try.func61, Try.ntmps61
  go_wp2_with fail
  generalize (((w.alloc (.cells #[.bool s0, .slice A0 l0 c0, .slice B0 m0 k0] 33)).alloc (.cells #[.bool s1, .slice A1 l1 c1, .slice B1 m1 k1] 33)).alloc (.cells #[.bool false, .slice none 0 0, .slice none 0 0] 42)) = w1 at hXe kA kB kR ⊢
  have HX := Lib.hid hXe
  clear hXe
  have KA := Lib.hid kA
  clear kA
  have KB := Lib.hid kB
  clear kB
  have KR := Lib.hid kR
  clear kR
  replace HXX := Lib.hid (HXX.out.ext HX.out)
  replace HYY := Lib.hid (HYY.out.ext HX.out)
  have cA0 : w1.cell? ⟨w.heap.size, 0, none⟩ = some (.bool s0) := KA.out.cell 0
  have cA1 : w1.cell? ⟨w.heap.size, 1, none⟩ = some (.slice A0 l0 c0) := KA.out.cell 1
  have cA2 : w1.cell? ⟨w.heap.size, 2, none⟩ = some (.slice B0 m0 k0) := KA.out.cell 2
  go_wp2_with fail
  clear cA0 cA1 cA2
  refine (rof_no HXX.out).mono ?_
  rintro e w2 ⟨rfl, hX⟩
  replace hX : Ext w1 w2 := by with_reducible exact hX
  replace HX := Lib.hid (HX.out.trans hX)
  replace HXX := Lib.hid (HXX.out.ext hX)
  replace HYY := Lib.hid (HYY.out.ext hX)
  replace KA := Lib.hid (KA.out.ext hX)
  replace KB := Lib.hid (KB.out.ext hX)
  replace KR := Lib.hid (KR.out.ext hX)
  clear hX
  go_upto_region 2 with (fail)
  have hXa : Ext w2 (w2.alloc (.cells #[.bool false, .slice none 0 0, .slice none 0 0] 42)) := (Ext.refl _).alloc _
  have kX := Blk.new w2 42 #[.bool false, .slice none 0 0, .slice none 0 0]
  have zA := KA.out.lt
  have zB := KB.out.lt
  have zR := KR.out.lt
  have zg := HX.out.size
  replace HX := Lib.hid (HX.out.trans hXa)
  replace HXX := Lib.hid (HXX.out.ext hXa)
  replace HYY := Lib.hid (HYY.out.ext hXa)
  replace KA := Lib.hid (KA.out.ext hXa)
  replace KB := Lib.hid (KB.out.ext hXa)
  replace KR := Lib.hid (KR.out.ext hXa)
  generalize (w2.alloc (.cells #[.bool false, .slice none 0 0, .slice none 0 0] 42)) = w3 at HX HXX HYY KA KB KR kX ⊢
  have KX := Lib.hid kX
  clear kX hXa
  have cB0 : w3.cell? ⟨(w.heap.size + 1), 0, none⟩ = some (.bool s1) := KB.out.cell 0
  have cB1 : w3.cell? ⟨(w.heap.size + 1), 1, none⟩ = some (.slice A1 l1 c1) := KB.out.cell 1
  have cB2 : w3.cell? ⟨(w.heap.size + 1), 2, none⟩ = some (.slice B1 m1 k1) := KB.out.cell 2
  go_wp2_with fail
  clear cB0 cB1 cB2
  refine (rof_yes HYY.out).mono ?_
  rintro e w4 ⟨v3, rfl, h3, hX⟩
  replace hX : Ext w3 w4 := by with_reducible exact hX
  replace HX := Lib.hid (HX.out.trans hX)
  replace HXX := Lib.hid (HXX.out.ext hX)
  replace HYY := Lib.hid (HYY.out.ext hX)
  replace KA := Lib.hid (KA.out.ext hX)
  replace KB := Lib.hid (KB.out.ext hX)
  replace KR := Lib.hid (KR.out.ext hX)
  replace KX := Lib.hid (KX.out.ext hX)
  clear hX
  obtain ⟨s3, A3, l3, c3, B3, m3, k3, rfl⟩ := h3.open
  have HQ3 := Lib.hid h3
  clear h3
  go_upto_region 3 with (fail)
  have hXa : Ext w4 (w4.alloc (.cells #[.bool s3, .slice A3 l3 c3, .slice B3 m3 k3] 42)) := (Ext.refl _).alloc _
  have kY := Blk.new w4 42 #[.bool s3, .slice A3 l3 c3, .slice B3 m3 k3]
  have zA := KA.out.lt
  have zB := KB.out.lt
  have zR := KR.out.lt
  have zX := KX.out.lt
  have zg := HX.out.size
  replace HX := Lib.hid (HX.out.trans hXa)
  replace HXX := Lib.hid (HXX.out.ext hXa)
  replace HYY := Lib.hid (HYY.out.ext hXa)
  replace HQ3 := Lib.hid (HQ3.out.ext hXa)
  replace KA := Lib.hid (KA.out.ext hXa)
  replace KB := Lib.hid (KB.out.ext hXa)
  replace KR := Lib.hid (KR.out.ext hXa)
  replace KX := Lib.hid (KX.out.ext hXa)
  generalize (w4.alloc (.cells #[.bool s3, .slice A3 l3 c3, .slice B3 m3 k3] 42)) = w5 at HX HXX HYY HQ3 KA KB KR KX kY ⊢
  have KY := Lib.hid kY
  clear kY hXa
  have cR0 : w5.cell? ⟨(w.heap.size + 2), 0, none⟩ = some (.bool false) := KR.out.cell 0
  have fR0 : w5.frozen? ⟨(w.heap.size + 2), 0, none⟩ = false := KR.out.free 0
  have cR1 : w5.cell? ⟨(w.heap.size + 2), 1, none⟩ = some (.slice none 0 0) := KR.out.cell 1
  have fR1 : w5.frozen? ⟨(w.heap.size + 2), 1, none⟩ = false := KR.out.free 1
  have cR2 : w5.cell? ⟨(w.heap.size + 2), 2, none⟩ = some (.slice none 0 0) := KR.out.cell 2
  have fR2 : w5.frozen? ⟨(w.heap.size + 2), 2, none⟩ = false := KR.out.free 2
  go_wp2
  refine bodyPost_ret (v := .tuple #[.agg #[.bool false, .slice none 0 0, .slice none 0 0], .int .i64 1]) (by simp [results, Try.results61, go_sem, *]) rfl ?_
  exact ⟨rfl, Ext.boxed HX.out (by omega) _ _ _⟩

set_option maxRecDepth 100000 in
set_option maxHeartbeats 2000000 in
theorem two_nxb (s0 : Bool) (A0 B0 : Option Addr) (l0 c0 m0 k0 : Nat) (s1 : Bool) (A1 B1 : Option Addr) (l1 c1 m1 k1 : Nat) (q : Rat) (op : Int) (w : World) (hx : RatL w (.agg #[.bool s0, .slice A0 l0 c0, .slice B0 m0 k0]) true) (hy : RatL w (.agg #[.bool s1, .slice A1 l1 c1, .slice B1 m1 k1]) true) :
    Calls Try.prog 61 #[.int .i64 op, .agg #[.bool s0, .slice A0 l0 c0, .slice B0 m0 k0], .agg #[.bool s1, .slice A1 l1 c1, .slice B1 m1 k1]] w (RetE w (.agg #[.bool false, .slice none 0 0, .slice none 0 0]) 1) := by
  have HXX := Lib.hid hx
  have HYY := Lib.hid hy
  clear hx hy
  have hXe : Ext w (((w.alloc (.cells #[.bool s0, .slice A0 l0 c0, .slice B0 m0 k0] 33)).alloc (.cells #[.bool s1, .slice A1 l1 c1, .slice B1 m1 k1] 33)).alloc (.cells #[.bool false, .slice none 0 0, .slice none 0 0] 42)) := ((((Ext.refl w).alloc _).alloc _).alloc _)
  have kA : Blk (((w.alloc (.cells #[.bool s0, .slice A0 l0 c0, .slice B0 m0 k0] 33)).alloc (.cells #[.bool s1, .slice A1 l1 c1, .slice B1 m1 k1] 33)).alloc (.cells #[.bool false, .slice none 0 0, .slice none 0 0] 42)) w.heap.size 33 #[.bool s0, .slice A0 l0 c0, .slice B0 m0 k0] := Blk.alloc (Blk.alloc (Blk.at_ (by simp)) _) _
  have kB : Blk (((w.alloc (.cells #[.bool s0, .slice A0 l0 c0, .slice B0 m0 k0] 33)).alloc (.cells #[.bool s1, .slice A1 l1 c1, .slice B1 m1 k1] 33)).alloc (.cells #[.bool false, .slice none 0 0, .slice none 0 0] 42)) (w.heap.size + 1) 33 #[.bool s1, .slice A1 l1 c1, .slice B1 m1 k1] := Blk.alloc (Blk.at_ (by simp)) _
  have kR : Blk (((w.alloc (.cells #[.bool s0, .slice A0 l0 c0, .slice B0 m0 k0] 33)).alloc (.cells #[.bool s1, .slice A1 l1 c1, .slice B1 m1 k1] 33)).alloc (.cells #[.bool false, .slice none 0 0, .slice none 0 0] 42)) (w.heap.size + 2) 42 #[.bool false, .slice none 0 0, .slice none 0 0] := Blk.at_ (by simp)
  go_enter Try.func61, Try.ntmps61
  go_wp2_with fail
  generalize (((w.alloc (.cells #[.bool s0, .slice A0 l0 c0, .slice B0 m0 k0] 33)).alloc (.cells #[.bool s1, .slice A1 l1 c1, .slice B1 m1 k1] 33)).alloc (.cells #[.bool false, .slice none 0 0, .slice none 0 0] 42)) = w1 at hXe kA kB kR ⊢
  have HX := Lib.hid hXe
  clear hXe
  have KA := Lib.hid kA
  clear kA
  have KB := Lib.hid kB
  clear kB
  have KR := Lib.hid kR
  clear kR
  replace HXX := Lib.hid (HXX.out.ext HX.out)
  replace HYY := Lib.hid (HYY.out.ext HX.out)
  have cA0 : w1.cell? ⟨w.heap.size, 0, none⟩ = some (.bool s0) := KA.out.cell 0
  have cA1 : w1.cell? ⟨w.heap.size, 1, none⟩ = some (.slice A0 l0 c0) := KA.out.cell 1
  have cA2 : w1.cell? ⟨w.heap.size, 2, none⟩ = some (.slice B0 m0 k0) := KA.out.cell 2
  go_wp2_with fail
  clear cA0 cA1 cA2
  refine (rof_no HXX.out).mono ?_
  rintro e w2 ⟨rfl, hX⟩
  replace hX : Ext w1 w2 := by with_reducible exact hX
  replace HX := Lib.hid (HX.out.trans hX)
  replace HXX := Lib.hid (HXX.out.ext hX)
  replace HYY := Lib.hid (HYY.out.ext hX)
  replace KA := Lib.hid (KA.out.ext hX)
  replace KB := Lib.hid (KB.out.ext hX)
  replace KR := Lib.hid (KR.out.ext hX)
  clear hX
  go_upto_region 2 with (fail)
  have hXa : Ext w2 (w2.alloc (.cells #[.bool false, .slice none 0 0, .slice none 0 0] 42)) := (Ext.refl _).alloc _
  have kX := Blk.new w2 42 #[.bool false, .slice none 0 0, .slice none 0 0]
  have zA := KA.out.lt
  have zB := KB.out.lt
  have zR := KR.out.lt
  have zg := HX.out.size
  replace HX := Lib.hid (HX.out.trans hXa)
  replace HXX := Lib.hid (HXX.out.ext hXa)
  replace HYY := Lib.hid (HYY.out.ext hXa)
  replace KA := Lib.hid (KA.out.ext hXa)
  replace KB := Lib.hid (KB.out.ext hXa)
  replace KR := Lib.hid (KR.out.ext hXa)
  generalize (w2.alloc (.cells #[.bool false, .slice none 0 0, .slice none 0 0] 42)) = w3 at HX HXX HYY KA KB KR kX ⊢
  have KX := Lib.hid kX
  clear kX hXa
  have cB0 : w3.cell? ⟨(w.heap.size + 1), 0, none⟩ = some (.bool s1) := KB.out.cell 0
  have cB1 : w3.cell? ⟨(w.heap.size + 1), 1, none⟩ = some (.slice A1 l1 c1) := KB.out.cell 1
  have cB2 : w3.cell? ⟨(w.heap.size + 1), 2, none⟩ = some (.slice B1 m1 k1) := KB.out.cell 2
  go_wp2_with fail
  clear cB0 cB1 cB2
  refine (rof_no HYY.out).mono ?_
  rintro e w4 ⟨rfl, hX⟩
  replace hX : Ext w3 w4 := by with_reducible exact hX
  replace HX := Lib.hid (HX.out.trans hX)
  replace HXX := Lib.hid (HXX.out.ext hX)
  replace HYY := Lib.hid (HYY.out.ext hX)
  replace KA := Lib.hid (KA.out.ext hX)
  replace KB := Lib.hid (KB.out.ext hX)
  replace KR := Lib.hid (KR.out.ext hX)
  replace KX := Lib.hid (KX.out.ext hX)
  clear hX
  go_upto_region 3 with (fail)
  have hXa : Ext w4 (w4.alloc (.cells #[.bool false, .slice none 0 0, .slice none 0 0] 42)) := (Ext.refl _).alloc _
  have kY := Blk.new w4 42 #[.bool false, .slice none 0 0, .slice none 0 0]
  have zA := KA.out.lt
  have zB := KB.out.lt
  have zR := KR.out.lt
  have zX := KX.out.lt
  have zg := HX.out.size
  replace HX := Lib.hid (HX.out.trans hXa)
  replace HXX := Lib.hid (HXX.out.ext hXa)
  replace HYY := Lib.hid (HYY.out.ext hXa)
  replace KA := Lib.hid (KA.out.ext hXa)
  replace KB := Lib.hid (KB.out.ext hXa)
  replace KR := Lib.hid (KR.out.ext hXa)
  replace KX := Lib.hid (KX.out.ext hXa)
  generalize (w4.alloc (.cells #[.bool false, .slice none 0 0, .slice none 0 0] 42)) = w5 at HX HXX HYY KA KB KR KX kY ⊢
  have KY := Lib.hid kY
  clear kY hXa
  have cR0 : w5.cell? ⟨(w.heap.size + 2), 0, none⟩ = some (.bool false) := KR.out.cell 0
  have fR0 : w5.frozen? ⟨(w.heap.size + 2), 0, none⟩ = false := KR.out.free 0
  have cR1 : w5.cell? ⟨(w.heap.size + 2), 1, none⟩ = some (.slice none 0 0) := KR.out.cell 1
  have fR1 : w5.frozen? ⟨(w.heap.size + 2), 1, none⟩ = false := KR.out.free 1
  have cR2 : w5.cell? ⟨(w.heap.size + 2), 2, none⟩ = some (.slice none 0 0) := KR.out.cell 2
  have fR2 : w5.frozen? ⟨(w.heap.size + 2), 2, none⟩ = false := KR.out.free 2
  go_wp2
  refine bodyPost_ret (v := .tuple #[.agg #[.bool false, .slice none 0 0, .slice none 0 0], .int .i64 1]) (by simp [results, Try.results61, go_sem, *]) rfl ?_
  exact ⟨rfl, Ext.boxed HX.out (by omega) _ _ _⟩

set_option maxRecDepth 100000 in
set_option maxHeartbeats 2000000 in
theorem two_ny (s0 : Bool) (A0 B0 : Option Addr) (l0 c0 m0 k0 : Nat) (s1 : Bool) (A1 B1 : Option Addr) (l1 c1 m1 k1 : Nat) (q : Rat) (op : Int) (w : World) (hx : RatG w (.agg #[.bool s0, .slice A0 l0 c0, .slice B0 m0 k0]) q) (hy : RatL w (.agg #[.bool s1, .slice A1 l1 c1, .slice B1 m1 k1]) true) :
    Calls Try.prog 61 #[.int .i64 op, .agg #[.bool s0, .slice A0 l0 c0, .slice B0 m0 k0], .agg #[.bool s1, .slice A1 l1 c1, .slice B1 m1 k1]] w (RetE w (.agg #[.bool false, .slice none 0 0, .slice none 0 0]) 1) := by
  have HXX := Lib.hid hx
  have HYY := Lib.hid hy
  clear hx hy
  have hXe : Ext w (((w.alloc (.cells #[.bool s0, .slice A0 l0 c0, .slice B0 m0 k0] 33)).alloc (.cells #[.bool s1, .slice A1 l1 c1, .slice B1 m1 k1] 33)).alloc (.cells #[.bool false, .slice none 0 0, .slice none 0 0] 42)) := ((((Ext.refl w).alloc _).alloc _).alloc _)
  have kA : Blk (((w.alloc (.cells #[.bool s0, .slice A0 l0 c0, .slice B0 m0 k0] 33)).alloc (.cells #[.bool s1, .slice A1 l1 c1, .slice B1 m1 k1] 33)).alloc (.cells #[.bool false, .slice none 0 0, .slice none 0 0] 42)) w.heap.size 33 #[.bool s0, .slice A0 l0 c0, .slice B0 m0 k0] := Blk.alloc (Blk.alloc (Blk.at_ (by simp)) _) _
  have kB : Blk (((w.alloc (.cells #[.bool s0, .slice A0 l0 c0, .slice B0 m0 k0] 33)).alloc (.cells #[.bool s1, .slice A1 l1 c1, .slice B1 m1 k1] 33)).alloc (.cells #[.bool false, .slice none 0 0, .slice none 0 0] 42)) (w.heap.size + 1) 33 #[.bool s1, .slice A1 l1 c1, .slice B1 m1 k1] := Blk.alloc (Blk.at_ (by simp)) _
  have kR : Blk (((w.alloc (.cells #[.bool s0, .slice A0 l0 c0, .slice B0 m0 k0] 33)).alloc (.cells #[.bool s1, .slice A1 l1 c1, .slice B1 m1 k1] 33)).alloc (.cells #[.bool false, .slice none 0 0, .slice none 0 0] 42)) (w.heap.size + 2) 42 #[.bool false, .slice none 0 0, .slice none 0 0] := Blk.at_ (by simp)
  go_enter Try.func61, Try.ntmps61
  go_wp2_with fail
  generalize (((w.alloc (.cells #[.bool s0, .slice A0 l0 c0, .slice B0 m0 k0] 33)).alloc (.cells #[.bool s1, .slice A1 l1 c1, .slice B1 m1 k1] 33)).alloc (.cells #[.bool false, .slice none 0 0, .slice none 0 0] 42)) = w1 at hXe kA kB kR ⊢
  have HX := Lib.hid hXe
  clear hXe
  have KA := Lib.hid kA
  clear kA
  have KB := Lib.hid kB
  clear kB
  have KR := Lib.hid kR
  clear kR
  replace HXX := Lib.hid (HXX.out.ext HX.out)
  replace HYY := Lib.hid (HYY.out.ext HX.out)
  have cA0 : w1.cell? ⟨w.heap.size, 0, none⟩ = some (.bool s0) := KA.out.cell 0
  have cA1 : w1.cell? ⟨w.heap.size, 1, none⟩ = some (.slice A0 l0 c0) := KA.out.cell 1
  have cA2 : w1.cell? ⟨w.heap.size, 2, none⟩ = some (.slice B0 m0 k0) := KA.out.cell 2
  go_wp2_with fail
  clear cA0 cA1 cA2
  refine (rof_yes HXX.out).mono ?_
  rintro e w2 ⟨v2, rfl, h2, hX⟩
  replace hX : Ext w1 w2 := by with_reducible exact hX
  replace HX := Lib.hid (HX.out.trans hX)
  replace HXX := Lib.hid (HXX.out.ext hX)
  replace HYY := Lib.hid (HYY.out.ext hX)
  replace KA := Lib.hid (KA.out.ext hX)
  replace KB := Lib.hid (KB.out.ext hX)
  replace KR := Lib.hid (KR.out.ext hX)
  clear hX
  obtain ⟨s2, A2, l2, c2, B2, m2, k2, rfl⟩ := h2.open
  have HQ2 := Lib.hid h2
  clear h2
  go_upto_region 2 with (fail)
  have hXa : Ext w2 (w2.alloc (.cells #[.bool s2, .slice A2 l2 c2, .slice B2 m2 k2] 42)) := (Ext.refl _).alloc _
  have kX := Blk.new w2 42 #[.bool s2, .slice A2 l2 c2, .slice B2 m2 k2]
  have zA := KA.out.lt
  have zB := KB.out.lt
  have zR := KR.out.lt
  have zg := HX.out.size
  replace HX := Lib.hid (HX.out.trans hXa)
  replace HXX := Lib.hid (HXX.out.ext hXa)
  replace HYY := Lib.hid (HYY.out.ext hXa)
  replace HQ2 := Lib.hid (HQ2.out.ext hXa)
  replace KA := Lib.hid (KA.out.ext hXa)
  replace KB := Lib.hid (KB.out.ext hXa)
  replace KR := Lib.hid (KR.out.ext hXa)
  generalize (w2.alloc (.cells #[.bool s2, .slice A2 l2 c2, .slice B2 m2 k2] 42)) = w3 at HX HXX HYY HQ2 KA KB KR kX ⊢
  have KX := Lib.hid kX
  clear kX hXa
  have cB0 : w3.cell? ⟨(w.heap.size + 1), 0, none⟩ = some (.bool s1) := KB.out.cell 0
  have cB1 : w3.cell? ⟨(w.heap.size + 1), 1, none⟩ = some (.slice A1 l1 c1) := KB.out.cell 1
  have cB2 : w3.cell? ⟨(w.heap.size + 1), 2, none⟩ = some (.slice B1 m1 k1) := KB.out.cell 2
  go_wp2_with fail
  clear cB0 cB1 cB2
  refine (rof_no HYY.out).mono ?_
  rintro e w4 ⟨rfl, hX⟩
  replace hX : Ext w3 w4 := by with_reducible exact hX
  replace HX := Lib.hid (HX.out.trans hX)
  replace HXX := Lib.hid (HXX.out.ext hX)
  replace HYY := Lib.hid (HYY.out.ext hX)
  replace HQ2 := Lib.hid (HQ2.out.ext hX)
  replace KA := Lib.hid (KA.out.ext hX)
  replace KB := Lib.hid (KB.out.ext hX)
  replace KR := Lib.hid (KR.out.ext hX)
  replace KX := Lib.hid (KX.out.ext hX)
  clear hX
  go_upto_region 3 with (fail)
  have hXa : Ext w4 (w4.alloc (.cells #[.bool false, .slice none 0 0, .slice none 0 0] 42)) := (Ext.refl _).alloc _
  have kY := Blk.new w4 42 #[.bool false, .slice none 0 0, .slice none 0 0]
  have zA := KA.out.lt
  have zB := KB.out.lt
  have zR := KR.out.lt
  have zX := KX.out.lt
  have zg := HX.out.size
  replace HX := Lib.hid (HX.out.trans hXa)
  replace HXX := Lib.hid (HXX.out.ext hXa)
  replace HYY := Lib.hid (HYY.out.ext hXa)
  replace HQ2 := Lib.hid (HQ2.out.ext hXa)
  replace KA := Lib.hid (KA.out.ext hXa)
  replace KB := Lib.hid (KB.out.ext hXa)
  replace KR := Lib.hid (KR.out.ext hXa)
  replace KX := Lib.hid (KX.out.ext hXa)
  generalize (w4.alloc (.cells #[.bool false, .slice none 0 0, .slice none 0 0] 42)) = w5 at HX HXX HYY HQ2 KA KB KR KX kY ⊢
  have KY := Lib.hid kY
  clear kY hXa
  have cR0 : w5.cell? ⟨(w.heap.size + 2), 0, none⟩ = some (.bool false) := KR.out.cell 0
  have fR0 : w5.frozen? ⟨(w.heap.size + 2), 0, none⟩ = false := KR.out.free 0
  have cR1 : w5.cell? ⟨(w.heap.size + 2), 1, none⟩ = some (.slice none 0 0) := KR.out.cell 1
  have fR1 : w5.frozen? ⟨(w.heap.size + 2), 1, none⟩ = false := KR.out.free 1
  have cR2 : w5.cell? ⟨(w.heap.size + 2), 2, none⟩ = some (.slice none 0 0) := KR.out.cell 2
  have fR2 : w5.frozen? ⟨(w.heap.size + 2), 2, none⟩ = false := KR.out.free 2
  go_wp2
  refine bodyPost_ret (v := .tuple #[.agg #[.bool false, .slice none 0 0, .slice none 0 0], .int .i64 1]) (by simp [results, Try.results61, go_sem, *]) rfl ?_
  exact ⟨rfl, Ext.boxed HX.out (by omega) _ _ _⟩

end Go.Proofs.Yteoijnaljkagfaa
namespace Go.Proofs.Yteoijnaljkagfaa
open Go.RowKit

theorem cmpG {w : World} {va vb : Value} {q r : Rat} (h : RatG w va q) (k : RatG w vb r) : Calls Try.prog 50 #[va, vb] w (RetE w (.int .i64 (sgnQ (q - r))) 0) := by
  obtain ⟨s0, A0, l0, c0, B0, m0, k0, rfl⟩ := h.open
  obtain ⟨s1, A1, l1, c1, B1, m1, k1, rfl⟩ := k.open
  exact ecmp_ok s0 s1 A0 B0 A1 B1 l0 c0 m0 k0 l1 c1 m1 k1 q r w h k

end Go.Proofs.Yteoijnaljkagfaa
