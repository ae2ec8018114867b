/- How structs of places, spans and rational numbers among the arguments of a statement are opened. -/
import Derived.Test.YteoijnaljkagfaaOpenX
namespace Go.Proofs.Yteoijnaljkagfaa
open Go.ChangeShapes Go.WideShapes Go.ChangeAt Go.RowKit Go.Joins

theorem arrayN3 {α : Type} {cs : Array α} (h : cs.size = 3) : ∃ c0 c1 c2, cs = #[c0, c1, c2] := by
  obtain ⟨l⟩ := cs
  match l, h with
  | [c0, c1, c2], _ => exact ⟨c0, c1, c2, rfl⟩
theorem arrayN8 {α : Type} {cs : Array α} (h : cs.size = 8) : ∃ c0 c1 c2 c3 c4 c5 c6 c7, cs = #[c0, c1, c2, c3, c4, c5, c6, c7] := by
  obtain ⟨l⟩ := cs
  match l, h with
  | [c0, c1, c2, c3, c4, c5, c6, c7], _ => exact ⟨c0, c1, c2, c3, c4, c5, c6, c7, rfl⟩
theorem arrayN9 {α : Type} {cs : Array α} (h : cs.size = 9) : ∃ c0 c1 c2 c3 c4 c5 c6 c7 c8, cs = #[c0, c1, c2, c3, c4, c5, c6, c7, c8] := by
  obtain ⟨l⟩ := cs
  match l, h with
  | [c0, c1, c2, c3, c4, c5, c6, c7, c8], _ => exact ⟨c0, c1, c2, c3, c4, c5, c6, c7, c8, rfl⟩

/-- The data of a value of type Rat. -/
def RatV_ (W : World) (v : Value) (f : Bool × List Int × List Int) : Prop := ∃ (A1 : Option Addr) (l1 c1 : Nat), ∃ (A2 : Option Addr) (l2 c2 : Nat), v = .agg #[.bool f.1, .slice A1 l1 c1, .slice A2 l2 c2] ∧ (Ints .u32 W A1 l1 f.2.1 ∧ l1 ≤ c1 ∧ c1 ≤ 9223372036854775807) ∧ (Ints .u32 W A2 l2 f.2.2 ∧ l2 ≤ c2 ∧ c2 ≤ 9223372036854775807)
set_option maxRecDepth 100000 in
set_option maxHeartbeats 1000000 in
theorem rat_open {W : World} {H : Type} {enc : TypeId × Value → H} {v : Value} {d : DataW H} {p : List MemPlace} {b base : Nat} {sp : Nat → Bool} {hd : Bool}
    (hv : Value.okWide Try.prog W .any base 33 v) (h : DataW.Trod enc Try.prog W b sp hd 33 v d p) : ∃ f, RatV_ W v f := by
  obtain ⟨cs, rfl, hsz⟩ := okWide_struct Try.underlying33 hv
  obtain ⟨c0, c1, c2, rfl⟩ := arrayN3 (hsz.trans (show Try.prog.cellsOf 33 = 3 by kernel_rfl))
  obtain ⟨fuel, hf⟩ := h
  have hf' : DataW.trod enc Try.prog W b sp hd fuel 33 [c0, c1, c2] = some (d, p) := by simpa [Value.cells] using hf
  obtain ⟨xs1, n1, _, _, _, hl1, hg1⟩ := DataW.trod_struct Try.underlying33 hf'
  have g1_0 : DataW.trod enc Try.prog W b sp hd n1 4 [c0] = xs1[0]? := by
    have h := hg1 0 _ rfl
    rw [show Try.prog.cellsOf _ = 1 by kernel_rfl] at h
    exact h
  rw [List.getElem?_eq_getElem (by rw [hl1]; decide)] at g1_0
  obtain ⟨vc0, ec0, _⟩ := DataW.trod_bool Try.underlying4 g1_0
  simp only [List.cons.injEq, and_true] at ec0
  subst ec0
  have g1_1 : DataW.trod enc Try.prog W b sp hd n1 31 [c1] = xs1[1]? := by
    have h := hg1 1 _ rfl
    rw [show Try.prog.cellsOf _ = 1 by kernel_rfl] at h
    exact h
  rw [List.getElem?_eq_getElem (by rw [hl1]; decide)] at g1_1
  obtain ⟨Ac1, lc1, mc1, ec1⟩ := slice_form Try.underlying31 g1_1
  simp only [List.cons.injEq, and_true] at ec1
  subst ec1
  obtain ⟨vc1, wc1⟩ := ints_trod Try.underlying31 Try.underlying79 (by kernel_rfl) g1_1
  have g1_2 : DataW.trod enc Try.prog W b sp hd n1 31 [c2] = xs1[2]? := by
    have h := hg1 2 _ rfl
    rw [show Try.prog.cellsOf _ = 1 by kernel_rfl] at h
    exact h
  rw [List.getElem?_eq_getElem (by rw [hl1]; decide)] at g1_2
  obtain ⟨Ac2, lc2, mc2, ec2⟩ := slice_form Try.underlying31 g1_2
  simp only [List.cons.injEq, and_true] at ec2
  subst ec2
  obtain ⟨vc2, wc2⟩ := ints_trod Try.underlying31 Try.underlying79 (by kernel_rfl) g1_2
  exact ⟨(vc0, vc1, vc2), Ac1, lc1, mc1, Ac2, lc2, mc2, rfl, wc1, wc2⟩

/-- The data of a value of type Four. -/
def FourV_ (W : World) (v : Value) (f : Int × Int × Int × Int × Int × Int × Int × Int) : Prop := v = .agg #[.int .i64 f.1, .int .i64 f.2.1, .int .i64 f.2.2.1, .int .i64 f.2.2.2.1, .int .i64 f.2.2.2.2.1, .int .i64 f.2.2.2.2.2.1, .int .i64 f.2.2.2.2.2.2.1, .int .i64 f.2.2.2.2.2.2.2] ∧ (-9223372036854775808 ≤ f.1 ∧ f.1 ≤ 9223372036854775807) ∧ (-9223372036854775808 ≤ f.2.1 ∧ f.2.1 ≤ 9223372036854775807) ∧ (-9223372036854775808 ≤ f.2.2.1 ∧ f.2.2.1 ≤ 9223372036854775807) ∧ (-9223372036854775808 ≤ f.2.2.2.1 ∧ f.2.2.2.1 ≤ 9223372036854775807) ∧ (-9223372036854775808 ≤ f.2.2.2.2.1 ∧ f.2.2.2.2.1 ≤ 9223372036854775807) ∧ (-9223372036854775808 ≤ f.2.2.2.2.2.1 ∧ f.2.2.2.2.2.1 ≤ 9223372036854775807) ∧ (-9223372036854775808 ≤ f.2.2.2.2.2.2.1 ∧ f.2.2.2.2.2.2.1 ≤ 9223372036854775807) ∧ (-9223372036854775808 ≤ f.2.2.2.2.2.2.2 ∧ f.2.2.2.2.2.2.2 ≤ 9223372036854775807)
set_option maxRecDepth 100000 in
set_option maxHeartbeats 1000000 in
theorem four_open {W : World} {H : Type} {enc : TypeId × Value → H} {v : Value} {d : DataW H} {p : List MemPlace} {b base : Nat} {sp : Nat → Bool} {hd : Bool}
    (hv : Value.okWide Try.prog W .any base 72 v) (h : DataW.Trod enc Try.prog W b sp hd 72 v d p) : ∃ f, FourV_ W v f := by
  obtain ⟨cs, rfl, hsz⟩ := okWide_struct Try.underlying72 hv
  obtain ⟨c0, c1, c2, c3, c4, c5, c6, c7, rfl⟩ := arrayN8 (hsz.trans (show Try.prog.cellsOf 72 = 8 by kernel_rfl))
  obtain ⟨fuel, hf⟩ := h
  have hf' : DataW.trod enc Try.prog W b sp hd fuel 72 [c0, c1, c2, c3, c4, c5, c6, c7] = some (d, p) := by simpa [Value.cells] using hf
  obtain ⟨xs1, n1, _, _, _, hl1, hg1⟩ := DataW.trod_struct Try.underlying72 hf'
  have g1_0 : DataW.trod enc Try.prog W b sp hd n1 23 [c0, c1] = xs1[0]? := by
    have h := hg1 0 _ rfl
    rw [show Try.prog.cellsOf _ = 2 by kernel_rfl] at h
    exact h
  rw [List.getElem?_eq_getElem (by rw [hl1]; decide)] at g1_0
  obtain ⟨xs2, n2, _, _, _, hl2, hg2⟩ := DataW.trod_struct Try.underlying23 g1_0
  have g2_0 : DataW.trod enc Try.prog W b sp hd n2 3 [c0] = xs2[0]? := by
    have h := hg2 0 _ rfl
    rw [show Try.prog.cellsOf _ = 1 by kernel_rfl] at h
    exact h
  rw [List.getElem?_eq_getElem (by rw [hl2]; decide)] at g2_0
  obtain ⟨vc0, ec0, _, wc0⟩ := DataW.trod_int Try.underlying3 g2_0
  simp only [List.cons.injEq, and_true] at ec0
  subst ec0
  have g2_1 : DataW.trod enc Try.prog W b sp hd n2 3 [c1] = xs2[1]? := by
    have h := hg2 1 _ rfl
    rw [show Try.prog.cellsOf _ = 1 by kernel_rfl] at h
    exact h
  rw [List.getElem?_eq_getElem (by rw [hl2]; decide)] at g2_1
  obtain ⟨vc1, ec1, _, wc1⟩ := DataW.trod_int Try.underlying3 g2_1
  simp only [List.cons.injEq, and_true] at ec1
  subst ec1
  have g1_1 : DataW.trod enc Try.prog W b sp hd n1 23 [c2, c3] = xs1[1]? := by
    have h := hg1 1 _ rfl
    rw [show Try.prog.cellsOf _ = 2 by kernel_rfl] at h
    exact h
  rw [List.getElem?_eq_getElem (by rw [hl1]; decide)] at g1_1
  obtain ⟨xs5, n5, _, _, _, hl5, hg5⟩ := DataW.trod_struct Try.underlying23 g1_1
  have g5_0 : DataW.trod enc Try.prog W b sp hd n5 3 [c2] = xs5[0]? := by
    have h := hg5 0 _ rfl
    rw [show Try.prog.cellsOf _ = 1 by kernel_rfl] at h
    exact h
  rw [List.getElem?_eq_getElem (by rw [hl5]; decide)] at g5_0
  obtain ⟨vc2, ec2, _, wc2⟩ := DataW.trod_int Try.underlying3 g5_0
  simp only [List.cons.injEq, and_true] at ec2
  subst ec2
  have g5_1 : DataW.trod enc Try.prog W b sp hd n5 3 [c3] = xs5[1]? := by
    have h := hg5 1 _ rfl
    rw [show Try.prog.cellsOf _ = 1 by kernel_rfl] at h
    exact h
  rw [List.getElem?_eq_getElem (by rw [hl5]; decide)] at g5_1
  obtain ⟨vc3, ec3, _, wc3⟩ := DataW.trod_int Try.underlying3 g5_1
  simp only [List.cons.injEq, and_true] at ec3
  subst ec3
  have g1_2 : DataW.trod enc Try.prog W b sp hd n1 23 [c4, c5] = xs1[2]? := by
    have h := hg1 2 _ rfl
    rw [show Try.prog.cellsOf _ = 2 by kernel_rfl] at h
    exact h
  rw [List.getElem?_eq_getElem (by rw [hl1]; decide)] at g1_2
  obtain ⟨xs8, n8, _, _, _, hl8, hg8⟩ := DataW.trod_struct Try.underlying23 g1_2
  have g8_0 : DataW.trod enc Try.prog W b sp hd n8 3 [c4] = xs8[0]? := by
    have h := hg8 0 _ rfl
    rw [show Try.prog.cellsOf _ = 1 by kernel_rfl] at h
    exact h
  rw [List.getElem?_eq_getElem (by rw [hl8]; decide)] at g8_0
  obtain ⟨vc4, ec4, _, wc4⟩ := DataW.trod_int Try.underlying3 g8_0
  simp only [List.cons.injEq, and_true] at ec4
  subst ec4
  have g8_1 : DataW.trod enc Try.prog W b sp hd n8 3 [c5] = xs8[1]? := by
    have h := hg8 1 _ rfl
    rw [show Try.prog.cellsOf _ = 1 by kernel_rfl] at h
    exact h
  rw [List.getElem?_eq_getElem (by rw [hl8]; decide)] at g8_1
  obtain ⟨vc5, ec5, _, wc5⟩ := DataW.trod_int Try.underlying3 g8_1
  simp only [List.cons.injEq, and_true] at ec5
  subst ec5
  have g1_3 : DataW.trod enc Try.prog W b sp hd n1 23 [c6, c7] = xs1[3]? := by
    have h := hg1 3 _ rfl
    rw [show Try.prog.cellsOf _ = 2 by kernel_rfl] at h
    exact h
  rw [List.getElem?_eq_getElem (by rw [hl1]; decide)] at g1_3
  obtain ⟨xs11, n11, _, _, _, hl11, hg11⟩ := DataW.trod_struct Try.underlying23 g1_3
  have g11_0 : DataW.trod enc Try.prog W b sp hd n11 3 [c6] = xs11[0]? := by
    have h := hg11 0 _ rfl
    rw [show Try.prog.cellsOf _ = 1 by kernel_rfl] at h
    exact h
  rw [List.getElem?_eq_getElem (by rw [hl11]; decide)] at g11_0
  obtain ⟨vc6, ec6, _, wc6⟩ := DataW.trod_int Try.underlying3 g11_0
  simp only [List.cons.injEq, and_true] at ec6
  subst ec6
  have g11_1 : DataW.trod enc Try.prog W b sp hd n11 3 [c7] = xs11[1]? := by
    have h := hg11 1 _ rfl
    rw [show Try.prog.cellsOf _ = 1 by kernel_rfl] at h
    exact h
  rw [List.getElem?_eq_getElem (by rw [hl11]; decide)] at g11_1
  obtain ⟨vc7, ec7, _, wc7⟩ := DataW.trod_int Try.underlying3 g11_1
  simp only [List.cons.injEq, and_true] at ec7
  subst ec7
  exact ⟨(vc0, vc1, vc2, vc3, vc4, vc5, vc6, vc7), rfl, i64_bounds wc0, i64_bounds wc1, i64_bounds wc2, i64_bounds wc3, i64_bounds wc4, i64_bounds wc5, i64_bounds wc6, i64_bounds wc7⟩

/-- The data of a value of type Parts. -/
def PartsV_ (W : World) (v : Value) (f : Int × Int × Int × Int × Int × Int × Int × Int) : Prop := v = .agg #[.int .i64 f.1, .int .i64 f.2.1, .int .i64 f.2.2.1, .int .i64 f.2.2.2.1, .int .u32 f.2.2.2.2.1, .int .u32 f.2.2.2.2.2.1, .int .u32 f.2.2.2.2.2.2.1, .int .u32 f.2.2.2.2.2.2.2] ∧ (-9223372036854775808 ≤ f.1 ∧ f.1 ≤ 9223372036854775807) ∧ (-9223372036854775808 ≤ f.2.1 ∧ f.2.1 ≤ 9223372036854775807) ∧ (-9223372036854775808 ≤ f.2.2.1 ∧ f.2.2.1 ≤ 9223372036854775807) ∧ (-9223372036854775808 ≤ f.2.2.2.1 ∧ f.2.2.2.1 ≤ 9223372036854775807) ∧ (0 ≤ f.2.2.2.2.1 ∧ f.2.2.2.2.1 ≤ 4294967295) ∧ (0 ≤ f.2.2.2.2.2.1 ∧ f.2.2.2.2.2.1 ≤ 4294967295) ∧ (0 ≤ f.2.2.2.2.2.2.1 ∧ f.2.2.2.2.2.2.1 ≤ 4294967295) ∧ (0 ≤ f.2.2.2.2.2.2.2 ∧ f.2.2.2.2.2.2.2 ≤ 4294967295)
set_option maxRecDepth 100000 in
set_option maxHeartbeats 1000000 in
theorem parts_open {W : World} {H : Type} {enc : TypeId × Value → H} {v : Value} {d : DataW H} {p : List MemPlace} {b base : Nat} {sp : Nat → Bool} {hd : Bool}
    (hv : Value.okWide Try.prog W .any base 81 v) (h : DataW.Trod enc Try.prog W b sp hd 81 v d p) : ∃ f, PartsV_ W v f := by
  obtain ⟨cs, rfl, hsz⟩ := okWide_struct Try.underlying81 hv
  obtain ⟨c0, c1, c2, c3, c4, c5, c6, c7, rfl⟩ := arrayN8 (hsz.trans (show Try.prog.cellsOf 81 = 8 by kernel_rfl))
  obtain ⟨fuel, hf⟩ := h
  have hf' : DataW.trod enc Try.prog W b sp hd fuel 81 [c0, c1, c2, c3, c4, c5, c6, c7] = some (d, p) := by simpa [Value.cells] using hf
  obtain ⟨xs1, n1, _, _, _, hl1, hg1⟩ := DataW.trod_struct Try.underlying81 hf'
  have g1_0 : DataW.trod enc Try.prog W b sp hd n1 62 [c0, c1] = xs1[0]? := by
    have h := hg1 0 _ rfl
    rw [show Try.prog.cellsOf _ = 2 by kernel_rfl] at h
    exact h
  rw [List.getElem?_eq_getElem (by rw [hl1]; decide)] at g1_0
  obtain ⟨xs2, n2, _, _, _, hl2, hg2⟩ := DataW.trod_struct Try.underlying62 g1_0
  have g2_0 : DataW.trod enc Try.prog W b sp hd n2 3 [c0] = xs2[0]? := by
    have h := hg2 0 _ rfl
    rw [show Try.prog.cellsOf _ = 1 by kernel_rfl] at h
    exact h
  rw [List.getElem?_eq_getElem (by rw [hl2]; decide)] at g2_0
  obtain ⟨vc0, ec0, _, wc0⟩ := DataW.trod_int Try.underlying3 g2_0
  simp only [List.cons.injEq, and_true] at ec0
  subst ec0
  have g2_1 : DataW.trod enc Try.prog W b sp hd n2 3 [c1] = xs2[1]? := by
    have h := hg2 1 _ rfl
    rw [show Try.prog.cellsOf _ = 1 by kernel_rfl] at h
    exact h
  rw [List.getElem?_eq_getElem (by rw [hl2]; decide)] at g2_1
  obtain ⟨vc1, ec1, _, wc1⟩ := DataW.trod_int Try.underlying3 g2_1
  simp only [List.cons.injEq, and_true] at ec1
  subst ec1
  have g1_1 : DataW.trod enc Try.prog W b sp hd n1 62 [c2, c3] = xs1[1]? := by
    have h := hg1 1 _ rfl
    rw [show Try.prog.cellsOf _ = 2 by kernel_rfl] at h
    exact h
  rw [List.getElem?_eq_getElem (by rw [hl1]; decide)] at g1_1
  obtain ⟨xs5, n5, _, _, _, hl5, hg5⟩ := DataW.trod_struct Try.underlying62 g1_1
  have g5_0 : DataW.trod enc Try.prog W b sp hd n5 3 [c2] = xs5[0]? := by
    have h := hg5 0 _ rfl
    rw [show Try.prog.cellsOf _ = 1 by kernel_rfl] at h
    exact h
  rw [List.getElem?_eq_getElem (by rw [hl5]; decide)] at g5_0
  obtain ⟨vc2, ec2, _, wc2⟩ := DataW.trod_int Try.underlying3 g5_0
  simp only [List.cons.injEq, and_true] at ec2
  subst ec2
  have g5_1 : DataW.trod enc Try.prog W b sp hd n5 3 [c3] = xs5[1]? := by
    have h := hg5 1 _ rfl
    rw [show Try.prog.cellsOf _ = 1 by kernel_rfl] at h
    exact h
  rw [List.getElem?_eq_getElem (by rw [hl5]; decide)] at g5_1
  obtain ⟨vc3, ec3, _, wc3⟩ := DataW.trod_int Try.underlying3 g5_1
  simp only [List.cons.injEq, and_true] at ec3
  subst ec3
  have g1_2 : DataW.trod enc Try.prog W b sp hd n1 79 [c4] = xs1[2]? := by
    have h := hg1 2 _ rfl
    rw [show Try.prog.cellsOf _ = 1 by kernel_rfl] at h
    exact h
  rw [List.getElem?_eq_getElem (by rw [hl1]; decide)] at g1_2
  obtain ⟨vc4, ec4, _, wc4⟩ := DataW.trod_int Try.underlying79 g1_2
  simp only [List.cons.injEq, and_true] at ec4
  subst ec4
  have g1_3 : DataW.trod enc Try.prog W b sp hd n1 79 [c5] = xs1[3]? := by
    have h := hg1 3 _ rfl
    rw [show Try.prog.cellsOf _ = 1 by kernel_rfl] at h
    exact h
  rw [List.getElem?_eq_getElem (by rw [hl1]; decide)] at g1_3
  obtain ⟨vc5, ec5, _, wc5⟩ := DataW.trod_int Try.underlying79 g1_3
  simp only [List.cons.injEq, and_true] at ec5
  subst ec5
  have g1_4 : DataW.trod enc Try.prog W b sp hd n1 79 [c6] = xs1[4]? := by
    have h := hg1 4 _ rfl
    rw [show Try.prog.cellsOf _ = 1 by kernel_rfl] at h
    exact h
  rw [List.getElem?_eq_getElem (by rw [hl1]; decide)] at g1_4
  obtain ⟨vc6, ec6, _, wc6⟩ := DataW.trod_int Try.underlying79 g1_4
  simp only [List.cons.injEq, and_true] at ec6
  subst ec6
  have g1_5 : DataW.trod enc Try.prog W b sp hd n1 79 [c7] = xs1[5]? := by
    have h := hg1 5 _ rfl
    rw [show Try.prog.cellsOf _ = 1 by kernel_rfl] at h
    exact h
  rw [List.getElem?_eq_getElem (by rw [hl1]; decide)] at g1_5
  obtain ⟨vc7, ec7, _, wc7⟩ := DataW.trod_int Try.underlying79 g1_5
  simp only [List.cons.injEq, and_true] at ec7
  subst ec7
  exact ⟨(vc0, vc1, vc2, vc3, vc4, vc5, vc6, vc7), rfl, i64_bounds wc0, i64_bounds wc1, i64_bounds wc2, i64_bounds wc3, u32_bounds wc4, u32_bounds wc5, u32_bounds wc6, u32_bounds wc7⟩

/-- The data of a value of type Covering. -/
def CovV_ (W : World) (v : Value) (f : Int × Int × Int × Bool × List Int × List Int × Bool × List Int × List Int) : Prop := ∃ (A4 : Option Addr) (l4 c4 : Nat), ∃ (A5 : Option Addr) (l5 c5 : Nat), ∃ (A7 : Option Addr) (l7 c7 : Nat), ∃ (A8 : Option Addr) (l8 c8 : Nat), v = .agg #[.int .i64 f.1, .int .i64 f.2.1, .int .i64 f.2.2.1, .bool f.2.2.2.1, .slice A4 l4 c4, .slice A5 l5 c5, .bool f.2.2.2.2.2.2.1, .slice A7 l7 c7, .slice A8 l8 c8] ∧ (-9223372036854775808 ≤ f.1 ∧ f.1 ≤ 9223372036854775807) ∧ (-9223372036854775808 ≤ f.2.1 ∧ f.2.1 ≤ 9223372036854775807) ∧ (-9223372036854775808 ≤ f.2.2.1 ∧ f.2.2.1 ≤ 9223372036854775807) ∧ (Ints .u32 W A4 l4 f.2.2.2.2.1 ∧ l4 ≤ c4 ∧ c4 ≤ 9223372036854775807) ∧ (Ints .u32 W A5 l5 f.2.2.2.2.2.1 ∧ l5 ≤ c5 ∧ c5 ≤ 9223372036854775807) ∧ (Ints .u32 W A7 l7 f.2.2.2.2.2.2.2.1 ∧ l7 ≤ c7 ∧ c7 ≤ 9223372036854775807) ∧ (Ints .u32 W A8 l8 f.2.2.2.2.2.2.2.2 ∧ l8 ≤ c8 ∧ c8 ≤ 9223372036854775807)
set_option maxRecDepth 100000 in
set_option maxHeartbeats 1000000 in
theorem cov_open {W : World} {H : Type} {enc : TypeId × Value → H} {v : Value} {d : DataW H} {p : List MemPlace} {b base : Nat} {sp : Nat → Bool} {hd : Bool}
    (hv : Value.okWide Try.prog W .any base 88 v) (h : DataW.Trod enc Try.prog W b sp hd 88 v d p) : ∃ f, CovV_ W v f := by
  obtain ⟨cs, rfl, hsz⟩ := okWide_struct Try.underlying88 hv
  obtain ⟨c0, c1, c2, c3, c4, c5, c6, c7, c8, rfl⟩ := arrayN9 (hsz.trans (show Try.prog.cellsOf 88 = 9 by kernel_rfl))
  obtain ⟨fuel, hf⟩ := h
  have hf' : DataW.trod enc Try.prog W b sp hd fuel 88 [c0, c1, c2, c3, c4, c5, c6, c7, c8] = some (d, p) := by simpa [Value.cells] using hf
  obtain ⟨xs1, n1, _, _, _, hl1, hg1⟩ := DataW.trod_struct Try.underlying88 hf'
  have g1_0 : DataW.trod enc Try.prog W b sp hd n1 62 [c0, c1] = xs1[0]? := by
    have h := hg1 0 _ rfl
    rw [show Try.prog.cellsOf _ = 2 by kernel_rfl] at h
    exact h
  rw [List.getElem?_eq_getElem (by rw [hl1]; decide)] at g1_0
  obtain ⟨xs2, n2, _, _, _, hl2, hg2⟩ := DataW.trod_struct Try.underlying62 g1_0
  have g2_0 : DataW.trod enc Try.prog W b sp hd n2 3 [c0] = xs2[0]? := by
    have h := hg2 0 _ rfl
    rw [show Try.prog.cellsOf _ = 1 by kernel_rfl] at h
    exact h
  rw [List.getElem?_eq_getElem (by rw [hl2]; decide)] at g2_0
  obtain ⟨vc0, ec0, _, wc0⟩ := DataW.trod_int Try.underlying3 g2_0
  simp only [List.cons.injEq, and_true] at ec0
  subst ec0
  have g2_1 : DataW.trod enc Try.prog W b sp hd n2 3 [c1] = xs2[1]? := by
    have h := hg2 1 _ rfl
    rw [show Try.prog.cellsOf _ = 1 by kernel_rfl] at h
    exact h
  rw [List.getElem?_eq_getElem (by rw [hl2]; decide)] at g2_1
  obtain ⟨vc1, ec1, _, wc1⟩ := DataW.trod_int Try.underlying3 g2_1
  simp only [List.cons.injEq, and_true] at ec1
  subst ec1
  have g1_1 : DataW.trod enc Try.prog W b sp hd n1 3 [c2] = xs1[1]? := by
    have h := hg1 1 _ rfl
    rw [show Try.prog.cellsOf _ = 1 by kernel_rfl] at h
    exact h
  rw [List.getElem?_eq_getElem (by rw [hl1]; decide)] at g1_1
  obtain ⟨vc2, ec2, _, wc2⟩ := DataW.trod_int Try.underlying3 g1_1
  simp only [List.cons.injEq, and_true] at ec2
  subst ec2
  have g1_2 : DataW.trod enc Try.prog W b sp hd n1 33 [c3, c4, c5] = xs1[2]? := by
    have h := hg1 2 _ rfl
    rw [show Try.prog.cellsOf _ = 3 by kernel_rfl] at h
    exact h
  rw [List.getElem?_eq_getElem (by rw [hl1]; decide)] at g1_2
  obtain ⟨xs6, n6, _, _, _, hl6, hg6⟩ := DataW.trod_struct Try.underlying33 g1_2
  have g6_0 : DataW.trod enc Try.prog W b sp hd n6 4 [c3] = xs6[0]? := by
    have h := hg6 0 _ rfl
    rw [show Try.prog.cellsOf _ = 1 by kernel_rfl] at h
    exact h
  rw [List.getElem?_eq_getElem (by rw [hl6]; decide)] at g6_0
  obtain ⟨vc3, ec3, _⟩ := DataW.trod_bool Try.underlying4 g6_0
  simp only [List.cons.injEq, and_true] at ec3
  subst ec3
  have g6_1 : DataW.trod enc Try.prog W b sp hd n6 31 [c4] = xs6[1]? := by
    have h := hg6 1 _ rfl
    rw [show Try.prog.cellsOf _ = 1 by kernel_rfl] at h
    exact h
  rw [List.getElem?_eq_getElem (by rw [hl6]; decide)] at g6_1
  obtain ⟨Ac4, lc4, mc4, ec4⟩ := slice_form Try.underlying31 g6_1
  simp only [List.cons.injEq, and_true] at ec4
  subst ec4
  obtain ⟨vc4, wc4⟩ := ints_trod Try.underlying31 Try.underlying79 (by kernel_rfl) g6_1
  have g6_2 : DataW.trod enc Try.prog W b sp hd n6 31 [c5] = xs6[2]? := by
    have h := hg6 2 _ rfl
    rw [show Try.prog.cellsOf _ = 1 by kernel_rfl] at h
    exact h
  rw [List.getElem?_eq_getElem (by rw [hl6]; decide)] at g6_2
  obtain ⟨Ac5, lc5, mc5, ec5⟩ := slice_form Try.underlying31 g6_2
  simp only [List.cons.injEq, and_true] at ec5
  subst ec5
  obtain ⟨vc5, wc5⟩ := ints_trod Try.underlying31 Try.underlying79 (by kernel_rfl) g6_2
  have g1_3 : DataW.trod enc Try.prog W b sp hd n1 33 [c6, c7, c8] = xs1[3]? := by
    have h := hg1 3 _ rfl
    rw [show Try.prog.cellsOf _ = 3 by kernel_rfl] at h
    exact h
  rw [List.getElem?_eq_getElem (by rw [hl1]; decide)] at g1_3
  obtain ⟨xs10, n10, _, _, _, hl10, hg10⟩ := DataW.trod_struct Try.underlying33 g1_3
  have g10_0 : DataW.trod enc Try.prog W b sp hd n10 4 [c6] = xs10[0]? := by
    have h := hg10 0 _ rfl
    rw [show Try.prog.cellsOf _ = 1 by kernel_rfl] at h
    exact h
  rw [List.getElem?_eq_getElem (by rw [hl10]; decide)] at g10_0
  obtain ⟨vc6, ec6, _⟩ := DataW.trod_bool Try.underlying4 g10_0
  simp only [List.cons.injEq, and_true] at ec6
  subst ec6
  have g10_1 : DataW.trod enc Try.prog W b sp hd n10 31 [c7] = xs10[1]? := by
    have h := hg10 1 _ rfl
    rw [show Try.prog.cellsOf _ = 1 by kernel_rfl] at h
    exact h
  rw [List.getElem?_eq_getElem (by rw [hl10]; decide)] at g10_1
  obtain ⟨Ac7, lc7, mc7, ec7⟩ := slice_form Try.underlying31 g10_1
  simp only [List.cons.injEq, and_true] at ec7
  subst ec7
  obtain ⟨vc7, wc7⟩ := ints_trod Try.underlying31 Try.underlying79 (by kernel_rfl) g10_1
  have g10_2 : DataW.trod enc Try.prog W b sp hd n10 31 [c8] = xs10[2]? := by
    have h := hg10 2 _ rfl
    rw [show Try.prog.cellsOf _ = 1 by kernel_rfl] at h
    exact h
  rw [List.getElem?_eq_getElem (by rw [hl10]; decide)] at g10_2
  obtain ⟨Ac8, lc8, mc8, ec8⟩ := slice_form Try.underlying31 g10_2
  simp only [List.cons.injEq, and_true] at ec8
  subst ec8
  obtain ⟨vc8, wc8⟩ := ints_trod Try.underlying31 Try.underlying79 (by kernel_rfl) g10_2
  exact ⟨(vc0, vc1, vc2, vc3, vc4, vc5, vc6, vc7, vc8), Ac4, lc4, mc4, Ac5, lc5, mc5, Ac7, lc7, mc7, Ac8, lc8, mc8, rfl, i64_bounds wc0, i64_bounds wc1, i64_bounds wc2, wc4, wc5, wc7, wc8⟩
end Go.Proofs.Yteoijnaljkagfaa
