/- StripAdjusts holds: for every input the statement returns true, and each argument reads afterwards as before. No condition. -/
import Derived.Test.YtikhlcgnlbinfaaAdjustsP
import Derived.Test.YtikhlcgnlbinfaaAdjustsY
set_option maxRecDepth 100000
set_option maxHeartbeats 200000
namespace Go.Proofs.Ytikhlcgnlbinfaa.stripAdjusts
open Lib (hid)
open Go.ChangeShapes Go.WideShapes Go.ChangeAt Go.RowKit
theorem sO (os : Os) (started : os.Started) (H : Type) (enc : TypeId × Value -> H) :
  ReturnsInHanded {} Try.checked os 17 .any (Rows.stripAdjustsSpec.pre6 enc Try.prog Try.f17 Rows.stripAdjustsRow.domain false) (Rows.stripAdjustsSpec.post enc Try.prog Try.f17 false true false false) := by
 refine returnsInHanded_of_change (C := Try.checked) own started (by kernel_rfl) Try.func17
  (ChangeSpec.witness6 (enc := enc) (C := Try.checked) false ⟨#[], #[.agg #[.int .i64 0, .slice none 0 0], .int .i64 0], []⟩ 8 (by kernel_rfl) (by kernel_rfl) (by kernel_rfl) (by kernel_rfl)) ?_
 intro W base args ds gs before hval0 hW hcnd _;have hval : ∀ (j : Nat) t v, Try.f17.params[j]? = some t -> args[j]? = some v -> Value.okWide Try.prog W .any base t v := hval0;have hW' := hW;obtain ⟨p, q, hA0, hV, rfl, hfz, hnd⟩ := hW;have hA : DataW.TrodAll enc Try.prog W 0 (fun _ => true) true Try.f17.params.toList args.toList ds p := hA0;rw [Try.params17] at hA hval;obtain ⟨v0, vs0, d0, ds0, p0, q0, hargs, rfl, rfl, h0, r0⟩ := trodAll_cons hA;obtain ⟨v1, vs1, d1, ds1, p1, q1, rfl, rfl, rfl, h1, r1⟩ := trodAll_cons r0;obtain ⟨rfl, rfl, rfl⟩ := trodAll_nil r1;obtain rfl : args = #[v0, v1] := by cases args; simp_all
 obtain ⟨rfl, rfl⟩ := trodVars_none hV;have lt0 : ∀ x ∈ p0, x.block < W.heap.size := by obtain ⟨m, hm⟩ := h0; exact DataW.trod_lt m _ _ _ hm
 obtain ⟨S0, A0, n0, c0, ms0, rfl, hM0, hc0⟩ := mS (hval 0 76 v0 rfl rfl) h0;obtain ⟨a1, rfl, rfl, rfl, w1⟩ := open_int Try.underlying3 (hval 1 3 v1 rfl rfl) h1;clear hA0 hval0;refine (ez S0 A0 n0 c0 ms0 a1 W hM0 (by have h := w1; simp [Lit.wf, IntKind.min, IntKind.max, IntKind.bits, IntKind.signed] at h; omega) (by have h := w1; simp [Lit.wf, IntKind.min, IntKind.max, IntKind.bits, IntKind.signed] at h; omega)).mono fun e W' ⟨he, bel⟩ => ?_
 subst he;exact ⟨_, rfl, _, _, _, [], _, [], hW', trodAll_mk1 (shut_bool Try.underlying4 _), (trodAll_cons_mk (Below.trod pZ (by kernel_rfl) (of_decide_eq_true (by kernel_rfl)) h0 bel lt0) (trodAll_cons_mk (shut_int Try.underlying3 w1) trodAll_mk0)), rfl, Below.frame bel _, fun h => by cases h⟩
theorem kJ : Rows.stripAdjustsRow.holds Try.pinned (OpenSpec.ofChange Rows.stripAdjustsSpec) :=
 OpenClaim.holds_of_wide 17 Try.f17 rfl rfl rfl rfl rfl rfl rfl ⟨rfl, rfl, rfl, rfl, rfl⟩ rfl rfl rfl rfl rfl (by kernel_rfl) Try.func17 facts
  (of_decide_eq_true (by kernel_rfl)) (by unfold Func.isWrapper; first | (rw [if_pos (by decide +kernel)]; kernel_rfl) | (rw [if_neg (by decide +kernel)]; exact ⟨rfl, rfl⟩))
  (fun os started H enc _ => sO os started H enc)
theorem proved : Rows.StripAdjustsSaid := kJ
#print axioms proved
end Go.Proofs.Ytikhlcgnlbinfaa.stripAdjusts
