/- TopPlaces holds: for every input the statement returns true, and each argument reads afterwards as before. No condition. -/
import Derived.Test.YtikhlcgnlbinfaaPlacesS
import Derived.Test.YtikhlcgnlbinfaaPlacesY
set_option maxRecDepth 100000
set_option maxHeartbeats 200000
namespace Go.Proofs.Ytikhlcgnlbinfaa.topPlaces
open Lib (hid)
open Go.ChangeShapes Go.WideShapes Go.ChangeAt Go.RowKit
theorem pC (os : Os) (started : os.Started) (H : Type) (enc : TypeId × Value -> H) :
  ReturnsInHanded {} Try.checked os 3 .any (Rows.topPlacesSpec.pre6 enc Try.prog Try.f3 Rows.topPlacesRow.domain false) (Rows.topPlacesSpec.post enc Try.prog Try.f3 false true false false) := by
 refine returnsInHanded_of_change (C := Try.checked) own started (by kernel_rfl) Try.func3
  (ChangeSpec.witness6 (enc := enc) (C := Try.checked) false ⟨#[], #[.agg #[.int .i64 0, .int .i64 0, .int .i64 0, .int .i64 0, .int .i64 0, .int .i64 0, .int .i64 0, .int .i64 0, .int .i64 0, .int .i64 0, .int .i64 0, .int .i64 0, .int .i64 0, .int .i64 0, .int .i64 0, .int .i64 0, .int .i64 0, .int .i64 0, .int .i64 0, .int .i64 0, .int .i64 0, .int .i64 0, .int .i64 0, .int .i64 0, .int .i64 0, .int .i64 0, .int .i64 0, .slice none 0 0, .int .i64 0, .int .i64 0, .int .i64 0, .int .i64 0, .int .i64 0, .int .i64 0, .int .i64 0, .int .i64 0, .int .i64 0]], []⟩ 8 (by kernel_rfl) (by kernel_rfl) (by kernel_rfl) (by kernel_rfl)) ?_
 intro W base args ds gs before hval0 hW hcnd _;have hval : ∀ (j : Nat) t v, Try.f3.params[j]? = some t -> args[j]? = some v -> Value.okWide Try.prog W .any base t v := hval0;have hW' := hW;obtain ⟨p, q, hA0, hV, rfl, hfz, hnd⟩ := hW;have hA : DataW.TrodAll enc Try.prog W 0 (fun _ => true) true Try.f3.params.toList args.toList ds p := hA0;rw [Try.params3] at hA hval;obtain ⟨v0, vs0, d0, ds0, p0, q0, hargs, rfl, rfl, h0, r0⟩ := trodAll_cons hA;obtain ⟨rfl, rfl, rfl⟩ := trodAll_nil r0;obtain rfl : args = #[v0] := by cases args; simp_all
 obtain ⟨rfl, rfl⟩ := trodVars_none hV;have lt0 : ∀ x ∈ p0, x.block < W.heap.size := by obtain ⟨m, hm⟩ := h0; exact DataW.trod_lt m _ _ _ hm
 obtain ⟨f0, f1, f2, f3, f4, f5, f6, f7, f8, f9, f10, f11, f12, f13, f14, f15, f16, f17, f18, f19, f20, f21, f22, f23, f24, f25, f26, f28, f29, f30, f31, f32, f33, f34, f35, f36, SA, n, c, xs, rfl, hS, hn, b0, b1, b2, b3, b4, b5, b6, b7, b8, b9, b10, b11, b12, b13, b14, b15, b16, b17, b18, b19, b20, b21, b22, b23, b24, b25, b26, b28, b29, b30, b31, b32, b33, b34, b35, b36⟩ := iX (hval 0 33 v0 rfl rfl) h0;clear hA0 hval0;refine (eX ⟨f0, oK f1 f2 f3, f4, g4 f5 f6 f7 f8, f9⟩ ⟨f10, oK f11 f12 f13, f14, g4 f15 f16 f17 f18, f19⟩ f20 f21 f22 f23 f24 f25 f26 f28 f29 f34 f35 f36 (g4 f30 f31 f32 f33) SA n c xs W hS hn b28 b26 b24 b25 b34 b35 b36 (kp (P := fun x => -9223372036854775808 <= x /\ x <= 9223372036854775807) b30 b31 b32 b33)).mono fun e W' ⟨he, bel⟩ => ?_
 subst he;exact ⟨_, rfl, _, _, _, [], _, [], hW', trodAll_mk1 (shut_bool Try.underlying4 _), (trodAll_cons_mk (Below.trod mQ (by kernel_rfl) (of_decide_eq_true (by kernel_rfl)) h0 bel lt0) trodAll_mk0), rfl, Below.frame bel _, fun h => by cases h⟩
theorem mN : Rows.topPlacesRow.holds Try.pinned (OpenSpec.ofChange Rows.topPlacesSpec) :=
 OpenClaim.holds_of_wide 3 Try.f3 rfl rfl rfl rfl rfl rfl rfl ⟨rfl, rfl, rfl, rfl, rfl⟩ rfl rfl rfl rfl rfl (by kernel_rfl) Try.func3 facts
  (of_decide_eq_true (by kernel_rfl)) (by unfold Func.isWrapper; first | (rw [if_pos (by decide +kernel)]; kernel_rfl) | (rw [if_neg (by decide +kernel)]; exact ⟨rfl, rfl⟩))
  (fun os started H enc _ => pC os started H enc)
theorem proved : Rows.TopPlacesSaid := mN
#print axioms proved
end Go.Proofs.Ytikhlcgnlbinfaa.topPlaces
