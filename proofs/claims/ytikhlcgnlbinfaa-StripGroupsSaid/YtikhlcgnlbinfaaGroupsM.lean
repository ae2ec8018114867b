/- Lemmas of the proof that follows (Groups, part 13): walks of functions by contract, and plain lemmas. Conditions: none. -/
import Derived.Test.YtikhlcgnlbinfaaGroupsL
namespace Go.Proofs.Ytikhlcgnlbinfaa
open Go.RowKit

theorem NumK.app {α : Type} {k : Nat} {R : World → List Value → α → Prop} {w : World} {vs us : List Value} {n m : Nat} {f g : Nat → α} (h : NumK k R w vs n f) (h' : NumK k R w us m g) : NumK k R w (vs ++ us) (n + m) (fun i => if i < n then f i else g (i - n)) := by
  obtain ⟨h1, h2⟩ := h
  obtain ⟨h3, h4⟩ := h'
  refine ⟨by rw [List.length_append, h1, h3, Nat.add_mul], fun j hj => ?_⟩
  by_cases e : j < n
  · obtain ⟨cs, c1, c2, c3⟩ := h2 j e
    refine ⟨cs, c1, by simp only [if_pos e]; exact c2, fun i hi => ?_⟩
    rw [List.getElem?_append_left]
    · exact c3 i hi
    · rw [h1]
      have := Nat.mul_le_mul_right k (show j + 1 ≤ n by omega)
      rw [Nat.add_mul] at this
      omega
  · obtain ⟨cs, c1, c2, c3⟩ := h4 (j - n) (by omega)
    refine ⟨cs, c1, by simp only [if_neg e]; exact c2, fun i hi => ?_⟩
    have hm := Nat.mul_le_mul_right k (show n ≤ j by omega)
    rw [List.getElem?_append_right (by rw [h1]; omega), h1, show j * k + i - n * k = (j - n) * k + i by rw [Nat.sub_mul]; omega]
    exact c3 i hi
/-- A local shift: nine cells, three numbers. -/
def X9 (w : World) (g : Nat) (f : Nat → Rat) : Prop := ∃ vs : List Value, Blk w g 98 vs.toArray ∧ NumK 3 (Tri RatG) w vs 3 f ∧ ∀ u ∈ vs, NoInt u
theorem X9.ext {w w' : World} {g : Nat} {f : Nat → Rat} (h : X9 w g f) (he : Ext w w') : X9 w' g f := by
  obtain ⟨vs, h1, h2, h3⟩ := h
  exact ⟨vs, h1.ext he, h2.ext kindG he, h3⟩
theorem X9.congr {w : World} {g : Nat} {f h : Nat → Rat} (k : X9 w g f) (e : ∀ j, j < 3 → f j = h j) : X9 w g h := by
  obtain ⟨vs, h1, h2, h3⟩ := k
  exact ⟨vs, h1, h2.congr e, h3⟩
theorem X9.ni {w : World} {g : Nat} {f : Nat → Rat} (h : X9 w g f) : NoInts w g := by
  obtain ⟨vs, h1, h2, h3⟩ := h
  exact ⟨_, _, h1, fun v hv => h3 v (by simpa using hv)⟩
theorem X9.free {w : World} {g : Nat} {f : Nat → Rat} (h : X9 w g f) (i : Nat) : w.frozen? ⟨g, i, none⟩ = false := by
  obtain ⟨vs, h1, h2, h3⟩ := h
  exact h1.free i
theorem X9.cells {w : World} {g : Nat} {f : Nat → Rat} (h : X9 w g f) {j : Nat} (hj : j < 3) : ∃ s A l c B m k, w.cell? ⟨g, j * 3, none⟩ = some (.bool s) ∧ w.cell? ⟨g, j * 3 + 1, none⟩ = some (.slice A l c) ∧ w.cell? ⟨g, j * 3 + 2, none⟩ = some (.slice B m k) ∧ RatG w (.agg #[.bool s, .slice A l c, .slice B m k]) (f j) := by
  obtain ⟨vs, h1, h2, h3⟩ := h
  obtain ⟨s, A, l, c, B, m, k, x0, x1, x2, hx⟩ := h2.three hj
  exact ⟨s, A, l, c, B, m, k, (h1.cell _).trans (by rw [List.getElem?_toArray]; exact x0), (h1.cell _).trans (by rw [List.getElem?_toArray]; exact x1), (h1.cell _).trans (by rw [List.getElem?_toArray]; exact x2), hx⟩
theorem X9.mk {w : World} {g : Nat} {s0 s1 s2 : Bool} {A0 A1 A2 B0 B1 B2 : Option Addr} {l0 c0 m0 k0 l1 c1 m1 k1 l2 c2 m2 k2 : Nat} {f : Nat → Rat} (hB : Blk w g 98 #[.bool s0, .slice A0 l0 c0, .slice B0 m0 k0, .bool s1, .slice A1 l1 c1, .slice B1 m1 k1, .bool s2, .slice A2 l2 c2, .slice B2 m2 k2])
    (h0 : RatG w (.agg #[.bool s0, .slice A0 l0 c0, .slice B0 m0 k0]) (f 0)) (h1 : RatG w (.agg #[.bool s1, .slice A1 l1 c1, .slice B1 m1 k1]) (f 1)) (h2 : RatG w (.agg #[.bool s2, .slice A2 l2 c2, .slice B2 m2 k2]) (f 2)) : X9 w g f := by
  have hc : Cs3 w [.bool s0, .slice A0 l0 c0, .slice B0 m0 k0, .bool s1, .slice A1 l1 c1, .slice B1 m1 k1, .bool s2, .slice A2 l2 c2, .slice B2 m2 k2] (f 0) (f 1) (f 2) := ⟨_, _, _, rfl, Tri.mk h0, Tri.mk h1, Tri.mk h2⟩
  refine ⟨_, hB, ?_, hc.vals.2.2⟩
  exact (NumK.snoc9 (k := 0) (f := f) (vs := []) (NumK.nil _ _ _ _) hc)
theorem X9.put {w : World} {g : Nat} {f : Nat → Rat} (h : X9 w g f) {j : Nat} (hj : j < 3) {s : Bool} {A B : Option Addr} {l c m k : Nat} {q : Rat} (hx : RatG w (.agg #[.bool s, .slice A l c, .slice B m k]) q) :
    X9 (((w.setCell ⟨g, j * 3, none⟩ (.bool s)).setCell ⟨g, j * 3 + 1, none⟩ (.slice A l c)).setCell ⟨g, j * 3 + 2, none⟩ (.slice B m k)) g (fun i => if i = j then q else f i) := by
  have hni := h.ni
  obtain ⟨vs, h1, h2, h3⟩ := h
  have hkp : Keeps [g] w (((w.setCell ⟨g, j * 3, none⟩ (.bool s)).setCell ⟨g, j * 3 + 1, none⟩ (.slice A l c)).setCell ⟨g, j * 3 + 2, none⟩ (.slice B m k)) := (((Keeps.refl [g] w).setCell (.inl (by simp)) _).setCell (.inl (by simp)) _).setCell (.inl (by simp)) _
  have hN : ∀ q ∈ [g], NoInts w q := fun q hq => by simp at hq; subst hq; exact hni
  refine ⟨((vs.set (j * 3) (.bool s)).set (j * 3 + 1) (.slice A l c)).set (j * 3 + 2) (.slice B m k), ?_, (h2.keep kindG hkp hN).put3 hj (hx.keepsNI hkp hN), fun u hu => ?_⟩
  · have := ((h1.set (j * 3) (.bool s)).set (j * 3 + 1) (.slice A l c)).set (j * 3 + 2) (.slice B m k)
    simpa only [List.setIfInBounds_toArray] using this
  · rcases List.mem_or_eq_of_mem_set hu with hu | rfl
    · rcases List.mem_or_eq_of_mem_set hu with hu | rfl
      · rcases List.mem_or_eq_of_mem_set hu with hu | rfl
        · exact h3 u hu
        · exact noInt_bool _
      · exact noInt_slice _ _ _
    · exact noInt_slice _ _ _
/-- The moved shifts. -/
def mvd (l : Nat → Int) (g : Int) (v : Nat → Int) (u : Nat → Rat) : Nat → Rat := fun j => if l (j / 3) = g then u j + ((v (j % 3) : Int) : Rat) else u j
theorem mvd_at {l : Nat → Int} {g : Int} {v : Nat → Int} {u : Nat → Rat} {s k : Nat} (hk : k < 3) : mvd l g v u (3 * s + k) = if l s = g then u (3 * s + k) + ((v k : Int) : Rat) else u (3 * s + k) := by
  unfold mvd
  rw [show (3 * s + k) / 3 = s by omega, show (3 * s + k) % 3 = k by omega]
theorem lab_fix {S : Nat} {ms : List Mt} (h : ∀ m ∈ ms, VM S m) : ∀ m ∈ ms, lab1 (labR ms S) m = labR ms S :=
  labs_fix (fun m hm => (h m hm).a0) (labR_low (fun m hm => (h m hm).a0) S) (labR_still (S := S) fun m hm => ⟨(h m hm).a0, (h m hm).aS, (h m hm).bS⟩)
theorem mvd_lin {S : Nat} {ms : List Mt} (h : ∀ m ∈ ms, VM S m) {g : Int} (hg : g ≠ -1) (v : Nat → Int) (u : Nat → Rat) {m : Mt} (hm : m ∈ ms) : res (3 * S) m (mvd (labR ms S) g v u) = res (3 * S) m u := by
  have := group_lin (v := fun k => ((v k : Int) : Rat)) (u := u) (h m hm) (lab_fix h m hm) hg
  unfold res
  exact congrArg (fun x => (m.d : Rat) + x) this
theorem mvd_slope {S : Nat} {ms : List Mt} (h : ∀ m ∈ ms, VM S m) {g : Int} (hg : g ≠ -1) (v : Nat → Int) (u : Nat → Rat) (i : Nat) : slope (3 * S) ms (mvd (labR ms S) g v u) i = slope (3 * S) ms u i := by
  unfold slope
  exact sumM_congr fun m hm => by rw [mvd_lin h hg v u hm]
theorem mvd_tame {S : Int} {ms : List Mt} (h : ∀ m ∈ ms, VM S m) (hl : ms.length ≤ 64) {n : Nat} (hn : n ≤ 12) (l : Nat → Int) (g : Int) {v : Nat → Int} (hv : ∀ k, -32768 ≤ v k ∧ v k ≤ 32767) : ∃ P : Nat, 0 < P ∧ P ≤ BB 52 ∧ ∀ j, OverD P (BB 52) (mvd l g v (solP n ms) j) := by
  obtain ⟨P, h1, h2, h3⟩ := solP_over h hl hn
  refine ⟨P, h1, Nat.le_trans h2 (BB_le (by omega)), fun j => ?_⟩
  unfold mvd
  split
  · have ho := (h3 j).add (OverD.int P (v (j % 3)))
    refine ho.mono ?_
    have hb := hv (j % 3)
    have h4 : (v (j % 3)).natAbs * P ≤ 4294967296 * BB 27 := Nat.mul_le_mul (by omega) h2
    have h5 : 4294967296 * BB 27 = BB 28 := by rw [← BB_one, ← BB_add]
    have h6 : BB 27 ≤ BB 51 := BB_le (by omega)
    have h7 : BB 28 ≤ BB 51 := BB_le (by omega)
    have h8 : BB 52 = BB 51 * BB 1 := BB_add 51 1
    rw [BB_one] at h8
    have h9 := BB_pos 51
    omega
  · exact (h3 j).mono (BB_le (by omega))

set_option maxRecDepth 100000 in
set_option maxHeartbeats 2000000 in
theorem groups_r18 (gx gv kk : Nat) (vk : Int) (q : Rat) (su : Bool) (Au Bu : Option Addr) (lu cu mu ku : Nat) (w : World) (x0 : w.cell? ⟨gx, kk * 3, none⟩ = some (.bool su)) (x1 : w.cell? ⟨gx, kk * 3 + 1, none⟩ = some (.slice Au lu cu)) (x2 : w.cell? ⟨gx, kk * 3 + 2, none⟩ = some (.slice Bu mu ku)) (cv : w.cell? ⟨gv, kk, none⟩ = some (.int .i16 vk)) (hx : RatG w (.agg #[.bool su, .slice Au lu cu, .slice Bu mu ku]) q) (hb : -32768 ≤ vk ∧ vk ≤ 32767) (hk3 : (kk : Int) < 3) (_hk4 : kk < 3) (hf : FitQW (q + ((vk : Int) : Rat))) (a : Act) (Q : Exit → Act → World → Prop) (hsize : 104 ≤ a.tmps.size)
    (s5 : a.tmps[5]? = some (.pointer (some ⟨gv, 0, none⟩)))
    (s14 : a.tmps[14]? = some (.pointer (some ⟨gx, 0, none⟩)))
    (s15 : a.tmps[15]? = some (.int .i64 (kk : Int)))
    (hend : ∀ (xv0 xv1 xv2 xv3 xv4 xv5 xv6 xv7 xv8 xv9 xv10 xv11 xv12 xv13 xv14 : Value) (W : World), (xv0 = .int .i64 (kk : Int)) → (xv1 = .pointer (some ⟨gx, kk * 3, none⟩)) → (xv2 = .agg #[.bool su, .slice Au lu cu, .slice Bu mu ku]) → (xv3 = .int .i64 (kk : Int)) → (xv4 = .pointer (some ⟨gv, kk, none⟩)) → (xv5 = .int .i16 vk) → (xv6 = .int .i64 (vk)) → (xv14 = .int .i64 (0)) → (RatG W xv7 ((vk : Int) : Rat)) → (TupG W xv8 (q + ((vk : Int) : Rat))) → (TupG W xv9 (q + ((vk : Int) : Rat))) → (RatG W xv10 (q + ((vk : Int) : Rat))) → (xv11 = .int .i64 0) → (∃ g, xv12 = .pointer (some ⟨g, 0, none⟩) ∧ w.heap.size ≤ g ∧ Blk W g 97 (aggOf xv10)) → Ext w W → wpList Try.prog (rops Try.f16 18).toArray Q [] (((((((((((((((a.put (some 93) xv0).put (some 94) xv1).put (some 95) xv2).put (some 96) xv3).put (some 97) xv4).put (some 98) xv5).put (some 99) xv6).put (some 100) xv7).put (some 101) xv8).put (some 92) xv9).put (some 102) xv10).put (some 103) xv11).put (some 16) xv12).put (none) xv13).put (some 17) xv14) W) :
    (Code.region 18 (rops Try.f16 18).toArray true).wp Try.prog Q a w := by
  have hsz : ∀ d, some d ∈ ([some 93, some 94, some 95, some 96, some 97, some 98, some 99, some 100, some 101, some 92, some 102, some 103, some 16, none, some 17] : List (Option Tmp)) → d < a.tmps.size := slots_lt (by decide) hsize
  refine wp_region_g 15 [some 93, some 94, some 95, some 96, some 97, some 98, some 99, some 100, some 101, some 92, some 102, some 103, some 16, none, some 17] [[], [0], [1], [], [3], [4], [5], [6], [2, 7], [8], [9], [9], [], [10, 12], [11]] [[], [], [], [], [], [], [], [], [], [], [13], [], [13], [], []] (fun (done : Nat → Prop) (us : Nat → Value) (W : World) => Ext w W ∧ (done 0 → us 0 = .int .i64 (kk : Int)) ∧ (done 1 → us 1 = .pointer (some ⟨gx, kk * 3, none⟩)) ∧ (done 2 → us 2 = .agg #[.bool su, .slice Au lu cu, .slice Bu mu ku]) ∧ (done 3 → us 3 = .int .i64 (kk : Int)) ∧ (done 4 → us 4 = .pointer (some ⟨gv, kk, none⟩)) ∧ (done 5 → us 5 = .int .i16 vk) ∧ (done 6 → us 6 = .int .i64 (vk)) ∧ (done 14 → us 14 = .int .i64 (0)) ∧ (done 7 → RatG W (us 7) ((vk : Int) : Rat)) ∧ (done 8 → TupG W (us 8) (q + ((vk : Int) : Rat))) ∧ (done 9 → TupG W (us 9) (q + ((vk : Int) : Rat))) ∧ (done 10 → RatG W (us 10) (q + ((vk : Int) : Rat))) ∧ (done 11 → (us 11) = .int .i64 0) ∧ Loc w W 97 #[.bool false, .slice none 0 0, .slice none 0 0] (aggOf (us 10)) (done 12) (done 13) (us 12)) (by kernel_rfl) (by kernel_rfl) hsz (fun p q us W h => by have e : p = q := funext fun k => propext (h k); rw [e]; exact id) (fun us => ⟨(Ext.refl w).drew, fun h => h.elim, fun h => h.elim, fun h => h.elim, fun h => h.elim, fun h => h.elim, fun h => h.elim, fun h => h.elim, fun h => h.elim, fun h => h.elim, fun h => h.elim, fun h => h.elim, fun h => h.elim, fun h => h.elim, Loc.unmade id⟩) ?_ ?_
  · clear hend
    simp only [rops, Try.f16, regOf, Option.bind_some, Nat.reduceBEq, if_true, if_false, Bool.false_eq_true, Option.getD_some]
    simp only [List.take_succ_cons, List.take_zero]
    refine ⟨?_, ?_, ?_, ?_, ?_, ?_, ?_, ?_, ?_, ?_, ?_, ?_, ?_, ?_, ?_, trivial⟩
    · intro done us W hJ hdep haft hnot b hb hb' K hK Q'
      obtain ⟨hX0, cc0, cc1, cc2, cc3, cc4, cc5, cc6, cc14, pp7, pp8, pp9, pp10, pp11, ll12⟩ := hJ
      have e15 := (hb' 15 (by simp)).trans s15
      clear hb hb'
      have hfin := hK (.int .i64 (kk : Int)) _ ⟨hX0, fun _ => rfl, fun h => cc1 (h.resolve_right (by decide)), fun h => cc2 (h.resolve_right (by decide)), fun h => cc3 (h.resolve_right (by decide)), fun h => cc4 (h.resolve_right (by decide)), fun h => cc5 (h.resolve_right (by decide)), fun h => cc6 (h.resolve_right (by decide)), fun h => cc14 (h.resolve_right (by decide)), fun h => pp7 (h.resolve_right (by decide)), fun h => pp8 (h.resolve_right (by decide)), fun h => pp9 (h.resolve_right (by decide)), fun h => pp10 (h.resolve_right (by decide)), fun h => pp11 (h.resolve_right (by decide)), Loc.same ll12 ⟨fun h => h.resolve_right (by decide), .inl⟩ ⟨fun h => h.resolve_right (by decide), .inl⟩⟩
      clear hK cc0 cc1 cc2 cc3 cc4 cc5 cc6 cc14 pp7 pp8 pp9 pp10 pp11 ll12
      go_simp
      exact hfin
    · intro done us W hJ hdep haft hnot b hb hb' K hK Q'
      obtain ⟨hX0, cc0, cc1, cc2, cc3, cc4, cc5, cc6, cc14, pp7, pp8, pp9, pp10, pp11, ll12⟩ := hJ
      simp only [List.getD_cons_succ, List.getD_cons_zero, List.mem_cons, List.not_mem_nil, or_false, forall_eq] at hdep
      have e14 := (hb' 14 (by simp)).trans s14
      have e93 := hb 0 93 rfl
      rw [cc0 hdep] at e93
      clear hb hb'
      have hfin := hK (.pointer (some ⟨gx, kk * 3, none⟩)) _ ⟨hX0, fun h => cc0 (h.resolve_right (by decide)), fun _ => rfl, fun h => cc2 (h.resolve_right (by decide)), fun h => cc3 (h.resolve_right (by decide)), fun h => cc4 (h.resolve_right (by decide)), fun h => cc5 (h.resolve_right (by decide)), fun h => cc6 (h.resolve_right (by decide)), fun h => cc14 (h.resolve_right (by decide)), fun h => pp7 (h.resolve_right (by decide)), fun h => pp8 (h.resolve_right (by decide)), fun h => pp9 (h.resolve_right (by decide)), fun h => pp10 (h.resolve_right (by decide)), fun h => pp11 (h.resolve_right (by decide)), Loc.same ll12 ⟨fun h => h.resolve_right (by decide), .inl⟩ ⟨fun h => h.resolve_right (by decide), .inl⟩⟩
      clear hK cc0 cc1 cc2 cc3 cc4 cc5 cc6 cc14 pp7 pp8 pp9 pp10 pp11 ll12
      go_simp
      exact hfin
    · intro done us W hJ hdep haft hnot b hb hb' K hK Q'
      obtain ⟨hX0, cc0, cc1, cc2, cc3, cc4, cc5, cc6, cc14, pp7, pp8, pp9, pp10, pp11, ll12⟩ := hJ
      simp only [List.getD_cons_succ, List.getD_cons_zero, List.mem_cons, List.not_mem_nil, or_false, forall_eq] at hdep
      have e94 := hb 1 94 rfl
      rw [cc1 hdep] at e94
      clear hb hb'
      have z0 := Ext.cell hX0 x0
      have z1 := Ext.cell hX0 x1
      have z2 := Ext.cell hX0 x2
      have hfin := hK (.agg #[.bool su, .slice Au lu cu, .slice Bu mu ku]) _ ⟨hX0, fun h => cc0 (h.resolve_right (by decide)), fun h => cc1 (h.resolve_right (by decide)), fun _ => rfl, fun h => cc3 (h.resolve_right (by decide)), fun h => cc4 (h.resolve_right (by decide)), fun h => cc5 (h.resolve_right (by decide)), fun h => cc6 (h.resolve_right (by decide)), fun h => cc14 (h.resolve_right (by decide)), fun h => pp7 (h.resolve_right (by decide)), fun h => pp8 (h.resolve_right (by decide)), fun h => pp9 (h.resolve_right (by decide)), fun h => pp10 (h.resolve_right (by decide)), fun h => pp11 (h.resolve_right (by decide)), Loc.same ll12 ⟨fun h => h.resolve_right (by decide), .inl⟩ ⟨fun h => h.resolve_right (by decide), .inl⟩⟩
      clear hK cc0 cc1 cc2 cc3 cc4 cc5 cc6 cc14 pp7 pp8 pp9 pp10 pp11 ll12
      go_simp
      exact hfin
    · intro done us W hJ hdep haft hnot b hb hb' K hK Q'
      obtain ⟨hX0, cc0, cc1, cc2, cc3, cc4, cc5, cc6, cc14, pp7, pp8, pp9, pp10, pp11, ll12⟩ := hJ
      have e15 := (hb' 15 (by simp)).trans s15
      clear hb hb'
      have hfin := hK (.int .i64 (kk : Int)) _ ⟨hX0, fun h => cc0 (h.resolve_right (by decide)), fun h => cc1 (h.resolve_right (by decide)), fun h => cc2 (h.resolve_right (by decide)), fun _ => rfl, fun h => cc4 (h.resolve_right (by decide)), fun h => cc5 (h.resolve_right (by decide)), fun h => cc6 (h.resolve_right (by decide)), fun h => cc14 (h.resolve_right (by decide)), fun h => pp7 (h.resolve_right (by decide)), fun h => pp8 (h.resolve_right (by decide)), fun h => pp9 (h.resolve_right (by decide)), fun h => pp10 (h.resolve_right (by decide)), fun h => pp11 (h.resolve_right (by decide)), Loc.same ll12 ⟨fun h => h.resolve_right (by decide), .inl⟩ ⟨fun h => h.resolve_right (by decide), .inl⟩⟩
      clear hK cc0 cc1 cc2 cc3 cc4 cc5 cc6 cc14 pp7 pp8 pp9 pp10 pp11 ll12
      go_simp
      exact hfin
    · intro done us W hJ hdep haft hnot b hb hb' K hK Q'
      obtain ⟨hX0, cc0, cc1, cc2, cc3, cc4, cc5, cc6, cc14, pp7, pp8, pp9, pp10, pp11, ll12⟩ := hJ
      simp only [List.getD_cons_succ, List.getD_cons_zero, List.mem_cons, List.not_mem_nil, or_false, forall_eq] at hdep
      have e5 := (hb' 5 (by simp)).trans s5
      have e96 := hb 3 96 rfl
      rw [cc3 hdep] at e96
      clear hb hb'
      have hfin := hK (.pointer (some ⟨gv, kk, none⟩)) _ ⟨hX0, fun h => cc0 (h.resolve_right (by decide)), fun h => cc1 (h.resolve_right (by decide)), fun h => cc2 (h.resolve_right (by decide)), fun h => cc3 (h.resolve_right (by decide)), fun _ => rfl, fun h => cc5 (h.resolve_right (by decide)), fun h => cc6 (h.resolve_right (by decide)), fun h => cc14 (h.resolve_right (by decide)), fun h => pp7 (h.resolve_right (by decide)), fun h => pp8 (h.resolve_right (by decide)), fun h => pp9 (h.resolve_right (by decide)), fun h => pp10 (h.resolve_right (by decide)), fun h => pp11 (h.resolve_right (by decide)), Loc.same ll12 ⟨fun h => h.resolve_right (by decide), .inl⟩ ⟨fun h => h.resolve_right (by decide), .inl⟩⟩
      clear hK cc0 cc1 cc2 cc3 cc4 cc5 cc6 cc14 pp7 pp8 pp9 pp10 pp11 ll12
      go_simp
      exact hfin
    · intro done us W hJ hdep haft hnot b hb hb' K hK Q'
      obtain ⟨hX0, cc0, cc1, cc2, cc3, cc4, cc5, cc6, cc14, pp7, pp8, pp9, pp10, pp11, ll12⟩ := hJ
      simp only [List.getD_cons_succ, List.getD_cons_zero, List.mem_cons, List.not_mem_nil, or_false, forall_eq] at hdep
      have e97 := hb 4 97 rfl
      rw [cc4 hdep] at e97
      clear hb hb'
      have z0 := Ext.cell hX0 cv
      have hfin := hK (.int .i16 vk) _ ⟨hX0, fun h => cc0 (h.resolve_right (by decide)), fun h => cc1 (h.resolve_right (by decide)), fun h => cc2 (h.resolve_right (by decide)), fun h => cc3 (h.resolve_right (by decide)), fun h => cc4 (h.resolve_right (by decide)), fun _ => rfl, fun h => cc6 (h.resolve_right (by decide)), fun h => cc14 (h.resolve_right (by decide)), fun h => pp7 (h.resolve_right (by decide)), fun h => pp8 (h.resolve_right (by decide)), fun h => pp9 (h.resolve_right (by decide)), fun h => pp10 (h.resolve_right (by decide)), fun h => pp11 (h.resolve_right (by decide)), Loc.same ll12 ⟨fun h => h.resolve_right (by decide), .inl⟩ ⟨fun h => h.resolve_right (by decide), .inl⟩⟩
      clear hK cc0 cc1 cc2 cc3 cc4 cc5 cc6 cc14 pp7 pp8 pp9 pp10 pp11 ll12
      go_simp
      exact hfin
    · intro done us W hJ hdep haft hnot b hb hb' K hK Q'
      obtain ⟨hX0, cc0, cc1, cc2, cc3, cc4, cc5, cc6, cc14, pp7, pp8, pp9, pp10, pp11, ll12⟩ := hJ
      simp only [List.getD_cons_succ, List.getD_cons_zero, List.mem_cons, List.not_mem_nil, or_false, forall_eq] at hdep
      have e98 := hb 5 98 rfl
      rw [cc5 hdep] at e98
      clear hb hb'
      have qw : IntKind.i64.wrap vk = vk := IntWalk.i64_in _ (by omega)
      have hfin := hK (.int .i64 (vk)) _ ⟨hX0, fun h => cc0 (h.resolve_right (by decide)), fun h => cc1 (h.resolve_right (by decide)), fun h => cc2 (h.resolve_right (by decide)), fun h => cc3 (h.resolve_right (by decide)), fun h => cc4 (h.resolve_right (by decide)), fun h => cc5 (h.resolve_right (by decide)), fun _ => rfl, fun h => cc14 (h.resolve_right (by decide)), fun h => pp7 (h.resolve_right (by decide)), fun h => pp8 (h.resolve_right (by decide)), fun h => pp9 (h.resolve_right (by decide)), fun h => pp10 (h.resolve_right (by decide)), fun h => pp11 (h.resolve_right (by decide)), Loc.same ll12 ⟨fun h => h.resolve_right (by decide), .inl⟩ ⟨fun h => h.resolve_right (by decide), .inl⟩⟩
      clear hK cc0 cc1 cc2 cc3 cc4 cc5 cc6 cc14 pp7 pp8 pp9 pp10 pp11 ll12
      go_simp
      exact hfin
    · intro done us W hJ hdep haft hnot b hb hb' K hK Q'
      obtain ⟨hX0, cc0, cc1, cc2, cc3, cc4, cc5, cc6, cc14, pp7, pp8, pp9, pp10, pp11, ll12⟩ := hJ
      simp only [List.getD_cons_succ, List.getD_cons_zero, List.mem_cons, List.not_mem_nil, or_false, forall_eq] at hdep
      have e99 := hb 6 99 rfl
      rw [cc6 hdep] at e99
      clear hb hb'
      go_simp
      refine (fromIntG vk W (by omega) (by omega)).mono ?_
      rintro e w' ⟨v, rfl, hv, hX⟩
      exact hK _ _ ⟨Ext.trans hX0 hX, fun h => cc0 (h.resolve_right (by decide)), fun h => cc1 (h.resolve_right (by decide)), fun h => cc2 (h.resolve_right (by decide)), fun h => cc3 (h.resolve_right (by decide)), fun h => cc4 (h.resolve_right (by decide)), fun h => cc5 (h.resolve_right (by decide)), fun h => cc6 (h.resolve_right (by decide)), fun h => cc14 (h.resolve_right (by decide)), fun _ => hv, fun h => TupG.ext (pp8 (h.resolve_right (by decide))) hX, fun h => TupG.ext (pp9 (h.resolve_right (by decide))) hX, fun h => RatG.ext (pp10 (h.resolve_right (by decide))) hX, fun h => (pp11 (h.resolve_right (by decide))), Loc.same (ll12.ext hX) ⟨fun h => h.resolve_right (by decide), .inl⟩ ⟨fun h => h.resolve_right (by decide), .inl⟩⟩
    · intro done us W hJ hdep haft hnot b hb hb' K hK Q'
      obtain ⟨hX0, cc0, cc1, cc2, cc3, cc4, cc5, cc6, cc14, pp7, pp8, pp9, pp10, pp11, ll12⟩ := hJ
      simp only [List.getD_cons_succ, List.getD_cons_zero, List.mem_cons, List.not_mem_nil, or_false, forall_eq_or_imp, forall_eq] at hdep
      have e95 := hb 2 95 rfl
      rw [cc2 hdep.1] at e95
      have e100 := hb 7 100 rfl
      clear hb hb'
      go_simp
      refine (addG (RatG.ext hx hX0) (pp7 hdep.2) hf).mono ?_
      rintro e w' ⟨v, rfl, hc, hX⟩
      have hv : TupG w' (.tuple #[v, .int .i64 0]) (q + ((vk : Int) : Rat)) := ⟨v, rfl, hc.good hf⟩
      exact hK _ _ ⟨Ext.trans hX0 hX, fun h => cc0 (h.resolve_right (by decide)), fun h => cc1 (h.resolve_right (by decide)), fun h => cc2 (h.resolve_right (by decide)), fun h => cc3 (h.resolve_right (by decide)), fun h => cc4 (h.resolve_right (by decide)), fun h => cc5 (h.resolve_right (by decide)), fun h => cc6 (h.resolve_right (by decide)), fun h => cc14 (h.resolve_right (by decide)), fun h => RatG.ext (pp7 (h.resolve_right (by decide))) hX, fun _ => hv, fun h => TupG.ext (pp9 (h.resolve_right (by decide))) hX, fun h => RatG.ext (pp10 (h.resolve_right (by decide))) hX, fun h => (pp11 (h.resolve_right (by decide))), Loc.same (ll12.ext hX) ⟨fun h => h.resolve_right (by decide), .inl⟩ ⟨fun h => h.resolve_right (by decide), .inl⟩⟩
    · intro done us W hJ hdep haft hnot b hb hb' K hK Q'
      obtain ⟨hX0, cc0, cc1, cc2, cc3, cc4, cc5, cc6, cc14, pp7, pp8, pp9, pp10, pp11, ll12⟩ := hJ
      simp only [List.getD_cons_succ, List.getD_cons_zero, List.mem_cons, List.not_mem_nil, or_false, forall_eq] at hdep
      have e101 := hb 8 101 rfl
      clear hb hb'
      have hv := (pp8 hdep)
      go_simp
      exact hK _ _ ⟨hX0, fun h => cc0 (h.resolve_right (by decide)), fun h => cc1 (h.resolve_right (by decide)), fun h => cc2 (h.resolve_right (by decide)), fun h => cc3 (h.resolve_right (by decide)), fun h => cc4 (h.resolve_right (by decide)), fun h => cc5 (h.resolve_right (by decide)), fun h => cc6 (h.resolve_right (by decide)), fun h => cc14 (h.resolve_right (by decide)), fun h => pp7 (h.resolve_right (by decide)), fun h => pp8 (h.resolve_right (by decide)), fun _ => hv, fun h => pp10 (h.resolve_right (by decide)), fun h => pp11 (h.resolve_right (by decide)), Loc.same ll12 ⟨fun h => h.resolve_right (by decide), .inl⟩ ⟨fun h => h.resolve_right (by decide), .inl⟩⟩
    · intro done us W hJ hdep haft hnot b hb hb' K hK Q'
      obtain ⟨hX0, cc0, cc1, cc2, cc3, cc4, cc5, cc6, cc14, pp7, pp8, pp9, pp10, pp11, ll12⟩ := hJ
      simp only [List.getD_cons_succ, List.getD_cons_zero, List.mem_cons, List.not_mem_nil, or_false, forall_eq] at hdep
      simp only [List.getD_cons_succ, List.getD_cons_zero, List.mem_cons, List.not_mem_nil, or_false, forall_eq] at haft
      have e92 := hb 9 92 rfl
      clear hb hb'
      obtain ⟨x9, hu, hv⟩ := (pp9 hdep)
      rw [hu] at e92
      go_simp
      exact hK _ _ ⟨hX0, fun h => cc0 (h.resolve_right (by decide)), fun h => cc1 (h.resolve_right (by decide)), fun h => cc2 (h.resolve_right (by decide)), fun h => cc3 (h.resolve_right (by decide)), fun h => cc4 (h.resolve_right (by decide)), fun h => cc5 (h.resolve_right (by decide)), fun h => cc6 (h.resolve_right (by decide)), fun h => cc14 (h.resolve_right (by decide)), fun h => pp7 (h.resolve_right (by decide)), fun h => pp8 (h.resolve_right (by decide)), fun h => pp9 (h.resolve_right (by decide)), fun _ => hv, fun h => pp11 (h.resolve_right (by decide)), Loc.same (Loc.revs ll12 haft) ⟨fun h => h.resolve_right (by decide), .inl⟩ ⟨fun h => h.resolve_right (by decide), .inl⟩⟩
    · intro done us W hJ hdep haft hnot b hb hb' K hK Q'
      obtain ⟨hX0, cc0, cc1, cc2, cc3, cc4, cc5, cc6, cc14, pp7, pp8, pp9, pp10, pp11, ll12⟩ := hJ
      simp only [List.getD_cons_succ, List.getD_cons_zero, List.mem_cons, List.not_mem_nil, or_false, forall_eq] at hdep
      have e92 := hb 9 92 rfl
      clear hb hb'
      obtain ⟨x9, hu, hv9⟩ := (pp9 hdep)
      rw [hu] at e92
      clear hv9
      have hv : Value.int .i64 0 = .int .i64 0 := rfl
      go_simp
      exact hK _ _ ⟨hX0, fun h => cc0 (h.resolve_right (by decide)), fun h => cc1 (h.resolve_right (by decide)), fun h => cc2 (h.resolve_right (by decide)), fun h => cc3 (h.resolve_right (by decide)), fun h => cc4 (h.resolve_right (by decide)), fun h => cc5 (h.resolve_right (by decide)), fun h => cc6 (h.resolve_right (by decide)), fun h => cc14 (h.resolve_right (by decide)), fun h => pp7 (h.resolve_right (by decide)), fun h => pp8 (h.resolve_right (by decide)), fun h => pp9 (h.resolve_right (by decide)), fun h => pp10 (h.resolve_right (by decide)), fun _ => hv, Loc.same ll12 ⟨fun h => h.resolve_right (by decide), .inl⟩ ⟨fun h => h.resolve_right (by decide), .inl⟩⟩
    · intro done us W hJ hdep haft hnot b hb hb' K hK Q'
      obtain ⟨hX0, cc0, cc1, cc2, cc3, cc4, cc5, cc6, cc14, pp7, pp8, pp9, pp10, pp11, ll12⟩ := hJ
      simp only [List.getD_cons_succ, List.getD_cons_zero, List.mem_cons, List.not_mem_nil, or_false, forall_eq] at haft
      clear hb hb'
      have hfin := hK _ _ ⟨hX0.alloc _, fun h => cc0 (h.resolve_right (by decide)), fun h => cc1 (h.resolve_right (by decide)), fun h => cc2 (h.resolve_right (by decide)), fun h => cc3 (h.resolve_right (by decide)), fun h => cc4 (h.resolve_right (by decide)), fun h => cc5 (h.resolve_right (by decide)), fun h => cc6 (h.resolve_right (by decide)), fun h => cc14 (h.resolve_right (by decide)), fun h => RatG.ext (pp7 (h.resolve_right (by decide))) ((Ext.refl _).alloc _), fun h => TupG.ext (pp8 (h.resolve_right (by decide))) ((Ext.refl _).alloc _), fun h => TupG.ext (pp9 (h.resolve_right (by decide))) ((Ext.refl _).alloc _), fun h => RatG.ext (pp10 (h.resolve_right (by decide))) ((Ext.refl _).alloc _), fun h => (pp11 (h.resolve_right (by decide))), Loc.new w W hX0 (fun h => h.elim haft (by decide)) (Ext.refl _)⟩
      clear hK hX0 cc0 cc1 cc2 cc3 cc4 cc5 cc6 cc14 pp7 pp8 pp9 pp10 pp11 ll12
      go_simp
      exact hfin
    · intro done us W hJ hdep haft hnot b hb hb' K hK Q'
      obtain ⟨hX0, cc0, cc1, cc2, cc3, cc4, cc5, cc6, cc14, pp7, pp8, pp9, pp10, pp11, ll12⟩ := hJ
      simp only [List.getD_cons_succ, List.getD_cons_zero, List.mem_cons, List.not_mem_nil, or_false, forall_eq_or_imp, forall_eq] at hdep
      have e16 := hb 12 16 rfl
      have e102 := hb 10 102 rfl
      obtain ⟨g, eg, hg, hB⟩ := ll12.stored hdep.2 hnot
      rw [eg] at e16
      have q0 : W.cell? ⟨g, 0, none⟩ = some (.bool false) := hB.cell 0
      have z0 : W.frozen? ⟨g, 0, none⟩ = false := hB.free 0
      have q1 : W.cell? ⟨g, 1, none⟩ = some (.slice none 0 0) := hB.cell 1
      have z1 : W.frozen? ⟨g, 1, none⟩ = false := hB.free 1
      have q2 : W.cell? ⟨g, 2, none⟩ = some (.slice none 0 0) := hB.cell 2
      have z2 : W.frozen? ⟨g, 2, none⟩ = false := hB.free 2
      clear hb hb'
      obtain ⟨s9, A9, l9, c9, B9, m9, k9, hu⟩ := RatG.open (pp10 hdep.1)
      rw [hu] at e102
      have hN := NoInts.three hB
      have hfin := hK undef _ ⟨(((hX0.setCell hg _).setCell hg _).setCell hg _), fun h => cc0 (h.resolve_right (by decide)), fun h => cc1 (h.resolve_right (by decide)), fun h => cc2 (h.resolve_right (by decide)), fun h => cc3 (h.resolve_right (by decide)), fun h => cc4 (h.resolve_right (by decide)), fun h => cc5 (h.resolve_right (by decide)), fun h => cc6 (h.resolve_right (by decide)), fun h => cc14 (h.resolve_right (by decide)), fun h => RatG.past (pp7 (h.resolve_right (by decide))) hN, fun h => TupG.past (pp8 (h.resolve_right (by decide))) hN, fun h => TupG.past (pp9 (h.resolve_right (by decide))) hN, fun h => RatG.past (pp10 (h.resolve_right (by decide))) hN, fun h => (pp11 (h.resolve_right (by decide))), ⟨fun _ => ⟨g, eg, hg, fun _ => (Blk.put3 hB hu), fun h => absurd (.inr rfl) h⟩⟩⟩
      clear hK hX0 cc0 cc1 cc2 cc3 cc4 cc5 cc6 cc14 pp7 pp8 pp9 pp10 pp11 ll12
      go_simp
      exact hfin
    · intro done us W hJ hdep haft hnot b hb hb' K hK Q'
      obtain ⟨hX0, cc0, cc1, cc2, cc3, cc4, cc5, cc6, cc14, pp7, pp8, pp9, pp10, pp11, ll12⟩ := hJ
      simp only [List.getD_cons_succ, List.getD_cons_zero, List.mem_cons, List.not_mem_nil, or_false, forall_eq] at hdep
      have e103 := hb 11 103 rfl
      clear hb hb'
      rw [pp11 hdep] at e103
      have hfin := hK (.int .i64 (0)) _ ⟨hX0, fun h => cc0 (h.resolve_right (by decide)), fun h => cc1 (h.resolve_right (by decide)), fun h => cc2 (h.resolve_right (by decide)), fun h => cc3 (h.resolve_right (by decide)), fun h => cc4 (h.resolve_right (by decide)), fun h => cc5 (h.resolve_right (by decide)), fun h => cc6 (h.resolve_right (by decide)), fun _ => rfl, fun h => pp7 (h.resolve_right (by decide)), fun h => pp8 (h.resolve_right (by decide)), fun h => pp9 (h.resolve_right (by decide)), fun h => pp10 (h.resolve_right (by decide)), fun h => pp11 (h.resolve_right (by decide)), Loc.same ll12 ⟨fun h => h.resolve_right (by decide), .inl⟩ ⟨fun h => h.resolve_right (by decide), .inl⟩⟩
      clear hK cc0 cc1 cc2 cc3 cc4 cc5 cc6 cc14 pp7 pp8 pp9 pp10 pp11 ll12
      go_simp
      exact hfin
  · intro us W hJ
    obtain ⟨hX0, cc0, cc1, cc2, cc3, cc4, cc5, cc6, cc14, pp7, pp8, pp9, pp10, pp11, ll12⟩ := hJ
    rw [show (rops Try.f16 18).drop 15 = [] by kernel_rfl]
    exact hend (us 0) (us 1) (us 2) (us 3) (us 4) (us 5) (us 6) (us 7) (us 8) (us 9) (us 10) (us 11) (us 12) (us 13) (us 14) W (cc0 (show 0 < 15 by decide)) (cc1 (show 1 < 15 by decide)) (cc2 (show 2 < 15 by decide)) (cc3 (show 3 < 15 by decide)) (cc4 (show 4 < 15 by decide)) (cc5 (show 5 < 15 by decide)) (cc6 (show 6 < 15 by decide)) (cc14 (show 14 < 15 by decide)) (pp7 (show 7 < 15 by decide)) (pp8 (show 8 < 15 by decide)) (pp9 (show 9 < 15 by decide)) (pp10 (show 10 < 15 by decide)) (pp11 (show 11 < 15 by decide)) (ll12.done (show 12 < 15 by decide) (show 13 < 15 by decide)) hX0
set_option maxRecDepth 100000 in
set_option maxHeartbeats 4000000 in
theorem groupsL_no (S : Int) (A : Option Addr) (n c tt : Nat) (ms : List Mt) (vs : Nat → Int) (w : World) (h : MsAt w A n ms) (hsm : smB S ms = false) :
    Calls Try.prog 16 #[.agg #[.int .i64 S, .slice A n c], .int .u8 (tt : Int), .agg #[(.int .i16 (vs 0)), (.int .i16 (vs 1)), (.int .i16 (vs 2))]] w (fun e w' => e = .returned (.bool true) ∧ Ext w w') := by
  have H := Lib.hid h
  have HSM := Lib.hid hsm
  have hXe : Ext w ((w.alloc (.cells #[.int .i64 S, .slice A n c] 76)).alloc (.cells #[(.int .i16 (vs 0)), (.int .i16 (vs 1)), (.int .i16 (vs 2))] 157)) := ((Ext.refl w).alloc _).alloc _
  have kP : Blk ((w.alloc (.cells #[.int .i64 S, .slice A n c] 76)).alloc (.cells #[(.int .i16 (vs 0)), (.int .i16 (vs 1)), (.int .i16 (vs 2))] 157)) w.heap.size 76 #[.int .i64 S, .slice A n c] := Blk.alloc (Blk.new w _ _) _
  have kV : Blk ((w.alloc (.cells #[.int .i64 S, .slice A n c] 76)).alloc (.cells #[(.int .i16 (vs 0)), (.int .i16 (vs 1)), (.int .i16 (vs 2))] 157)) (w.heap.size + 1) 157 #[(.int .i16 (vs 0)), (.int .i16 (vs 1)), (.int .i16 (vs 2))] := Blk.at_ (by simp)
  clear h hsm
  go_enter Try.func16, Try.ntmps16
  go_upto_region 1 with (fail)
  generalize (w.alloc (.cells #[.int .i64 S, .slice A n c] 76)).alloc (.cells #[(.int .i16 (vs 0)), (.int .i16 (vs 1)), (.int .i16 (vs 2))] 157) = w1 at hXe kP kV ⊢
  have HX := Lib.hid hXe
  have HP := Lib.hid kP
  have HV3 := Lib.hid kV
  clear hXe kP kV
  have p0 := HP.out.cell 0
  have p1 := HP.out.cell 1
  simp only [List.getElem?_toArray, List.getElem?_cons_zero, List.getElem?_cons_succ] at p0 p1
  go_wp2_with fail
  refine (small_any5 S A n c ms _ (H.out.ext HX.out)).mono ?_
  rw [HSM.out]
  rintro e w2 ⟨rfl, hX⟩
  replace HX := Lib.hid (HX.out.trans hX)
  clear hX p0 p1
  go_wp2_with fail
  refine (first_any _).mono ?_
  rintro e w19 ⟨rfl, hX⟩
  replace HX := Lib.hid (HX.out.trans hX)
  clear hX
  go_wp2
  go_ret
  exact ⟨rfl, HX.out⟩

set_option maxRecDepth 100000 in
set_option maxHeartbeats 16000000 in
theorem groupsL_walk (S : Nat) (A : Option Addr) (n c tt : Nat) (ms : List Mt) (vs : Nat → Int) (w : World) (h : MsAt w A n ms) (hv : VP (S : Int) ms) (hb : ∀ j, -32768 ≤ vs j ∧ vs j ≤ 32767) (htt : tt ≤ 255) (hsm : smB (S : Int) ms = true) :
    Calls Try.prog 16 #[.agg #[.int .i64 (S : Int), .slice A n c], .int .u8 (tt : Int), .agg #[(.int .i16 (vs 0)), (.int .i16 (vs 1)), (.int .i16 (vs 2))]] w (fun e w' => e = .returned (.bool true) ∧ Ext w w') := by
  have HV := Lib.hid hv
  have HB := Lib.hid hb
  have HML := Lib.hid h.1
  have hS1 : 1 ≤ S := by have := hv.1; omega
  have hS3 : S ≤ 3 := by have := (smB_iff.1 hsm).1.2; omega
  have hn10 : n ≤ 10 := by have := (smB_iff.1 hsm).1.1; have := h.1; omega
  have HFS : Hid (∀ j, FitQW (solP (3 * S) ms j)) := Lib.hid (fun j => FitQW.of4 (solP_fit hv.2.2.2 hv.2.2.1 (by omega) j) (by omega))
  have HT1 : Hid (Tame (3 * S) (solP (3 * S) ms)) := Lib.hid (solP_tame hv.2.2.2 hv.2.2.1 (by omega))
  have HMT := Lib.hid (fun g => mvd_tame hv.2.2.2 hv.2.2.1 (n := 3 * S) (by omega) (labR ms S) g hb)
  obtain ⟨jj, hjj⟩ : ∃ jj, tt % S = jj := ⟨_, rfl⟩
  have hjS : jj < S := by rw [← hjj]; exact Nat.mod_lt _ (by omega)
  have hmod : (tt : Int).tmod (S : Int) = (jj : Int) := by rw [← hjj, Int.tmod_eq_emod_of_nonneg (by omega)]; first | rfl | exact (Int.natCast_emod _ _).symm | (push_cast; rfl)
  have hmw : IntKind.i64.wrap (jj : Int) = (jj : Int) := IntWalk.i64_in _ (by omega)
  have htw : IntKind.i64.wrap (tt : Int) = (tt : Int) := IntWalk.i64_in _ (by omega)
  have hn0 : ((S : Int) == 0) = false := by simp; omega
  have hn1 : (S : Int) ≠ 0 := by omega
  have hn2 : ¬ S = 0 := by omega
  clear hv hb hjj
  have H := Lib.hid h
  have HSM := Lib.hid hsm
  have hXe : Ext w ((w.alloc (.cells #[.int .i64 (S : Int), .slice A n c] 76)).alloc (.cells #[(.int .i16 (vs 0)), (.int .i16 (vs 1)), (.int .i16 (vs 2))] 157)) := ((Ext.refl w).alloc _).alloc _
  have kP : Blk ((w.alloc (.cells #[.int .i64 (S : Int), .slice A n c] 76)).alloc (.cells #[(.int .i16 (vs 0)), (.int .i16 (vs 1)), (.int .i16 (vs 2))] 157)) w.heap.size 76 #[.int .i64 (S : Int), .slice A n c] := Blk.alloc (Blk.new w _ _) _
  have kV : Blk ((w.alloc (.cells #[.int .i64 (S : Int), .slice A n c] 76)).alloc (.cells #[(.int .i16 (vs 0)), (.int .i16 (vs 1)), (.int .i16 (vs 2))] 157)) (w.heap.size + 1) 157 #[(.int .i16 (vs 0)), (.int .i16 (vs 1)), (.int .i16 (vs 2))] := Blk.at_ (by simp)
  clear h hsm
  go_enter Try.func16, Try.ntmps16
  go_upto_region 1 with (fail)
  generalize (w.alloc (.cells #[.int .i64 (S : Int), .slice A n c] 76)).alloc (.cells #[(.int .i16 (vs 0)), (.int .i16 (vs 1)), (.int .i16 (vs 2))] 157) = w1 at hXe kP kV ⊢
  have HX := Lib.hid hXe
  have HP := Lib.hid kP
  have HV3 := Lib.hid kV
  clear hXe kP kV
  have p0 := HP.out.cell 0
  have p1 := HP.out.cell 1
  simp only [List.getElem?_toArray, List.getElem?_cons_zero, List.getElem?_cons_succ] at p0 p1
  go_wp2_with fail
  refine (small_any5 (S : Int) A n c ms _ (H.out.ext HX.out)).mono ?_
  rw [HSM.out]
  rintro e w2 ⟨rfl, hX⟩
  replace HX := Lib.hid (HX.out.trans hX)
  replace HP := Lib.hid (HP.out.ext hX)
  replace HV3 := Lib.hid (HV3.out.ext hX)
  clear hX p0 p1
  have p0 := HP.out.cell 0
  have p1 := HP.out.cell 1
  simp only [List.getElem?_toArray, List.getElem?_cons_zero, List.getElem?_cons_succ] at p0 p1
  go_wp2_with fail
  refine (groups_ok S A n c ms _ (H.out.ext HX.out) HV.out).mono ?_
  rintro e w3 ⟨gl, rfl, hL, hX⟩
  replace HX := Lib.hid (HX.out.trans hX)
  replace HP := Lib.hid (HP.out.ext hX)
  replace HV3 := Lib.hid (HV3.out.ext hX)
  have HL := Lib.hid hL
  clear hX hL p0 p1
  have p0 := HP.out.cell 0
  have p1 := HP.out.cell 1
  simp only [List.getElem?_toArray, List.getElem?_cons_zero, List.getElem?_cons_succ] at p0 p1
  go_wp2_with fail
  refine (solveP_ok S A n c ms _ (H.out.ext HX.out) HV.out).mono ?_
  rintro e w4 ⟨ga, rfl, _, hS, hX⟩
  replace HX := Lib.hid (HX.out.trans hX)
  replace HP := Lib.hid (HP.out.ext hX)
  replace HV3 := Lib.hid (HV3.out.ext hX)
  replace HL := Lib.hid (RowI.ext HL.out hX)
  have HSP : Hid (ShP RatG w4 ga 0 S (solP (3 * S) ms)) := Lib.hid (hS.imp2 (fun j x _ h => h.good (HFS.out j)))
  clear hS hX p0 p1
  have p0 := HP.out.cell 0
  have p1 := HP.out.cell 1
  simp only [List.getElem?_toArray, List.getElem?_cons_zero, List.getElem?_cons_succ] at p0 p1
  have l0 := RowI.cell HL.out hjS
  obtain ⟨gg, hgg⟩ : ∃ gg, labR ms S jj = gg := ⟨_, rfl⟩
  rw [hgg] at l0
  clear hgg
  go_upto_region 8 with (fail)
  clear hmod hmw htw hn0 hn1 hn2 l0
  by_cases hg1 : gg = -1
  · have q1 : (gg == -1) = true := by simpa using hg1
    clear hg1
    go_wp2_with fail
    refine (first_any _).mono ?_
    rintro e w19 ⟨rfl, hX⟩
    replace HX := Lib.hid (HX.out.trans hX)
    clear hX
    go_wp2
    go_ret
    exact ⟨rfl, HX.out⟩
  · have q1 : (gg == -1) = false := by simpa using hg1
    have HG := Lib.hid hg1
    clear hg1
    replace HMT := Lib.hid (HMT.out gg)
    have HT2 : Hid (Tame (3 * S) (mvd (labR ms S) gg vs (solP (3 * S) ms))) := Lib.hid (by obtain ⟨P, h1, h2, h3⟩ := HMT.out; exact ⟨P, h1, h2, fun j _ => h3 j⟩)
    have HF2 : Hid (∀ j, FitQW ((mvd (labR ms S) gg vs (solP (3 * S) ms)) j)) := Lib.hid (fun j => by obtain ⟨P, h1, h2, h3⟩ := HMT.out; exact FitQW.of4 ((h3 j).fit h1 h2) (by omega))
    clear HMT p0 p1
    go_wp2_with fail
    go_loopg [12, 13] S (fun fu ov iv wr => ∃ (s : Nat) (r : List Value), fu = S - s ∧ s ≤ S ∧ iv = .int .i64 (s : Int) ∧ Hid (wr.ownsRow w4.heap.size 98 9 ov s r) ∧ Hid (NumK 3 (Tri RatG) wr r (3 * s) (mvd (labR ms S) gg vs (solP (3 * S) ms))) ∧ Hid (RowNI wr ov) ∧ Hid (Ext w4 wr))
    case atStart => exact ⟨0, [], rfl, by omega, rfl, Lib.hid (World.ownsRow_nil _ _ _ _), Lib.hid (NumK.nil _ _ _ _), Lib.hid (RowNI.nil _), Lib.hid (Ext.refl _)⟩
    case round =>
      obtain ⟨s, r, rfl, hs, rfl, HO, HK, HI, HXL⟩ := hrel
      obtain ⟨Ao, co, rfl⟩ := own_slice HO.out
      have p0 := (HP.out.ext HXL.out).cell 0
      simp only [List.getElem?_toArray, List.getElem?_cons_zero] at p0
      by_cases hsS : s < S
      · have q2 : decide (s < S) = true := decide_eq_true hsS
        obtain ⟨s1, A1, l1, c1, B1, m1, k1, x0, x1, x2, hx1⟩ := (HSP.out.ext growsG HXL.out) s 0 hsS (by omega)
        obtain ⟨s2, A2, l2, c2, B2, m2, k2, x3, x4, x5, hx2⟩ := (HSP.out.ext growsG HXL.out) s 1 hsS (by omega)
        obtain ⟨s3, A3, l3, c3, B3, m3, k3, x6, x7, x8, hx3⟩ := (HSP.out.ext growsG HXL.out) s 2 hsS (by omega)
        simp only [Nat.zero_add, Nat.zero_mul, Nat.one_mul, Nat.add_zero, Nat.reduceMul, Nat.add_assoc, Nat.reduceAdd] at x0 x1 x2 x3 x4 x5 x6 x7 x8
        have HX1 := Lib.hid hx1
        have HX2 := Lib.hid hx2
        have HX3 := Lib.hid hx3
        clear hx1 hx2 hx3
        have hwr4 : w4.heap.size ≤ wr.heap.size := HXL.out.size
        have hol : ∀ g, (Value.slice Ao s co).ownBlock = some g → g < wr.heap.size := fun g hg => (HO.out.lt g hg).2
        have HOL := Lib.hid hol
        clear hol
        go_upto_region 15 with (fail)
        have hXa : Ext wr (wr.alloc (.cells #[.bool s1, .slice A1 l1 c1, .slice B1 m1 k1, .bool s2, .slice A2 l2 c2, .slice B2 m2 k2, .bool s3, .slice A3 l3 c3, .slice B3 m3 k3] 98)) := (Ext.refl _).alloc _
        have kB := Blk.new wr 98 #[.bool s1, .slice A1 l1 c1, .slice B1 m1 k1, .bool s2, .slice A2 l2 c2, .slice B2 m2 k2, .bool s3, .slice A3 l3 c3, .slice B3 m3 k3]
        replace HXL := Lib.hid (HXL.out.trans hXa)
        replace HO := Lib.hid (World.ownsRow.ext' HO.out hXa)
        replace HK := Lib.hid (HK.out.ext kindG hXa)
        replace HI := Lib.hid (HI.out.ext hXa)
        have hx9 := X9.mk (f := fun k => solP (3 * S) ms (3 * s + k)) kB (HX1.out.ext hXa) (HX2.out.ext hXa) (HX3.out.ext hXa)
        clear hXa x0 x1 x2 x3 x4 x5 x6 x7 x8 kB HX1 HX2 HX3 p0
        have hgo : ∀ g, (Value.slice Ao s co).ownBlock = some g → g < wr.heap.size := fun g hg => HOL.out g hg
        have HGO := Lib.hid hgo
        clear hgo
        generalize wr.heap.size = gx at hx9 hwr4 HGO ⊢
        generalize wr.alloc (.cells #[.bool s1, .slice A1 l1 c1, .slice B1 m1 k1, .bool s2, .slice A2 l2 c2, .slice B2 m2 k2, .bool s3, .slice A3 l3 c3, .slice B3 m3 k3] 98) = w5 at hx9 HXL HO HK HI ⊢
        have HX9 := Lib.hid hx9
        have HNX := Lib.hid hx9.ni
        clear hx9 HOL
        go_wp2_with fail
        obtain ⟨ls, hls⟩ : ∃ ls, labR ms S s = ls := ⟨_, rfl⟩
        have HLS := Lib.hid hls
        clear hls
        go_loopg [15] 3 (fun fu iv wz => ∃ k : Nat, fu = 3 - k ∧ k ≤ 3 ∧ iv = .int .i64 (k : Int) ∧ Hid (k = 0 ∨ ls = gg) ∧ Hid (X9 wz gx (fun i => if i < k then solP (3 * S) ms (3 * s + i) + ((vs i : Int) : Rat) else solP (3 * S) ms (3 * s + i))) ∧ Hid (Keeps [gx] w5 wz) ∧ Hid (Ext w4 wz))
        case atStart => exact ⟨0, rfl, by omega, rfl, Lib.hid (.inl rfl), Lib.hid (HX9.out.congr (fun i _ => by rw [if_neg (by omega)])), Lib.hid (Keeps.refl _ _), HXL⟩
        case round =>
          clear HXL HX9
          obtain ⟨k, rfl, hk, rfl, HKG, HX9, HKP, HXL⟩ := hrel
          have l0 := RowI.cell (RowI.ext HL.out HXL.out) hsS
          rw [HLS.out] at l0
          by_cases hlg : k < 3 ∧ ls = gg
          · obtain ⟨hk3, hlg⟩ := hlg
            have q3 : decide ((k : Int) < 3) = true := decide_eq_true (by omega)
            have q4 : (ls == gg) = true := by simpa using hlg
            have HLG := Lib.hid hlg
            clear hlg
            obtain ⟨su, Au, lu, cu, Bu, mu, ku, x0, x1, x2, hx⟩ := HX9.out.cells hk3
            rw [if_neg (by omega)] at hx
            have HXV := Lib.hid hx
            have cv := (HV3.out.ext HXL.out).cell k
            have cv2 : wr.cell? ⟨w.heap.size + 1, k, none⟩ = some (.int .i16 (vs k)) := by
              rw [cv]
              match k, hk3 with
              | 0, _ => rfl
              | 1, _ => rfl
              | 2, _ => rfl
            clear cv hx
            have HFF : Hid (FitQW (solP (3 * S) ms (3 * s + k) + ((vs k : Int) : Rat))) := Lib.hid (by have := HF2.out (3 * s + k); rw [mvd_at hk3, HLS.out, if_pos HLG.out] at this; exact this)
            go_upto_region 18 with (fail)
            refine groups_r18 gx (w.heap.size + 1) k (vs k) _ su Au Bu lu cu mu ku wr x0 x1 x2 cv2 HXV.out (HB.out k) (by omega) hk3 HFF.out _ _ (by simp) rfl rfl rfl ?_
            rintro xv0 xv1 xv2 xv3 xv4 xv5 xv6 xv7 xv8 xv9 xv10 xv11 xv12 xv13 xv14 W rfl rfl rfl rfl rfl rfl rfl rfl _ _ _ hv _ ⟨gy, rfl, hgy, kY⟩ hX
            simp only [rops, Try.f16, regOf, Option.bind_some, Nat.reduceBEq, if_true, if_false, Bool.false_eq_true, Option.getD_some]
            simp only [Act.put, List.setIfInBounds_toArray, List.set_cons_succ, List.set_cons_zero]
            obtain ⟨st, At, lt, ct, Bt, mt, kt, rfl⟩ := RatG.open hv
            have HVV := Lib.hid hv
            have KY : Hid (Blk W gy 97 #[.bool st, .slice At lt ct, .slice Bt mt kt]) := Lib.hid kY
            replace HXL := Lib.hid (HXL.out.trans hX)
            replace HX9 := Lib.hid (HX9.out.ext hX)
            replace HKP := Lib.hid (HKP.out.trans (.of_ext hX _))
            clear hv kY hX x0 x1 x2 cv2 l0 HXV
            have y0 := KY.out.cell 0
            have y1 := KY.out.cell 1
            have y2 := KY.out.cell 2
            simp only [List.getElem?_toArray, List.getElem?_cons_zero, List.getElem?_cons_succ] at y0 y1 y2
            obtain ⟨s5, A5, l5, c5, B5, m5, k5, x0, x1, x2, _⟩ := HX9.out.cells hk3
            have f0 := HX9.out.free (k * 3)
            have f1 := HX9.out.free (k * 3 + 1)
            have f2 := HX9.out.free (k * 3 + 2)
            go_wp2
            clear x0 x1 x2 f0 f1 f2
            have hput := HX9.out.put hk3 HVV.out
            go_roundg (3 - (k + 1))
            case rel =>
              refine ⟨k + 1, rfl, by omega, by go_num, Lib.hid (.inr HLG.out), Lib.hid (hput.congr (fun i _ => ?_)), Lib.hid (((HKP.out.setCell (.inl (by simp)) _).setCell (.inl (by simp)) _).setCell (.inl (by simp)) _), Lib.hid (((HXL.out.setCell (by simp only; omega) _).setCell (by simp only; omega) _).setCell (by simp only; omega) _)⟩
              by_cases e : i = k
              · rw [if_pos e, if_pos (by omega), e]
              · rw [if_neg e]
                by_cases h2 : i < k
                · rw [if_pos h2, if_pos (by omega)]
                · rw [if_neg h2, if_neg (by omega)]
            case measure => omega
          · have HX9E : Hid (X9 wr gx (fun i => (mvd (labR ms S) gg vs (solP (3 * S) ms)) (3 * s + i))) := Lib.hid (HX9.out.congr (fun i hi => by
              rw [mvd_at hi, HLS.out]
              by_cases e : ls = gg
              · rw [if_pos e, if_pos (by omega)]
              · rw [if_neg e, if_neg (by rcases HKG.out with h | h; omega; exact absurd h e)]))
            have hcond : (k = 3 ∧ True) ∨ (k < 3 ∧ ls ≠ gg) := by
              by_cases e : k < 3
              · exact .inr ⟨e, fun h => hlg ⟨e, h⟩⟩
              · exact .inl ⟨by omega, trivial⟩
            clear hlg
            have HO5 := Lib.hid (ownsRow_keeps HO.out HKP.out (fun g hg hl => by have := HGO.out g hg; simp at hl; omega))
            have hgnx : ∀ g ∈ [gx], NoInts w5 g := fun g hg => by simp at hg; subst hg; exact HNX.out
            have HK5 := Lib.hid (HK.out.keep kindG HKP.out hgnx)
            have HI5 := Lib.hid (HI.out.keeps HKP.out (fun g hg hl => by have := HGO.out g hg; simp at hl; omega))
            clear hgnx
            rcases hcond with ⟨rfl, _⟩ | ⟨hk3, hne⟩
            · have q3 : decide (((3 : Nat) : Int) < 3) = false := by decide
              obtain ⟨us, hB9, hN9, hNI9⟩ := HX9E.out
              obtain ⟨s6, A6, l6, c6, B6, m6, k6, y0, y1, y2, _⟩ := HX9E.out.cells (show 0 < 3 by omega)
              obtain ⟨s7, A7, l7, c7, B7, m7, k7, y3, y4, y5, _⟩ := HX9E.out.cells (show 1 < 3 by omega)
              obtain ⟨s8, A8, l8, c8, B8, m8, k8, y6, y7, y8, _⟩ := HX9E.out.cells (show 2 < 3 by omega)
              simp only [Nat.zero_mul, Nat.one_mul, Nat.reduceMul, Nat.reduceAdd] at y0 y1 y2 y3 y4 y5 y6 y7 y8
              obtain rfl : us = [.bool s6, .slice A6 l6 c6, .slice B6 m6 k6, .bool s7, .slice A7 l7 c7, .slice B7 m7 k7, .bool s8, .slice A8 l8 c8, .slice B8 m8 k8] := by
                have hl := hN9.1
                have e := fun i => (hB9.cell i).symm
                simp only [List.getElem?_toArray] at e
                have a0 := (e 0).trans y0
                have a1 := (e 1).trans y1
                have a2 := (e 2).trans y2
                have a3 := (e 3).trans y3
                have a4 := (e 4).trans y4
                have a5 := (e 5).trans y5
                have a6 := (e 6).trans y6
                have a7 := (e 7).trans y7
                have a8 := (e 8).trans y8
                obtain ⟨u0, u1, u2, u3, u4, u5, u6, u7, u8, rfl⟩ := listZ9 (show us.length = 9 from hl)
                simp at a0 a1 a2 a3 a4 a5 a6 a7 a8
                subst a0 a1 a2 a3 a4 a5 a6 a7 a8
                rfl
              have HN9 := Lib.hid hN9
              have HNI9 := Lib.hid hNI9
              have hXc := (Ext.refl wr).alloc (.cells #[.bool s6, .slice A6 l6 c6, .slice B6 m6 k6, .bool s7, .slice A7 l7 c7, .slice B7 m7 k7, .bool s8, .slice A8 l8 c8, .slice B8 m8 k8] 98)
              have HO7 := Lib.hid (World.ownsRow.ext' HO5.out hXc)
              have HI7 := Lib.hid (HI5.out.ext hXc)
              have HK7 := Lib.hid (HK5.out.ext kindG hXc)
              have HN7 := Lib.hid (HN9.out.ext kindG hXc)
              have HX7 := Lib.hid (HXL.out.trans hXc)
              have hsz := HX7.out.size
              clear hB9 hN9 hNI9 hXc HO5 HI5 HK5 HN9 HX9 HX9E HO HK HI
              go_wp2_with (at_builtin; refine wpList_appN _ elR9 zN9 rfl _ _ rfl w4.heap.size (.slice Ao s co) s r rfl HO7.out HI7.out _ 1 1 [.bool s6, .slice A6 l6 c6, .slice B6 m6 k6, .bool s7, .slice A7 l7 c7, .slice B7 m7 k7, .bool s8, .slice A8 l8 c8, .slice B8 m8 k8] rfl rfl (At.new' _ [_, _, _, _, _, _, _, _, _] _ rfl) (by intro u hu; simp at hu; rcases hu with rfl | rfl | rfl | rfl | rfl | rfl | rfl | rfl | rfl <;> rfl) HNI9.out (by omega) (by omega) (by unfold maxLen; omega) hsz ?_; intro v8 w8 hown8 hgr8 hni8; have HG8 := Lib.hid hgr8; have HO8 := Lib.hid hown8; have HI8 := Lib.hid hni8; clear hgr8 hown8 hni8)
              go_roundg (S - (s + 1))
              case rel =>
                have hk8 := keeps_own HG8.out
                refine ⟨s + 1, _, rfl, by omega, by go_num, HO8, Lib.hid ?_, HI8, Lib.hid (HX7.out.grown HG8.out (fun b hb => (HO7.out.lt b hb).1))⟩
                refine NumK.congr ((HK7.out.keep kindG hk8 (rowNI_L HI7.out)).app (HN7.out.keep kindG hk8 (rowNI_L HI7.out))) (fun j hj => ?_)
                by_cases e : j < 3 * s
                · rw [if_pos e]
                · rw [if_neg e, show 3 * s + (j - 3 * s) = j by omega]
              case measure => omega
            · have q3 : decide ((k : Int) < 3) = true := decide_eq_true (by omega)
              have q4 : (ls == gg) = false := by simpa using hne
              clear hne
              obtain ⟨us, hB9, hN9, hNI9⟩ := HX9E.out
              obtain ⟨s6, A6, l6, c6, B6, m6, k6, y0, y1, y2, _⟩ := HX9E.out.cells (show 0 < 3 by omega)
              obtain ⟨s7, A7, l7, c7, B7, m7, k7, y3, y4, y5, _⟩ := HX9E.out.cells (show 1 < 3 by omega)
              obtain ⟨s8, A8, l8, c8, B8, m8, k8, y6, y7, y8, _⟩ := HX9E.out.cells (show 2 < 3 by omega)
              simp only [Nat.zero_mul, Nat.one_mul, Nat.reduceMul, Nat.reduceAdd] at y0 y1 y2 y3 y4 y5 y6 y7 y8
              obtain rfl : us = [.bool s6, .slice A6 l6 c6, .slice B6 m6 k6, .bool s7, .slice A7 l7 c7, .slice B7 m7 k7, .bool s8, .slice A8 l8 c8, .slice B8 m8 k8] := by
                have hl := hN9.1
                have e := fun i => (hB9.cell i).symm
                simp only [List.getElem?_toArray] at e
                have a0 := (e 0).trans y0
                have a1 := (e 1).trans y1
                have a2 := (e 2).trans y2
                have a3 := (e 3).trans y3
                have a4 := (e 4).trans y4
                have a5 := (e 5).trans y5
                have a6 := (e 6).trans y6
                have a7 := (e 7).trans y7
                have a8 := (e 8).trans y8
                obtain ⟨u0, u1, u2, u3, u4, u5, u6, u7, u8, rfl⟩ := listZ9 (show us.length = 9 from hl)
                simp at a0 a1 a2 a3 a4 a5 a6 a7 a8
                subst a0 a1 a2 a3 a4 a5 a6 a7 a8
                rfl
              have HN9 := Lib.hid hN9
              have HNI9 := Lib.hid hNI9
              have hXc := (Ext.refl wr).alloc (.cells #[.bool s6, .slice A6 l6 c6, .slice B6 m6 k6, .bool s7, .slice A7 l7 c7, .slice B7 m7 k7, .bool s8, .slice A8 l8 c8, .slice B8 m8 k8] 98)
              have HO7 := Lib.hid (World.ownsRow.ext' HO5.out hXc)
              have HI7 := Lib.hid (HI5.out.ext hXc)
              have HK7 := Lib.hid (HK5.out.ext kindG hXc)
              have HN7 := Lib.hid (HN9.out.ext kindG hXc)
              have HX7 := Lib.hid (HXL.out.trans hXc)
              have hsz := HX7.out.size
              clear hB9 hN9 hNI9 hXc HO5 HI5 HK5 HN9 HX9 HX9E HO HK HI
              go_wp2_with (at_builtin; refine wpList_appN _ elR9 zN9 rfl _ _ rfl w4.heap.size (.slice Ao s co) s r rfl HO7.out HI7.out _ 1 1 [.bool s6, .slice A6 l6 c6, .slice B6 m6 k6, .bool s7, .slice A7 l7 c7, .slice B7 m7 k7, .bool s8, .slice A8 l8 c8, .slice B8 m8 k8] rfl rfl (At.new' _ [_, _, _, _, _, _, _, _, _] _ rfl) (by intro u hu; simp at hu; rcases hu with rfl | rfl | rfl | rfl | rfl | rfl | rfl | rfl | rfl <;> rfl) HNI9.out (by omega) (by omega) (by unfold maxLen; omega) hsz ?_; intro v8 w8 hown8 hgr8 hni8; have HG8 := Lib.hid hgr8; have HO8 := Lib.hid hown8; have HI8 := Lib.hid hni8; clear hgr8 hown8 hni8)
              go_roundg (S - (s + 1))
              case rel =>
                have hk8 := keeps_own HG8.out
                refine ⟨s + 1, _, rfl, by omega, by go_num, HO8, Lib.hid ?_, HI8, Lib.hid (HX7.out.grown HG8.out (fun b hb => (HO7.out.lt b hb).1))⟩
                refine NumK.congr ((HK7.out.keep kindG hk8 (rowNI_L HI7.out)).app (HN7.out.keep kindG hk8 (rowNI_L HI7.out))) (fun j hj => ?_)
                by_cases e : j < 3 * s
                · rw [if_pos e]
                · rw [if_neg e, show 3 * s + (j - 3 * s) = j by omega]
              case measure => omega
        
      · obtain rfl : S = s := by omega
        have q2 : decide (S < S) = false := by simp
        obtain ⟨gm, rfl, _, _⟩ := own_blockS HO.out (by omega)
        have HSM2 := Lib.hid (ShP.of_row HO.out HK.out)
        replace HX := Lib.hid (HX.out.trans HXL.out)
        replace HP := Lib.hid (HP.out.ext HXL.out)
        replace HSP := Lib.hid (HSP.out.ext growsG HXL.out)
        have HL8 := Lib.hid HV.out.2.2.2
        clear HXL HO HK HI HV3 HL
        go_upto_region 23 with (fail)
        clear p0
        go_wp2_with fail
        go_loopg [18] n (fun fu iv wy => ∃ i : Nat, fu = n - i ∧ i ≤ n ∧ iv = .int .i64 (i : Int) ∧ Hid (Ext wr wy))
        case atStart => exact ⟨0, by omega, by omega, rfl, Lib.hid (Ext.refl _)⟩
        case round =>
          obtain ⟨i, rfl, hi, rfl, HXL⟩ := hrel
          have pl := HP.out.ext HXL.out
          have p0 := pl.cell 0
          have p1 := pl.cell 1
          simp only [List.getElem?_toArray, List.getElem?_cons_zero, List.getElem?_cons_succ] at p0 p1
          clear pl
          by_cases hin : i < n
          · have q3 : decide (i < n) = true := decide_eq_true hin
            obtain ⟨m, hm⟩ : ∃ m, ms[i]? = some m := ⟨ms[i]'(by have := HML.out; omega), List.getElem?_eq_getElem _⟩
            have HM := Lib.hid hm
            have HRS : Hid (res (3 * S) m (mvd (labR ms S) gg vs (solP (3 * S) ms)) = res (3 * S) m (solP (3 * S) ms)) := Lib.hid (mvd_lin HV.out.2.2.2 HG.out vs _ (List.mem_of_getElem? hm))
            have HRF : Hid (FitQW (res (3 * S) m (solP (3 * S) ms))) := Lib.hid (res_fit (HV.out.2.2.2 m (List.mem_of_getElem? hm)) (by omega) HT1.out)
            clear hm
            go_wp2_with fail
            refine (residP_ok S A n c ms ga 0 S (solP (3 * S) ms) i m _ (H.out.ext (HX.out.trans HXL.out)) HV.out (HSP.out.ext growsG HXL.out) HM.out HRF.out).mono ?_
            rintro e w6 ⟨v6, rfl, hv, hX⟩
            obtain ⟨s1, A1, l1, c1, B1, m1, k1, rfl⟩ := RatC.open hv
            replace HXL := Lib.hid (HXL.out.trans hX)
            have HR1 := Lib.hid (hv.good HRF.out)
            clear hv hX p0 p1
            go_upto_region 27 with (fail)
            have hXa : Ext w6 (w6.alloc (.cells #[.bool s1, .slice A1 l1 c1, .slice B1 m1 k1] 97)) := (Ext.refl _).alloc _
            have kB := Blk.new w6 97 #[.bool s1, .slice A1 l1 c1, .slice B1 m1 k1]
            replace HXL := Lib.hid (HXL.out.trans hXa)
            replace HR1 := Lib.hid (HR1.out.ext hXa)
            clear hXa
            generalize w6.heap.size = g1 at kB ⊢
            generalize w6.alloc (.cells #[.bool s1, .slice A1 l1 c1, .slice B1 m1 k1] 97) = w7 at kB HXL HR1 ⊢
            have K1 := Lib.hid kB
            clear kB
            have pl := HP.out.ext HXL.out
            have p0 := pl.cell 0
            have p1 := pl.cell 1
            simp only [List.getElem?_toArray, List.getElem?_cons_zero, List.getElem?_cons_succ] at p0 p1
            clear pl
            go_wp2_with fail
            refine (residP_ok S A n c ms gm 0 co (mvd (labR ms S) gg vs (solP (3 * S) ms)) i m _ (H.out.ext (HX.out.trans HXL.out)) HV.out (HSM2.out.ext growsG HXL.out) HM.out (by rw [HRS.out]; exact HRF.out)).mono ?_
            rw [HRS.out]
            rintro e w8 ⟨v8, rfl, hv, hX⟩
            obtain ⟨s2, A2, l2, c2, B2, m2, k2, rfl⟩ := RatC.open hv
            replace HXL := Lib.hid (HXL.out.trans hX)
            replace HR1 := Lib.hid (HR1.out.ext hX)
            replace K1 := Lib.hid (K1.out.ext hX)
            have HR2 := Lib.hid (hv.good HRF.out)
            clear hv hX p0 p1
            go_upto_region 28 with (fail)
            have hXa : Ext w8 (w8.alloc (.cells #[.bool s2, .slice A2 l2 c2, .slice B2 m2 k2] 97)) := (Ext.refl _).alloc _
            have kB := Blk.new w8 97 #[.bool s2, .slice A2 l2 c2, .slice B2 m2 k2]
            replace HXL := Lib.hid (HXL.out.trans hXa)
            replace HR1 := Lib.hid (HR1.out.ext hXa)
            replace HR2 := Lib.hid (HR2.out.ext hXa)
            replace K1 := Lib.hid (K1.out.ext hXa)
            clear hXa
            generalize w8.heap.size = g2 at kB ⊢
            generalize w8.alloc (.cells #[.bool s2, .slice A2 l2 c2, .slice B2 m2 k2] 97) = w9 at kB HXL HR1 HR2 K1 ⊢
            have y0 := K1.out.cell 0
            have y1 := K1.out.cell 1
            have y2 := K1.out.cell 2
            simp only [List.getElem?_toArray, List.getElem?_cons_zero, List.getElem?_cons_succ] at y0 y1 y2
            have z0 := kB.cell 0
            have z1 := kB.cell 1
            have z2 := kB.cell 2
            simp only [List.getElem?_toArray, List.getElem?_cons_zero, List.getElem?_cons_succ] at z0 z1 z2
            clear kB K1
            go_wp2_with fail
            refine (sameG_any HR1.out HR2.out).mono ?_
            rw [decide_eq_true rfl]
            rintro e w10 ⟨rfl, hX⟩
            replace HXL := Lib.hid (HXL.out.trans hX)
            clear hX y0 y1 y2 z0 z1 z2
            go_wp2
            go_roundg (n - (i + 1))
            case rel => exact ⟨i + 1, rfl, by omega, by go_num, HXL⟩
            case measure => omega
          · obtain rfl : n = i := by omega
            have q3 : decide (n < n) = false := by simp
            have hMB : minB (3 * S) ms (mvd (labR ms S) gg vs (solP (3 * S) ms)) = true := minB_iff.2 (fun i hi => by rw [mvd_slope HV.out.2.2.2 HG.out]; exact solP_flat HV.out.2.2.2 (3 * S) i hi)
            have HMB := Lib.hid hMB
            clear hMB
            go_wp2_with fail
            refine (minimalP_ok S A n c ms (3 * S) gm 0 co (mvd (labR ms S) gg vs (solP (3 * S) ms)) _ (H.out.ext (HX.out.trans HXL.out)) HV.out rfl (HSM2.out.ext growsG HXL.out) HT2.out).mono ?_
            rw [HMB.out]
            rintro e w6 ⟨rfl, hX⟩
            replace HX := Lib.hid ((HX.out.trans HXL.out).trans hX)
            clear hX p0 p1
            go_wp2_with fail
            refine (first_any _).mono ?_
            rintro e w19 ⟨rfl, hX⟩
            replace HX := Lib.hid (HX.out.trans hX)
            clear hX
            go_wp2
            go_ret
            exact ⟨rfl, HX.out⟩
        

theorem stripGroups_walk (S : Int) (A : Option Addr) (n c : Nat) (ms : List Mt) (t : Int) (f0 f1 f2 : Int) (w : World) (h : MsAt w A n ms) (t0 : 0 ≤ t) (t1 : t ≤ 255) (b0 : -32768 ≤ f0 ∧ f0 ≤ 32767) (b1 : -32768 ≤ f1 ∧ f1 ≤ 32767) (b2 : -32768 ≤ f2 ∧ f2 ≤ 32767) :
    Calls Try.prog 16 #[.agg #[.int .i64 S, .slice A n c], .int .u8 t, .agg #[.int .i16 f0, .int .i16 f1, .int .i16 f2]] w (fun e w' => e = .returned (.bool true) ∧ Ext w w') := by
  obtain ⟨tt, rfl⟩ : ∃ tt : Nat, t = tt := ⟨t.toNat, by omega⟩
  obtain ⟨vs, hvs⟩ : ∃ vs : Nat → Int, vs = fun j => match j with
    | 0 => f0
    | 1 => f1
    | 2 => f2
    | _ => 0 := ⟨_, rfl⟩
  have hb : ∀ j, -32768 ≤ vs j ∧ vs j ≤ 32767 := fun j => by
    subst hvs
    match j with
    | 0 => exact b0
    | 1 => exact b1
    | 2 => exact b2
    | _ + 3 => simp
  have e : (#[.int .i16 f0, .int .i16 f1, .int .i16 f2] : Array Value) = #[(.int .i16 (vs 0)), (.int .i16 (vs 1)), (.int .i16 (vs 2))] := by subst hvs; rfl
  rw [e]
  by_cases hs : smB S ms = true
  · obtain ⟨⟨h1, h2⟩, hv⟩ := smB_iff.1 hs
    obtain ⟨s, rfl⟩ : ∃ s : Nat, S = s := ⟨S.toNat, by have := hv.1; omega⟩
    exact groupsL_walk s A n c tt ms vs w h hv hb (by omega) hs
  · exact groupsL_no S A n c tt ms vs w h (by simpa using hs)
end Go.Proofs.Ytikhlcgnlbinfaa
