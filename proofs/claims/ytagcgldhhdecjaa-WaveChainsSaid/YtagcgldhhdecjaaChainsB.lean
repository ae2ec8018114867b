/- Lemmas of the proof that follows (Chains, part 2): walks of functions by contract, and plain lemmas. Conditions: none. -/
import Derived.Test.YtagcgldhhdecjaaChainsA
namespace Go.Proofs.Ytagcgldhhdecjaa
open Go.RowKit

theorem Ints.below {k : IntKind} {B n : Nat} {w w' : World} {A : Option Addr} {xs : List Int} (h : Ints k w A n xs) (hb : Below B w w') (hA : ∀ q, A = some q → q.block < B) : Ints k w' A n xs :=
  ⟨h.1, h.2.1, fun hn => by
    obtain ⟨b, off, rfl, hc⟩ := h.2.2 hn
    exact ⟨b, off, rfl, fun j v hv => (Below.cell hb (p := ⟨b, off + j, none⟩) (hA ⟨b, off, none⟩ rfl)).trans (hc j v hv)⟩⟩
theorem HunP.ext {base g n c : Nat} {w w' : World} {A : Option Addr} {d te tp : Int} {h : Hun} {v : Value} (hH : HunP base w g A n c d h te tp v) (he : Ext w w') : HunP base w' g A n c d h te tp v :=
  ⟨hH.blk.ext he, World.ownsRow.ext' hH.row he, hH.lo⟩
/-- Below the base nothing is written. -/
theorem HunP.below {base g n c : Nat} {w w' : World} {A : Option Addr} {d te tp : Int} {h : Hun} {v : Value} (hH : HunP base w g A n c d h te tp v) (hk : Keeps (g :: v.ownBlock.toList) w w') (hb : base ≤ w.heap.size) : Below base w w' :=
  hk.below hb fun k hk => by
    rcases List.mem_cons.1 hk with rfl | hk
    · exact hH.lo
    · exact (hH.row.lt k (by simpa using hk)).1

set_option maxRecDepth 100000 in
set_option maxHeartbeats 2000000 in
theorem end_r2 (base g nl : Nat) (A0 : Option Addr) (c0 : Nat) (es : List Ech) (e : Ech) (x0 x1 x7 x8 : Value) (w : World) (hB : Blk w g 90 #[x0, x1, .int .i64 e.frm, .int .i64 e.til, .int .i64 e.peak, .int .i64 e.level, .int .i64 e.top, x7, x8, .slice A0 nl c0]) (hgL : g ∉ (Value.slice A0 nl c0).ownBlock.toList) (hnl : es.length = nl) (hn : nl ≤ 1000000) (hown : w.ownsRow base 42 5 (.slice A0 nl c0) nl (echV es)) (hb : base ≤ w.heap.size) (hLb : ∀ k ∈ (Value.slice A0 nl c0).ownBlock.toList, k < w.heap.size) (a : Act) (Q : Exit → Act → World → Prop) (hsize : 37 ≤ a.tmps.size)
    (s0 : a.tmps[0]? = some (.pointer (some ⟨g, 0, none⟩)))
    (hend : ∀ (xv0 xv1 xv2 xv3 xv4 xv5 xv6 xv7 xv8 xv9 xv10 xv11 xv12 : Value) (W : World), (xv0 = .pointer (some ⟨g, 0, none⟩)) → (xv1 = .pointer (some ⟨g, 0, none⟩)) → (xv2 = .pointer (some ⟨g, 0, none⟩)) → (xv3 = .pointer (some ⟨g, 9, none⟩)) → (xv4 = .slice A0 nl c0) → (xv5 = .pointer (some ⟨g, 0, none⟩)) → (xv6 = .pointer (some ⟨g, 0, none⟩)) → (xv7 = .pointer (some ⟨g, 2, none⟩)) → (xv8 = .agg #[.int .i64 e.frm, .int .i64 e.til, .int .i64 e.peak, .int .i64 e.level, .int .i64 e.top]) → (∃ g', xv9 = .slice (some ⟨g', 0, none⟩) 1 1 ∧ w.heap.size ≤ g' ∧ Blk W g' 42 #[.int .i64 e.frm, .int .i64 e.til, .int .i64 e.peak, .int .i64 e.level, .int .i64 e.top]) → (EcL base W xv10 (es ++ [e]) ∧ (∀ k, xv10.ownBlock = some k → k ∈ (Value.slice A0 nl c0).ownBlock.toList ∨ w.heap.size ≤ k)) → (xv11 = .pointer (some ⟨g, 0, none⟩)) → (xv12 = .pointer (some ⟨g, 9, none⟩)) → Keeps ((Value.slice A0 nl c0).ownBlock.toList) w W → wpList Try.prog (rops Try.f64 2).toArray Q ((rops Try.f64 2).drop 13) (((((((((((((a.put (some 24) xv0).put (some 25) xv1).put (some 26) xv2).put (some 27) xv3).put (some 28) xv4).put (some 29) xv5).put (some 30) xv6).put (some 31) xv7).put (some 32) xv8).put (some 33) xv9).put (some 34) xv10).put (some 35) xv11).put (some 36) xv12) W) :
    (Code.region 2 (rops Try.f64 2).toArray true).wp Try.prog Q a w := by
  have hmono : ∀ (W W' : World) (j : Nat) (u : Value), Ext W W' → (fun (i : Nat) (v : Value) (W : World) => match i with
    | 0 => v = .pointer (some ⟨g, 0, none⟩)
    | 1 => v = .pointer (some ⟨g, 0, none⟩)
    | 2 => v = .pointer (some ⟨g, 0, none⟩)
    | 3 => v = .pointer (some ⟨g, 9, none⟩)
    | 4 => v = .slice A0 nl c0
    | 5 => v = .pointer (some ⟨g, 0, none⟩)
    | 6 => v = .pointer (some ⟨g, 0, none⟩)
    | 7 => v = .pointer (some ⟨g, 2, none⟩)
    | 8 => v = .agg #[.int .i64 e.frm, .int .i64 e.til, .int .i64 e.peak, .int .i64 e.level, .int .i64 e.top]
    | 9 => ∃ g', v = .slice (some ⟨g', 0, none⟩) 1 1 ∧ w.heap.size ≤ g' ∧ Blk W g' 42 #[.int .i64 e.frm, .int .i64 e.til, .int .i64 e.peak, .int .i64 e.level, .int .i64 e.top]
    | 10 => EcL base W v (es ++ [e]) ∧ (∀ k, v.ownBlock = some k → k ∈ (Value.slice A0 nl c0).ownBlock.toList ∨ w.heap.size ≤ k)
    | 11 => v = .pointer (some ⟨g, 0, none⟩)
    | 12 => v = .pointer (some ⟨g, 9, none⟩)
    | _ => True) j u W → (fun (i : Nat) (v : Value) (W : World) => match i with
    | 0 => v = .pointer (some ⟨g, 0, none⟩)
    | 1 => v = .pointer (some ⟨g, 0, none⟩)
    | 2 => v = .pointer (some ⟨g, 0, none⟩)
    | 3 => v = .pointer (some ⟨g, 9, none⟩)
    | 4 => v = .slice A0 nl c0
    | 5 => v = .pointer (some ⟨g, 0, none⟩)
    | 6 => v = .pointer (some ⟨g, 0, none⟩)
    | 7 => v = .pointer (some ⟨g, 2, none⟩)
    | 8 => v = .agg #[.int .i64 e.frm, .int .i64 e.til, .int .i64 e.peak, .int .i64 e.level, .int .i64 e.top]
    | 9 => ∃ g', v = .slice (some ⟨g', 0, none⟩) 1 1 ∧ w.heap.size ≤ g' ∧ Blk W g' 42 #[.int .i64 e.frm, .int .i64 e.til, .int .i64 e.peak, .int .i64 e.level, .int .i64 e.top]
    | 10 => EcL base W v (es ++ [e]) ∧ (∀ k, v.ownBlock = some k → k ∈ (Value.slice A0 nl c0).ownBlock.toList ∨ w.heap.size ≤ k)
    | 11 => v = .pointer (some ⟨g, 0, none⟩)
    | 12 => v = .pointer (some ⟨g, 9, none⟩)
    | _ => True) j u W' := by
    intro W W' j u hX h
    match j, h with
    | 0, h => exact h
    | 1, h => exact h
    | 2, h => exact h
    | 3, h => exact h
    | 4, h => exact h
    | 5, h => exact h
    | 6, h => exact h
    | 7, h => exact h
    | 8, h => exact h
    | 9, h => obtain ⟨g', h1, h2, h3⟩ := h; exact ⟨g', h1, h2, h3.ext hX⟩
    | 10, h => exact ⟨World.ownsRow.ext' h.1 hX, h.2⟩
    | 11, h => exact h
    | 12, h => exact h
    | _ + 13, h => exact h
  have hmonoK : ∀ (W W' : World) (j : Nat) (u : Value), Keeps ((Value.slice A0 nl c0).ownBlock.toList) W W' → (∀ k ∈ ((Value.slice A0 nl c0).ownBlock.toList), NoRow 5 W k) → j ≠ 10 → (fun (i : Nat) (v : Value) (W : World) => match i with
    | 0 => v = .pointer (some ⟨g, 0, none⟩)
    | 1 => v = .pointer (some ⟨g, 0, none⟩)
    | 2 => v = .pointer (some ⟨g, 0, none⟩)
    | 3 => v = .pointer (some ⟨g, 9, none⟩)
    | 4 => v = .slice A0 nl c0
    | 5 => v = .pointer (some ⟨g, 0, none⟩)
    | 6 => v = .pointer (some ⟨g, 0, none⟩)
    | 7 => v = .pointer (some ⟨g, 2, none⟩)
    | 8 => v = .agg #[.int .i64 e.frm, .int .i64 e.til, .int .i64 e.peak, .int .i64 e.level, .int .i64 e.top]
    | 9 => ∃ g', v = .slice (some ⟨g', 0, none⟩) 1 1 ∧ w.heap.size ≤ g' ∧ Blk W g' 42 #[.int .i64 e.frm, .int .i64 e.til, .int .i64 e.peak, .int .i64 e.level, .int .i64 e.top]
    | 10 => EcL base W v (es ++ [e]) ∧ (∀ k, v.ownBlock = some k → k ∈ (Value.slice A0 nl c0).ownBlock.toList ∨ w.heap.size ≤ k)
    | 11 => v = .pointer (some ⟨g, 0, none⟩)
    | 12 => v = .pointer (some ⟨g, 9, none⟩)
    | _ => True) j u W → (fun (i : Nat) (v : Value) (W : World) => match i with
    | 0 => v = .pointer (some ⟨g, 0, none⟩)
    | 1 => v = .pointer (some ⟨g, 0, none⟩)
    | 2 => v = .pointer (some ⟨g, 0, none⟩)
    | 3 => v = .pointer (some ⟨g, 9, none⟩)
    | 4 => v = .slice A0 nl c0
    | 5 => v = .pointer (some ⟨g, 0, none⟩)
    | 6 => v = .pointer (some ⟨g, 0, none⟩)
    | 7 => v = .pointer (some ⟨g, 2, none⟩)
    | 8 => v = .agg #[.int .i64 e.frm, .int .i64 e.til, .int .i64 e.peak, .int .i64 e.level, .int .i64 e.top]
    | 9 => ∃ g', v = .slice (some ⟨g', 0, none⟩) 1 1 ∧ w.heap.size ≤ g' ∧ Blk W g' 42 #[.int .i64 e.frm, .int .i64 e.til, .int .i64 e.peak, .int .i64 e.level, .int .i64 e.top]
    | 10 => EcL base W v (es ++ [e]) ∧ (∀ k, v.ownBlock = some k → k ∈ (Value.slice A0 nl c0).ownBlock.toList ∨ w.heap.size ≤ k)
    | 11 => v = .pointer (some ⟨g, 0, none⟩)
    | 12 => v = .pointer (some ⟨g, 9, none⟩)
    | _ => True) j u W' := by
    intro W W' j u hk hN hne h
    match j, h with
    | 0, h => exact h
    | 1, h => exact h
    | 2, h => exact h
    | 3, h => exact h
    | 4, h => exact h
    | 5, h => exact h
    | 6, h => exact h
    | 7, h => exact h
    | 8, h => exact h
    | 9, h => obtain ⟨g', h1, h2, h3⟩ := h; exact ⟨g', h1, h2, h3.keeps hk (fun hl => by have := hLb _ hl; omega)⟩
    | 10, h => exact absurd rfl hne
    | 11, h => exact h
    | 12, h => exact h
    | _ + 13, h => exact h
  have hsz : ∀ d, some d ∈ ([some 24, some 25, some 26, some 27, some 28, some 29, some 30, some 31, some 32, some 33, some 34, some 35, some 36] : List (Option Tmp)) → d < a.tmps.size := slots_lt (by decide) hsize
  refine wp_region_j 13 [some 24, some 25, some 26, some 27, some 28, some 29, some 30, some 31, some 32, some 33, some 34, some 35, some 36] [[], [], [1], [2], [3], [], [5], [6], [7], [8], [4, 9], [0], [11]] [[], [], [], [], [10], [], [], [], [], [], [], [], []] (fun (i : Nat) (v : Value) (W : World) => match i with
    | 0 => v = .pointer (some ⟨g, 0, none⟩)
    | 1 => v = .pointer (some ⟨g, 0, none⟩)
    | 2 => v = .pointer (some ⟨g, 0, none⟩)
    | 3 => v = .pointer (some ⟨g, 9, none⟩)
    | 4 => v = .slice A0 nl c0
    | 5 => v = .pointer (some ⟨g, 0, none⟩)
    | 6 => v = .pointer (some ⟨g, 0, none⟩)
    | 7 => v = .pointer (some ⟨g, 2, none⟩)
    | 8 => v = .agg #[.int .i64 e.frm, .int .i64 e.til, .int .i64 e.peak, .int .i64 e.level, .int .i64 e.top]
    | 9 => ∃ g', v = .slice (some ⟨g', 0, none⟩) 1 1 ∧ w.heap.size ≤ g' ∧ Blk W g' 42 #[.int .i64 e.frm, .int .i64 e.til, .int .i64 e.peak, .int .i64 e.level, .int .i64 e.top]
    | 10 => EcL base W v (es ++ [e]) ∧ (∀ k, v.ownBlock = some k → k ∈ (Value.slice A0 nl c0).ownBlock.toList ∨ w.heap.size ≤ k)
    | 11 => v = .pointer (some ⟨g, 0, none⟩)
    | 12 => v = .pointer (some ⟨g, 9, none⟩)
    | _ => True) (fun done W => Keeps ((Value.slice A0 nl c0).ownBlock.toList) w W ∧ (¬ done 10 → Ext w W)) (by kernel_rfl) (by kernel_rfl) hsz (fun p q W h hj => ⟨hj.1, fun hn => hj.2 fun hp => hn ((h _).1 hp)⟩) ⟨Keeps.of_ext (Ext.refl w).drew _, fun _ => (Ext.refl w).drew⟩ ?_ ?_
  · clear hend
    simp only [rops, Try.f64, regOf, Option.bind_some, Nat.reduceBEq, if_true, if_false, Bool.false_eq_true, Option.getD_some]
    simp only [List.take_succ_cons, List.take_zero]
    refine ⟨?_, ?_, ?_, ?_, ?_, ?_, ?_, ?_, ?_, ?_, ?_, ?_, ?_, trivial⟩
    · intro done us W hJ hdep haft hnot b hb hb' K hK Q'
      have e0 := (hb' 0 (by simp)).trans s0
      clear hb hb'
      go_simp
      exact hK _ _ rfl (fun _ _ _ h => h) ⟨hJ.1, fun h => hJ.2 fun d => h (.inl d)⟩
    · intro done us W hJ hdep haft hnot b hb hb' K hK Q'
      have e0 := (hb' 0 (by simp)).trans s0
      clear hb hb'
      go_simp
      exact hK _ _ rfl (fun _ _ _ h => h) ⟨hJ.1, fun h => hJ.2 fun d => h (.inl d)⟩
    · intro done us W hJ hdep haft hnot b hb hb' K hK Q'
      simp only [List.getD_cons_succ, List.getD_cons_zero, List.mem_cons, List.not_mem_nil, or_false, forall_eq] at hdep
      have e25 := hb 1 25 rfl
      have d1 := hdep
      rw [d1.1] at e25
      clear hb hb' hdep d1
      go_simp
      exact hK _ _ rfl (fun _ _ _ h => h) ⟨hJ.1, fun h => hJ.2 fun d => h (.inl d)⟩
    · intro done us W hJ hdep haft hnot b hb hb' K hK Q'
      simp only [List.getD_cons_succ, List.getD_cons_zero, List.mem_cons, List.not_mem_nil, or_false, forall_eq] at hdep
      have e26 := hb 2 26 rfl
      have d2 := hdep
      rw [d2.1] at e26
      clear hb hb' hdep d2
      go_simp
      exact hK _ _ rfl (fun _ _ _ h => h) ⟨hJ.1, fun h => hJ.2 fun d => h (.inl d)⟩
    · intro done us W hJ hdep haft hnot b hb hb' K hK Q'
      simp only [List.getD_cons_succ, List.getD_cons_zero, List.mem_cons, List.not_mem_nil, or_false, forall_eq] at hdep
      simp only [List.getD_cons_succ, List.getD_cons_zero, List.mem_cons, List.not_mem_nil, or_false, forall_eq_or_imp, forall_eq] at haft
      have e27 := hb 3 27 rfl
      have d3 := hdep
      rw [d3.1] at e27
      clear hb hb' hdep d3
      have hJE := hJ.2 haft
      have q := Ext.cell hJE (hB.cell 9)
      go_simp
      exact hK _ _ rfl (fun _ _ _ h => h) ⟨hJ.1, fun h => hJ.2 fun d => h (.inl d)⟩
    · intro done us W hJ hdep haft hnot b hb hb' K hK Q'
      have e0 := (hb' 0 (by simp)).trans s0
      clear hb hb'
      go_simp
      exact hK _ _ rfl (fun _ _ _ h => h) ⟨hJ.1, fun h => hJ.2 fun d => h (.inl d)⟩
    · intro done us W hJ hdep haft hnot b hb hb' K hK Q'
      simp only [List.getD_cons_succ, List.getD_cons_zero, List.mem_cons, List.not_mem_nil, or_false, forall_eq] at hdep
      have e29 := hb 5 29 rfl
      have d5 := hdep
      rw [d5.1] at e29
      clear hb hb' hdep d5
      go_simp
      exact hK _ _ rfl (fun _ _ _ h => h) ⟨hJ.1, fun h => hJ.2 fun d => h (.inl d)⟩
    · intro done us W hJ hdep haft hnot b hb hb' K hK Q'
      simp only [List.getD_cons_succ, List.getD_cons_zero, List.mem_cons, List.not_mem_nil, or_false, forall_eq] at hdep
      have e30 := hb 6 30 rfl
      have d6 := hdep
      rw [d6.1] at e30
      clear hb hb' hdep d6
      go_simp
      exact hK _ _ rfl (fun _ _ _ h => h) ⟨hJ.1, fun h => hJ.2 fun d => h (.inl d)⟩
    · intro done us W hJ hdep haft hnot b hb hb' K hK Q'
      simp only [List.getD_cons_succ, List.getD_cons_zero, List.mem_cons, List.not_mem_nil, or_false, forall_eq] at hdep
      have e31 := hb 7 31 rfl
      have d7 := hdep
      rw [d7.1] at e31
      clear hb hb' hdep d7
      have hB' := hB.keeps hJ.1 hgL
      have q2 := hB'.cell 2
      have q3 := hB'.cell 3
      have q4 := hB'.cell 4
      have q5 := hB'.cell 5
      have q6 := hB'.cell 6
      go_simp
      exact hK _ _ rfl (fun _ _ _ h => h) ⟨hJ.1, fun h => hJ.2 fun d => h (.inl d)⟩
    · intro done us W hJ hdep haft hnot b hb hb' K hK Q'
      simp only [List.getD_cons_succ, List.getD_cons_zero, List.mem_cons, List.not_mem_nil, or_false, forall_eq] at hdep
      have e32 := hb 8 32 rfl
      have d8 := hdep
      rw [d8.1] at e32
      clear hb hb' hdep d8
      have hb1 := Blk.new W 42 #[.int .i64 e.frm, .int .i64 e.til, .int .i64 e.peak, .int .i64 e.level, .int .i64 e.top]
      have hX := (Ext.refl W).alloc (.cells #[.int .i64 e.frm, .int .i64 e.til, .int .i64 e.peak, .int .i64 e.level, .int .i64 e.top] 42)
      have hs := hJ.1.size
      go_simp
      exact hK _ _ (⟨_, rfl, hs, hb1⟩) (fun j u _ h => hmono _ _ j u hX h) ⟨hJ.1.trans (Keeps.of_ext hX _), fun h => (hJ.2 fun d => h (.inl d)).trans hX⟩
    · intro done us W hJ hdep haft hnot b hb hb' K hK Q'
      simp only [List.getD_cons_succ, List.getD_cons_zero, List.mem_cons, List.not_mem_nil, or_false, forall_eq_or_imp, forall_eq] at hdep
      have e28 := hb 4 28 rfl
      have e33 := hb 9 33 rfl
      have d4 := hdep.1
      have d9 := hdep.2
      rw [d4.1] at e28
      clear hb hb' hdep d4
      have hJE := hJ.2 hnot
      obtain ⟨g', e', hg', hb1⟩ := d9.1
      rw [e'] at e33
      have hoW := World.ownsRow.ext' hown hJE
      have hs := Ext.size hJE
      obtain ⟨v', W', q, ho, hG, hv⟩ := run_app (P := Try.prog) W elE 34 base (.slice A0 nl c0) nl (echV es) hoW (some ⟨g', 0, none⟩) 1 1 e.cells rfl (fun _ => ⟨g', 0, rfl, fun j y hy => by (rw [Nat.zero_add]; exact (hb1.cell j).trans (by simpa [Ech.cells] using hy))⟩) (by intro u hu; simp [Ech.cells] at hu; rcases hu with rfl | rfl | rfl | rfl | rfl <;> rfl) (by omega) (by unfold maxLen; omega) (by omega)
      have hk : Keeps ((Value.slice A0 nl c0).ownBlock.toList) W W' := Keeps.of_grown hG (fun k hk => by rw [hk]; simp)
      have ho' : EcL base W' v' (es ++ [e]) := by unfold EcL; rw [echV_snoc, List.length_append]; have hl : es.length = nl := hnl; rw [hl]; exact ho
      have hv' : ∀ k, v'.ownBlock = some k → k ∈ (Value.slice A0 nl c0).ownBlock.toList ∨ w.heap.size ≤ k := by
        intro k hk'
        rcases hv with hv | hv
        · left; rw [hv] at hk'; rw [hk']; simp
        · right; rw [hv] at hk'; injection hk' with hk'; omega
      have hN : ∀ k ∈ ((Value.slice A0 nl c0).ownBlock.toList), NoRow 5 W k := fun k hk => NoRow.of_own hoW (by simpa using hk) (by decide)
      exact jop_app rfl rfl e28 e33 q (hK _ _ ⟨ho', hv'⟩ (fun j u hd h => hmonoK _ _ j u hk hN (by intro e; subst e; exact hnot hd) h) ⟨hJ.1.trans hk, fun h => absurd (.inr rfl) h⟩)
    · intro done us W hJ hdep haft hnot b hb hb' K hK Q'
      simp only [List.getD_cons_succ, List.getD_cons_zero, List.mem_cons, List.not_mem_nil, or_false, forall_eq] at hdep
      have e24 := hb 0 24 rfl
      have d0 := hdep
      rw [d0.1] at e24
      clear hb hb' hdep d0
      go_simp
      exact hK _ _ rfl (fun _ _ _ h => h) ⟨hJ.1, fun h => hJ.2 fun d => h (.inl d)⟩
    · intro done us W hJ hdep haft hnot b hb hb' K hK Q'
      simp only [List.getD_cons_succ, List.getD_cons_zero, List.mem_cons, List.not_mem_nil, or_false, forall_eq] at hdep
      have e35 := hb 11 35 rfl
      have d11 := hdep
      rw [d11.1] at e35
      clear hb hb' hdep d11
      go_simp
      exact hK _ _ rfl (fun _ _ _ h => h) ⟨hJ.1, fun h => hJ.2 fun d => h (.inl d)⟩
  · intro us W hV hJ
    exact hend (us 0) (us 1) (us 2) (us 3) (us 4) (us 5) (us 6) (us 7) (us 8) (us 9) (us 10) (us 11) (us 12) W (hV 0 (by omega)) (hV 1 (by omega)) (hV 2 (by omega)) (hV 3 (by omega)) (hV 4 (by omega)) (hV 5 (by omega)) (hV 6 (by omega)) (hV 7 (by omega)) (hV 8 (by omega)) (hV 9 (by omega)) (hV 10 (by omega)) (hV 11 (by omega)) (hV 12 (by omega)) (by simpa using hJ)

set_option maxRecDepth 100000 in
set_option maxHeartbeats 8000000 in
theorem end_any (base g n c : Nat) (A : Option Addr) (l : List Int) (d : Int) (h : Hun) (te tp : Int) (v : Value) (z : Nat) (w : World) (hH : HunP base w g A n c d h te tp v) (hI : Ints .i64 w A n l) (hfar : ∀ q, A = some q → q.block < base) (hp : h.peak < n) (ho : h.out.length ≤ 100000) (hb : base ≤ w.heap.size) :
    Calls Try.prog 64 #[.pointer (some ⟨g, 0, none⟩), .int .i64 (z : Int)] w (fun e w' => e = .returned (.tuple #[]) ∧ ∃ te' tp' v', HunP base w' g A n c d ⟨h.frm, h.peak, h.level, h.fall, h.valley, h.out ++ [h.close l z]⟩ te' tp' v' ∧ Keeps (g :: v.ownBlock.toList) w w' ∧ (∀ k, v'.ownBlock = some k → k ∈ v.ownBlock.toList ∨ w.heap.size ≤ k)) := by
  obtain ⟨b, off, y, rfl, hy, _, cy⟩ := hI.get hp
  obtain ⟨fm, pk, lv, fa, vl, ou⟩ := h
  simp only at hp hy cy ho
  have hbg : b ≠ g := by have := hfar _ rfl; have := hH.lo; simp only at *; omega
  have hgb : g ≠ b := Ne.symm hbg
  have hbg2 : (b == g) = false := by simpa using hbg
  have cy1 : (w.setCell ⟨g, 3, none⟩ (.int .i64 (z : Int))).cell? ⟨b, off + pk, none⟩ = some (.int .i64 y) := (World.cell?_setCell_other (h := fun e => hgb (congrArg Addr.block e)) ..).trans cy
  have hrow := hH.row
  simp only at hrow
  obtain ⟨A0, c0, rfl⟩ := own_slice hrow
  have hgv : g ∉ (Value.slice A0 ou.length c0).ownBlock.toList := fun hl => by
    have := NoRow.of_own (tb := 90) hrow (by simpa using hl) (by decide)
    exact this _ _ hH.blk
  have hlo := hH.lo
  have hB1 := ((hH.blk.set 3 (.int .i64 (z : Int))).set 6 (.int .i64 y)).drew
  have hB1' : Blk (((w.setCell ⟨g, 3, none⟩ (.int .i64 (z : Int))).setCell ⟨g, 6, none⟩ (.int .i64 y)).drew) g 90 #[.slice (some ⟨b, off, none⟩) n c, .int .i64 d, .int .i64 fm, .int .i64 (z : Int), .int .i64 pk, .int .i64 lv, .int .i64 y, .int .i64 vl, .bool fa, .slice A0 ou.length c0] := by simpa using hB1
  have hk1 : Keeps [g] w (((w.setCell ⟨g, 3, none⟩ (.int .i64 (z : Int))).setCell ⟨g, 6, none⟩ (.int .i64 y)).drew) := ((((Keeps.refl [g] w).setCell (.inl (by simp)) _)).setCell (.inl (by simp)) _).drew
  have hrow1 := row_away hrow hk1 (by intro k hk; simp at hk; subst hk; exact NoRow.of_blk hH.blk (by decide))
  have hcl : Hid ((⟨fm, z, pk, lv, y⟩ : Ech) = (⟨fm, pk, lv, fa, vl, ou⟩ : Hun).close l z) := Lib.hid (by unfold Hun.close; simp only; rw [getD_at hy])
  have f0 := hH.blk.cell 0
  have f3 := hH.blk.cell 3
  have f4 := hH.blk.cell 4
  have f6 := hH.blk.cell 6
  have z3 := hH.blk.free 3
  have z6 := hH.blk.free 6
  simp only [List.getElem?_toArray, List.getElem?_cons_zero, List.getElem?_cons_succ] at f0 f3 f4 f6
  have HB := Lib.hid hB1'
  have HK := Lib.hid hk1
  have HR := Lib.hid hrow1
  have HV := Lib.hid hgv
  clear hI hH hy hB1 hB1' hk1 hrow hrow1 hgv
  go_enter Try.func64, Try.ntmps64
  go_wp2_with fail
  go_region
  generalize ((w.setCell ⟨g, 3, none⟩ (.int .i64 (z : Int))).setCell ⟨g, 6, none⟩ (.int .i64 y)).drew = w1 at HB HK HR ⊢
  go_upto_region 2 with (fail)
  refine end_r2 base g ou.length A0 c0 ou ⟨fm, z, pk, lv, y⟩ (.slice (some ⟨b, off, none⟩) n c) (.int .i64 d) (.int .i64 vl) (.bool fa) w1 HB.out HV.out rfl (by omega) HR.out (Nat.le_trans hb HK.out.size) (fun k hk => (HR.out.lt k (by simpa using hk)).2) _ _ (by simp) rfl ?_
  rintro xv0 xv1 xv2 xv3 xv4 xv5 xv6 xv7 xv8 xv9 xv10 xv11 xv12 W rfl rfl rfl rfl rfl rfl rfl rfl rfl ⟨gz, rfl, _, _⟩ ⟨hE, hv⟩ rfl rfl hKW
  simp only [rops, Try.f64, regOf, Option.bind_some, Nat.reduceBEq, if_true, if_false, Bool.false_eq_true, Option.getD_some, List.drop_succ_cons, List.drop_zero]
  simp only [Act.put, List.setIfInBounds_toArray, List.set_cons_succ, List.set_cons_zero]
  obtain ⟨D, hD⟩ : ∃ D, ou ++ [(⟨fm, z, pk, lv, y⟩ : Ech)] = D := ⟨_, rfl⟩
  rw [hD] at hE
  obtain ⟨A2, c2, rfl⟩ := own_slice hE
  have HD := Lib.hid hD
  clear hD
  have HB2 := Lib.hid (HB.out.keeps hKW HV.out)
  have f9 := HB2.out.cell 9
  have z9 := HB2.out.free 9
  have HE := Lib.hid hE
  have HV2 := Lib.hid hv
  have HKW := Lib.hid hKW
  clear hE hv hKW f0 f3 f4 f6 z3 z6 cy cy1
  go_wp2
  go_end0
  have hk : Keeps (g :: (Value.slice A0 ou.length c0).ownBlock.toList) w (W.setCell ⟨g, 9, none⟩ (.slice A2 D.length c2)) := ((HK.out.mono (by intro k hk _; simp at hk; simp [hk])).trans (HKW.out.mono (by intro k hk _; exact List.mem_cons_of_mem _ hk))).setCell (.inl (by simp)) _
  have hE2 : EcL base W (.slice A2 D.length c2) (ou ++ [(⟨fm, pk, lv, fa, vl, ou⟩ : Hun).close l z]) := by
    have h1 := HE.out
    rw [HD.out.symm.trans (congrArg (fun x => ou ++ [x]) hcl.out)] at h1 ⊢
    exact h1
  have hN : ∀ k ∈ [g], NoRow 42 W k := by intro k hk; simp at hk; subst hk; exact NoRow.of_blk HB2.out (by decide)
  refine ⟨rfl, (z : Int), y, .slice A2 D.length c2, ⟨?_, ?_, hlo⟩, hk, fun k hk => ?_⟩
  · simpa using HB2.out.set 9 (.slice A2 D.length c2)
  · exact row_away hE2 ((Keeps.refl [g] W).setCell (.inl (by simp)) _) hN
  · rcases HV2.out k hk with h1 | h1
    · left; simpa using h1
    · right; have := HK.out.size; omega

set_option maxRecDepth 100000 in
set_option maxHeartbeats 2000000 in
theorem fallen_r4 (g bb off n cc vl ix : Nat) (y dr : Int) (w : World) (f0 : w.cell? ⟨g, 0, none⟩ = some (.slice (some ⟨bb, off, none⟩) n cc)) (f1 : w.cell? ⟨g, 1, none⟩ = some (.int .i64 dr)) (f7 : w.cell? ⟨g, 7, none⟩ = some (.int .i64 (vl : Int))) (fy : w.cell? ⟨bb, off + vl, none⟩ = some (.int .i64 y)) (hv : vl < n) (hy : 0 ≤ y ∧ y ≤ 1023) (hd : 0 ≤ dr ∧ dr ≤ 1023) (a : Act) (Q : Exit → Act → World → Prop) (hsize : 81 ≤ a.tmps.size)
    (s0 : a.tmps[0]? = some (.pointer (some ⟨g, 0, none⟩)))
    (s1 : a.tmps[1]? = some (.int .i64 (ix : Int)))
    (hend : ∀ (xv0 xv1 xv2 xv3 xv4 xv5 xv6 xv7 xv8 xv9 xv10 xv11 xv12 xv13 xv14 xv15 xv16 xv17 xv18 xv19 xv20 xv21 xv22 xv23 : Value) (W : World), (xv0 = .pointer (some ⟨g, 0, none⟩)) → (xv1 = .pointer (some ⟨g, 0, none⟩)) → (xv2 = .pointer (some ⟨g, 0, none⟩)) → (xv3 = .pointer (some ⟨g, 7, none⟩)) → (xv4 = .int .i64 (vl : Int)) → (xv5 = .int .i64 (ix : Int)) → (xv6 = .pointer (some ⟨g, 0, none⟩)) → (xv7 = .pointer (some ⟨g, 0, none⟩)) → (xv8 = .pointer (some ⟨g, 0, none⟩)) → (xv9 = .slice (some ⟨bb, off, none⟩) n cc) → (xv10 = .pointer (some ⟨g, 0, none⟩)) → (xv11 = .pointer (some ⟨g, 0, none⟩)) → (xv12 = .pointer (some ⟨g, 7, none⟩)) → (xv13 = .int .i64 (vl : Int)) → (xv14 = .pointer (some ⟨bb, off + vl, none⟩)) → (xv15 = .int .i64 (y)) → (xv16 = .pointer (some ⟨g, 0, none⟩)) → (xv17 = .pointer (some ⟨g, 0, none⟩)) → (xv18 = .pointer (some ⟨g, 1, none⟩)) → (xv19 = .int .i64 (dr)) → (xv20 = .int .i64 (y + dr)) → (xv21 = .agg #[.int .i64 (vl : Int), .int .i64 (0), .int .i64 (ix : Int), .int .i64 (y + dr), .int .i64 (0)]) → (xv22 = .pointer (some ⟨g, 0, none⟩)) → (xv23 = .pointer (some ⟨g, 2, none⟩)) → Ext w W → wpList Try.prog (rops Try.f63 4).toArray Q ((rops Try.f63 4).drop 24) ((((((((((((((((((((((((a.put (some 57) xv0).put (some 58) xv1).put (some 59) xv2).put (some 60) xv3).put (some 61) xv4).put (some 62) xv5).put (some 63) xv6).put (some 64) xv7).put (some 65) xv8).put (some 66) xv9).put (some 67) xv10).put (some 68) xv11).put (some 69) xv12).put (some 70) xv13).put (some 71) xv14).put (some 72) xv15).put (some 73) xv16).put (some 74) xv17).put (some 75) xv18).put (some 76) xv19).put (some 77) xv20).put (some 78) xv21).put (some 79) xv22).put (some 80) xv23) W) :
    (Code.region 4 (rops Try.f63 4).toArray true).wp Try.prog Q a w := by
  have hmono : ∀ (W W' : World) (j : Nat) (u : Value), Ext W W' → (fun (i : Nat) (v : Value) (W : World) => match i with
    | 0 => v = .pointer (some ⟨g, 0, none⟩)
    | 1 => v = .pointer (some ⟨g, 0, none⟩)
    | 2 => v = .pointer (some ⟨g, 0, none⟩)
    | 3 => v = .pointer (some ⟨g, 7, none⟩)
    | 4 => v = .int .i64 (vl : Int)
    | 5 => v = .int .i64 (ix : Int)
    | 6 => v = .pointer (some ⟨g, 0, none⟩)
    | 7 => v = .pointer (some ⟨g, 0, none⟩)
    | 8 => v = .pointer (some ⟨g, 0, none⟩)
    | 9 => v = .slice (some ⟨bb, off, none⟩) n cc
    | 10 => v = .pointer (some ⟨g, 0, none⟩)
    | 11 => v = .pointer (some ⟨g, 0, none⟩)
    | 12 => v = .pointer (some ⟨g, 7, none⟩)
    | 13 => v = .int .i64 (vl : Int)
    | 14 => v = .pointer (some ⟨bb, off + vl, none⟩)
    | 15 => v = .int .i64 (y)
    | 16 => v = .pointer (some ⟨g, 0, none⟩)
    | 17 => v = .pointer (some ⟨g, 0, none⟩)
    | 18 => v = .pointer (some ⟨g, 1, none⟩)
    | 19 => v = .int .i64 (dr)
    | 20 => v = .int .i64 (y + dr)
    | 21 => v = .agg #[.int .i64 (vl : Int), .int .i64 (0), .int .i64 (ix : Int), .int .i64 (y + dr), .int .i64 (0)]
    | 22 => v = .pointer (some ⟨g, 0, none⟩)
    | 23 => v = .pointer (some ⟨g, 2, none⟩)
    | _ => True) j u W → (fun (i : Nat) (v : Value) (W : World) => match i with
    | 0 => v = .pointer (some ⟨g, 0, none⟩)
    | 1 => v = .pointer (some ⟨g, 0, none⟩)
    | 2 => v = .pointer (some ⟨g, 0, none⟩)
    | 3 => v = .pointer (some ⟨g, 7, none⟩)
    | 4 => v = .int .i64 (vl : Int)
    | 5 => v = .int .i64 (ix : Int)
    | 6 => v = .pointer (some ⟨g, 0, none⟩)
    | 7 => v = .pointer (some ⟨g, 0, none⟩)
    | 8 => v = .pointer (some ⟨g, 0, none⟩)
    | 9 => v = .slice (some ⟨bb, off, none⟩) n cc
    | 10 => v = .pointer (some ⟨g, 0, none⟩)
    | 11 => v = .pointer (some ⟨g, 0, none⟩)
    | 12 => v = .pointer (some ⟨g, 7, none⟩)
    | 13 => v = .int .i64 (vl : Int)
    | 14 => v = .pointer (some ⟨bb, off + vl, none⟩)
    | 15 => v = .int .i64 (y)
    | 16 => v = .pointer (some ⟨g, 0, none⟩)
    | 17 => v = .pointer (some ⟨g, 0, none⟩)
    | 18 => v = .pointer (some ⟨g, 1, none⟩)
    | 19 => v = .int .i64 (dr)
    | 20 => v = .int .i64 (y + dr)
    | 21 => v = .agg #[.int .i64 (vl : Int), .int .i64 (0), .int .i64 (ix : Int), .int .i64 (y + dr), .int .i64 (0)]
    | 22 => v = .pointer (some ⟨g, 0, none⟩)
    | 23 => v = .pointer (some ⟨g, 2, none⟩)
    | _ => True) j u W' := by
    intro W W' j u hX h
    match j, h with
    | 0, h => exact h
    | 1, h => exact h
    | 2, h => exact h
    | 3, h => exact h
    | 4, h => exact h
    | 5, h => exact h
    | 6, h => exact h
    | 7, h => exact h
    | 8, h => exact h
    | 9, h => exact h
    | 10, h => exact h
    | 11, h => exact h
    | 12, h => exact h
    | 13, h => exact h
    | 14, h => exact h
    | 15, h => exact h
    | 16, h => exact h
    | 17, h => exact h
    | 18, h => exact h
    | 19, h => exact h
    | 20, h => exact h
    | 21, h => exact h
    | 22, h => exact h
    | 23, h => exact h
    | _ + 24, h => exact h
  have hsz : ∀ d, some d ∈ ([some 57, some 58, some 59, some 60, some 61, some 62, some 63, some 64, some 65, some 66, some 67, some 68, some 69, some 70, some 71, some 72, some 73, some 74, some 75, some 76, some 77, some 78, some 79, some 80] : List (Option Tmp)) → d < a.tmps.size := slots_lt (by decide) hsize
  refine wp_region_j 24 [some 57, some 58, some 59, some 60, some 61, some 62, some 63, some 64, some 65, some 66, some 67, some 68, some 69, some 70, some 71, some 72, some 73, some 74, some 75, some 76, some 77, some 78, some 79, some 80] [[], [], [1], [2], [3], [], [], [6], [7], [8], [], [10], [11], [12], [9, 13], [14], [], [16], [17], [18], [15, 19], [4, 5, 20], [0], [22]] [[], [], [], [], [], [], [], [], [], [], [], [], [], [], [], [], [], [], [], [], [], [], [], []] (fun (i : Nat) (v : Value) (W : World) => match i with
    | 0 => v = .pointer (some ⟨g, 0, none⟩)
    | 1 => v = .pointer (some ⟨g, 0, none⟩)
    | 2 => v = .pointer (some ⟨g, 0, none⟩)
    | 3 => v = .pointer (some ⟨g, 7, none⟩)
    | 4 => v = .int .i64 (vl : Int)
    | 5 => v = .int .i64 (ix : Int)
    | 6 => v = .pointer (some ⟨g, 0, none⟩)
    | 7 => v = .pointer (some ⟨g, 0, none⟩)
    | 8 => v = .pointer (some ⟨g, 0, none⟩)
    | 9 => v = .slice (some ⟨bb, off, none⟩) n cc
    | 10 => v = .pointer (some ⟨g, 0, none⟩)
    | 11 => v = .pointer (some ⟨g, 0, none⟩)
    | 12 => v = .pointer (some ⟨g, 7, none⟩)
    | 13 => v = .int .i64 (vl : Int)
    | 14 => v = .pointer (some ⟨bb, off + vl, none⟩)
    | 15 => v = .int .i64 (y)
    | 16 => v = .pointer (some ⟨g, 0, none⟩)
    | 17 => v = .pointer (some ⟨g, 0, none⟩)
    | 18 => v = .pointer (some ⟨g, 1, none⟩)
    | 19 => v = .int .i64 (dr)
    | 20 => v = .int .i64 (y + dr)
    | 21 => v = .agg #[.int .i64 (vl : Int), .int .i64 (0), .int .i64 (ix : Int), .int .i64 (y + dr), .int .i64 (0)]
    | 22 => v = .pointer (some ⟨g, 0, none⟩)
    | 23 => v = .pointer (some ⟨g, 2, none⟩)
    | _ => True) (fun _ W => Ext w W) (by kernel_rfl) (by kernel_rfl) hsz (fun _ _ _ _ h => h) ((Ext.refl w).drew) ?_ ?_
  · clear hend
    simp only [rops, Try.f63, regOf, Option.bind_some, Nat.reduceBEq, if_true, if_false, Bool.false_eq_true, Option.getD_some]
    simp only [List.take_succ_cons, List.take_zero]
    refine ⟨?_, ?_, ?_, ?_, ?_, ?_, ?_, ?_, ?_, ?_, ?_, ?_, ?_, ?_, ?_, ?_, ?_, ?_, ?_, ?_, ?_, ?_, ?_, ?_, trivial⟩
    · intro done us W hJ hdep haft hnot b hb hb' K hK Q'
      have e0 := (hb' 0 (by simp)).trans s0
      clear hb hb'
      go_simp
      exact hK _ _ rfl (fun _ _ _ h => h) hJ
    · intro done us W hJ hdep haft hnot b hb hb' K hK Q'
      have e0 := (hb' 0 (by simp)).trans s0
      clear hb hb'
      go_simp
      exact hK _ _ rfl (fun _ _ _ h => h) hJ
    · intro done us W hJ hdep haft hnot b hb hb' K hK Q'
      simp only [List.getD_cons_succ, List.getD_cons_zero, List.mem_cons, List.not_mem_nil, or_false, forall_eq] at hdep
      have e58 := hb 1 58 rfl
      have d1 := hdep
      rw [d1.1] at e58
      clear hb hb' hdep d1
      go_simp
      exact hK _ _ rfl (fun _ _ _ h => h) hJ
    · intro done us W hJ hdep haft hnot b hb hb' K hK Q'
      simp only [List.getD_cons_succ, List.getD_cons_zero, List.mem_cons, List.not_mem_nil, or_false, forall_eq] at hdep
      have e59 := hb 2 59 rfl
      have d2 := hdep
      rw [d2.1] at e59
      clear hb hb' hdep d2
      go_simp
      exact hK _ _ rfl (fun _ _ _ h => h) hJ
    · intro done us W hJ hdep haft hnot b hb hb' K hK Q'
      simp only [List.getD_cons_succ, List.getD_cons_zero, List.mem_cons, List.not_mem_nil, or_false, forall_eq] at hdep
      have e60 := hb 3 60 rfl
      have d3 := hdep
      rw [d3.1] at e60
      clear hb hb' hdep d3
      have q := Ext.cell hJ f7
      go_simp
      exact hK _ _ rfl (fun _ _ _ h => h) hJ
    · intro done us W hJ hdep haft hnot b hb hb' K hK Q'
      have e1 := (hb' 1 (by simp)).trans s1
      clear hb hb'
      go_simp
      exact hK _ _ rfl (fun _ _ _ h => h) hJ
    · intro done us W hJ hdep haft hnot b hb hb' K hK Q'
      have e0 := (hb' 0 (by simp)).trans s0
      clear hb hb'
      go_simp
      exact hK _ _ rfl (fun _ _ _ h => h) hJ
    · intro done us W hJ hdep haft hnot b hb hb' K hK Q'
      simp only [List.getD_cons_succ, List.getD_cons_zero, List.mem_cons, List.not_mem_nil, or_false, forall_eq] at hdep
      have e63 := hb 6 63 rfl
      have d6 := hdep
      rw [d6.1] at e63
      clear hb hb' hdep d6
      go_simp
      exact hK _ _ rfl (fun _ _ _ h => h) hJ
    · intro done us W hJ hdep haft hnot b hb hb' K hK Q'
      simp only [List.getD_cons_succ, List.getD_cons_zero, List.mem_cons, List.not_mem_nil, or_false, forall_eq] at hdep
      have e64 := hb 7 64 rfl
      have d7 := hdep
      rw [d7.1] at e64
      clear hb hb' hdep d7
      go_simp
      exact hK _ _ rfl (fun _ _ _ h => h) hJ
    · intro done us W hJ hdep haft hnot b hb hb' K hK Q'
      simp only [List.getD_cons_succ, List.getD_cons_zero, List.mem_cons, List.not_mem_nil, or_false, forall_eq] at hdep
      have e65 := hb 8 65 rfl
      have d8 := hdep
      rw [d8.1] at e65
      clear hb hb' hdep d8
      have q := Ext.cell hJ f0
      go_simp
      exact hK _ _ rfl (fun _ _ _ h => h) hJ
    · intro done us W hJ hdep haft hnot b hb hb' K hK Q'
      have e0 := (hb' 0 (by simp)).trans s0
      clear hb hb'
      go_simp
      exact hK _ _ rfl (fun _ _ _ h => h) hJ
    · intro done us W hJ hdep haft hnot b hb hb' K hK Q'
      simp only [List.getD_cons_succ, List.getD_cons_zero, List.mem_cons, List.not_mem_nil, or_false, forall_eq] at hdep
      have e67 := hb 10 67 rfl
      have d10 := hdep
      rw [d10.1] at e67
      clear hb hb' hdep d10
      go_simp
      exact hK _ _ rfl (fun _ _ _ h => h) hJ
    · intro done us W hJ hdep haft hnot b hb hb' K hK Q'
      simp only [List.getD_cons_succ, List.getD_cons_zero, List.mem_cons, List.not_mem_nil, or_false, forall_eq] at hdep
      have e68 := hb 11 68 rfl
      have d11 := hdep
      rw [d11.1] at e68
      clear hb hb' hdep d11
      go_simp
      exact hK _ _ rfl (fun _ _ _ h => h) hJ
    · intro done us W hJ hdep haft hnot b hb hb' K hK Q'
      simp only [List.getD_cons_succ, List.getD_cons_zero, List.mem_cons, List.not_mem_nil, or_false, forall_eq] at hdep
      have e69 := hb 12 69 rfl
      have d12 := hdep
      rw [d12.1] at e69
      clear hb hb' hdep d12
      have q := Ext.cell hJ f7
      go_simp
      exact hK _ _ rfl (fun _ _ _ h => h) hJ
    · intro done us W hJ hdep haft hnot b hb hb' K hK Q'
      simp only [List.getD_cons_succ, List.getD_cons_zero, List.mem_cons, List.not_mem_nil, or_false, forall_eq_or_imp, forall_eq] at hdep
      have e66 := hb 9 66 rfl
      have e70 := hb 13 70 rfl
      have d9 := hdep.1
      have d13 := hdep.2
      rw [d9.1] at e66
      rw [d13.1] at e70
      clear hb hb' hdep d9 d13
      go_simp
      exact hK _ _ rfl (fun _ _ _ h => h) hJ
    · intro done us W hJ hdep haft hnot b hb hb' K hK Q'
      simp only [List.getD_cons_succ, List.getD_cons_zero, List.mem_cons, List.not_mem_nil, or_false, forall_eq] at hdep
      have e71 := hb 14 71 rfl
      have d14 := hdep
      rw [d14.1] at e71
      clear hb hb' hdep d14
      have q := Ext.cell hJ fy
      go_simp
      exact hK _ _ rfl (fun _ _ _ h => h) hJ
    · intro done us W hJ hdep haft hnot b hb hb' K hK Q'
      have e0 := (hb' 0 (by simp)).trans s0
      clear hb hb'
      go_simp
      exact hK _ _ rfl (fun _ _ _ h => h) hJ
    · intro done us W hJ hdep haft hnot b hb hb' K hK Q'
      simp only [List.getD_cons_succ, List.getD_cons_zero, List.mem_cons, List.not_mem_nil, or_false, forall_eq] at hdep
      have e73 := hb 16 73 rfl
      have d16 := hdep
      rw [d16.1] at e73
      clear hb hb' hdep d16
      go_simp
      exact hK _ _ rfl (fun _ _ _ h => h) hJ
    · intro done us W hJ hdep haft hnot b hb hb' K hK Q'
      simp only [List.getD_cons_succ, List.getD_cons_zero, List.mem_cons, List.not_mem_nil, or_false, forall_eq] at hdep
      have e74 := hb 17 74 rfl
      have d17 := hdep
      rw [d17.1] at e74
      clear hb hb' hdep d17
      go_simp
      exact hK _ _ rfl (fun _ _ _ h => h) hJ
    · intro done us W hJ hdep haft hnot b hb hb' K hK Q'
      simp only [List.getD_cons_succ, List.getD_cons_zero, List.mem_cons, List.not_mem_nil, or_false, forall_eq] at hdep
      have e75 := hb 18 75 rfl
      have d18 := hdep
      rw [d18.1] at e75
      clear hb hb' hdep d18
      have q := Ext.cell hJ f1
      go_simp
      exact hK _ _ rfl (fun _ _ _ h => h) hJ
    · intro done us W hJ hdep haft hnot b hb hb' K hK Q'
      simp only [List.getD_cons_succ, List.getD_cons_zero, List.mem_cons, List.not_mem_nil, or_false, forall_eq_or_imp, forall_eq] at hdep
      have e72 := hb 15 72 rfl
      have e76 := hb 19 76 rfl
      have d15 := hdep.1
      have d19 := hdep.2
      rw [d15.1] at e72
      rw [d19.1] at e76
      clear hb hb' hdep d15 d19
      have qw : IntKind.i64.wrap (y + dr) = y + dr := IntWalk.i64_in _ (by omega)
      go_simp
      exact hK _ _ rfl (fun _ _ _ h => h) hJ
    · intro done us W hJ hdep haft hnot b hb hb' K hK Q'
      simp only [List.getD_cons_succ, List.getD_cons_zero, List.mem_cons, List.not_mem_nil, or_false, forall_eq_or_imp, forall_eq] at hdep
      have e61 := hb 4 61 rfl
      have e62 := hb 5 62 rfl
      have e77 := hb 20 77 rfl
      have d4 := hdep.1
      have d5 := hdep.2.1
      have d20 := hdep.2.2
      rw [d4.1] at e61
      rw [d5.1] at e62
      rw [d20.1] at e77
      clear hb hb' hdep d4 d5 d20
      go_simp
      exact hK _ _ rfl (fun _ _ _ h => h) hJ
    · intro done us W hJ hdep haft hnot b hb hb' K hK Q'
      simp only [List.getD_cons_succ, List.getD_cons_zero, List.mem_cons, List.not_mem_nil, or_false, forall_eq] at hdep
      have e57 := hb 0 57 rfl
      have d0 := hdep
      rw [d0.1] at e57
      clear hb hb' hdep d0
      go_simp
      exact hK _ _ rfl (fun _ _ _ h => h) hJ
    · intro done us W hJ hdep haft hnot b hb hb' K hK Q'
      simp only [List.getD_cons_succ, List.getD_cons_zero, List.mem_cons, List.not_mem_nil, or_false, forall_eq] at hdep
      have e79 := hb 22 79 rfl
      have d22 := hdep
      rw [d22.1] at e79
      clear hb hb' hdep d22
      go_simp
      exact hK _ _ rfl (fun _ _ _ h => h) hJ
  · intro us W hV hJ
    exact hend (us 0) (us 1) (us 2) (us 3) (us 4) (us 5) (us 6) (us 7) (us 8) (us 9) (us 10) (us 11) (us 12) (us 13) (us 14) (us 15) (us 16) (us 17) (us 18) (us 19) (us 20) (us 21) (us 22) (us 23) W (hV 0 (by omega)) (hV 1 (by omega)) (hV 2 (by omega)) (hV 3 (by omega)) (hV 4 (by omega)) (hV 5 (by omega)) (hV 6 (by omega)) (hV 7 (by omega)) (hV 8 (by omega)) (hV 9 (by omega)) (hV 10 (by omega)) (hV 11 (by omega)) (hV 12 (by omega)) (hV 13 (by omega)) (hV 14 (by omega)) (hV 15 (by omega)) (hV 16 (by omega)) (hV 17 (by omega)) (hV 18 (by omega)) (hV 19 (by omega)) (hV 20 (by omega)) (hV 21 (by omega)) (hV 22 (by omega)) (hV 23 (by omega)) hJ

set_option maxRecDepth 100000 in
set_option maxHeartbeats 8000000 in
theorem fallen_any (base g n c : Nat) (A : Option Addr) (l : List Int) (d : Int) (h : Hun) (te tp : Int) (v : Value) (i : Nat) (w : World) (hH : HunP base w g A n c d h te tp v) (hI : Ints .i64 w A n l) (hs : Smp l) (hd : 0 ≤ d ∧ d ≤ 1023) (hf : h.fall = true) (hfar : ∀ q, A = some q → q.block < base) (hp : h.peak < n) (hvl : h.valley < n) (hi : i < n) (ho : h.out.length ≤ 100000) (hb : base ≤ w.heap.size) :
    Calls Try.prog 63 #[.pointer (some ⟨g, 0, none⟩), .int .i64 (i : Int)] w (fun e w' => e = .returned (.tuple #[]) ∧ ∃ te' tp' v', HunP base w' g A n c d (hunS l d h i) te' tp' v' ∧ Keeps (g :: v.ownBlock.toList) w w' ∧ (∀ k, v'.ownBlock = some k → k ∈ v.ownBlock.toList ∨ w.heap.size ≤ k)) := by
  obtain ⟨b, off, x, rfl, hx, _, cx⟩ := hI.get hi
  obtain ⟨b', off', y, e, hy, _, cy⟩ := hI.get hvl
  injection e with e
  injection e with e1 e2
  subst e1 e2
  have bx := hs.2 x (List.mem_of_getElem? hx)
  have by' := hs.2 y (List.mem_of_getElem? hy)
  obtain ⟨fm, pk, lv, fa, vl, ou⟩ := h
  simp only at hf hp hvl hy cy ho
  subst hf
  have HH := Lib.hid hH
  have HI := Lib.hid hI
  have HF := Lib.hid hfar
  have f0 := hH.blk.cell 0
  have f1 := hH.blk.cell 1
  have f7 := hH.blk.cell 7
  have z7 := hH.blk.free 7
  simp only [List.getElem?_toArray, List.getElem?_cons_zero, List.getElem?_cons_succ] at f0 f1 f7
  have HX := Lib.hid (getD_at hx)
  have HY := Lib.hid (getD_at hy)
  have q2 : IntKind.i64.wrap (x - y) = x - y := IntWalk.i64_in _ (by omega)
  clear hI hs hH hx hy hfar
  by_cases hxy : x < y
  · have q1 : decide (x < y) = true := decide_eq_true hxy
    have HS : Hid (hunS l d ⟨fm, pk, lv, true, vl, ou⟩ i = ⟨fm, pk, lv, true, i, ou⟩) := Lib.hid (by unfold hunS; simp only [if_true, HX.out, HY.out]; rw [if_pos hxy])
    clear hxy
    go_enter Try.func63, Try.ntmps63
    go_wp2_with fail
    go_region
    go_wp2
    go_end0
    rw [HS.out]
    have hk : Keeps [g] w (w.setCell ⟨g, 7, none⟩ (.int .i64 (i : Int))).drew := ((Keeps.refl [g] w).setCell (.inl (by simp)) _).drew
    exact ⟨rfl, te, tp, v, HH.out.put hk (by simpa using (HH.out.blk.set 7 (.int .i64 (i : Int))).drew) rfl, hk.mono (by intro k hk _; simp at hk; simp [hk]), fun k hk => .inl (by simpa using hk)⟩
  · have q1 : decide (x < y) = false := decide_eq_false hxy
    by_cases hdr : d ≤ x - y
    · have q3 : decide (d ≤ x - y) = true := decide_eq_true hdr
      have HS : Hid (hunS l d ⟨fm, pk, lv, true, vl, ou⟩ i = ⟨vl, i, y + d, false, vl, ou ++ [(⟨fm, pk, lv, true, vl, ou⟩ : Hun).close l vl]⟩) := Lib.hid (by unfold hunS; simp only [if_true, HX.out, HY.out]; rw [if_neg hxy, if_pos hdr])
      clear hxy hdr
      go_enter Try.func63, Try.ntmps63
      go_wp2_with fail
      go_region
      go_wp2_with fail
      go_region
      go_wp2_with fail
      have hXd : Ext w w.drew.drew := (Ext.refl w).drew.drew
      have HH0 := Lib.hid (HH.out.ext hXd)
      have hI0 := HI.out.ext hXd
      generalize hwd : w.drew.drew = w0 at HH0 hI0 ⊢
      have HWD := Lib.hid hwd
      clear hXd hwd f0 f1 f7 z7 cx cy
      refine (end_any base g n c _ l d ⟨fm, pk, lv, true, vl, ou⟩ te tp v vl w0 HH0.out hI0 HF.out hp ho (by rw [← HWD.out]; exact hb)).mono ?_
      rintro e w1 ⟨rfl, te1, tp1, v1, hH1, hk1, hv1⟩
      simp only at hH1
      have hI1 := hI0.below (HH0.out.below hk1 (by rw [← HWD.out]; exact hb)) HF.out
      obtain ⟨b1, off1, x1, e, hx1, _, cx⟩ := hI1.get hi
      injection e with e
      injection e with e1 e2
      subst e1 e2
      obtain ⟨b1, off1, y1, e, hy1, _, cy⟩ := hI1.get hvl
      injection e with e
      injection e with e1 e2
      subst e1 e2
      obtain rfl : x1 = x := (getD_at hx1).symm.trans HX.out
      obtain rfl : y1 = y := (getD_at hy1).symm.trans HY.out
      have hk0 : Keeps (g :: v.ownBlock.toList) w w1 := (Keeps.of_ext (by rw [← HWD.out]; exact (Ext.refl w).drew.drew) _).trans hk1
      have HK := Lib.hid hk0
      have HV1 := Lib.hid hv1
      have HH1 := Lib.hid hH1
      have f0 := hH1.blk.cell 0
      have f1 := hH1.blk.cell 1
      have f2 := hH1.blk.cell 2
      have f3 := hH1.blk.cell 3
      have f4 := hH1.blk.cell 4
      have f5 := hH1.blk.cell 5
      have f6 := hH1.blk.cell 6
      have f7 := hH1.blk.cell 7
      have f8 := hH1.blk.cell 8
      have z2 := hH1.blk.free 2
      have z3 := hH1.blk.free 3
      have z4 := hH1.blk.free 4
      have z5 := hH1.blk.free 5
      have z6 := hH1.blk.free 6
      have z8 := hH1.blk.free 8
      simp only [List.getElem?_toArray, List.getElem?_cons_zero, List.getElem?_cons_succ] at f0 f1 f2 f3 f4 f5 f6 f7 f8
      have q4 : IntKind.i64.wrap (y1 + d) = y1 + d := IntWalk.i64_in _ (by omega)
      clear hk0 hv1 hH1 hI0 hI1 hk1 hx1 hy1 q2
      go_upto_region 4 with (fail)
      refine fallen_r4 g b off n c vl i y1 d w1 f0 f1 f7 cy hvl by' hd _ _ (by simp) rfl rfl ?_
      rintro xv0 xv1 xv2 xv3 xv4 xv5 xv6 xv7 xv8 xv9 xv10 xv11 xv12 xv13 xv14 xv15 xv16 xv17 xv18 xv19 xv20 xv21 xv22 xv23 W rfl rfl rfl rfl rfl rfl rfl rfl rfl rfl rfl rfl rfl rfl rfl rfl rfl rfl rfl rfl rfl rfl rfl rfl hXW
      simp only [rops, Try.f63, regOf, Option.bind_some, Nat.reduceBEq, if_true, if_false, Bool.false_eq_true, Option.getD_some, List.drop_succ_cons, List.drop_zero]
      simp only [Act.put, List.setIfInBounds_toArray, List.set_cons_succ, List.set_cons_zero]
      have HXW := Lib.hid hXW
      replace HH1 := Lib.hid (HH1.out.ext hXW)
      clear hXW f0 f1 f2 f3 f4 f5 f6 f7 f8 z2 z3 z4 z5 z6 z8 cx cy
      have f2 := HH1.out.blk.cell 2
      have f3 := HH1.out.blk.cell 3
      have f4 := HH1.out.blk.cell 4
      have f5 := HH1.out.blk.cell 5
      have f6 := HH1.out.blk.cell 6
      have f8 := HH1.out.blk.cell 8
      have z2 := HH1.out.blk.free 2
      have z3 := HH1.out.blk.free 3
      have z4 := HH1.out.blk.free 4
      have z5 := HH1.out.blk.free 5
      have z6 := HH1.out.blk.free 6
      have z8 := HH1.out.blk.free 8
      go_wp2
      go_end0
      rw [HS.out]
      refine ⟨rfl, 0, 0, v1, HH1.out.put (((((((Keeps.refl [g] W).setCell (.inl (by simp)) _).setCell (.inl (by simp)) _).setCell (.inl (by simp)) _).setCell (.inl (by simp)) _).setCell (.inl (by simp)) _).setCell (.inl (by simp)) _) (by simpa using ((((((HH1.out.blk.set 2 (.int .i64 (vl : Int))).set 3 (.int .i64 0)).set 4 (.int .i64 (i : Int))).set 5 (.int .i64 (y1 + d))).set 6 (.int .i64 0)).set 8 (.bool false))) rfl, (((((((HK.out.trans (Keeps.of_ext HXW.out _)).setCell (.inl (by simp)) _).setCell (.inl (by simp)) _).setCell (.inl (by simp)) _).setCell (.inl (by simp)) _).setCell (.inl (by simp)) _).setCell (.inl (by simp)) _), fun k hk' => ?_⟩
      have h1 := HV1.out k hk'
      rw [← HWD.out] at h1
      rcases h1 with h1 | h1
      · left; simpa using h1
      · right; exact h1
    · have q3 : decide (d ≤ x - y) = false := decide_eq_false hdr
      have HS : Hid (hunS l d ⟨fm, pk, lv, true, vl, ou⟩ i = ⟨fm, pk, lv, true, vl, ou⟩) := Lib.hid (by unfold hunS; simp only [if_true, HX.out, HY.out]; rw [if_neg hxy, if_neg hdr])
      clear hxy hdr
      go_enter Try.func63, Try.ntmps63
      go_wp2_with fail
      go_region
      go_wp2_with fail
      go_region
      go_wp2
      go_end0
      rw [HS.out]
      have hk : Keeps [g] w w.drew.drew := (Keeps.refl [g] w).drew.drew
      exact ⟨rfl, te, tp, v, HH.out.put hk HH.out.blk.drew.drew rfl, hk.mono (by intro k hk _; simp at hk; simp [hk]), fun k hk => .inl (by simpa using hk)⟩

end Go.Proofs.Ytagcgldhhdecjaa
namespace Go.Proofs.Ytagcgldhhdecjaa
open Go.RowKit

theorem own_frontN {w : World} {base size : Nat} {e : TypeId} {A : Option Addr} {n c m : Nat} {vs : List Value} (h : w.ownsRow base e size (.slice A n c) n vs) (hm : m ≤ n) : w.ownsRow base e size (.slice A m c) m (vs.take (m * size)) := by
  have hms : m * size ≤ n * size := Nat.mul_le_mul_right _ hm
  refine ⟨by have := h.1; rw [List.length_take]; omega, ?_⟩
  rcases h.2 with ⟨hv, h0⟩ | ⟨g, cap, cur, hv, hg, hb, h1, h2, h3, h4⟩
  · injection hv with hA hn hc
    subst hA hc
    obtain rfl : m = 0 := by omega
    exact .inl ⟨rfl, rfl⟩
  · injection hv with hA hn hc
    subst hA hc
    exact .inr ⟨g, c, cur, rfl, hg, hb, by omega, h2, h3, by rw [← h4, List.take_take]; congr 1; omega⟩
theorem echV_take (es : List Ech) (m : Nat) : echV (es.take m) = (echV es).take (m * 5) := by
  induction es generalizing m with
  | nil => simp [echV]
  | cons e es ih =>
    have e1 : ∀ es, echV (e :: es) = e.cells ++ echV es := fun _ => rfl
    have hl : e.cells.length = 5 := rfl
    cases m with
    | zero => simp [echV]
    | succ m =>
      have e2 : e.cells.take ((m + 1) * 5) = e.cells := List.take_of_length_le (by rw [hl]; omega)
      rw [List.take_succ_cons, e1, e1, ih, List.take_append, hl, show (m + 1) * 5 - 5 = m * 5 by omega, e2]
theorem EcL.front {base : Nat} {w : World} {A : Option Addr} {n c m : Nat} {es : List Ech} (h : EcL base w (.slice A n c) es) (hn : es.length = n) (hm : m ≤ n) : EcL base w (.slice A m c) (es.take m) := by
  unfold EcL at h ⊢
  subst hn
  rw [List.length_take, Nat.min_eq_left hm, echV_take]
  exact own_frontN h hm
theorem EcL.ext {base : Nat} {w w' : World} {v : Value} {es : List Ech} (h : EcL base w v es) (he : Ext w w') : EcL base w' v es := World.ownsRow.ext' h he
theorem EcL.nil (base : Nat) (w : World) : EcL base w (.slice none 0 0) [] := World.ownsRow_nil _ _ _ _
theorem EcL.get {base : Nat} {w : World} {v : Value} {es : List Ech} (h : EcL base w v es) {j : Nat} (hj : j < es.length) : ∃ g c e, v = .slice (some ⟨g, 0, none⟩) es.length c ∧ es[j]? = some e ∧ ∀ i u, e.cells[i]? = some u → w.cell? ⟨g, j * 5 + i, none⟩ = some u := by
  obtain ⟨A, c, rfl⟩ := own_slice h
  obtain ⟨g, rfl, _, _⟩ := own_at0 h (by omega)
  have hr : es[j]? = some es[j] := List.getElem?_eq_getElem hj
  refine ⟨g, c, _, rfl, hr, fun i u hi => ?_⟩
  have h5 : i < 5 := by have := (List.getElem?_eq_some_iff.1 hi).1; simpa [Ech.cells] using this
  exact (h.cellAt (j * 5 + i) (by omega)).trans (echV_get hr i u hi)
/-- What Echoes leaves. -/
def RetEc (w : World) (r : List Ech × Int) (e : Ending) (w' : World) : Prop := ∃ v, e = .returned (.tuple #[v, .int .i64 r.2]) ∧ EcL w.heap.size w' v r.1 ∧ Ext w w'
/-- How many echoes there are. -/
theorem hunS_out (l : List Int) (d : Int) (h : Hun) (i : Nat) : (hunS l d h i).out.length ≤ h.out.length + 1 := by
  unfold hunS
  split
  · split
    · simp
    · split
      · simp
      · simp
  · split
    · simp
    · split
      · simp
      · simp
theorem hunN_out (l : List Int) (d : Int) (k i : Nat) (h : Hun) : (hunN l d k i h).out.length ≤ h.out.length + k := by
  induction k generalizing i h with
  | zero => simp [hunN]
  | succ k ih =>
    have h1 := ih (i + 1) (hunS l d h i)
    have h2 := hunS_out l d h i
    rw [hunN]
    omega
theorem HunOk.steps {l : List Int} {a i : Nat} {h : Hun} (k : HunOk l a i h) (d : Int) (m : Nat) : HunOk l a (i + m) (hunN l d m i h) := by
  induction m generalizing i h with
  | zero => exact k
  | succ m ih => have := ih (k.step d); rw [show i + 1 + m = i + (m + 1) by omega] at this; exact this
theorem HunP.kept {base g n c : Nat} {w0 w w' : World} {A : Option Addr} {d te tp : Int} {h : Hun} {v : Value} (hH : HunP base w g A n c d h te tp v) (hk : Keeps (g :: v.ownBlock.toList) w w') (he : Ext w0 w) (hb : w0.heap.size ≤ base) : Ext w0 w' :=
  hk.ext he fun k hk => by
    rcases List.mem_cons.1 hk with rfl | hk
    · exact Nat.le_trans hb hH.lo
    · exact Nat.le_trans hb (hH.row.lt k (by simpa using hk)).1
theorem runsP_len (lv : Int) (i : Nat) (l : List Int) (st : Option Nat) : (runsP lv i l st).length ≤ l.length + st.toList.length := by
  induction l generalizing i st with
  | nil => cases st <;> simp [runsP]
  | cons s l ih =>
    cases st with
    | none =>
      by_cases h : lv ≤ s
      · rw [runsP_nh h]; have := ih (i + 1) (some i); simp at this ⊢; omega
      · rw [runsP_nl (by omega)]; have := ih (i + 1) none; simp at this ⊢; omega
    | some a =>
      by_cases h : lv ≤ s
      · rw [runsP_sh h]; have := ih (i + 1) (some a); simp at this ⊢; omega
      · rw [runsP_sl (by omega)]; have := ih (i + 1) none; simp at this ⊢; omega
set_option maxRecDepth 100000 in
set_option maxHeartbeats 8000000 in
theorem echoes_any (A : Option Addr) (n c : Nat) (l : List Int) (d : Det) (w : World) (h : Ints .i64 w A n l) :
    Calls Try.prog 25 #[.slice A n c, .agg #[.int .i64 d.level, .int .i64 d.drop, .int .i64 d.step, .int .i64 d.delay]] w (RetEc w (echoesF l d)) := by
  obtain ⟨lv, dr, st, de⟩ := d
  simp only
  have hXb := (Ext.refl w).alloc (.cells #[.int .i64 lv, .int .i64 dr, .int .i64 st, .int .i64 de] 33)
  have hBb := Blk.new w 33 #[.int .i64 lv, .int .i64 dr, .int .i64 st, .int .i64 de]
  have hIb := h.ext hXb
  have HL := Lib.hid h.1
  have H0 := Lib.hid h
  have hfar : ∀ q, A = some q → 0 < n → q.block < w.heap.size := fun q hq hn => by
    obtain ⟨b, off, x, hA, _, _, hc⟩ := h.get hn
    rw [hA] at hq
    injection hq with hq
    subst hq
    exact World.block_lt_of_cell? _ _ hc
  clear h
  by_cases hd : ¬ DetOk ⟨lv, dr, st, de⟩
  · have q : Hid (decide (DetOk ⟨lv, dr, st, de⟩) = false) := Lib.hid (decide_eq_false hd)
    have HB : Hid (echoesF l ⟨lv, dr, st, de⟩ = ([], 31)) := Lib.hid (by unfold echoesF; rw [if_pos hd])
    clear hd
    go_enter Try.func25, Try.ntmps25
    go_wp2_with fail
    refine (det_any ⟨lv, dr, st, de⟩ _).mono ?_
    rw [q.out]
    rintro e w1 ⟨rfl, hX⟩
    go_wp2
    go_ret2
    exact ⟨_, by rw [HB.out]; rfl, by rw [HB.out]; exact EcL.nil _ _, hXb.trans hX⟩
  have hd' := Decidable.not_not.1 hd
  have q : Hid (decide (DetOk ⟨lv, dr, st, de⟩) = true) := Lib.hid (decide_eq_true hd')
  obtain ⟨l1, l2, d1, d2, _, _, _, _⟩ := hd'
  simp only at l1 l2 d1 d2
  by_cases hn : n = 0
  · subst hn
    have HB : Hid (echoesF l ⟨lv, dr, st, de⟩ = ([], 0)) := Lib.hid (by unfold echoesF; rw [if_neg hd, if_pos (List.eq_nil_of_length_eq_zero HL.out)])
    clear hd
    go_enter Try.func25, Try.ntmps25
    go_wp2_with fail
    refine (det_any ⟨lv, dr, st, de⟩ _).mono ?_
    rw [q.out]
    rintro e w1 ⟨rfl, hX⟩
    go_wp2
    go_ret2
    exact ⟨_, by rw [HB.out]; rfl, by rw [HB.out]; exact EcL.nil _ _, hXb.trans hX⟩
  have hne : l ≠ [] := by intro e; subst e; have := HL.out; simp at this; omega
  have g0 : ((n : Int) == 0) = false := by simpa using hn
  by_cases hs : ¬ Smp l
  · have HB : Hid (echoesF l ⟨lv, dr, st, de⟩ = ([], 2)) := Lib.hid (by unfold echoesF; rw [if_neg hd, if_neg hne, if_pos hs])
    have HF : Hid (baseF l = (0, 2)) := Lib.hid (by unfold baseF; rw [if_pos (.inr hs)])
    clear hd hs hne hfar
    go_enter Try.func25, Try.ntmps25
    go_wp2_with fail
    refine (det_any ⟨lv, dr, st, de⟩ _).mono ?_
    rw [q.out]
    rintro e w1 ⟨rfl, hX⟩
    go_wp2_with fail
    refine (base_any A n c l _ (hIb.ext hX)).mono ?_
    rw [HF.out]
    rintro e w2 ⟨rfl, hX2⟩
    go_wp2
    go_ret2
    exact ⟨_, by rw [HB.out]; rfl, by rw [HB.out]; exact EcL.nil _ _, (hXb.trans hX).trans hX2⟩
  have hs' := Decidable.not_not.1 hs
  have HF : Hid (baseF l = ((medV l : Int), 0)) := Lib.hid (by unfold baseF; rw [if_neg]; rintro (h | h); exact hne h; exact hs h)
  have HR0 : ∀ x, Hid (runsF l x = (runsP x 0 l none, 0)) := fun x => Lib.hid (by unfold runsF; rw [if_pos hs'])
  have HB : Hid (echoesF l ⟨lv, dr, st, de⟩ = ((allE l ⟨lv, dr, st, de⟩).take 15, 0)) := Lib.hid (by unfold echoesF; rw [if_neg hd, if_neg hne, if_neg hs])
  have HA : Hid (allE l ⟨lv, dr, st, de⟩ = (runsP (medV l + lv) 0 l none).flatMap (hunR l dr (medV l + lv))) := Lib.hid rfl
  have HSM := Lib.hid hs'
  have hn256 : n ≤ 256 := by have := hs'.1; have := HL.out; omega
  have hmed := medV_le l
  generalize medV l = mv at HF HA hmed
  have HFAR : Hid (∀ q, A = some q → q.block < w.heap.size) := Lib.hid fun q hq => hfar q hq (by omega)
  clear hd hs hs' hne hfar
  go_enter Try.func25, Try.ntmps25
  go_wp2_with fail
  refine (det_any ⟨lv, dr, st, de⟩ _).mono ?_
  rw [q.out]
  rintro e w1 ⟨rfl, hX⟩
  have hX1 := hXb.trans hX
  replace hIb := hIb.ext hX
  replace hBb := hBb.ext hX
  clear hX hXb
  go_wp2_with fail
  refine (base_any A n c l _ hIb).mono ?_
  rw [HF.out]
  rintro e w2 ⟨rfl, hX2⟩
  replace hX1 := hX1.trans hX2
  replace hIb := hIb.ext hX2
  replace hBb := hBb.ext hX2
  clear hX2
  have c0 := hBb.cell 0
  have c1 := hBb.cell 1
  simp only [List.getElem?_toArray, List.getElem?_cons_zero, List.getElem?_cons_succ] at c0 c1
  go_wp2_with fail
  refine (runs_any A n c l _ _ hIb).mono ?_
  rw [(HR0 _).out]
  clear HR0
  generalize hrs : runsP ((mv : Int) + lv) 0 l none = rs at HA ⊢
  rintro e w3 ⟨vr, rfl, hP, hX3⟩
  simp only at hP ⊢
  have hrl : rs.length ≤ n := by have := runsP_len ((mv : Int) + lv) 0 l none; rw [hrs] at this; have h2 := HL.out; simp only [Option.toList_none, List.length_nil, Nat.add_zero] at this; omega
  have HRS := Lib.hid hrs
  obtain ⟨Ar, cr, rfl⟩ := own_slice hP
  replace hX1 := hX1.trans hX3
  replace hIb := hIb.ext hX3
  replace hBb := hBb.ext hX3
  clear hX3 c0 c1 hrs
  have c0 := hBb.cell 0
  have c1 := hBb.cell 1
  simp only [List.getElem?_toArray, List.getElem?_cons_zero, List.getElem?_cons_succ] at c0 c1
  go_upto_region 10 with (fail)
  have hB4 := Blk.new w3 90 #[.slice A n c, .int .i64 dr, .int .i64 0, .int .i64 0, .int .i64 0, .int .i64 0, .int .i64 0, .int .i64 0, .bool false, .slice none 0 0]
  have hX4 := (Ext.refl w3).alloc (.cells #[.slice A n c, .int .i64 dr, .int .i64 0, .int .i64 0, .int .i64 0, .int .i64 0, .int .i64 0, .int .i64 0, .bool false, .slice none 0 0] 90)
  have hsz := hX1.size
  have hsz2 := hBb.lt
  have HX := Lib.hid (hX1.trans hX4)
  have HI := Lib.hid (hIb.ext hX4)
  have HBD := Lib.hid (hBb.ext hX4)
  have HP := Lib.hid (hP.ext hX4)
  clear hX1 hIb hBb hP c0 c1
  generalize w3.alloc (.cells #[.slice A n c, .int .i64 dr, .int .i64 0, .int .i64 0, .int .i64 0, .int .i64 0, .int .i64 0, .int .i64 0, .bool false, .slice none 0 0] 90) = w4 at hB4 hX4 HX HI HBD HP ⊢
  clear hX4
  generalize w3.heap.size = g at hB4 hsz hsz2 ⊢
  have HH : Hid (HunP w.heap.size w4 g A n c dr ⟨0, 0, 0, false, 0, []⟩ 0 0 (.slice none 0 0)) := Lib.hid ⟨hB4, EcL.nil _ _, hsz⟩
  clear hB4
  generalize w2.heap.size = B2 at HP
  obtain ⟨nr, hnr⟩ : ∃ nr, rs.length = nr := ⟨_, rfl⟩
  rw [hnr] at hrl HP ⊢
  have HNR := Lib.hid hnr
  clear hnr
  go_wp2_with fail
  go_loopg [45] nr (fun f iv wr => ∃ (k : Nat) (hu : Hun) (te tp : Int) (v : Value), f = nr - k ∧ k ≤ nr ∧ hu.out.length ≤ k * 257 ∧ iv = .int .i64 (k : Int) ∧ Hid (HunP w.heap.size wr g A n c dr hu te tp v) ∧ Hid (hu.out = (rs.take k).flatMap (hunR l dr (mv + lv))) ∧ Hid (Ext w wr) ∧ Hid (PrL B2 wr (.slice Ar nr cr) rs) ∧ Hid (Blk wr w.heap.size 33 #[.int .i64 lv, .int .i64 dr, .int .i64 st, .int .i64 de]))
  case atStart => exact ⟨0, _, _, _, _, rfl, by omega, by simp, rfl, HH, Lib.hid (by simp), HX, HP, HBD⟩
  case round =>
    clear HH HX HP HBD
    obtain ⟨k, hu, te, tp, v, rfl, hk, hol, rfl, HH, HO, HX, HP, HBD⟩ := hrel
    by_cases hlt : k < nr
    · obtain ⟨gr, cr', ⟨r1, r2⟩, hve, hr, p0, p1⟩ := HP.out.get (by rw [HNR.out]; exact hlt)
      injection hve with hve hve2 hve3
      subst hve
      clear hve2 hve3
      simp only at p0 p1
      have hrr := runsP_in (lv := (mv : Int) + lv) (l := l) (i := 0) (st := none) (fun a ha => by cases ha) (r1, r2) (by rw [HRS.out]; exact List.mem_of_getElem? hr)
      simp only [Nat.zero_add] at hrr
      obtain ⟨hr1, hr2⟩ := hrr
      rw [HL.out] at hr2
      have HRK := Lib.hid hr
      clear hr
      go_upto_region 13 with (fail)
      have zr := HH.out.blk.lt
      have hBr := Blk.new wr 30 #[.int .i64 (r1 : Int), .int .i64 (r2 : Int)]
      have hXr := (Ext.refl wr).alloc (.cells #[.int .i64 (r1 : Int), .int .i64 (r2 : Int)] 30)
      replace HH := Lib.hid (HH.out.ext hXr)
      replace HX := Lib.hid (HX.out.trans hXr)
      replace HP := Lib.hid (HP.out.ext hXr)
      replace HBD := Lib.hid (HBD.out.ext hXr)
      generalize wr.alloc (.cells #[.int .i64 (r1 : Int), .int .i64 (r2 : Int)] 30) = w5 at hBr hXr HH HX HP HBD ⊢
      generalize wr.heap.size = gb at hBr zr ⊢
      clear hXr p0 p1
      have HBR := Lib.hid hBr
      have b0 := hBr.cell 0
      have c0 := HBD.out.cell 0
      have f2 := HH.out.blk.cell 2
      have f3 := HH.out.blk.cell 3
      have f4 := HH.out.blk.cell 4
      have f5 := HH.out.blk.cell 5
      have f6 := HH.out.blk.cell 6
      have f8 := HH.out.blk.cell 8
      have z2 := HH.out.blk.free 2
      have z3 := HH.out.blk.free 3
      have z4 := HH.out.blk.free 4
      have z5 := HH.out.blk.free 5
      have z6 := HH.out.blk.free 6
      have z8 := HH.out.blk.free 8
      simp only [List.getElem?_toArray, List.getElem?_cons_zero, List.getElem?_cons_succ] at b0 c0 f2 f3 f4 f5 f6 f8
      clear hBr
      go_upto_region 15 with (fail)
      clear b0 c0 f2 f3 f4 f5 f6 f8 z2 z3 z4 z5 z6 z8
      have hk6 : Keeps [g] w5 ((((((w5.setCell ⟨g, 2, none⟩ (.int .i64 (r1 : Int))).setCell ⟨g, 3, none⟩ (.int .i64 0)).setCell ⟨g, 4, none⟩ (.int .i64 (r1 : Int))).setCell ⟨g, 5, none⟩ (.int .i64 ((mv : Int) + lv))).setCell ⟨g, 6, none⟩ (.int .i64 0)).setCell ⟨g, 8, none⟩ (.bool false)) := ((((((Keeps.refl [g] w5).setCell (.inl (by simp)) _).setCell (.inl (by simp)) _).setCell (.inl (by simp)) _).setCell (.inl (by simp)) _).setCell (.inl (by simp)) _).setCell (.inl (by simp)) _
      have hng : ∀ tb, 90 ≠ tb → ∀ k ∈ [g], NoRow tb w5 k := fun tb h k hk => by simp at hk; subst hk; exact NoRow.of_blk HH.out.blk h
      have hH6 : HunP w.heap.size _ g A n c dr ⟨r1, r1, (mv : Int) + lv, false, hu.valley, hu.out⟩ 0 0 v := HH.out.put hk6 (by simpa using ((((((HH.out.blk.set 2 (.int .i64 (r1 : Int))).set 3 (.int .i64 0)).set 4 (.int .i64 (r1 : Int))).set 5 (.int .i64 ((mv : Int) + lv))).set 6 (.int .i64 0)).set 8 (.bool false))) rfl
      replace HX := Lib.hid (hk6.ext HX.out (by intro k hk; simp at hk; subst hk; exact hsz))
      replace HP := Lib.hid (row_away HP.out hk6 (hng _ (by decide)))
      replace HBD := Lib.hid (blk_away HBD.out hk6 (hng _ (by decide)))
      replace HBR := Lib.hid (blk_away HBR.out hk6 (hng _ (by decide)))
      generalize (((((w5.setCell ⟨g, 2, none⟩ (.int .i64 (r1 : Int))).setCell ⟨g, 3, none⟩ (.int .i64 0)).setCell ⟨g, 4, none⟩ (.int .i64 (r1 : Int))).setCell ⟨g, 5, none⟩ (.int .i64 ((mv : Int) + lv))).setCell ⟨g, 6, none⟩ (.int .i64 0)).setCell ⟨g, 8, none⟩ (.bool false) = w6 at hk6 hH6 HX HP HBD HBR ⊢
      replace HH := Lib.hid hH6
      clear hk6 hH6 hng
      have b0 := HBR.out.cell 0
      simp only [List.getElem?_toArray, List.getElem?_cons_zero] at b0
      go_wp2_with fail
      clear b0
      go_loopg [13] (r2 - (r1 + 1)) (fun f2 jv W2 => ∃ (z : Nat) (te2 tp2 : Int) (v2 : Value), f2 = r2 - z ∧ r1 + 1 ≤ z ∧ z ≤ r2 ∧ jv = .int .i64 (z : Int) ∧ Hid (HunP w.heap.size W2 g A n c dr (hunN l dr (z - (r1 + 1)) (r1 + 1) ⟨r1, r1, (mv : Int) + lv, false, hu.valley, hu.out⟩) te2 tp2 v2) ∧ Hid (Ext w W2) ∧ Hid (PrL B2 W2 (.slice (some ⟨gr, 0, none⟩) nr cr) rs) ∧ Hid (Blk W2 w.heap.size 33 #[.int .i64 lv, .int .i64 dr, .int .i64 st, .int .i64 de]) ∧ Hid (Blk W2 gb 30 #[.int .i64 (r1 : Int), .int .i64 (r2 : Int)]))
      case atStart => exact ⟨r1 + 1, _, _, _, rfl, by omega, by omega, by go_num, by rw [Nat.sub_self]; exact HH, HX, HP, HBD, HBR⟩
      case round =>
        clear HH HX HP HBD HBR
        obtain ⟨z, te2, tp2, v2, rfl, hm, hm2, rfl, HH, HX, HP, HBD, HBR⟩ := hrel
        have hok := (HunOk.start l r1 ((mv : Int) + lv) hu.valley hu.out).steps dr (z - (r1 + 1))
        have hlen := hunN_out l dr (z - (r1 + 1)) (r1 + 1) ⟨r1, r1, (mv : Int) + lv, false, hu.valley, hu.out⟩
        have hsn := hunN_snoc l dr (z - (r1 + 1)) (r1 + 1) ⟨r1, r1, (mv : Int) + lv, false, hu.valley, hu.out⟩
        rw [show z - (r1 + 1) + 1 = z + 1 - (r1 + 1) by omega, show r1 + 1 + (z - (r1 + 1)) = z by omega] at hsn
        rw [show r1 + 1 + (z - (r1 + 1)) = z by omega] at hok
        generalize hhq : hunN l dr (z - (r1 + 1)) (r1 + 1) ⟨r1, r1, (mv : Int) + lv, false, hu.valley, hu.out⟩ = hq at HH hok hlen hsn
        have HSN := Lib.hid hsn
        have HHQ := Lib.hid hhq
        clear hsn hhq
        simp only at hlen
        obtain ⟨_, ⟨_, hpk⟩, hva⟩ := hok
        have b1 := HBR.out.cell 1
        have f8 := HH.out.blk.cell 8
        simp only [List.getElem?_toArray, List.getElem?_cons_zero, List.getElem?_cons_succ] at b1 f8
        have hI2 := Lib.hid (H0.out.ext HX.out)
        by_cases hj : z < r2
        · by_cases hf : hq.fall = true
          · rw [hf] at f8
            have hva := hva hf
            go_wp2_with fail
            refine (fallen_any w.heap.size g n c A l dr hq te2 tp2 v2 z wr HH.out hI2.out HSM.out ⟨by omega, d2⟩ hf HFAR.out (by omega) (by omega) (by omega) (by omega) HX.out.size).mono ?_
            rintro e W3 ⟨rfl, te3, tp3, v3, hH3, hK3, hv3⟩
            replace HX := Lib.hid (HH.out.kept hK3 HX.out (Nat.le_refl _))
            clear hv3
            replace HP := Lib.hid (row_away HP.out hK3 (HH.out.away (by decide) (by decide)))
            replace HBD := Lib.hid (blk_away HBD.out hK3 (HH.out.away (by decide) (by decide)))
            replace HBR := Lib.hid (blk_away HBR.out hK3 (HH.out.away (by decide) (by decide)))
            rw [← HSN.out] at hH3
            have HH3 := Lib.hid hH3
            clear HH hH3 hK3 b1 f8 hI2
            go_wp2
            go_roundg (r2 - (z + 1))
            case rel => exact ⟨z + 1, _, _, _, rfl, by omega, by omega, by go_num, HH3, HX, HP, HBD, HBR⟩
            case measure => omega
          · have hf := Bool.eq_false_iff.2 hf
            rw [hf] at f8
            go_wp2_with fail
            refine (rising_any w.heap.size g n c A l dr hq te2 tp2 v2 z wr HH.out hI2.out HSM.out ⟨by omega, d2⟩ hf (by omega) (by omega)).mono ?_
            rintro e W3 ⟨rfl, hH3, hK3⟩
            replace HX := Lib.hid (hK3.ext HX.out (by intro k hk; simp at hk; subst hk; exact hsz))
            replace HP := Lib.hid (row_away HP.out hK3 (fun k hk => by simp at hk; subst hk; exact NoRow.of_blk HH.out.blk (by decide)))
            replace HBD := Lib.hid (blk_away HBD.out hK3 (fun k hk => by simp at hk; subst hk; exact NoRow.of_blk HH.out.blk (by decide)))
            replace HBR := Lib.hid (blk_away HBR.out hK3 (fun k hk => by simp at hk; subst hk; exact NoRow.of_blk HH.out.blk (by decide)))
            rw [← HSN.out] at hH3
            have HH3 := Lib.hid hH3
            clear HH hH3 hK3 b1 f8 hI2
            go_wp2
            go_roundg (r2 - (z + 1))
            case rel => exact ⟨z + 1, _, _, _, rfl, by omega, by omega, by go_num, HH3, HX, HP, HBD, HBR⟩
            case measure => omega
        · obtain rfl : z = r2 := by omega
          go_wp2_with fail
          refine (end_any w.heap.size g n c A l dr hq te2 tp2 v2 z wr HH.out hI2.out HFAR.out (by omega) (by omega) HX.out.size).mono ?_
          rintro e W3 ⟨rfl, te3, tp3, v3, hH3, hK3, hv3⟩
          replace HX := Lib.hid (HH.out.kept hK3 HX.out (Nat.le_refl _))
          replace HP := Lib.hid (row_away HP.out hK3 (HH.out.away (by decide) (by decide)))
          replace HBD := Lib.hid (blk_away HBD.out hK3 (HH.out.away (by decide) (by decide)))
          have HH3 := Lib.hid hH3
          have HO3 : Hid (hq.out ++ [hq.close l z] = (rs.take (k + 1)).flatMap (hunR l dr (mv + lv))) := Lib.hid (by
            have h1 := hunR_out l dr ((mv : Int) + lv) (r1, z) hu.valley hu.out
            simp only at h1
            rw [HHQ.out] at h1
            rw [h1, HO.out, List.take_add_one, HRK.out]
            simp)
          have hol3 : (hq.out ++ [hq.close l z]).length ≤ (k + 1) * 257 := by simp; omega
          clear HH hH3 hK3 hv3 b1 f8 hI2 HBR
          go_wp2
          go_roundg (nr - (k + 1))
          case rel => exact ⟨k + 1, _, _, _, _, rfl, by omega, hol3, by go_num, HH3, HO3, HX, HP, HBD⟩
          case measure => omega
    · obtain rfl : k = nr := by omega
      have hown := HH.out.row
      have HE : Hid (hu.out = allE l ⟨lv, dr, st, de⟩) := Lib.hid (by rw [HO.out, HA.out, List.take_of_length_le (Nat.le_of_eq HNR.out)])
      obtain ⟨A9, c9, hv9⟩ := own_slice hown
      subst hv9
      have f9 := HH.out.blk.cell 9
      simp only [List.getElem?_toArray, List.getElem?_cons_zero, List.getElem?_cons_succ] at f9
      have HOW := Lib.hid hown
      obtain ⟨z, hz⟩ : ∃ z, hu.out.length = z := ⟨_, rfl⟩
      rw [hz] at f9
      have hcap := own_cap hown
      rw [hz] at hcap hol
      obtain ⟨hcap1, hcap2⟩ := hcap
      have HZ := Lib.hid hz
      clear hz hown HH HP HBD
      go_wp2_with fail
      have hy : (min (z : Int) 15).toNat = min z 15 := by omega
      go_region
      go_wp2
      go_ret2
      refine ⟨.slice A9 (min z 15) c9, by rw [HB.out]; rfl, ?_, HX.out.drew⟩
      rw [HB.out, ← HE.out]
      have h1 := HOW.out
      rw [HZ.out] at h1
      have h2 := (EcL.front h1 HZ.out (Nat.min_le_left z 15)).ext (Ext.refl wr).drew
      have e : hu.out.take (min z 15) = hu.out.take 15 := by
        by_cases h15 : z ≤ 15
        · rw [List.take_of_length_le (by have := HZ.out; omega), List.take_of_length_le (by have := HZ.out; omega)]
        · rw [show min z 15 = 15 by omega]
      rw [e] at h2
      exact h2
end Go.Proofs.Ytagcgldhhdecjaa
namespace Go.Proofs.Ytagcgldhhdecjaa

def liftL (n : Nat) (l : List Int) : List Int := l.map (· + (n : Int))
theorem liftL_getD {n : Nat} {l : List Int} {i : Nat} (h : i < l.length) : (liftL n l).getD i 0 = l.getD i 0 + n := by
  simp [liftL, List.getD, List.getElem?_map, List.getElem?_eq_getElem h]
def Ech.lift (n : Nat) (e : Ech) : Ech := ⟨e.frm, e.til, e.peak, e.level + n, e.top + n⟩
structure HLift (n : Nat) (h h' : Hun) : Prop where
  frm : h'.frm = h.frm
  peak : h'.peak = h.peak
  level : h'.level = h.level + n
  fall : h'.fall = h.fall
  valley : h'.valley = h.valley
  out : h'.out = h.out.map (Ech.lift n)
theorem HLift.step {n : Nat} {h h' : Hun} {l : List Int} {a i : Nat} (s : HLift n h h') (k : HunOk l a i h) (d : Int) (hi : i < l.length) : HLift n (hunS l d h i) (hunS (liftL n l) d h' i) := by
  obtain ⟨f, p, lv, fa, v, o⟩ := h
  obtain ⟨f', p', lv', fa', v', o'⟩ := h'
  obtain ⟨h1, h2, h3, h4, h5, h6⟩ := s
  obtain ⟨k1, k2, k3⟩ := k
  simp only at h1 h2 h3 h4 h5 h6 k1 k2 k3
  subst h1 h2 h3 h4 h5
  subst h6
  have ei := liftL_getD (n := n) hi
  have ep := liftL_getD (n := n) (l := l) (i := p') (by omega)
  have a1 : ∀ x y : Int, (x + (n : Int) < y + n) = (x < y) := fun x y => propext (by omega)
  have a2 : ∀ x y : Int, x + (n : Int) - (y + n) = x - y := fun x y => by omega
  unfold hunS
  simp only
  cases fa'
  · simp only [Bool.false_eq_true, if_false, ei, ep, a1, a2]
    by_cases h1 : l.getD p' 0 < l.getD i 0
    · simp only [if_pos h1]; exact ⟨rfl, rfl, rfl, rfl, rfl, rfl⟩
    · simp only [if_neg h1]
      by_cases h2 : d ≤ l.getD p' 0 - l.getD i 0
      · simp only [if_pos h2]; exact ⟨rfl, rfl, rfl, rfl, rfl, rfl⟩
      · simp only [if_neg h2]; exact ⟨rfl, rfl, rfl, rfl, rfl, rfl⟩
  · have k3 := k3 rfl
    have ev := liftL_getD (n := n) (l := l) (i := v') (by omega)
    simp only [if_true, ei, ev, a1, a2]
    by_cases h1 : l.getD i 0 < l.getD v' 0
    · simp only [if_pos h1]; exact ⟨rfl, rfl, rfl, rfl, rfl, rfl⟩
    · simp only [if_neg h1]
      by_cases h2 : d ≤ l.getD i 0 - l.getD v' 0
      · simp only [if_pos h2]
        exact ⟨rfl, rfl, by simp only; omega, rfl, rfl, by simp only [Hun.close, List.map_append, List.map_cons, List.map_nil, Ech.lift, ep]⟩
      · simp only [if_neg h2]; exact ⟨rfl, rfl, rfl, rfl, rfl, rfl⟩
theorem HLift.steps {n : Nat} {h h' : Hun} {l : List Int} {a i : Nat} (s : HLift n h h') (k : HunOk l a i h) (d : Int) (m : Nat) (hi : i + m ≤ l.length) : HLift n (hunN l d m i h) (hunN (liftL n l) d m i h') ∧ HunOk l a (i + m) (hunN l d m i h) := by
  induction m generalizing i h h' with
  | zero => exact ⟨s, k⟩
  | succ m ih =>
    have := ih (s.step k d (by omega)) (k.step d) (by omega)
    rw [show i + (m + 1) = i + 1 + m by omega]
    exact this
theorem Smp.runs {l : List Int} {lv : Int} : ∀ r ∈ runsP lv 0 l none, r.1 < r.2 ∧ r.2 ≤ l.length := fun r hr => by
  have := runsP_in (st := none) (i := 0) (fun a ha => by cases ha) r hr
  omega
end Go.Proofs.Ytagcgldhhdecjaa
namespace Go.Proofs.Ytagcgldhhdecjaa

def lateL (n : Nat) (b : Int) (l : List Int) : List Int := List.replicate n b ++ l
theorem lateL_getD (n : Nat) (b : Int) (l : List Int) (i : Nat) : (lateL n b l).getD (i + n) 0 = l.getD i 0 := by
  simp [lateL, List.getD, List.getElem?_append_right]
def Ech.shift (n : Nat) (e : Ech) : Ech := ⟨e.frm + n, e.til + n, e.peak + n, e.level, e.top⟩
structure HShift (n : Nat) (h h' : Hun) : Prop where
  frm : h'.frm = h.frm + n
  peak : h'.peak = h.peak + n
  level : h'.level = h.level
  fall : h'.fall = h.fall
  valley : h.fall = true → h'.valley = h.valley + n
  out : h'.out = h.out.map (Ech.shift n)
theorem HShift.close {n : Nat} {b : Int} {h h' : Hun} (s : HShift n h h') (l : List Int) (til : Nat) : h'.close (lateL n b l) (til + n) = (h.close l til).shift n := by
  unfold Hun.close Ech.shift
  rw [s.frm, s.peak, s.level, lateL_getD]
  simp
theorem HShift.step {n : Nat} {b : Int} {h h' : Hun} {l : List Int} (s : HShift n h h') (d : Int) (i : Nat) : HShift n (hunS l d h i) (hunS (lateL n b l) d h' (i + n)) := by
  have hc := s.close (b := b) l h.valley
  obtain ⟨f, p, lv, fa, v, o⟩ := h
  obtain ⟨f', p', lv', fa', v', o'⟩ := h'
  obtain ⟨h1, h2, h3, h4, h5, h6⟩ := s
  simp only at h1 h2 h3 h4 h5 h6 hc
  subst h1 h2 h3 h4
  subst h6
  unfold hunS
  simp only
  cases fa'
  · simp only [Bool.false_eq_true, if_false, lateL_getD]
    by_cases h1 : l.getD p 0 < l.getD i 0
    · simp only [if_pos h1]; exact ⟨rfl, rfl, rfl, rfl, by simp, rfl⟩
    · simp only [if_neg h1]
      by_cases h2 : d ≤ l.getD p 0 - l.getD i 0
      · simp only [if_pos h2]; exact ⟨rfl, rfl, rfl, rfl, by simp, rfl⟩
      · simp only [if_neg h2]; exact ⟨rfl, rfl, rfl, rfl, by simp, rfl⟩
  · obtain rfl := h5 rfl
    simp only [if_true, lateL_getD]
    by_cases h1 : l.getD i 0 < l.getD v 0
    · simp only [if_pos h1]; exact ⟨rfl, rfl, rfl, rfl, by simp, rfl⟩
    · simp only [if_neg h1]
      by_cases h2 : d ≤ l.getD i 0 - l.getD v 0
      · simp only [if_pos h2]
        exact ⟨rfl, rfl, rfl, rfl, by simp, by simp only [List.map_append, List.map_cons, List.map_nil]; rw [hc]⟩
      · simp only [if_neg h2]; exact ⟨rfl, rfl, rfl, rfl, by simp, rfl⟩
theorem HShift.steps {n : Nat} {b : Int} {h h' : Hun} {l : List Int} (s : HShift n h h') (d : Int) (m i : Nat) : HShift n (hunN l d m i h) (hunN (lateL n b l) d m (i + n) h') := by
  induction m generalizing i h h' with
  | zero => exact s
  | succ m ih =>
    have := ih (s.step (b := b) (l := l) d i) (i + 1)
    unfold hunN
    rw [show i + n + 1 = i + 1 + n by omega]
    exact this
end Go.Proofs.Ytagcgldhhdecjaa
namespace Go.Proofs.Ytagcgldhhdecjaa

/-- What holds of an echo that was found. -/
structure EGood (l : List Int) (lv : Int) (e : Ech) (f p t : Nat) : Prop where
  frm : e.frm = f
  til : e.til = t
  peak : e.peak = p
  fp : f ≤ p
  pt : p < t
  tl : t ≤ l.length
  top : e.top = l.getD p 0
  lev : lv ≤ e.level
  le : e.level ≤ e.top
  all : ∀ k, f ≤ k → k < t → lv ≤ l.getD k 0 ∧ l.getD k 0 ≤ e.top ∧ (l.getD k 0 = e.top → p ≤ k)
  start : (f = 0 ∨ l.getD (f - 1) 0 < lv) ∨ l.getD f 0 < e.level
/-- Echoes that lie one behind another from a to b. -/
def ChainE (l : List Int) (lv : Int) : Nat → List Ech → Nat → Prop
  | a, [], b => a = b
  | a, e :: es, b => ∃ p t, EGood l lv e a p t ∧ ChainE l lv t es b
theorem ChainE.snoc {l : List Int} {lv : Int} {a b c p : Nat} {es : List Ech} {e : Ech} (h : ChainE l lv a es b) (he : EGood l lv e b p c) : ChainE l lv a (es ++ [e]) c := by
  induction es generalizing a with
  | nil => obtain rfl : a = b := h; exact ⟨p, c, he, rfl⟩
  | cons x es ih => obtain ⟨p', t, h1, h2⟩ := h; exact ⟨p', t, h1, ih h2⟩
/-- Where the search of a run stands. -/
structure HunInv (l : List Int) (lv d : Int) (a i : Nat) (h : Hun) : Prop where
  chain : ChainE l lv a h.out h.frm
  af : a ≤ h.frm
  fp : h.frm ≤ h.peak
  pi : h.peak < i
  lev : lv ≤ h.level
  le : h.level ≤ l.getD h.peak 0
  all : ∀ k, h.frm ≤ k → k < i → l.getD k 0 ≤ l.getD h.peak 0 ∧ (l.getD k 0 = l.getD h.peak 0 → h.peak ≤ k)
  start : (h.frm = 0 ∨ l.getD (h.frm - 1) 0 < lv) ∨ l.getD h.frm 0 < h.level
  fall : h.fall = true → h.peak < h.valley ∧ h.valley < i ∧ l.getD h.valley 0 + d ≤ l.getD h.peak 0 ∧ ∀ k, h.valley ≤ k → k < i → l.getD h.valley 0 ≤ l.getD k 0 ∧ l.getD k 0 < l.getD h.valley 0 + d
theorem HunInv.close {l : List Int} {lv d : Int} {a i til : Nat} {h : Hun} (k : HunInv l lv d a i h) (hp : h.peak < til) (hi : til ≤ i) (hl : til ≤ l.length) (hb : ∀ k, a ≤ k → k < til → lv ≤ l.getD k 0) : EGood l lv (h.close l til) h.frm h.peak til where
  frm := rfl
  til := rfl
  peak := rfl
  fp := k.fp
  pt := hp
  tl := hl
  top := rfl
  lev := k.lev
  le := k.le
  all := fun j h1 h2 => ⟨hb j (by have := k.af; omega) h2, k.all j h1 (by omega)⟩
  start := k.start
theorem HunInv.step {l : List Int} {lv d : Int} {a i : Nat} {h : Hun} (k : HunInv l lv d a i h) (hd : 1 ≤ d) (hi : i < l.length) (hb : ∀ k, a ≤ k → k ≤ i → lv ≤ l.getD k 0) : HunInv l lv d a (i + 1) (hunS l d h i) := by
  have hc : h.fall = true → EGood l lv (h.close l h.valley) h.frm h.peak h.valley := fun hf => by
    obtain ⟨h1, h2, _⟩ := k.fall hf
    exact k.close h1 (by omega) (by omega) fun j h3 h4 => hb j h3 (by omega)
  obtain ⟨f, p, lev, fa, v, o⟩ := h
  obtain ⟨h1, h2, h3, h4, h5, h6, h7, h8, h9⟩ := k
  simp only at h1 h2 h3 h4 h5 h6 h7 h8 h9 hc
  unfold hunS
  simp only
  cases fa
  · rw [if_neg (by simp)]
    split
    · refine ⟨h1, h2, by simp only; omega, by simp only; omega, h5, by simp only; omega, fun j q1 q2 => ?_, h8, by simp⟩
      simp only
      by_cases e : j = i
      · subst e; exact ⟨by omega, fun _ => by omega⟩
      · have := h7 j q1 (by omega); exact ⟨by omega, fun _ => by omega⟩
    · have hall : ∀ j, f ≤ j → j < i + 1 → l.getD j 0 ≤ l.getD p 0 ∧ (l.getD j 0 = l.getD p 0 → p ≤ j) := fun j q1 q2 => by
        by_cases e : j = i
        · subst e; exact ⟨by omega, fun _ => by omega⟩
        · exact h7 j q1 (by omega)
      split
      · refine ⟨h1, h2, h3, by simp only; omega, h5, h6, hall, h8, fun _ => ⟨h4, by simp only; omega, by simp only; omega, fun j q1 q2 => ?_⟩⟩
        simp only at q1 ⊢
        obtain rfl : j = i := by omega
        exact ⟨by omega, by omega⟩
      · exact ⟨h1, h2, h3, by simp only; omega, h5, h6, hall, h8, by simp⟩
  · obtain ⟨q1, q2, q3, q4⟩ := h9 rfl
    rw [if_pos rfl]
    split
    · rename_i hlt
      refine ⟨h1, h2, h3, by simp only; omega, h5, h6, fun j r1 r2 => ?_, h8, fun _ => ⟨by simp only; omega, by simp only; omega, by simp only; omega, fun j r1 r2 => ?_⟩⟩
      · simp only
        by_cases e : j = i
        · subst e; exact ⟨by omega, fun _ => by omega⟩
        · exact h7 j r1 (by omega)
      · simp only at r1 ⊢
        obtain rfl : j = i := by omega
        exact ⟨by omega, by omega⟩
    · split
      · rename_i hge hdr
        have hlv := hb v (by omega) (by omega)
        have hvv := q4 v (Nat.le_refl _) q2
        refine ⟨h1.snoc (hc rfl), by simp only; omega, by simp only; omega, by simp only; omega, by simp only; omega, by simp only; omega, fun j r1 r2 => ?_, .inr (by simp only; omega), by simp⟩
        simp only at r1 ⊢
        by_cases e : j = i
        · subst e; exact ⟨by omega, fun _ => by omega⟩
        · have := q4 j r1 (by omega); exact ⟨by omega, fun _ => by omega⟩
      · refine ⟨h1, h2, h3, by simp only; omega, h5, h6, fun j r1 r2 => ?_, h8, fun _ => ⟨q1, by simp only; omega, q3, fun j r1 r2 => ?_⟩⟩
        · simp only
          by_cases e : j = i
          · subst e
            have hvv := q4 v (Nat.le_refl _) q2
            exact ⟨by omega, fun _ => by omega⟩
          · exact h7 j r1 (by omega)
        · simp only at r1 ⊢
          by_cases e : j = i
          · subst e; exact ⟨by omega, by omega⟩
          · exact q4 j r1 (by omega)
theorem HunInv.steps {l : List Int} {lv d : Int} {a i : Nat} {h : Hun} (k : HunInv l lv d a i h) (hd : 1 ≤ d) (m : Nat) (hi : i + m ≤ l.length) (hb : ∀ k, a ≤ k → k < i + m → lv ≤ l.getD k 0) : HunInv l lv d a (i + m) (hunN l d m i h) := by
  induction m generalizing i h with
  | zero => exact k
  | succ m ih =>
    rw [show i + (m + 1) = i + 1 + m by omega]
    exact ih (k.step hd (by omega) fun j h1 h2 => hb j h1 (by omega)) (by omega) fun j h1 h2 => hb j h1 (by omega)
theorem hunR_chain {l : List Int} {d lv : Int} {r : Nat × Nat} (hd : 1 ≤ d) (hr : r.1 < r.2 ∧ r.2 ≤ l.length) (hs : r.1 = 0 ∨ l.getD (r.1 - 1) 0 < lv) (hb : ∀ k, r.1 ≤ k → k < r.2 → lv ≤ l.getD k 0) : ChainE l lv r.1 (hunR l d lv r) r.2 := by
  have k0 : HunInv l lv d r.1 (r.1 + 1) (hun0 r.1 lv []) :=
    ⟨rfl, Nat.le_refl _, Nat.le_refl _, Nat.lt_succ_self _, Int.le_refl _, hb r.1 (Nat.le_refl _) hr.1, fun k h1 h2 => by
      simp only [hun0] at h1 ⊢
      obtain rfl : k = r.1 := by omega
      exact ⟨Int.le_refl _, fun _ => Nat.le_refl _⟩, .inl hs, by simp [hun0]⟩
  have k := k0.steps hd (r.2 - (r.1 + 1)) (by omega) fun j h1 h2 => hb j h1 (by omega)
  have e : r.1 + 1 + (r.2 - (r.1 + 1)) = r.2 := by omega
  rw [e] at k
  unfold hunR
  exact k.chain.snoc (k.close k.pi (Nat.le_refl _) hr.2 hb)
/-- An echo in a chain: what lies beside it. -/
theorem ChainE.at {l : List Int} {lv : Int} {a b : Nat} {es : List Ech} (h : ChainE l lv a es b) : ∀ i e, es[i]? = some e → ∃ f p t, EGood l lv e f p t ∧ ((i = 0 ∧ f = a) ∨ ∃ e', 0 < i ∧ es[i - 1]? = some e' ∧ e'.til = (f : Int)) ∧ ((i + 1 = es.length ∧ t = b) ∨ ∃ e', es[i + 1]? = some e' ∧ e'.frm = (t : Int)) := by
  induction es generalizing a with
  | nil => intro i e he; simp at he
  | cons x es ih =>
    obtain ⟨p, t, h1, h2⟩ := h
    intro i e he
    cases i with
    | zero =>
      simp at he
      subst he
      refine ⟨a, p, t, h1, .inl ⟨rfl, rfl⟩, ?_⟩
      cases es with
      | nil => exact .inl ⟨rfl, h2⟩
      | cons y es =>
        obtain ⟨p', t', h3, _⟩ := h2
        exact .inr ⟨y, rfl, h3.frm⟩
    | succ i =>
      obtain ⟨f, p', t', h3, h4, h5⟩ := ih h2 i e (by simpa using he)
      refine ⟨f, p', t', h3, .inr ?_, ?_⟩
      · rcases h4 with ⟨rfl, rfl⟩ | ⟨e', h6, h7, h8⟩
        · exact ⟨x, by omega, by simp, h1.til⟩
        · refine ⟨e', by omega, ?_, h8⟩
          rw [show i + 1 - 1 = i - 1 + 1 by omega]
          simpa using h7
      · rcases h5 with ⟨h6, h7⟩ | ⟨e', h6, h7⟩
        · exact .inl ⟨by simp; omega, h7⟩
        · exact .inr ⟨e', by simpa using h6, h7⟩
/-- The runs are the greatest stretches at or above the level. -/
def RunOk (l : List Int) (lv : Int) (r : Nat × Nat) : Prop := r.1 < r.2 ∧ r.2 ≤ l.length ∧ (∀ k, r.1 ≤ k → k < r.2 → lv ≤ l.getD k 0) ∧ (r.1 = 0 ∨ l.getD (r.1 - 1) 0 < lv) ∧ (r.2 = l.length ∨ l.getD r.2 0 < lv)
theorem runsP_ok {lv : Int} {l : List Int} {i : Nat} {st : Option Nat} (hi : i ≤ l.length) (hst : ∀ a, st = some a → a < i ∧ (∀ k, a ≤ k → k < i → lv ≤ l.getD k 0) ∧ (a = 0 ∨ l.getD (a - 1) 0 < lv)) (hn : st = none → i = 0 ∨ l.getD (i - 1) 0 < lv) : ∀ r ∈ runsP lv i (l.drop i) st, RunOk l lv r := by
  generalize hm : l.length - i = m
  induction m generalizing i st with
  | zero =>
    have : l.drop i = [] := List.drop_of_length_le (by omega)
    rw [this]
    cases st with
    | none => simp [runsP]
    | some a =>
      obtain ⟨h1, h2, h3⟩ := hst a rfl
      intro r hr
      simp [runsP] at hr
      subst hr
      exact ⟨h1, hi, h2, h3, .inl (by simp only; omega)⟩
  | succ m ih =>
    have hlt : i < l.length := by omega
    have hg : l[i]? = some (l.getD i 0) := by simp [List.getD, List.getElem?_eq_getElem hlt]
    rw [drop_get hg]
    cases st with
    | none =>
      by_cases h : lv ≤ l.getD i 0
      · rw [runsP_nh h]
        exact ih (by omega) (fun a ha => by
          injection ha with ha
          subst ha
          exact ⟨by omega, fun k h1 h2 => by (obtain rfl : k = i := by omega); exact h, hn rfl⟩) (by simp) (by omega)
      · rw [runsP_nl (by omega)]
        exact ih (by omega) (fun a ha => by cases ha) (fun _ => .inr (by rw [Nat.add_sub_cancel]; omega)) (by omega)
    | some a =>
      obtain ⟨h1, h2, h3⟩ := hst a rfl
      by_cases h : lv ≤ l.getD i 0
      · rw [runsP_sh h]
        exact ih (by omega) (fun b hb => by
          injection hb with hb
          subst hb
          refine ⟨by omega, fun k q1 q2 => ?_, h3⟩
          by_cases e : k = i
          · subst e; exact h
          · exact h2 k q1 (by omega)) (by simp) (by omega)
      · rw [runsP_sl (by omega)]
        intro r hr
        rcases List.mem_cons.1 hr with rfl | hr
        · exact ⟨h1, by simp only; omega, h2, h3, .inr (by simp only; omega)⟩
        · exact ih (st := none) (by omega) (fun a ha => by cases ha) (fun _ => .inr (by rw [Nat.add_sub_cancel]; omega)) (by omega) r hr
/-- What WaveChains asks of each echo: its like, and what lies beside it. -/
def WellAt (l : List Int) (lv : Int) (L : List Ech) : Prop := ∀ i e, L[i]? = some e → ∃ f p t, EGood l lv e f p t ∧ ((f = 0 ∨ l.getD (f - 1) 0 < lv) ∨ ∃ e', 0 < i ∧ L[i - 1]? = some e' ∧ e'.til = (f : Int)) ∧ ((t = l.length ∨ l.getD t 0 < lv) ∨ ∃ e', L[i + 1]? = some e' ∧ e'.frm = (t : Int))
theorem WellAt.append {l : List Int} {lv : Int} {A B : List Ech} (hA : WellAt l lv A) (hB : WellAt l lv B) : WellAt l lv (A ++ B) := by
  intro i e he
  by_cases hi : i < A.length
  · rw [List.getElem?_append_left hi] at he
    obtain ⟨f, p, t, h1, h2, h3⟩ := hA i e he
    refine ⟨f, p, t, h1, ?_, ?_⟩
    · rcases h2 with h2 | ⟨e', h4, h5, h6⟩
      · exact .inl h2
      · exact .inr ⟨e', h4, by rw [List.getElem?_append_left (by omega)]; exact h5, h6⟩
    · rcases h3 with h3 | ⟨e', h4, h5⟩
      · exact .inl h3
      · have := (List.getElem?_eq_some_iff.1 h4).1
        exact .inr ⟨e', by rw [List.getElem?_append_left this]; exact h4, h5⟩
  · rw [List.getElem?_append_right (by omega)] at he
    obtain ⟨f, p, t, h1, h2, h3⟩ := hB _ e he
    refine ⟨f, p, t, h1, ?_, ?_⟩
    · rcases h2 with h2 | ⟨e', h4, h5, h6⟩
      · exact .inl h2
      · exact .inr ⟨e', by omega, by rw [List.getElem?_append_right (by omega), ← h5]; congr 1; omega, h6⟩
    · rcases h3 with h3 | ⟨e', h4, h5⟩
      · exact .inl h3
      · exact .inr ⟨e', by rw [List.getElem?_append_right (by omega), ← h4]; congr 1; omega, h5⟩
theorem wellAt_all {l : List Int} {d : Det} (hd : 1 ≤ d.drop) : WellAt l (medV l + d.level) (allE l d) := by
  unfold allE
  have hr := runsP_ok (lv := medV l + d.level) (l := l) (i := 0) (st := none) (by omega) (fun a ha => by cases ha) (fun _ => .inl rfl)
  rw [List.drop_zero] at hr
  generalize runsP (medV l + d.level) 0 l none = R at hr
  induction R with
  | nil => intro i e he; simp at he
  | cons r R ih =>
    rw [List.flatMap_cons]
    refine WellAt.append ?_ (ih fun q hq => hr q (by simp [hq]))
    obtain ⟨h1, h2, h3, h4, h5⟩ := hr r (by simp)
    intro i e he
    obtain ⟨f, p, t, k1, k2, k3⟩ := (hunR_chain hd ⟨h1, h2⟩ h4 h3).at i e he
    refine ⟨f, p, t, k1, ?_, ?_⟩
    · rcases k2 with ⟨_, rfl⟩ | k2
      · exact .inl h4
      · exact .inr k2
    · rcases k3 with ⟨_, rfl⟩ | k3
      · exact .inl h5
      · exact .inr k3
end Go.Proofs.Ytagcgldhhdecjaa
namespace Go.Proofs.Ytagcgldhhdecjaa

section
variable {l : List Int} {lv : Int} {e : Ech} {f p t : Nat}
theorem EGood.part (h : EGood l lv e f p t) (hs : Smp l) : PartE l e := by
  obtain ⟨h1, h2, h3, h4, h5, h6, _⟩ := h
  exact ⟨hs, by omega, by omega, by omega, by omega⟩
end

end Go.Proofs.Ytagcgldhhdecjaa
namespace Go.Proofs.Ytagcgldhhdecjaa

def okR (a b : Int) : Prop := -1152921504606846976 ≤ a ∧ a ≤ b ∧ b ≤ 1152921504606846976
instance (a b : Int) : Decidable (okR a b) := inferInstanceAs (Decidable (_ ∧ _))
theorem ChainE.order {l : List Int} {lv : Int} {a b : Nat} {es : List Ech} (h : ChainE l lv a es b) : (es.Pairwise fun e f => e.til ≤ f.frm) ∧ (∀ e ∈ es, (a : Int) ≤ e.frm ∧ e.til ≤ b) ∧ a ≤ b := by
  induction es generalizing a with
  | nil => obtain rfl : a = b := h; simp
  | cons x es ih =>
    obtain ⟨p, t, h1, h2⟩ := h
    obtain ⟨k1, k2, k3⟩ := ih h2
    have q1 := h1.frm
    have q2 := h1.til
    have q3 := h1.fp
    have q4 := h1.pt
    refine ⟨?_, ?_, by omega⟩
    · rw [List.pairwise_cons]
      exact ⟨fun e he => by have := (k2 e he).1; omega, k1⟩
    · intro e he
      rcases List.mem_cons.1 he with rfl | he
      · omega
      · have := k2 e he; omega
section
variable {l : List Int} {lv : Int} {e : Ech} {f p t : Nat}
end
end Go.Proofs.Ytagcgldhhdecjaa
namespace Go.Proofs.Ytagcgldhhdecjaa
open Go.RowKit

set_option maxRecDepth 100000 in
set_option maxHeartbeats 2000000 in
theorem partW_any (A : Option Addr) (n c : Nat) (l : List Int) (f t p lv tp : Int) (w : World) (h : Ints .i64 w A n l) :
    Calls Try.prog 66 #[.slice A n c, .agg #[.int .i64 f, .int .i64 t, .int .i64 p, .int .i64 lv, .int .i64 tp]] w (fun e w' => e = .returned (.bool (decide (PartE l ⟨f, t, p, lv, tp⟩))) ∧ Ext w w') := by
  have H := Lib.hid (h.ext ((Ext.refl w).alloc (.cells #[.int .i64 f, .int .i64 t, .int .i64 p, .int .i64 lv, .int .i64 tp] 42)))
  have HL := Lib.hid h.1
  clear h
  by_cases hs : Smp l
  · have HS : Hid (decide (Smp l) = true) := Lib.hid (decide_eq_true hs)
    have HSM := Lib.hid hs
    clear hs
    go_enter Try.func66, Try.ntmps66
    go_wp2_with fail
    refine (sampled_any A n c l _ H.out).mono ?_
    rw [HS.out]
    rintro e _ ⟨rfl, rfl⟩
    go_wp2
    all_goals
      go_ret
      refine ⟨?_, (Ext.refl w).alloc _⟩
      have hl := HL.out
      first
      | (have q : decide (PartE l ⟨f, t, p, lv, tp⟩) = false := decide_eq_false (by unfold PartE; simp only; omega)
         rw [q]; rfl)
      | (have q : decide (PartE l ⟨f, t, p, lv, tp⟩) = decide (t ≤ (n : Int)) := by
           rw [decide_eq_decide]; unfold PartE; simp only; have := HSM.out; rw [hl]; constructor
           · intro h; omega
           · intro h; refine ⟨this, ?_⟩; omega
         rw [q]; rfl)
  · have HS : Hid (decide (Smp l) = false) := Lib.hid (decide_eq_false hs)
    have q : Hid (decide (PartE l ⟨f, t, p, lv, tp⟩) = false) := Lib.hid (decide_eq_false fun h => hs h.1)
    clear hs
    go_enter Try.func66, Try.ntmps66
    go_wp2_with fail
    refine (sampled_any A n c l _ H.out).mono ?_
    rw [HS.out]
    rintro e _ ⟨rfl, rfl⟩
    go_wp2
    go_ret
    exact ⟨by rw [q.out]; rfl, (Ext.refl w).alloc _⟩

set_option maxRecDepth 100000 in
set_option maxHeartbeats 8000000 in
theorem time_any (A : Option Addr) (n c : Nat) (l : List Int) (f t p lv tp : Int) (w : World) (h : Ints .i64 w A n l) :
    Calls Try.prog 32 #[.slice A n c, .agg #[.int .i64 f, .int .i64 t, .int .i64 p, .int .i64 lv, .int .i64 tp]] w (fun e w' => e = .returned (.tuple #[.agg #[.int .i64 (timeF l ⟨f, t, p, lv, tp⟩).1.1, .int .i64 (timeF l ⟨f, t, p, lv, tp⟩).1.2], .int .i64 (timeF l ⟨f, t, p, lv, tp⟩).2]) ∧ Ext w w') := by
  have hX0 := ((Ext.refl w).alloc (.cells #[.int .i64 f, .int .i64 t, .int .i64 p, .int .i64 lv, .int .i64 tp] 42)).alloc (.cells #[.int .i64 0, .int .i64 0] 44)
  have hB1 := (Blk.new w 42 #[.int .i64 f, .int .i64 t, .int .i64 p, .int .i64 lv, .int .i64 tp]).alloc (.cells #[.int .i64 0, .int .i64 0] 44)
  have hB2 := Blk.new (w.alloc (.cells #[.int .i64 f, .int .i64 t, .int .i64 p, .int .i64 lv, .int .i64 tp] 42)) 44 #[.int .i64 0, .int .i64 0]
  have es : (w.alloc (.cells #[.int .i64 f, .int .i64 t, .int .i64 p, .int .i64 lv, .int .i64 tp] 42)).heap.size = w.heap.size + 1 := by simp
  rw [es] at hB2
  have hI := h.ext hX0
  have HL := Lib.hid h.1
  clear h es
  by_cases hp : ¬ PartE l ⟨f, t, p, lv, tp⟩
  · have q : Hid (decide (PartE l ⟨f, t, p, lv, tp⟩) = false) := Lib.hid (decide_eq_false hp)
    have HB : Hid (timeF l ⟨f, t, p, lv, tp⟩ = ((0, 0), 2)) := Lib.hid (by unfold timeF; rw [if_pos hp])
    clear hp
    go_enter Try.func32, Try.ntmps32
    go_wp2_with fail
    refine (partW_any A n c l f t p lv tp _ hI).mono ?_
    rw [q.out]
    rintro e w1 ⟨rfl, hX⟩
    have HX := Lib.hid (hX0.trans hX)
    have s0 := (hB2.ext hX).cell 0
    have s1 := (hB2.ext hX).cell 1
    have z0 := (hB2.ext hX).free 0
    have z1 := (hB2.ext hX).free 1
    simp only [List.getElem?_toArray, List.getElem?_cons_zero, List.getElem?_cons_succ] at s0 s1
    go_wp2
    refine bodyPost_ret (v := .tuple #[.agg #[.int .i64 0, .int .i64 0], .int .i64 2]) (by simp [results, Try.results32, go_sem, *]) rfl ?_
    exact ⟨by rw [HB.out], (HX.out.setCell (by simp) _).setCell (by simp) _⟩
  have hp' := Decidable.not_not.1 hp
  have q : Hid (decide (PartE l ⟨f, t, p, lv, tp⟩) = true) := Lib.hid (decide_eq_true hp')
  obtain ⟨hs, h1, h2, h3, h4⟩ := hp'
  simp only at h1 h2 h3 h4
  rw [HL.out] at h2 h4
  have hn256 : n ≤ 256 := by have := hs.1; have := HL.out; omega
  have HSM := Lib.hid hs
  obtain ⟨fr, rfl⟩ : ∃ x : Nat, f = x := ⟨f.toNat, by omega⟩
  obtain ⟨tn, rfl⟩ : ∃ x : Nat, t = x := ⟨t.toNat, by omega⟩
  have HB : Hid (timeF l ⟨fr, tn, p, lv, tp⟩ = if (crossE l ⟨fr, tn, p, lv, tp⟩ : Int) = tn then ((0, 0), 2) else if crossE l ⟨fr, tn, p, lv, tp⟩ = 0 ∨ lv ≤ l.getD (crossE l ⟨fr, tn, p, lv, tp⟩ - 1) 0 then ((0, 0), 32)
      else ((256 * ((crossE l ⟨fr, tn, p, lv, tp⟩ : Int) - 1) + 256 * (lv - l.getD (crossE l ⟨fr, tn, p, lv, tp⟩ - 1) 0 - 1) / (l.getD (crossE l ⟨fr, tn, p, lv, tp⟩) 0 - l.getD (crossE l ⟨fr, tn, p, lv, tp⟩ - 1) 0),
        256 * ((crossE l ⟨fr, tn, p, lv, tp⟩ : Int) - 1) + (256 * (lv - l.getD (crossE l ⟨fr, tn, p, lv, tp⟩ - 1) 0) + l.getD (crossE l ⟨fr, tn, p, lv, tp⟩) 0 - l.getD (crossE l ⟨fr, tn, p, lv, tp⟩ - 1) 0 - 1) / (l.getD (crossE l ⟨fr, tn, p, lv, tp⟩) 0 - l.getD (crossE l ⟨fr, tn, p, lv, tp⟩ - 1) 0)), 0)) := Lib.hid (by unfold timeF; rw [if_neg hp])
  have HU0 : Hid (upTo l lv (tn - fr) fr = crossE l ⟨fr, tn, p, lv, tp⟩) := Lib.hid (by unfold crossE; simp only; congr 1; omega)
  generalize crossE l ⟨fr, tn, p, lv, tp⟩ = cr at HB HU0
  generalize timeF l ⟨fr, tn, p, lv, tp⟩ = R at HB ⊢
  obtain ⟨b, off, x0, hA, _, _, _⟩ := hI.get (j := fr) (by omega)
  subst hA
  clear hp hs
  go_enter Try.func32, Try.ntmps32
  go_wp2_with fail
  refine (partW_any _ n c l fr tn p lv tp _ hI).mono ?_
  rw [q.out]
  rintro e w1 ⟨rfl, hX⟩
  have HX := Lib.hid (hX0.trans hX)
  have HI := Lib.hid (hI.ext hX)
  have HB1 := Lib.hid (hB1.ext hX)
  have HB2 := Lib.hid (hB2.ext hX)
  have e0 := HB1.out.cell 0
  simp only [List.getElem?_toArray, List.getElem?_cons_zero, List.getElem?_cons_succ] at e0
  clear hX hX0 hI hB1 hB2
  go_wp2_with fail
  clear e0
  go_loopg [6] (tn - fr) (fun f2 iv wr => ∃ z : Nat, f2 = tn - z ∧ fr ≤ z ∧ z ≤ tn ∧ iv = .int .i64 (z : Int) ∧ Hid (upTo l lv (tn - z) z = cr) ∧ Hid (Ext w1 wr))
  case atStart => exact ⟨fr, rfl, by omega, by omega, rfl, HU0, Lib.hid (Ext.refl _)⟩
  case round =>
    obtain ⟨z, rfl, hz1, hz2, rfl, HU, HXr⟩ := hrel
    have e1 := (HB1.out.ext HXr.out).cell 1
    have e3 := (HB1.out.ext HXr.out).cell 3
    simp only [List.getElem?_toArray, List.getElem?_cons_zero, List.getElem?_cons_succ] at e1 e3
    by_cases hzt : z < tn
    · obtain ⟨b', off', x, e, hx, _, cx⟩ := (HI.out.ext HXr.out).get (j := z) (by omega)
      injection e with e
      injection e with e1' e2'
      subst e1' e2'
      have HXx := Lib.hid (getD_at hx)
      obtain ⟨bx1, bx2⟩ := HSM.out.2 x (List.mem_of_getElem? hx)
      clear hx
      by_cases hxl : x < lv
      · have q1 : decide (x < lv) = true := decide_eq_true hxl
        have HU2 : Hid (upTo l lv (tn - (z + 1)) (z + 1) = cr) := Lib.hid (by
          have h := HU.out
          rw [show tn - z = tn - (z + 1) + 1 by omega, upTo, HXx.out, if_pos hxl] at h
          exact h)
        clear hxl
        go_wp2_with fail
        go_region
        go_wp2
        go_roundg (tn - (z + 1))
        case rel => exact ⟨z + 1, rfl, by omega, by omega, by go_num, HU2, Lib.hid HXr.out.drew⟩
        case measure => omega
      · have q1 : decide (x < lv) = false := decide_eq_false hxl
        have HC : Hid (cr = z) := Lib.hid (by
          have h := HU.out
          rw [show tn - z = tn - (z + 1) + 1 by omega, upTo, HXx.out, if_neg hxl] at h
          exact h.symm)
        have gz : ((z : Int) == (tn : Int)) = false := by simp; omega
        have hlx : lv ≤ x := by omega
        have HHL := Lib.hid hlx
        clear hxl hlx
        go_wp2_with fail
        go_region
        go_wp2_with fail
        have s0 := (HB2.out.ext HXr.out).cell 0
        have s1 := (HB2.out.ext HXr.out).cell 1
        have y0' := (HB2.out.ext HXr.out).free 0
        have y1' := (HB2.out.ext HXr.out).free 1
        simp only [List.getElem?_toArray, List.getElem?_cons_zero, List.getElem?_cons_succ] at s0 s1
        by_cases hz0 : z = 0
        · subst hz0
          go_region
          go_wp2
          refine bodyPost_ret (v := .tuple #[.agg #[.int .i64 0, .int .i64 0], .int .i64 32]) (by simp [results, Try.results32, go_sem, *]) rfl ?_
          exact ⟨by rw [HB.out, HC.out]; rw [if_neg (by omega), if_pos (.inl rfl)], (((HX.out.trans HXr.out).drew.drew).setCell (by simp) _).setCell (by simp) _⟩
        · obtain ⟨y0, rfl⟩ : ∃ y0, z = y0 + 1 := ⟨z - 1, by omega⟩
          obtain ⟨b', off', y, e, hy, _, cy⟩ := (HI.out.ext HXr.out).get (j := y0) (by omega)
          injection e with e
          injection e with e1' e2'
          subst e1' e2'
          have HYy := Lib.hid (getD_at hy)
          obtain ⟨by1, by2⟩ := HSM.out.2 y (List.mem_of_getElem? hy)
          clear hy
          have gz0 : ((y0 : Int) + 1 == 0) = false := by simp; omega
          by_cases hyl : lv ≤ y
          · have q2 : decide (lv ≤ y) = true := decide_eq_true hyl
            have HYL := Lib.hid hyl
            clear hyl
            go_region
            go_wp2
            refine bodyPost_ret (v := .tuple #[.agg #[.int .i64 0, .int .i64 0], .int .i64 32]) (by simp [results, Try.results32, go_sem, *]) rfl ?_
            exact ⟨by rw [HB.out, HC.out]; rw [if_neg (by omega), if_pos (.inr (by rw [Nat.add_sub_cancel, HYy.out]; exact HYL.out))], (((HX.out.trans HXr.out).drew.drew).setCell (by simp) _).setCell (by simp) _⟩
          · have q2 : decide (lv ≤ y) = false := decide_eq_false hyl
            have hxy : y < x := by have := HHL.out; omega
            have hly : y < lv := by omega
            have hlx := HHL.out
            obtain ⟨Q1, hQ1⟩ : ∃ Q, 256 * (lv - y - 1) / (x - y) = Q := ⟨_, rfl⟩
            obtain ⟨Q2, hQ2⟩ : ∃ Q, (256 * (lv - y) + x - y - 1) / (x - y) = Q := ⟨_, rfl⟩
            have b1 : 0 ≤ Q1 := by rw [← hQ1]; exact Int.ediv_nonneg (by omega) (by omega)
            have b2 : Q1 ≤ 256 * (lv - y - 1) := by rw [← hQ1]; exact Int.ediv_le_self _ (by omega)
            have b3 : 0 ≤ Q2 := by rw [← hQ2]; exact Int.ediv_nonneg (by omega) (by omega)
            have b4 : Q2 ≤ 256 * (lv - y) + x - y - 1 := by rw [← hQ2]; exact Int.ediv_le_self _ (by omega)
            have t1 : (256 * (lv - y - 1)).tdiv (x - y) = Q1 := by rw [Int.tdiv_eq_ediv_of_nonneg (by omega)]; exact hQ1
            have t2 : (256 * (lv - y) + x - y - 1).tdiv (x - y) = Q2 := by rw [Int.tdiv_eq_ediv_of_nonneg (by omega)]; exact hQ2
            have HQ1 := Lib.hid hQ1
            have HQ2 := Lib.hid hQ2
            clear hQ1 hQ2 hyl
            go_region
            go_wp2_with fail
            go_region
            go_wp2
            have eR : R = ((256 * (y0 : Int) + Q1, 256 * (y0 : Int) + Q2), 0) := by
              rw [HB.out, HC.out, if_neg (by omega), if_neg (by rw [Nat.add_sub_cancel, HYy.out]; omega), Nat.add_sub_cancel, HYy.out, HXx.out, HQ1.out, HQ2.out, show ((y0 + 1 : Nat) : Int) - 1 = y0 by omega]
            refine bodyPost_ret (v := .tuple #[.agg #[.int .i64 (256 * (y0 : Int) + Q1), .int .i64 (256 * (y0 : Int) + Q2)], .int .i64 0]) (by simp [results, Try.results32, go_sem, *]) rfl ?_
            exact ⟨by rw [eR], ((((HX.out.trans HXr.out).setCell (by simp) _).setCell (by simp) _).drew).drew.drew⟩
    · obtain rfl : z = tn := by omega
      have HC : Hid (cr = z) := Lib.hid (by
        have h := HU.out
        rw [Nat.sub_self, upTo] at h
        exact h.symm)
      have s0 := (HB2.out.ext HXr.out).cell 0
      have s1 := (HB2.out.ext HXr.out).cell 1
      have y0' := (HB2.out.ext HXr.out).free 0
      have y1' := (HB2.out.ext HXr.out).free 1
      simp only [List.getElem?_toArray, List.getElem?_cons_zero, List.getElem?_cons_succ] at s0 s1
      go_wp2_with fail
      go_region
      go_wp2
      refine bodyPost_ret (v := .tuple #[.agg #[.int .i64 0, .int .i64 0], .int .i64 2]) (by simp [results, Try.results32, go_sem, *]) rfl ?_
      exact ⟨by rw [HB.out, HC.out]; rw [if_pos rfl], (((HX.out.trans HXr.out).drew).setCell (by simp) _).setCell (by simp) _⟩
end Go.Proofs.Ytagcgldhhdecjaa
namespace Go.Proofs.Ytagcgldhhdecjaa
open Go.RowKit

def lst1 : List Int := [1, 1, 9, 20, 9, 1, 1]
theorem first_echo : echoesF lst1 ⟨5, 4, 150, 0⟩ = ([⟨2, 5, 3, 6, 20⟩], 0) := by kernel_rfl
theorem first_time : timeF lst1 ⟨2, 5, 3, 6, 20⟩ = ((384, 416), 0) := by kernel_rfl
theorem ints1 (w : World) : Ints .i64 (w.alloc (.cells #[.int .i64 1, .int .i64 1, .int .i64 9, .int .i64 20, .int .i64 9, .int .i64 1, .int .i64 1] 3)) (some ⟨w.heap.size, 0, none⟩) 7 lst1 :=
  ⟨rfl, by decide, At.new' _ _ _ rfl⟩
set_option maxRecDepth 100000 in
set_option maxHeartbeats 2000000 in
theorem firstW_any (w : World) : Calls Try.prog 20 #[] w (fun e w' => e = .returned (.bool true) ∧ Ext w w') := by
  have hI := ints1 w
  have hX0 := (Ext.refl w).alloc (.cells #[.int .i64 1, .int .i64 1, .int .i64 9, .int .i64 20, .int .i64 9, .int .i64 1, .int .i64 1] 3)
  go_enter Try.func20, Try.ntmps20
  go_wp2_with fail
  refine (echoes_any _ 7 7 lst1 ⟨5, 4, 150, 0⟩ _ hI).mono ?_
  rw [first_echo]
  rintro e w1 ⟨v, rfl, hE, hX⟩
  replace hX0 := hX0.trans hX
  clear hX hI
  obtain ⟨g, c, e, rfl, he, hc⟩ := hE.get (j := 0) (by decide)
  simp only [List.getElem?_cons_zero, Option.some.injEq] at he
  subst he
  have c0 := hc 0 _ rfl
  have c1 := hc 1 _ rfl
  have c2 := hc 2 _ rfl
  have c3 := hc 3 _ rfl
  have c4 := hc 4 _ rfl
  have hg : g < w1.heap.size := World.block_lt_of_cell? _ _ c0
  simp only [Nat.zero_mul, Nat.zero_add, List.length_cons, List.length_nil] at c0 c1 c2 c3 c4 ⊢
  have hI := ints1 w1
  have hcap := own_cap hE
  clear hc hE
  go_wp2_with fail
  refine (time_any _ 7 7 lst1 2 5 3 6 20 _ hI).mono ?_
  rw [first_time]
  rintro e w2 ⟨rfl, hX⟩
  have HX := Lib.hid ((hX0.trans ((Ext.refl w1).alloc _)).trans hX)
  clear hX hX0 hI c0 c1 c2 c3 c4
  go_wp2
  go_ret
  exact ⟨rfl, HX.out.alloc _⟩
end Go.Proofs.Ytagcgldhhdecjaa
namespace Go.Proofs.Ytagcgldhhdecjaa
open Go.RowKit

set_option maxRecDepth 100000 in
set_option maxHeartbeats 1000000 in
theorem validW_any (A : Option Addr) (n c : Nat) (l : List Int) (w : World) (h : Ints .i64 w A n l) :
    Calls Try.prog 30 #[.slice A n c] w (fun e w' => e = .returned (.bool (decide (Smp l))) ∧ w = w') := by
  have H := Lib.hid h
  have HL := Lib.hid h.1
  clear h
  by_cases hn : 256 < n
  · have HS : Hid (decide (Smp l) = false) := Lib.hid (decide_eq_false fun s => by have := s.1; have := HL.out; omega)
    go_enter Try.func30, Try.ntmps30
    go_wp2
    go_ret
    exact ⟨by rw [HS.out]; rfl, rfl⟩
  go_enter Try.func30, Try.ntmps30
  go_wp2_with fail
  go_loopg [3] n (fun f iv wr => ∃ k : Nat, f = n - k ∧ k ≤ n ∧ iv = .int .i64 (k : Int) ∧ Hid (∀ x ∈ l.take k, 0 ≤ x ∧ x ≤ 1023) ∧ w = wr)
  case atStart => exact ⟨0, rfl, by omega, rfl, Lib.hid (by simp), rfl⟩
  case round =>
    obtain ⟨k, rfl, hk, rfl, HA, rfl⟩ := hrel
    by_cases hlt : k < n
    · obtain ⟨b, off, x, rfl, hx, _, hc⟩ := H.out.get hlt
      have HX := Lib.hid hx
      clear hx
      by_cases h0 : x < 0
      · have HS : Hid (decide (Smp l) = false) := Lib.hid (decide_eq_false fun s => by have := (s.2 x (List.mem_of_getElem? HX.out)).1; omega)
        go_wp2
        go_ret
        exact ⟨by rw [HS.out]; rfl, rfl⟩
      · by_cases h1 : 1023 < x
        · have HS : Hid (decide (Smp l) = false) := Lib.hid (decide_eq_false fun s => by have := (s.2 x (List.mem_of_getElem? HX.out)).2; omega)
          go_wp2
          go_ret
          exact ⟨by rw [HS.out]; rfl, rfl⟩
        · go_wp2
          go_roundg (n - (k + 1))
          case rel =>
            refine ⟨k + 1, rfl, by omega, by go_num, Lib.hid fun y hy => ?_, rfl⟩
            rw [List.take_add_one, HX.out] at hy
            rcases List.mem_append.1 hy with hy | hy
            · exact HA.out y hy
            · simp at hy; subst hy; omega
          case measure => omega
    · have HS : Hid (decide (Smp l) = true) := Lib.hid (decide_eq_true (by
        refine ⟨by have := HL.out; omega, fun x hx => HA.out x ?_⟩
        rwa [List.take_of_length_le (by have := HL.out; omega)]))
      go_wp2
      go_ret
      exact ⟨by rw [HS.out]; rfl, rfl⟩

set_option maxRecDepth 100000 in
set_option maxHeartbeats 2000000 in
theorem fineW_any (d : Det) (w : World) :
    Calls Try.prog 31 #[.agg #[.int .i64 d.level, .int .i64 d.drop, .int .i64 d.step, .int .i64 d.delay]] w (fun e w' => e = .returned (.bool (decide (DetOk d))) ∧ Ext w w') := by
  obtain ⟨lv, dr, st, de⟩ := d
  simp only
  go_enter Try.func31, Try.ntmps31
  go_wp2
  all_goals
    go_ret
    refine ⟨?_, (Ext.refl w).alloc _⟩
    first
    | (have q : decide (DetOk ⟨lv, dr, st, de⟩) = false := decide_eq_false (by unfold DetOk; simp only; omega)
       rw [q]; rfl)
    | (have q : decide (DetOk ⟨lv, dr, st, de⟩) = decide (de ≤ 1048576) := by rw [decide_eq_decide]; unfold DetOk; simp only; omega
       rw [q]; rfl)

end Go.Proofs.Ytagcgldhhdecjaa
namespace Go.Proofs.Ytagcgldhhdecjaa
open Go.RowKit

/-- What Digitize computes. -/
def HgtOk (l : List Int) : Prop := l.length ≤ 256 ∧ ∀ x ∈ l, 0 ≤ x ∧ x ≤ 16383
instance (l : List Int) : Decidable (HgtOk l) := inferInstanceAs (Decidable (_ ∧ _))
/-- A row of integers of a call's own. -/
def IntL (base : Nat) (w : World) (v : Value) (xs : List Int) : Prop := ∃ A c, v = .slice A xs.length c ∧ OwnS .i64 3 base w A xs.length c xs
theorem IntL.nil (base : Nat) (w : World) : IntL base w (.slice none 0 0) [] := ⟨none, 0, rfl, World.ownsRow_nil _ _ _ _, rfl, by simp⟩
theorem IntL.ext {base : Nat} {w w' : World} {v : Value} {xs : List Int} (h : IntL base w v xs) (he : Ext w w') : IntL base w' v xs := by
  obtain ⟨A, c, h1, h2⟩ := h
  exact ⟨A, c, h1, h2.ext he⟩
end Go.Proofs.Ytagcgldhhdecjaa
namespace Go.Proofs.Ytagcgldhhdecjaa
open Go.RowKit
theorem Blk.at_ {W : World} {t : TypeId} {cs : Array Value} {g : Nat} (hg : W.heap.size = g) : Blk (W.alloc (.cells cs t)) g t cs := hg ▸ Blk.new W t cs
end Go.Proofs.Ytagcgldhhdecjaa
namespace Go.Proofs.Ytagcgldhhdecjaa
open Go.RowKit

theorem echoesF_good {l : List Int} {d : Det} (hd : DetOk d) (hs : Smp l) (hl : l ≠ []) : echoesF l d = ((allE l d).take 15, 0) := by
  unfold echoesF
  rw [if_neg (fun h => h hd), if_neg hl, if_neg (fun h => h hs)]
theorem good_cells {l : List Int} {lv : Int} {e : Ech} {f p t : Nat} (h : EGood l lv e f p t) (hs : Smp l) : e.level ≤ 1023 ∧ e.top ≤ 1023 ∧ lv ≤ e.level ∧ e.level ≤ e.top := by
  have hx := h.part hs
  have h1 := h.top
  have h2 := h.lev
  have h3 := h.le
  have hb : l.getD p 0 ≤ 1023 := by
    rw [List.getD_eq_getElem?_getD]
    cases hj : l[p]? with
    | none => simp
    | some x => have := hs.2 x (List.mem_of_getElem? hj); simpa using this.2
  omega

end Go.Proofs.Ytagcgldhhdecjaa
