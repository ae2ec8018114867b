/- Lemmas of the proof that follows (Decodes, part 5): walks of functions by contract, and plain lemmas. Conditions: none. -/
import Derived.Test.YtagcgldhhdecjaaDecodesD
namespace Go.Proofs.Ytagcgldhhdecjaa
open Go.RowKit

theorem cutB_at {A : Option Addr} {n c k : Nat} (hk : k ≤ n) : ∃ A', (∀ w, (Instr.sliceAt 72 (.slice A n c) (some (.int .i64 (k : Int))) none none).run Try.prog w = .ok (.slice A' (n - k) (c - k)) w) ∧ (n ≤ c → ∀ w' bs, Ints .u8 w' A n bs → Ints .u8 w' A' (n - k) (bs.drop k)) := by
  obtain ⟨i, hi, hz, hs, hby⟩ := elB8.info
  refine ⟨if c = k then A else A.map (·.add (k * 1)), fun w => ?_, fun hc w' bs h => cut_bytes h fun w' vs hat hlen => hat.drop _ fun hlt b off hA => ?_⟩
  · simp [Instr.sliceAt, Instr.slice, run_underlying elB8.und, Instr.sliceBounds, run_sliceBound, sizeOf, typeInfo, hi, hs, hk]
  · rw [hlen] at hlt
    have : k < n := Nat.lt_of_mul_lt_mul_right hlt
    rw [if_neg (by omega), hA]
    simp [Addr.add_lit]
theorem readNumR' (A : Option Addr) (n c : Nat) (xs : List Int) (w : World) (h : Ints .u8 w A n xs) (hn : n ≤ 9223372036854775807) {a b r : Int} (hr : rd xs = (a, b, r)) :
    Calls Try.prog 80 #[.slice A n c] w fun e w' => e = .returned (.tuple #[.int .i64 a, .int .i64 b, .int .i64 r]) ∧ w = w' := by
  have := readNumR A n c xs w h hn
  rw [hr] at this
  exact this
theorem readSigR' (A : Option Addr) (n c : Nat) (xs : List Int) (w : World) (h : Ints .u8 w A n xs) (hn : n ≤ 9223372036854775807) {a b r : Int} (hr : rdS xs = (a, b, r)) :
    Calls Try.prog 81 #[.slice A n c] w fun e w' => e = .returned (.tuple #[.int .i64 a, .int .i64 b, .int .i64 r]) ∧ w = w' := by
  have := readSigR A n c xs w h hn
  rw [hr] at this
  exact this
def afterR (t : Int) (r : Option (List Int × List Int)) : Option Pul := match r with
  | none => none
  | some (qs, b) => midD rdStepsR t (qs.getD 0 0) (qs.getD 1 0) (qs.getD 2 0) (qs.getD 3 0) b
theorem decR_some {b r : List Int} {t : Int} (h : takeN b = some (t, r)) : decF b = afterR t (rdQs 4 r []) := by
  rw [← decR_eq]
  unfold afterR
  rw [headD_eq, h]
  rfl
theorem midR_none {t q0 q1 q2 q3 : Int} {b : List Int} (h : takeN b = none) : midD rdStepsR t q0 q1 q2 q3 b = none := by unfold midD; rw [h]
theorem midR_big {t q0 q1 q2 q3 m : Int} {b r : List Int} (h : takeN b = some (m, r)) (hm : 256 < m) : midD rdStepsR t q0 q1 q2 q3 b = none := by unfold midD; rw [h]; simp only; rw [if_pos hm]
theorem midR_some {t q0 q1 q2 q3 : Int} {m : Nat} {b r : List Int} (h : takeN b = some ((m : Int), r)) (hm : m ≤ 256) : midD rdStepsR t q0 q1 q2 q3 b = endD t q0 q1 q2 q3 (rdStepsR m r []) := by
  unfold midD; rw [h]; simp only; rw [if_neg (by omega), Int.toNat_natCast]
theorem rdStepsR_step {k : Nat} {b r r2 : List Int} {acc : List (Int × Int)} {d c : Int} (h1 : takeS b = some (d, r)) (h2 : takeN r = some (c, r2)) (hc : ¬ 256 ≤ c) : rdStepsR (k + 1) b acc = rdStepsR k r2 (acc ++ [(d, c + 1)]) := by
  simp [rdStepsR, h1, h2, hc]
theorem rdStepsR_no1 {k : Nat} {b : List Int} {acc : List (Int × Int)} (h1 : takeS b = none) : rdStepsR (k + 1) b acc = none := by simp [rdStepsR, h1]
theorem rdStepsR_no2 {k : Nat} {b r : List Int} {acc : List (Int × Int)} {d : Int} (h1 : takeS b = some (d, r)) (h2 : takeN r = none) : rdStepsR (k + 1) b acc = none := by
  simp [rdStepsR, h1, h2]
theorem rdStepsR_no3 {k : Nat} {b r r2 : List Int} {acc : List (Int × Int)} {d c : Int} (h1 : takeS b = some (d, r)) (h2 : takeN r = some (c, r2)) (hc : 256 ≤ c) : rdStepsR (k + 1) b acc = none := by
  simp [rdStepsR, h1, h2, hc]
theorem puV_head (t : Int) (v : Value) : (puV t [] v)[0]? = some (.int .i64 t) := rfl
theorem own_lt {base size n : Nat} {e : TypeId} {w : World} {v : Value} {vs : List Value} (h : w.ownsRow base e size v n vs) : ∀ k ∈ v.ownBlock.toList, k < w.heap.size := fun k hk => (h.lt k (by simpa using hk)).2
theorem own_far1 {base size n g i : Nat} {e : TypeId} {w : World} {v : Value} {vs : List Value} (h : w.ownsRow base e size v n vs) (hf : ∀ k ∈ v.ownBlock.toList, k < g) (u : Value) : (w.setCell ⟨g, i, none⟩ u).ownsRow base e size v n vs := by
  refine ownsRow_keeps h ((Keeps.refl [g] w).setCell (.inl (by simp)) u) fun q hq hl => ?_
  simp at hl
  subst hl
  have := hf q (by rw [hq]; simp)
  omega
set_option maxRecDepth 100000 in
set_option maxHeartbeats 2000000 in
theorem dec_r6 (g2 n c k1 : Nat) (A A5 : Option Addr) (t : Int) (cs : Array Value) (w : World) (qc : ∀ w, (Instr.sliceAt 72 (.slice A n c) (some (.int .i64 (k1 : Int))) none none).run Try.prog w = .ok (.slice A5 (n - k1) (c - k1)) w) (hG : Blk w g2 71 cs) (hu0 : cs[0]? = some (.int .i64 0)) (hk1 : k1 ≤ n) (hnc : n ≤ c) (a : Act) (Q : Exit → Act → World → Prop) (hsize : 30 ≤ a.tmps.size)
    (s5 : a.tmps[5]? = some (.pointer (some ⟨g2, 0, none⟩)))
    (s6 : a.tmps[6]? = some (.slice A n c))
    (s7 : a.tmps[7]? = some (.int .i64 (t)))
    (s8 : a.tmps[8]? = some (.int .i64 (k1 : Int)))
    (hend : ∀ (xv0 xv1 xv2 xv3 xv4 xv5 : Value) (W : World), (xv0 = .int .i64 (t)) → (xv1 = .slice A n c) → (xv2 = .int .i64 (k1 : Int)) → (xv3 = .slice A5 (n - k1) (c - k1)) → (xv4 = .pointer (some ⟨g2, 0, none⟩)) → (Blk W g2 71 (cs.setIfInBounds (0) (.int .i64 t))) → Keeps ([g2]) w W → wpList Try.prog (rops Try.f54 6).toArray Q ((rops Try.f54 6).drop 6) ((((((a.put (some 25) xv0).put (some 26) xv1).put (some 27) xv2).put (some 28) xv3).put (some 29) xv4).put (none) xv5) W) :
    (Code.region 6 (rops Try.f54 6).toArray true).wp Try.prog Q a w := by
  have hmono : ∀ (W W' : World) (j : Nat) (u : Value), Ext W W' → (fun (i : Nat) (v : Value) (W : World) => match i with
    | 0 => v = .int .i64 (t)
    | 1 => v = .slice A n c
    | 2 => v = .int .i64 (k1 : Int)
    | 3 => v = .slice A5 (n - k1) (c - k1)
    | 4 => v = .pointer (some ⟨g2, 0, none⟩)
    | 5 => Blk W g2 71 (cs.setIfInBounds (0) (.int .i64 t))
    | _ => True) j u W → (fun (i : Nat) (v : Value) (W : World) => match i with
    | 0 => v = .int .i64 (t)
    | 1 => v = .slice A n c
    | 2 => v = .int .i64 (k1 : Int)
    | 3 => v = .slice A5 (n - k1) (c - k1)
    | 4 => v = .pointer (some ⟨g2, 0, none⟩)
    | 5 => Blk W g2 71 (cs.setIfInBounds (0) (.int .i64 t))
    | _ => True) j u W' := by
    intro W W' j u hX h
    match j, h with
    | 0, h => exact h
    | 1, h => exact h
    | 2, h => exact h
    | 3, h => exact h
    | 4, h => exact h
    | 5, h => exact Blk.ext h hX
    | _ + 6, h => exact h
  have hmonoK : ∀ (W W' : World) (j : Nat) (u : Value), Keeps ([g2]) W W' → (∀ k ∈ ([g2]), NoRow 5 W k) → j ≠ 5 → (fun (i : Nat) (v : Value) (W : World) => match i with
    | 0 => v = .int .i64 (t)
    | 1 => v = .slice A n c
    | 2 => v = .int .i64 (k1 : Int)
    | 3 => v = .slice A5 (n - k1) (c - k1)
    | 4 => v = .pointer (some ⟨g2, 0, none⟩)
    | 5 => Blk W g2 71 (cs.setIfInBounds (0) (.int .i64 t))
    | _ => True) j u W → (fun (i : Nat) (v : Value) (W : World) => match i with
    | 0 => v = .int .i64 (t)
    | 1 => v = .slice A n c
    | 2 => v = .int .i64 (k1 : Int)
    | 3 => v = .slice A5 (n - k1) (c - k1)
    | 4 => v = .pointer (some ⟨g2, 0, none⟩)
    | 5 => Blk W g2 71 (cs.setIfInBounds (0) (.int .i64 t))
    | _ => True) j u W' := by
    intro W W' j u hk hN hne h
    match j, h with
    | 0, h => exact h
    | 1, h => exact h
    | 2, h => exact h
    | 3, h => exact h
    | 4, h => exact h
    | 5, h => exact absurd rfl hne
    | _ + 6, h => exact h
  have hsz : ∀ d, some d ∈ ([some 25, some 26, some 27, some 28, some 29, none] : List (Option Tmp)) → d < a.tmps.size := slots_lt (by decide) hsize
  refine wp_region_j 6 [some 25, some 26, some 27, some 28, some 29, none] [[], [], [], [1, 2], [], [0, 4]] [[], [], [], [], [], []] (fun (i : Nat) (v : Value) (W : World) => match i with
    | 0 => v = .int .i64 (t)
    | 1 => v = .slice A n c
    | 2 => v = .int .i64 (k1 : Int)
    | 3 => v = .slice A5 (n - k1) (c - k1)
    | 4 => v = .pointer (some ⟨g2, 0, none⟩)
    | 5 => Blk W g2 71 (cs.setIfInBounds (0) (.int .i64 t))
    | _ => True) (fun done W => Keeps ([g2]) w W ∧ (¬ done 5 → Ext w W)) (by kernel_rfl) (by kernel_rfl) hsz (fun p q W h hj => ⟨hj.1, fun hn => hj.2 fun hp => hn ((h _).1 hp)⟩) ⟨Keeps.of_ext (Ext.refl w).drew _, fun _ => (Ext.refl w).drew⟩ ?_ ?_
  · clear hend
    simp only [rops, Try.f54, regOf, Option.bind_some, Nat.reduceBEq, if_true, if_false, Bool.false_eq_true, Option.getD_some]
    simp only [List.take_succ_cons, List.take_zero]
    refine ⟨?_, ?_, ?_, ?_, ?_, ?_, trivial⟩
    · intro done us W hJ hdep haft hnot b hb hb' K hK Q'
      have e7 := (hb' 7 (by simp)).trans s7
      clear hb hb'
      go_simp
      exact hK _ _ rfl (fun _ _ _ h => h) ⟨hJ.1, fun h => hJ.2 fun d => h (.inl d)⟩
    · intro done us W hJ hdep haft hnot b hb hb' K hK Q'
      have e6 := (hb' 6 (by simp)).trans s6
      clear hb hb'
      go_simp
      exact hK _ _ rfl (fun _ _ _ h => h) ⟨hJ.1, fun h => hJ.2 fun d => h (.inl d)⟩
    · intro done us W hJ hdep haft hnot b hb hb' K hK Q'
      have e8 := (hb' 8 (by simp)).trans s8
      clear hb hb'
      go_simp
      exact hK _ _ rfl (fun _ _ _ h => h) ⟨hJ.1, fun h => hJ.2 fun d => h (.inl d)⟩
    · intro done us W hJ hdep haft hnot b hb hb' K hK Q'
      simp only [List.getD_cons_succ, List.getD_cons_zero, List.mem_cons, List.not_mem_nil, or_false, forall_eq_or_imp, forall_eq] at hdep
      have e26 := hb 1 26 rfl
      have e27 := hb 2 27 rfl
      have d1 := hdep.1
      have d2 := hdep.2
      rw [d1.1] at e26
      rw [d2.1] at e27
      clear hb hb' hdep d1 d2
      go_simp
      exact hK _ _ rfl (fun _ _ _ h => h) ⟨hJ.1, fun h => hJ.2 fun d => h (.inl d)⟩
    · intro done us W hJ hdep haft hnot b hb hb' K hK Q'
      have e5 := (hb' 5 (by simp)).trans s5
      clear hb hb'
      go_simp
      exact hK _ _ rfl (fun _ _ _ h => h) ⟨hJ.1, fun h => hJ.2 fun d => h (.inl d)⟩
    · intro done us W hJ hdep haft hnot b hb hb' K hK Q'
      simp only [List.getD_cons_succ, List.getD_cons_zero, List.mem_cons, List.not_mem_nil, or_false, forall_eq_or_imp, forall_eq] at hdep
      have e25 := hb 0 25 rfl
      have e29 := hb 4 29 rfl
      have d0 := hdep.1
      have d4 := hdep.2
      rw [d0.1] at e25
      rw [d4.1] at e29
      clear hb hb' hdep d0 d4
      have hJE := hJ.2 hnot
      have hB := hG.ext hJE
      have q0 := hB.cell (0)
      rw [hu0] at q0
      have z0 := hB.free (0)
      have hk : Keeps [g2] W (W.setCell ⟨g2, 0, none⟩ (.int .i64 t)) := (Keeps.refl [g2] W).setCell (.inl (by simp)) _
      have hN : ∀ k ∈ [g2], NoRow 5 W k := by intro k hk; simp at hk; subst hk; exact NoRow.of_blk hB (by decide)
      have hB2 := hB.set (0) (.int .i64 t)
      have hfin := hK undef _ hB2 (fun j u hd h => hmonoK _ _ j u hk hN (by intro e; subst e; exact hnot hd) h) ⟨hJ.1.trans hk, fun h => absurd (.inr rfl) h⟩
      clear hK hB hB2 hk hN hJ hJE hmono hmonoK
      go_simp
      exact hfin
  · intro us W hV hJ
    exact hend (us 0) (us 1) (us 2) (us 3) (us 4) (us 5) W (hV 0 (by omega)) (hV 1 (by omega)) (hV 2 (by omega)) (hV 3 (by omega)) (hV 4 (by omega)) (hV 5 (by omega)) (by simpa using hJ)
set_option maxRecDepth 100000 in
set_option maxHeartbeats 2000000 in
theorem dec_r13 (g2 n c k1 k : Nat) (A A5 : Option Addr) (q : Int) (cs : Array Value) (u0 : Value) (w : World) (qc : ∀ w, (Instr.sliceAt 72 (.slice A n c) (some (.int .i64 (k1 : Int))) none none).run Try.prog w = .ok (.slice A5 (n - k1) (c - k1)) w) (hG : Blk w g2 71 cs) (hu0 : cs[1 + k]? = some u0) (hk1 : k1 ≤ n) (hnc : n ≤ c) (hk4 : k < 4) (hki : (k : Int) < 4) (a : Act) (Q : Exit → Act → World → Prop) (hsize : 50 ≤ a.tmps.size)
    (s5 : a.tmps[5]? = some (.pointer (some ⟨g2, 0, none⟩)))
    (s6 : a.tmps[6]? = some (.slice A n c))
    (s7 : a.tmps[7]? = some (.int .i64 (q)))
    (s8 : a.tmps[8]? = some (.int .i64 (k1 : Int)))
    (s10 : a.tmps[10]? = some (.int .i64 (k : Int)))
    (hend : ∀ (xv0 xv1 xv2 xv3 xv4 xv5 xv6 xv7 : Value) (W : World), (xv0 = .int .i64 (k : Int)) → (xv1 = .int .i64 (q)) → (xv2 = .slice A n c) → (xv3 = .int .i64 (k1 : Int)) → (xv4 = .slice A5 (n - k1) (c - k1)) → (xv5 = .pointer (some ⟨g2, 1, none⟩)) → (xv6 = .pointer (some ⟨g2, 1 + k, none⟩)) → (Blk W g2 71 (cs.setIfInBounds (1 + k) (.int .i64 q))) → Keeps ([g2]) w W → wpList Try.prog (rops Try.f54 13).toArray Q ((rops Try.f54 13).drop 8) ((((((((a.put (some 43) xv0).put (some 44) xv1).put (some 45) xv2).put (some 46) xv3).put (some 47) xv4).put (some 48) xv5).put (some 49) xv6).put (none) xv7) W) :
    (Code.region 13 (rops Try.f54 13).toArray true).wp Try.prog Q a w := by
  have hmono : ∀ (W W' : World) (j : Nat) (u : Value), Ext W W' → (fun (i : Nat) (v : Value) (W : World) => match i with
    | 0 => v = .int .i64 (k : Int)
    | 1 => v = .int .i64 (q)
    | 2 => v = .slice A n c
    | 3 => v = .int .i64 (k1 : Int)
    | 4 => v = .slice A5 (n - k1) (c - k1)
    | 5 => v = .pointer (some ⟨g2, 1, none⟩)
    | 6 => v = .pointer (some ⟨g2, 1 + k, none⟩)
    | 7 => Blk W g2 71 (cs.setIfInBounds (1 + k) (.int .i64 q))
    | _ => True) j u W → (fun (i : Nat) (v : Value) (W : World) => match i with
    | 0 => v = .int .i64 (k : Int)
    | 1 => v = .int .i64 (q)
    | 2 => v = .slice A n c
    | 3 => v = .int .i64 (k1 : Int)
    | 4 => v = .slice A5 (n - k1) (c - k1)
    | 5 => v = .pointer (some ⟨g2, 1, none⟩)
    | 6 => v = .pointer (some ⟨g2, 1 + k, none⟩)
    | 7 => Blk W g2 71 (cs.setIfInBounds (1 + k) (.int .i64 q))
    | _ => True) j u W' := by
    intro W W' j u hX h
    match j, h with
    | 0, h => exact h
    | 1, h => exact h
    | 2, h => exact h
    | 3, h => exact h
    | 4, h => exact h
    | 5, h => exact h
    | 6, h => exact h
    | 7, h => exact Blk.ext h hX
    | _ + 8, h => exact h
  have hmonoK : ∀ (W W' : World) (j : Nat) (u : Value), Keeps ([g2]) W W' → (∀ k ∈ ([g2]), NoRow 5 W k) → j ≠ 7 → (fun (i : Nat) (v : Value) (W : World) => match i with
    | 0 => v = .int .i64 (k : Int)
    | 1 => v = .int .i64 (q)
    | 2 => v = .slice A n c
    | 3 => v = .int .i64 (k1 : Int)
    | 4 => v = .slice A5 (n - k1) (c - k1)
    | 5 => v = .pointer (some ⟨g2, 1, none⟩)
    | 6 => v = .pointer (some ⟨g2, 1 + k, none⟩)
    | 7 => Blk W g2 71 (cs.setIfInBounds (1 + k) (.int .i64 q))
    | _ => True) j u W → (fun (i : Nat) (v : Value) (W : World) => match i with
    | 0 => v = .int .i64 (k : Int)
    | 1 => v = .int .i64 (q)
    | 2 => v = .slice A n c
    | 3 => v = .int .i64 (k1 : Int)
    | 4 => v = .slice A5 (n - k1) (c - k1)
    | 5 => v = .pointer (some ⟨g2, 1, none⟩)
    | 6 => v = .pointer (some ⟨g2, 1 + k, none⟩)
    | 7 => Blk W g2 71 (cs.setIfInBounds (1 + k) (.int .i64 q))
    | _ => True) j u W' := by
    intro W W' j u hk hN hne h
    match j, h with
    | 0, h => exact h
    | 1, h => exact h
    | 2, h => exact h
    | 3, h => exact h
    | 4, h => exact h
    | 5, h => exact h
    | 6, h => exact h
    | 7, h => exact absurd rfl hne
    | _ + 8, h => exact h
  have hsz : ∀ d, some d ∈ ([some 43, some 44, some 45, some 46, some 47, some 48, some 49, none] : List (Option Tmp)) → d < a.tmps.size := slots_lt (by decide) hsize
  refine wp_region_j 8 [some 43, some 44, some 45, some 46, some 47, some 48, some 49, none] [[], [], [], [], [2, 3], [], [0, 5], [1, 6]] [[], [], [], [], [], [], [], []] (fun (i : Nat) (v : Value) (W : World) => match i with
    | 0 => v = .int .i64 (k : Int)
    | 1 => v = .int .i64 (q)
    | 2 => v = .slice A n c
    | 3 => v = .int .i64 (k1 : Int)
    | 4 => v = .slice A5 (n - k1) (c - k1)
    | 5 => v = .pointer (some ⟨g2, 1, none⟩)
    | 6 => v = .pointer (some ⟨g2, 1 + k, none⟩)
    | 7 => Blk W g2 71 (cs.setIfInBounds (1 + k) (.int .i64 q))
    | _ => True) (fun done W => Keeps ([g2]) w W ∧ (¬ done 7 → Ext w W)) (by kernel_rfl) (by kernel_rfl) hsz (fun p q W h hj => ⟨hj.1, fun hn => hj.2 fun hp => hn ((h _).1 hp)⟩) ⟨Keeps.of_ext (Ext.refl w).drew _, fun _ => (Ext.refl w).drew⟩ ?_ ?_
  · clear hend
    simp only [rops, Try.f54, regOf, Option.bind_some, Nat.reduceBEq, if_true, if_false, Bool.false_eq_true, Option.getD_some]
    simp only [List.take_succ_cons, List.take_zero]
    refine ⟨?_, ?_, ?_, ?_, ?_, ?_, ?_, ?_, trivial⟩
    · intro done us W hJ hdep haft hnot b hb hb' K hK Q'
      have e10 := (hb' 10 (by simp)).trans s10
      clear hb hb'
      go_simp
      exact hK _ _ rfl (fun _ _ _ h => h) ⟨hJ.1, fun h => hJ.2 fun d => h (.inl d)⟩
    · intro done us W hJ hdep haft hnot b hb hb' K hK Q'
      have e7 := (hb' 7 (by simp)).trans s7
      clear hb hb'
      go_simp
      exact hK _ _ rfl (fun _ _ _ h => h) ⟨hJ.1, fun h => hJ.2 fun d => h (.inl d)⟩
    · intro done us W hJ hdep haft hnot b hb hb' K hK Q'
      have e6 := (hb' 6 (by simp)).trans s6
      clear hb hb'
      go_simp
      exact hK _ _ rfl (fun _ _ _ h => h) ⟨hJ.1, fun h => hJ.2 fun d => h (.inl d)⟩
    · intro done us W hJ hdep haft hnot b hb hb' K hK Q'
      have e8 := (hb' 8 (by simp)).trans s8
      clear hb hb'
      go_simp
      exact hK _ _ rfl (fun _ _ _ h => h) ⟨hJ.1, fun h => hJ.2 fun d => h (.inl d)⟩
    · intro done us W hJ hdep haft hnot b hb hb' K hK Q'
      simp only [List.getD_cons_succ, List.getD_cons_zero, List.mem_cons, List.not_mem_nil, or_false, forall_eq_or_imp, forall_eq] at hdep
      have e45 := hb 2 45 rfl
      have e46 := hb 3 46 rfl
      have d2 := hdep.1
      have d3 := hdep.2
      rw [d2.1] at e45
      rw [d3.1] at e46
      clear hb hb' hdep d2 d3
      go_simp
      exact hK _ _ rfl (fun _ _ _ h => h) ⟨hJ.1, fun h => hJ.2 fun d => h (.inl d)⟩
    · intro done us W hJ hdep haft hnot b hb hb' K hK Q'
      have e5 := (hb' 5 (by simp)).trans s5
      clear hb hb'
      go_simp
      exact hK _ _ rfl (fun _ _ _ h => h) ⟨hJ.1, fun h => hJ.2 fun d => h (.inl d)⟩
    · intro done us W hJ hdep haft hnot b hb hb' K hK Q'
      simp only [List.getD_cons_succ, List.getD_cons_zero, List.mem_cons, List.not_mem_nil, or_false, forall_eq_or_imp, forall_eq] at hdep
      have e43 := hb 0 43 rfl
      have e48 := hb 5 48 rfl
      have d0 := hdep.1
      have d5 := hdep.2
      rw [d0.1] at e43
      rw [d5.1] at e48
      clear hb hb' hdep d0 d5
      go_simp
      exact hK _ _ rfl (fun _ _ _ h => h) ⟨hJ.1, fun h => hJ.2 fun d => h (.inl d)⟩
    · intro done us W hJ hdep haft hnot b hb hb' K hK Q'
      simp only [List.getD_cons_succ, List.getD_cons_zero, List.mem_cons, List.not_mem_nil, or_false, forall_eq_or_imp, forall_eq] at hdep
      have e44 := hb 1 44 rfl
      have e49 := hb 6 49 rfl
      have d1 := hdep.1
      have d6 := hdep.2
      rw [d1.1] at e44
      rw [d6.1] at e49
      clear hb hb' hdep d1 d6
      have hJE := hJ.2 hnot
      have hB := hG.ext hJE
      have q0 := hB.cell (1 + k)
      rw [hu0] at q0
      have z0 := hB.free (1 + k)
      have hk : Keeps [g2] W (W.setCell ⟨g2, 1 + k, none⟩ (.int .i64 q)) := (Keeps.refl [g2] W).setCell (.inl (by simp)) _
      have hN : ∀ k ∈ [g2], NoRow 5 W k := by intro k hk; simp at hk; subst hk; exact NoRow.of_blk hB (by decide)
      have hB2 := hB.set (1 + k) (.int .i64 q)
      have hfin := hK undef _ hB2 (fun j u hd h => hmonoK _ _ j u hk hN (by intro e; subst e; exact hnot hd) h) ⟨hJ.1.trans hk, fun h => absurd (.inr rfl) h⟩
      clear hK hB hB2 hk hN hJ hJE hmono hmonoK
      go_simp
      exact hfin
  · intro us W hV hJ
    exact hend (us 0) (us 1) (us 2) (us 3) (us 4) (us 5) (us 6) (us 7) W (hV 0 (by omega)) (hV 1 (by omega)) (hV 2 (by omega)) (hV 3 (by omega)) (hV 4 (by omega)) (hV 5 (by omega)) (hV 6 (by omega)) (hV 7 (by omega)) (by simpa using hJ)
set_option maxRecDepth 100000 in
set_option maxHeartbeats 16000000 in
theorem decodeR_any (A : Option Addr) (n c : Nat) (bs : List Int) (w : World) (hI : Ints .u8 w A n bs) (hn : n ≤ 1000000) (hc : n ≤ c) :
    Calls Try.prog 54 #[.slice A n c] w (RetDc w (decF bs)) := by
  have hX0 := (((Ext.refl w).alloc (.cells #[.int .i64 0, .int .i64 0, .int .i64 0, .int .i64 0, .int .i64 0, .slice none 0 0] 71)).alloc (.cells #[.int .i64 0, .int .i64 0, .int .i64 0, .int .i64 0, .int .i64 0, .slice none 0 0] 71)).alloc (.cells #[.int .i64 0, .int .i64 0, .int .i64 0, .int .i64 0, .int .i64 0, .slice none 0 0] 71)
  have h0 : Blk (((w.alloc (.cells #[.int .i64 0, .int .i64 0, .int .i64 0, .int .i64 0, .int .i64 0, .slice none 0 0] 71)).alloc (.cells #[.int .i64 0, .int .i64 0, .int .i64 0, .int .i64 0, .int .i64 0, .slice none 0 0] 71)).alloc (.cells #[.int .i64 0, .int .i64 0, .int .i64 0, .int .i64 0, .int .i64 0, .slice none 0 0] 71)) w.heap.size 71 #[.int .i64 0, .int .i64 0, .int .i64 0, .int .i64 0, .int .i64 0, .slice none 0 0] := Blk.alloc (Blk.alloc (Blk.at_ (by simp)) _) _
  have h1 : Blk (((w.alloc (.cells #[.int .i64 0, .int .i64 0, .int .i64 0, .int .i64 0, .int .i64 0, .slice none 0 0] 71)).alloc (.cells #[.int .i64 0, .int .i64 0, .int .i64 0, .int .i64 0, .int .i64 0, .slice none 0 0] 71)).alloc (.cells #[.int .i64 0, .int .i64 0, .int .i64 0, .int .i64 0, .int .i64 0, .slice none 0 0] 71)) (w.heap.size + 1) 71 #[.int .i64 0, .int .i64 0, .int .i64 0, .int .i64 0, .int .i64 0, .slice none 0 0] := Blk.alloc (Blk.at_ (by simp)) _
  have h2 : Blk (((w.alloc (.cells #[.int .i64 0, .int .i64 0, .int .i64 0, .int .i64 0, .int .i64 0, .slice none 0 0] 71)).alloc (.cells #[.int .i64 0, .int .i64 0, .int .i64 0, .int .i64 0, .int .i64 0, .slice none 0 0] 71)).alloc (.cells #[.int .i64 0, .int .i64 0, .int .i64 0, .int .i64 0, .int .i64 0, .slice none 0 0] 71)) (w.heap.size + 2) 71 #[.int .i64 0, .int .i64 0, .int .i64 0, .int .i64 0, .int .i64 0, .slice none 0 0] := Blk.at_ (by simp)
  go_enter Try.func54, Try.ntmps54
  go_upto_region 3 with (fail)
  rw [show w.heap.size + 1 + 1 = w.heap.size + 2 by omega]
  generalize (((w.alloc (.cells #[.int .i64 0, .int .i64 0, .int .i64 0, .int .i64 0, .int .i64 0, .slice none 0 0] 71)).alloc (.cells #[.int .i64 0, .int .i64 0, .int .i64 0, .int .i64 0, .int .i64 0, .slice none 0 0] 71)).alloc (.cells #[.int .i64 0, .int .i64 0, .int .i64 0, .int .i64 0, .int .i64 0, .slice none 0 0] 71)) = w1 at hX0 h0 h1 h2 ⊢
  obtain ⟨g0, e0⟩ : ∃ g, w.heap.size = g := ⟨_, rfl⟩
  obtain ⟨g1, e1⟩ : ∃ g, w.heap.size + 1 = g := ⟨_, rfl⟩
  obtain ⟨g2, e2⟩ : ∃ g, w.heap.size + 2 = g := ⟨_, rfl⟩
  rw [e0] at h0
  rw [e1] at h1
  rw [e2] at h2
  rw [e2, e1, e0]
  have hg0 : w.heap.size ≤ g0 := by omega
  have hg01 : g0 < g1 := by omega
  have hg12 : g1 < g2 := by omega
  clear e0 e1 e2
  have HX := Lib.hid hX0
  have HG0 := Lib.hid h0
  have HG1 := Lib.hid h1
  have HG2 := Lib.hid h2
  have HI := Lib.hid hI
  clear hX0 h0 h1 h2 hI
  rcases takeN_split bs with ⟨hd, x, y, r, hr, hr0⟩ | ⟨t, k1, hr, hk5, hd⟩
  · have qr : (r != 0) = true := by simpa using hr0
    have HRR := Lib.hid hr
    clear hr hr0
    go_wp2_with fail
    refine (readNumR' A n c bs _ (HI.out.ext HX.out) (by omega) HRR.out).mono ?_
    rintro e _ ⟨rfl, rfl⟩
    have HDN : Hid (decF bs = none) := Lib.hid (decF_none hd)
    have m0 := HG1.out.cell 0
    have m1 := HG1.out.cell 1
    have m2 := HG1.out.cell 2
    have m3 := HG1.out.cell 3
    have m4 := HG1.out.cell 4
    have m5 := HG1.out.cell 5
    simp only [List.getElem?_toArray, List.getElem?_cons_zero, List.getElem?_cons_succ] at m0 m1 m2 m3 m4 m5
    have r0 := HG0.out.cell 0
    have r1 := HG0.out.cell 1
    have r2 := HG0.out.cell 2
    have r3 := HG0.out.cell 3
    have r4 := HG0.out.cell 4
    have r5 := HG0.out.cell 5
    have z0 := HG0.out.free 0
    have z1 := HG0.out.free 1
    have z2 := HG0.out.free 2
    have z3 := HG0.out.free 3
    have z4 := HG0.out.free 4
    have z5 := HG0.out.free 5
    simp only [List.getElem?_toArray, List.getElem?_cons_zero, List.getElem?_cons_succ] at r0 r1 r2 r3 r4 r5
    go_wp2
    refine bodyPost_ret (v := .tuple #[.agg #[.int .i64 0, .int .i64 0, .int .i64 0, .int .i64 0, .int .i64 0, .slice none 0 0], .int .i64 4]) (by simp [results, Try.results54, go_sem, *]) rfl ?_
    refine ⟨(((((HX.out.setCell (show w.heap.size ≤ g0 by omega) _).setCell (show w.heap.size ≤ g0 by omega) _).setCell (show w.heap.size ≤ g0 by omega) _).setCell (show w.heap.size ≤ g0 by omega) _).setCell (show w.heap.size ≤ g0 by omega) _).setCell (show w.heap.size ≤ g0 by omega) _, ?_⟩
    rw [HDN.out]
  rw [HI.out.1] at hk5
  obtain ⟨A5, qcut, hcut⟩ := cutB_at (A := A) (n := n) (c := c) hk5
  have HRR := Lib.hid hr
  have HI5 := Lib.hid (hcut hc w _ HI.out)
  clear hr hcut
  go_wp2_with fail
  refine (readNumR' A n c bs _ (HI.out.ext HX.out) (by omega) HRR.out).mono ?_
  rintro e _ ⟨rfl, rfl⟩
  have HD := Lib.hid (decR_some hd)
  clear hd HRR
  go_upto_region 6 with (fail)
  refine dec_r6 g2 n c k1 A A5 t (puV 0 [] (.slice none 0 0)) w1 qcut HG2.out (puV_head 0 _) hk5 hc _ _ (by simp) rfl rfl rfl rfl ?_
  rintro xv0 xv1 xv2 xv3 xv4 xv5 w2 rfl rfl rfl rfl rfl h2' hKW
  simp only [rops, Try.f54, regOf, Option.bind_some, Nat.reduceBEq, if_true, if_false, Bool.false_eq_true, Option.getD_some, List.drop_succ_cons, List.drop_zero]
  simp only [Act.put, List.setIfInBounds_toArray, List.set_cons_succ, List.set_cons_zero]
  have hX' := hKW.ext HX.out (by intro k hk; simp at hk; subst hk; omega)
  have h0' := HG0.out.keeps hKW (by simp; omega)
  have h1' := HG1.out.keeps hKW (by simp; omega)
  replace h2' : Blk w2 g2 71 (puV t [] (.slice none 0 0)) := h2'
  clear HX HG0 HG1 HG2 HI hKW
  have HX := Lib.hid hX'
  have HG0 := Lib.hid h0'
  have HG1 := Lib.hid h1'
  have HG2 := Lib.hid h2'
  have HI := HI5
  have hn5 : n - k1 ≤ 1000000 := by omega
  have hc5 : n - k1 ≤ c - k1 := by omega
  clear hX' h0' h1' h2' HI5 qcut
  go_wp2_with fail
  go_loopg [6, 10] 4 (fun f rv iv W => ∃ (k : Nat) (qs b : List Int) (A' : Option Addr) (n' c' : Nat), f = 4 - k ∧ k ≤ 4 ∧ iv = .int .i64 (k : Int) ∧ rv = .slice A' n' c' ∧ n' ≤ 1000000 ∧ n' ≤ c' ∧ Hid (qs.length = k) ∧ Hid (decF bs = afterR t (rdQs (4 - k) b qs)) ∧ Hid (Ints .u8 w A' n' b) ∧ Hid (Blk W g0 71 #[.int .i64 0, .int .i64 0, .int .i64 0, .int .i64 0, .int .i64 0, .slice none 0 0]) ∧ Hid (Blk W g1 71 #[.int .i64 0, .int .i64 0, .int .i64 0, .int .i64 0, .int .i64 0, .slice none 0 0]) ∧ Hid (Blk W g2 71 (puV t qs (.slice none 0 0))) ∧ Hid (Ext w W))
  case atStart => exact ⟨0, [], bs.drop k1, A5, n - k1, c - k1, rfl, by omega, rfl, rfl, hn5, hc5, Lib.hid rfl, HD, HI, HG0, HG1, HG2, HX⟩
  case round =>
    clear HD HI HG0 HG1 HG2 HX hn5 hc5 hn hc hk5
    obtain ⟨k, qs, b, A3, n3, c3, rfl, hk, rfl, rfl, hn, hc, HQ, HD, HI, HG0, HG1, HG2, HX⟩ := hrel
    by_cases hlt : k < 4
    · have e4 : 4 - k = 4 - (k + 1) + 1 := by omega
      have E4 := Lib.hid e4
      clear e4
      obtain ⟨u, hu⟩ : ∃ u, (puV t qs (.slice none 0 0))[1 + k]? = some u := ⟨_, Array.getElem?_eq_getElem (by unfold puV; simp; omega)⟩
      rcases takeS_split b with ⟨hd, x, y, r, hr, hr0⟩ | ⟨q, k2, hr, hk5, hd⟩
      · have qr : (r != 0) = true := by simpa using hr0
        have HRR := Lib.hid hr
        clear hr hr0
        go_wp2_with fail
        refine (readSigR' A3 n3 c3 b _ (HI.out.ext HX.out) (by omega) HRR.out).mono ?_
        rintro e _ ⟨rfl, rfl⟩
        have HDN : Hid (decF bs = none) := Lib.hid (by rw [HD.out, E4.out, rdQs_no hd]; rfl)
        have m0 := HG1.out.cell 0
        have m1 := HG1.out.cell 1
        have m2 := HG1.out.cell 2
        have m3 := HG1.out.cell 3
        have m4 := HG1.out.cell 4
        have m5 := HG1.out.cell 5
        simp only [List.getElem?_toArray, List.getElem?_cons_zero, List.getElem?_cons_succ] at m0 m1 m2 m3 m4 m5
        have r0 := HG0.out.cell 0
        have r1 := HG0.out.cell 1
        have r2 := HG0.out.cell 2
        have r3 := HG0.out.cell 3
        have r4 := HG0.out.cell 4
        have r5 := HG0.out.cell 5
        have z0 := HG0.out.free 0
        have z1 := HG0.out.free 1
        have z2 := HG0.out.free 2
        have z3 := HG0.out.free 3
        have z4 := HG0.out.free 4
        have z5 := HG0.out.free 5
        simp only [List.getElem?_toArray, List.getElem?_cons_zero, List.getElem?_cons_succ] at r0 r1 r2 r3 r4 r5
        go_wp2
        refine bodyPost_ret (v := .tuple #[.agg #[.int .i64 0, .int .i64 0, .int .i64 0, .int .i64 0, .int .i64 0, .slice none 0 0], .int .i64 4]) (by simp [results, Try.results54, go_sem, *]) rfl ?_
        refine ⟨(((((HX.out.setCell (show w.heap.size ≤ g0 by omega) _).setCell (show w.heap.size ≤ g0 by omega) _).setCell (show w.heap.size ≤ g0 by omega) _).setCell (show w.heap.size ≤ g0 by omega) _).setCell (show w.heap.size ≤ g0 by omega) _).setCell (show w.heap.size ≤ g0 by omega) _, ?_⟩
        rw [HDN.out]
      rw [HI.out.1] at hk5
      obtain ⟨A5, qcut, hcut⟩ := cutB_at (A := A3) (n := n3) (c := c3) hk5
      have HRR := Lib.hid hr
      have HI5 := Lib.hid (hcut hc w _ HI.out)
      clear hr hcut
      go_wp2_with fail
      refine (readSigR' A3 n3 c3 b _ (HI.out.ext HX.out) (by omega) HRR.out).mono ?_
      rintro e _ ⟨rfl, rfl⟩
      replace HD : Hid (decF bs = afterR t (rdQs (4 - (k + 1)) (b.drop k2) (qs ++ [q]))) := Lib.hid (by rw [HD.out, E4.out, rdQs_yes hd])
      clear hd HRR
      go_upto_region 13 with (fail)
      refine dec_r13 g2 n3 c3 k2 k A3 A5 q (puV t qs (.slice none 0 0)) u wr qcut HG2.out hu hk5 hc hlt (by omega) _ _ (by simp) rfl rfl rfl rfl rfl ?_
      rintro xv0 xv1 xv2 xv3 xv4 xv5 xv6 xv7 w2 rfl rfl rfl rfl rfl rfl rfl h2' hKW
      simp only [rops, Try.f54, regOf, Option.bind_some, Nat.reduceBEq, if_true, if_false, Bool.false_eq_true, Option.getD_some, List.drop_succ_cons, List.drop_zero]
      simp only [Act.put, List.setIfInBounds_toArray, List.set_cons_succ, List.set_cons_zero]
      rw [puV_put HQ.out hlt] at h2'
      have hX' := hKW.ext HX.out (by intro k hk; simp at hk; subst hk; omega)
      have h0' := HG0.out.keeps hKW (by simp; omega)
      have h1' := HG1.out.keeps hKW (by simp; omega)
      clear hu HX HG0 HG1 HG2 hKW
      have HX := Lib.hid hX'
      have HG0 := Lib.hid h0'
      have HG1 := Lib.hid h1'
      have HG2 := Lib.hid h2'
      clear hX' h0' h1' h2' qcut
      go_wp2_with fail
      go_roundg (4 - (k + 1))
      case rel => exact ⟨k + 1, qs ++ [q], b.drop k2, A5, n3 - k2, c3 - k2, rfl, by omega, by go_num, rfl, by omega, by omega, Lib.hid (by rw [List.length_append, HQ.out]; rfl), HD, HI5, HG0, HG1, HG2, HX⟩
      case measure => omega
    obtain rfl : k = 4 := by omega
    have hq4 := HQ.out
    obtain ⟨q0, q1, q2, q3, rfl⟩ : ∃ a b c d, qs = [a, b, c, d] := by
      match qs, hq4 with
      | [a, b, c, d], _ => exact ⟨a, b, c, d, rfl⟩
    replace HG2 : Hid (Blk wr g2 71 #[.int .i64 t, .int .i64 q0, .int .i64 q1, .int .i64 q2, .int .i64 q3, (.slice none 0 0)]) := HG2
    replace HD : Hid (decF bs = midD rdStepsR t q0 q1 q2 q3 b) := HD
    clear HQ hq4
    rcases takeN_split b with ⟨hd, x, y, r, hr, hr0⟩ | ⟨mi, k3, hr, hk5, hd⟩
    · have qr : (r != 0) = true := by simpa using hr0
      have HRR := Lib.hid hr
      clear hr hr0
      go_wp2_with fail
      refine (readNumR' A3 n3 c3 b _ (HI.out.ext HX.out) (by omega) HRR.out).mono ?_
      rintro e _ ⟨rfl, rfl⟩
      have HDN : Hid (decF bs = none) := Lib.hid (HD.out.trans (midR_none hd))
      have m0 := HG1.out.cell 0
      have m1 := HG1.out.cell 1
      have m2 := HG1.out.cell 2
      have m3 := HG1.out.cell 3
      have m4 := HG1.out.cell 4
      have m5 := HG1.out.cell 5
      simp only [List.getElem?_toArray, List.getElem?_cons_zero, List.getElem?_cons_succ] at m0 m1 m2 m3 m4 m5
      have r0 := HG0.out.cell 0
      have r1 := HG0.out.cell 1
      have r2 := HG0.out.cell 2
      have r3 := HG0.out.cell 3
      have r4 := HG0.out.cell 4
      have r5 := HG0.out.cell 5
      have z0 := HG0.out.free 0
      have z1 := HG0.out.free 1
      have z2 := HG0.out.free 2
      have z3 := HG0.out.free 3
      have z4 := HG0.out.free 4
      have z5 := HG0.out.free 5
      simp only [List.getElem?_toArray, List.getElem?_cons_zero, List.getElem?_cons_succ] at r0 r1 r2 r3 r4 r5
      go_wp2
      refine bodyPost_ret (v := .tuple #[.agg #[.int .i64 0, .int .i64 0, .int .i64 0, .int .i64 0, .int .i64 0, .slice none 0 0], .int .i64 4]) (by simp [results, Try.results54, go_sem, *]) rfl ?_
      refine ⟨(((((HX.out.setCell (show w.heap.size ≤ g0 by omega) _).setCell (show w.heap.size ≤ g0 by omega) _).setCell (show w.heap.size ≤ g0 by omega) _).setCell (show w.heap.size ≤ g0 by omega) _).setCell (show w.heap.size ≤ g0 by omega) _).setCell (show w.heap.size ≤ g0 by omega) _, ?_⟩
      rw [HDN.out]
    rw [HI.out.1] at hk5
    obtain ⟨A5, qcut, hcut⟩ := cutB_at (A := A3) (n := n3) (c := c3) hk5
    have HRR := Lib.hid hr
    have HI5 := Lib.hid (hcut hc w _ HI.out)
    clear hr hcut
    go_wp2_with fail
    refine (readNumR' A3 n3 c3 b _ (HI.out.ext HX.out) (by omega) HRR.out).mono ?_
    rintro e _ ⟨rfl, rfl⟩
    obtain ⟨m, rfl⟩ : ∃ m : Nat, mi = (m : Int) := ⟨mi.toNat, (Int.toNat_of_nonneg (takeN_range hd).1).symm⟩
    by_cases hm : 256 < m
    · have hm2 := hm
      have HDN : Hid (decF bs = none) := Lib.hid (HD.out.trans (midR_big hd (by omega)))
      have m0 := HG1.out.cell 0
      have m1 := HG1.out.cell 1
      have m2 := HG1.out.cell 2
      have m3 := HG1.out.cell 3
      have m4 := HG1.out.cell 4
      have m5 := HG1.out.cell 5
      simp only [List.getElem?_toArray, List.getElem?_cons_zero, List.getElem?_cons_succ] at m0 m1 m2 m3 m4 m5
      have r0 := HG0.out.cell 0
      have r1 := HG0.out.cell 1
      have r2 := HG0.out.cell 2
      have r3 := HG0.out.cell 3
      have r4 := HG0.out.cell 4
      have r5 := HG0.out.cell 5
      have z0 := HG0.out.free 0
      have z1 := HG0.out.free 1
      have z2 := HG0.out.free 2
      have z3 := HG0.out.free 3
      have z4 := HG0.out.free 4
      have z5 := HG0.out.free 5
      simp only [List.getElem?_toArray, List.getElem?_cons_zero, List.getElem?_cons_succ] at r0 r1 r2 r3 r4 r5
      go_wp2
      refine bodyPost_ret (v := .tuple #[.agg #[.int .i64 0, .int .i64 0, .int .i64 0, .int .i64 0, .int .i64 0, .slice none 0 0], .int .i64 4]) (by simp [results, Try.results54, go_sem, *]) rfl ?_
      refine ⟨(((((HX.out.setCell (show w.heap.size ≤ g0 by omega) _).setCell (show w.heap.size ≤ g0 by omega) _).setCell (show w.heap.size ≤ g0 by omega) _).setCell (show w.heap.size ≤ g0 by omega) _).setCell (show w.heap.size ≤ g0 by omega) _).setCell (show w.heap.size ≤ g0 by omega) _, ?_⟩
      rw [HDN.out]
    replace HD : Hid (decF bs = endD t q0 q1 q2 q3 (rdStepsR m (b.drop k3) [])) := Lib.hid (HD.out.trans (midR_some hd (by omega)))
    clear hd HRR HI
    have HI := HI5
    have hn5 : n3 - k3 ≤ 1000000 := by omega
    have hc5 : n3 - k3 ≤ c3 - k3 := by omega
    go_upto_region 19 with (fail)
    clear HI5 qcut hn hc hk5
    generalize hn6 : n3 - k3 = n6 at hn5 hc5 HI ⊢
    generalize hc6 : c3 - k3 = c6 at hc5 ⊢
    clear hn6 hc6
    go_wp2_with fail
    go_loopg [6, 12, 13] m (fun f rv ov iv W => ∃ (k : Nat) (acc : List (Int × Int)) (b : List Int) (A' : Option Addr) (n' c' : Nat), f = m - k ∧ k ≤ m ∧ iv = .int .i64 (k : Int) ∧ rv = .slice A' n' c' ∧ n' ≤ 1000000 ∧ n' ≤ c' ∧ Hid (acc.length = k) ∧ Hid (∀ s ∈ acc, s.2 ≤ 9223372036854775807) ∧ Hid (decF bs = endD t q0 q1 q2 q3 (rdStepsR (m - k) b acc)) ∧ Hid (Ints .u8 w A' n' b) ∧ Hid (Blk W g0 71 #[.int .i64 0, .int .i64 0, .int .i64 0, .int .i64 0, .int .i64 0, .slice none 0 0]) ∧ Hid (Blk W g1 71 #[.int .i64 0, .int .i64 0, .int .i64 0, .int .i64 0, .int .i64 0, .slice none 0 0]) ∧ Hid (Blk W g2 71 #[.int .i64 t, .int .i64 q0, .int .i64 q1, .int .i64 q2, .int .i64 q3, (.slice none 0 0)]) ∧ Hid (StL w.heap.size W ov acc) ∧ Hid (Ext w W))
    case atStart => exact ⟨0, [], b.drop k3, A5, n6, c6, rfl, by omega, rfl, rfl, hn5, hc5, Lib.hid rfl, Lib.hid (by simp), HD, HI, HG0, HG1, HG2, Lib.hid (StL.nil _ _), HX⟩
    case round =>
      clear HD HI HG0 HG1 HG2 HX hn5 hc5
      obtain ⟨k, acc, b, A3, n3, c3, rfl, hk, rfl, rfl, hn, hc, HQ, HCN, HD, HI, HG0, HG1, HG2, HO, HX⟩ := hrel
      obtain ⟨A1, c1, hso⟩ := own_slice HO.out
      subst hso
      by_cases hlt : k < m
      · have e4 : m - k = m - (k + 1) + 1 := by omega
        have E4 := Lib.hid e4
        clear e4
        go_upto_region 23 with (fail)
        have hS := Blk.new wr 94 #[.int .i64 0, .int .i64 0]
        have hXa := (Ext.refl wr).alloc (.cells #[.int .i64 0, .int .i64 0] 94)
        have hb2 := HG2.out.lt
        have HOF := Lib.hid (own_lt HO.out)
        replace HG0 := Lib.hid (HG0.out.ext hXa)
        replace HG1 := Lib.hid (HG1.out.ext hXa)
        replace HG2 := Lib.hid (HG2.out.ext hXa)
        replace HO := Lib.hid (HO.out.ext hXa)
        have hszr := HX.out.size
        replace HX := Lib.hid (HX.out.trans hXa)
        generalize wr.alloc (.cells #[.int .i64 0, .int .i64 0] 94) = w7 at hS hXa HG0 HG1 HG2 HO HX ⊢
        clear hXa
        generalize wr.heap.size = gs at hS hszr hb2 HOF ⊢
        have HS := Lib.hid hS
        clear hS
        have s0 := HS.out.cell 0
        have f0 := HS.out.free 0
        simp only [List.getElem?_toArray, List.getElem?_cons_zero] at s0
        rcases takeS_split b with ⟨hd, x, y, r, hr, hr0⟩ | ⟨q, k2, hr, hk5, hd⟩
        · have qr : (r != 0) = true := by simpa using hr0
          have HRR := Lib.hid hr
          clear hr hr0
          go_wp2_with fail
          refine (readSigR' A3 n3 c3 b _ (HI.out.ext HX.out) (by omega) HRR.out).mono ?_
          rintro e _ ⟨rfl, rfl⟩
          go_upto_region 24 with (fail)
          clear s0 f0
          have hX' := HX.out.setCell (p := ⟨gs, 0, none⟩) (show w.heap.size ≤ gs by omega) (.int .i64 x)
          have h0' := HG0.out.far (p := ⟨gs, 0, none⟩) (show g0 ≠ gs by omega) (.int .i64 x)
          have h1' := HG1.out.far (p := ⟨gs, 0, none⟩) (show g1 ≠ gs by omega) (.int .i64 x)
          have h2' := HG2.out.far (p := ⟨gs, 0, none⟩) (show g2 ≠ gs by omega) (.int .i64 x)
          have hO' : StL w.heap.size (w7.setCell ⟨gs, 0, none⟩ (.int .i64 x)) (.slice A1 acc.length c1) acc := own_far1 HO.out HOF.out _
          have hS' : Blk (w7.setCell ⟨gs, 0, none⟩ (.int .i64 x)) gs 94 #[.int .i64 x, .int .i64 0] := HS.out.set 0 (.int .i64 x)
          generalize w7.setCell ⟨gs, 0, none⟩ (.int .i64 x) = w8 at hX' h0' h1' h2' hO' hS' ⊢
          clear HX HG0 HG1 HG2 HO HS
          have HX := Lib.hid hX'
          have HG0 := Lib.hid h0'
          have HG1 := Lib.hid h1'
          have HG2 := Lib.hid h2'
          have HO := Lib.hid hO'
          have HS := Lib.hid hS'
          clear hX' h0' h1' h2' hO' hS'
          have HDN : Hid (decF bs = none) := Lib.hid (by rw [HD.out, E4.out, rdStepsR_no1 hd]; rfl)
          have m0 := HG1.out.cell 0
          have m1 := HG1.out.cell 1
          have m2 := HG1.out.cell 2
          have m3 := HG1.out.cell 3
          have m4 := HG1.out.cell 4
          have m5 := HG1.out.cell 5
          simp only [List.getElem?_toArray, List.getElem?_cons_zero, List.getElem?_cons_succ] at m0 m1 m2 m3 m4 m5
          have r0 := HG0.out.cell 0
          have r1 := HG0.out.cell 1
          have r2 := HG0.out.cell 2
          have r3 := HG0.out.cell 3
          have r4 := HG0.out.cell 4
          have r5 := HG0.out.cell 5
          have z0 := HG0.out.free 0
          have z1 := HG0.out.free 1
          have z2 := HG0.out.free 2
          have z3 := HG0.out.free 3
          have z4 := HG0.out.free 4
          have z5 := HG0.out.free 5
          simp only [List.getElem?_toArray, List.getElem?_cons_zero, List.getElem?_cons_succ] at r0 r1 r2 r3 r4 r5
          go_wp2
          refine bodyPost_ret (v := .tuple #[.agg #[.int .i64 0, .int .i64 0, .int .i64 0, .int .i64 0, .int .i64 0, .slice none 0 0], .int .i64 4]) (by simp [results, Try.results54, go_sem, *]) rfl ?_
          refine ⟨(((((HX.out.setCell (show w.heap.size ≤ g0 by omega) _).setCell (show w.heap.size ≤ g0 by omega) _).setCell (show w.heap.size ≤ g0 by omega) _).setCell (show w.heap.size ≤ g0 by omega) _).setCell (show w.heap.size ≤ g0 by omega) _).setCell (show w.heap.size ≤ g0 by omega) _, ?_⟩
          rw [HDN.out]
        rw [HI.out.1] at hk5
        obtain ⟨A5, qcut, hcut⟩ := cutB_at (A := A3) (n := n3) (c := c3) hk5
        have HRR := Lib.hid hr
        have HI5 := Lib.hid (hcut hc w _ HI.out)
        clear hr hcut
        go_wp2_with fail
        refine (readSigR' A3 n3 c3 b _ (HI.out.ext HX.out) (by omega) HRR.out).mono ?_
        rintro e _ ⟨rfl, rfl⟩
        go_upto_region 24 with (fail)
        clear s0 f0
        have hX' := HX.out.setCell (p := ⟨gs, 0, none⟩) (show w.heap.size ≤ gs by omega) (.int .i64 q)
        have h0' := HG0.out.far (p := ⟨gs, 0, none⟩) (show g0 ≠ gs by omega) (.int .i64 q)
        have h1' := HG1.out.far (p := ⟨gs, 0, none⟩) (show g1 ≠ gs by omega) (.int .i64 q)
        have h2' := HG2.out.far (p := ⟨gs, 0, none⟩) (show g2 ≠ gs by omega) (.int .i64 q)
        have hO' : StL w.heap.size (w7.setCell ⟨gs, 0, none⟩ (.int .i64 q)) (.slice A1 acc.length c1) acc := own_far1 HO.out HOF.out _
        have hS' : Blk (w7.setCell ⟨gs, 0, none⟩ (.int .i64 q)) gs 94 #[.int .i64 q, .int .i64 0] := HS.out.set 0 (.int .i64 q)
        generalize w7.setCell ⟨gs, 0, none⟩ (.int .i64 q) = w8 at hX' h0' h1' h2' hO' hS' ⊢
        clear HX HG0 HG1 HG2 HO HS
        have HX := Lib.hid hX'
        have HG0 := Lib.hid h0'
        have HG1 := Lib.hid h1'
        have HG2 := Lib.hid h2'
        have HO := Lib.hid hO'
        have HS := Lib.hid hS'
        clear hX' h0' h1' h2' hO' hS'
        have s1 := HS.out.cell 1
        have f1 := HS.out.free 1
        simp only [List.getElem?_toArray, List.getElem?_cons_zero, List.getElem?_cons_succ] at s1
        have HTK := Lib.hid hd
        have hn5 : n3 - k2 ≤ 1000000 := by omega
        have hc5 : n3 - k2 ≤ c3 - k2 := by omega
        clear hd HRR HI
        have HI := HI5
        clear HI5
        go_upto_region 27 with (fail)
        clear qcut hn hc hk5
        generalize hn6 : n3 - k2 = n6 at hn5 hc5 HI ⊢
        generalize hc6 : c3 - k2 = c6 at hc5 ⊢
        clear hn6 hc6
        have hn := hn5
        have hc := hc5
        clear hn5 hc5
        obtain ⟨b2, hb5⟩ : ∃ x, b.drop k2 = x := ⟨_, rfl⟩
        rw [hb5] at HI HTK
        clear hb5
        obtain ⟨A4, hA4⟩ : ∃ x, A5 = x := ⟨_, rfl⟩
        rw [hA4] at HI ⊢
        clear hA4
        rcases takeN_split b2 with ⟨hd, x, y, r, hr, hr0⟩ | ⟨cn, k4, hr, hk5, hd⟩
        · have qr : (r != 0) = true := by simpa using hr0
          have HRR := Lib.hid hr
          clear hr hr0
          go_wp2_with fail
          refine (readNumR' A4 n6 c6 b2 _ (HI.out.ext HX.out) (by omega) HRR.out).mono ?_
          rintro e _ ⟨rfl, rfl⟩
          go_upto_region 28 with (fail)
          clear s1 f1
          have hX' := HX.out.setCell (p := ⟨gs, 1, none⟩) (show w.heap.size ≤ gs by omega) (.int .i64 x)
          have h0' := HG0.out.far (p := ⟨gs, 1, none⟩) (show g0 ≠ gs by omega) (.int .i64 x)
          have h1' := HG1.out.far (p := ⟨gs, 1, none⟩) (show g1 ≠ gs by omega) (.int .i64 x)
          have h2' := HG2.out.far (p := ⟨gs, 1, none⟩) (show g2 ≠ gs by omega) (.int .i64 x)
          have hO' : StL w.heap.size (w8.setCell ⟨gs, 1, none⟩ (.int .i64 x)) (.slice A1 acc.length c1) acc := own_far1 HO.out HOF.out _
          have hS' : Blk (w8.setCell ⟨gs, 1, none⟩ (.int .i64 x)) gs 94 #[.int .i64 q, .int .i64 x] := HS.out.set 1 (.int .i64 x)
          generalize w8.setCell ⟨gs, 1, none⟩ (.int .i64 x) = w9 at hX' h0' h1' h2' hO' hS' ⊢
          clear HX HG0 HG1 HG2 HO HS
          have HX := Lib.hid hX'
          have HG0 := Lib.hid h0'
          have HG1 := Lib.hid h1'
          have HG2 := Lib.hid h2'
          have HO := Lib.hid hO'
          have HS := Lib.hid hS'
          clear hX' h0' h1' h2' hO' hS'
          have HDN : Hid (decF bs = none) := Lib.hid (by rw [HD.out, E4.out, rdStepsR_no2 HTK.out hd]; rfl)
          have m0 := HG1.out.cell 0
          have m1 := HG1.out.cell 1
          have m2 := HG1.out.cell 2
          have m3 := HG1.out.cell 3
          have m4 := HG1.out.cell 4
          have m5 := HG1.out.cell 5
          simp only [List.getElem?_toArray, List.getElem?_cons_zero, List.getElem?_cons_succ] at m0 m1 m2 m3 m4 m5
          have r0 := HG0.out.cell 0
          have r1 := HG0.out.cell 1
          have r2 := HG0.out.cell 2
          have r3 := HG0.out.cell 3
          have r4 := HG0.out.cell 4
          have r5 := HG0.out.cell 5
          have z0 := HG0.out.free 0
          have z1 := HG0.out.free 1
          have z2 := HG0.out.free 2
          have z3 := HG0.out.free 3
          have z4 := HG0.out.free 4
          have z5 := HG0.out.free 5
          simp only [List.getElem?_toArray, List.getElem?_cons_zero, List.getElem?_cons_succ] at r0 r1 r2 r3 r4 r5
          go_wp2
          refine bodyPost_ret (v := .tuple #[.agg #[.int .i64 0, .int .i64 0, .int .i64 0, .int .i64 0, .int .i64 0, .slice none 0 0], .int .i64 4]) (by simp [results, Try.results54, go_sem, *]) rfl ?_
          refine ⟨(((((HX.out.setCell (show w.heap.size ≤ g0 by omega) _).setCell (show w.heap.size ≤ g0 by omega) _).setCell (show w.heap.size ≤ g0 by omega) _).setCell (show w.heap.size ≤ g0 by omega) _).setCell (show w.heap.size ≤ g0 by omega) _).setCell (show w.heap.size ≤ g0 by omega) _, ?_⟩
          rw [HDN.out]
        rw [HI.out.1] at hk5
        obtain ⟨A5, qcut, hcut⟩ := cutB_at (A := A4) (n := n6) (c := c6) hk5
        have HRR := Lib.hid hr
        have HI5 := Lib.hid (hcut hc w _ HI.out)
        clear hr hcut
        go_wp2_with fail
        refine (readNumR' A4 n6 c6 b2 _ (HI.out.ext HX.out) (by omega) HRR.out).mono ?_
        rintro e _ ⟨rfl, rfl⟩
        obtain ⟨hcn1, hcn2⟩ := takeN_range hd
        go_upto_region 28 with (fail)
        clear s1 f1
        have hX' := HX.out.setCell (p := ⟨gs, 1, none⟩) (show w.heap.size ≤ gs by omega) (.int .i64 cn)
        have h0' := HG0.out.far (p := ⟨gs, 1, none⟩) (show g0 ≠ gs by omega) (.int .i64 cn)
        have h1' := HG1.out.far (p := ⟨gs, 1, none⟩) (show g1 ≠ gs by omega) (.int .i64 cn)
        have h2' := HG2.out.far (p := ⟨gs, 1, none⟩) (show g2 ≠ gs by omega) (.int .i64 cn)
        have hO' : StL w.heap.size (w8.setCell ⟨gs, 1, none⟩ (.int .i64 cn)) (.slice A1 acc.length c1) acc := own_far1 HO.out HOF.out _
        have hS' : Blk (w8.setCell ⟨gs, 1, none⟩ (.int .i64 cn)) gs 94 #[.int .i64 q, .int .i64 cn] := HS.out.set 1 (.int .i64 cn)
        generalize w8.setCell ⟨gs, 1, none⟩ (.int .i64 cn) = w9 at hX' h0' h1' h2' hO' hS' ⊢
        clear HX HG0 HG1 HG2 HO HS
        have HX := Lib.hid hX'
        have HG0 := Lib.hid h0'
        have HG1 := Lib.hid h1'
        have HG2 := Lib.hid h2'
        have HO := Lib.hid hO'
        have HS := Lib.hid hS'
        clear hX' h0' h1' h2' hO' hS'
        have s0 := HS.out.cell 0
        have s1 := HS.out.cell 1
        have f1 := HS.out.free 1
        simp only [List.getElem?_toArray, List.getElem?_cons_zero, List.getElem?_cons_succ] at s0 s1
        by_cases h256 : 256 ≤ cn
        · have h2562 := h256
          have HDN : Hid (decF bs = none) := Lib.hid (by rw [HD.out, E4.out, rdStepsR_no3 HTK.out hd h256]; rfl)
          have m0 := HG1.out.cell 0
          have m1 := HG1.out.cell 1
          have m2 := HG1.out.cell 2
          have m3 := HG1.out.cell 3
          have m4 := HG1.out.cell 4
          have m5 := HG1.out.cell 5
          simp only [List.getElem?_toArray, List.getElem?_cons_zero, List.getElem?_cons_succ] at m0 m1 m2 m3 m4 m5
          have r0 := HG0.out.cell 0
          have r1 := HG0.out.cell 1
          have r2 := HG0.out.cell 2
          have r3 := HG0.out.cell 3
          have r4 := HG0.out.cell 4
          have r5 := HG0.out.cell 5
          have z0 := HG0.out.free 0
          have z1 := HG0.out.free 1
          have z2 := HG0.out.free 2
          have z3 := HG0.out.free 3
          have z4 := HG0.out.free 4
          have z5 := HG0.out.free 5
          simp only [List.getElem?_toArray, List.getElem?_cons_zero, List.getElem?_cons_succ] at r0 r1 r2 r3 r4 r5
          go_wp2
          refine bodyPost_ret (v := .tuple #[.agg #[.int .i64 0, .int .i64 0, .int .i64 0, .int .i64 0, .int .i64 0, .slice none 0 0], .int .i64 4]) (by simp [results, Try.results54, go_sem, *]) rfl ?_
          refine ⟨(((((HX.out.setCell (show w.heap.size ≤ g0 by omega) _).setCell (show w.heap.size ≤ g0 by omega) _).setCell (show w.heap.size ≤ g0 by omega) _).setCell (show w.heap.size ≤ g0 by omega) _).setCell (show w.heap.size ≤ g0 by omega) _).setCell (show w.heap.size ≤ g0 by omega) _, ?_⟩
          rw [HDN.out]
        replace HD : Hid (decF bs = endD t q0 q1 q2 q3 (rdStepsR (m - (k + 1)) (b2.drop k4) (acc ++ [(q, cn + 1)]))) := Lib.hid (by rw [HD.out, E4.out, rdStepsR_step HTK.out hd h256])
        clear hd HRR HTK
        go_upto_region 31 with (fail)
        clear s0 s1 f1
        have hX' := HX.out.setCell (p := ⟨gs, 1, none⟩) (show w.heap.size ≤ gs by omega) (.int .i64 (cn + 1))
        have h0' := HG0.out.far (p := ⟨gs, 1, none⟩) (show g0 ≠ gs by omega) (.int .i64 (cn + 1))
        have h1' := HG1.out.far (p := ⟨gs, 1, none⟩) (show g1 ≠ gs by omega) (.int .i64 (cn + 1))
        have h2' := HG2.out.far (p := ⟨gs, 1, none⟩) (show g2 ≠ gs by omega) (.int .i64 (cn + 1))
        have hO' : StL w.heap.size (w9.setCell ⟨gs, 1, none⟩ (.int .i64 (cn + 1))) (.slice A1 acc.length c1) acc := own_far1 HO.out HOF.out _
        have hS' : Blk (w9.setCell ⟨gs, 1, none⟩ (.int .i64 (cn + 1))) gs 94 #[.int .i64 q, .int .i64 (cn + 1)] := HS.out.set 1 (.int .i64 (cn + 1))
        generalize w9.setCell ⟨gs, 1, none⟩ (.int .i64 (cn + 1)) = w10 at hX' h0' h1' h2' hO' hS' ⊢
        clear HX HG0 HG1 HG2 HO HS
        have HX := Lib.hid hX'
        have HG0 := Lib.hid h0'
        have HG1 := Lib.hid h1'
        have HG2 := Lib.hid h2'
        have HO := Lib.hid hO'
        have HS := Lib.hid hS'
        clear hX' h0' h1' h2' hO' hS'
        have s0 := HS.out.cell 0
        have s1 := HS.out.cell 1
        simp only [List.getElem?_toArray, List.getElem?_cons_zero, List.getElem?_cons_succ] at s0 s1
        obtain ⟨oz, hoz⟩ : ∃ oz, acc.length = oz := ⟨_, rfl⟩
        have hzk : oz = k := hoz.symm.trans HQ.out
        have hown : w10.ownsRow w.heap.size 94 2 (.slice A1 oz c1) oz (stV acc) := by
          have h1 := HO.out
          unfold StL at h1
          rw [hoz] at h1
          exact h1
        have hsz8 := HX.out.size
        have hal := (Ext.refl w10).alloc (.cells #[.int .i64 q, .int .i64 (cn + 1)] 94)
        have hno : ∀ tb, 94 ≠ tb → ∀ k ∈ (Value.slice A1 oz c1).ownBlock.toList, NoRow tb (w10.alloc (.cells #[.int .i64 q, .int .i64 (cn + 1)] 94)) k := fun tb h k hk => NoRow.of_own (hown.alloc _) (by simpa using hk) h
        rw [hoz]
        have HOZ := Lib.hid hoz
        have hoz2 : oz ≤ 256 := by omega
        have hn8 : n6 - k4 ≤ 1000000 := by omega
        have hc8 : n6 - k4 ≤ c6 - k4 := by omega
        clear hoz hzk HO
        go_wp2_with (at_builtin; refine wpList_app _ elS rfl _ _ rfl w.heap.size (.slice A1 oz c1) oz (stV acc) rfl (hown.alloc _) _ 1 1 [.int .i64 q, .int .i64 (cn + 1)] rfl rfl (At.new' _ [_, _] _ rfl) (by simp [Value.oneCell']) (by omega) (by unfold maxLen; omega) (by simp; omega) ?_; intro v11 w11 hown9 hgr9 _; have HK9 := Lib.hid (Keeps.of_grown (L := (Value.slice A1 oz c1).ownBlock.toList) hgr9 (fun k hk => by rw [hk]; simp)); have HX9 := Lib.hid (HX.out.push hown hgr9); have HOW9 := Lib.hid hown9; clear hown9 hgr9)
        go_roundg (m - (k + 1))
        case rel =>
          refine ⟨k + 1, acc ++ [(q, cn + 1)], b2.drop k4, A5, n6 - k4, c6 - k4, rfl, by omega, by go_num, rfl, hn8, hc8, Lib.hid (by rw [List.length_append, HQ.out]; rfl), Lib.hid ?_, HD, HI5, Lib.hid (blk_away (HG0.out.ext hal) HK9.out (hno _ (by decide))), Lib.hid (blk_away (HG1.out.ext hal) HK9.out (hno _ (by decide))), Lib.hid (blk_away (HG2.out.ext hal) HK9.out (hno _ (by decide))), Lib.hid ?_, HX9⟩
          · intro s hs
            rcases List.mem_append.1 hs with hs | hs
            · exact HCN.out s hs
            · simp at hs; subst hs; simp only; omega
          · unfold StL
            rw [stV_snoc, List.length_append, HOZ.out]
            exact HOW9.out
        case measure => omega
      obtain rfl : k = m := by omega
      replace HD : Hid (decF bs = endD t q0 q1 q2 q3 (some (acc, b))) := Lib.hid (by rw [HD.out, Nat.sub_self]; rfl)
      have hST := StL.read HO.out rfl
      rw [HQ.out] at hST ⊢
      have HST := Lib.hid hST
      clear hST HO
      obtain ⟨⟨l, er⟩, hro⟩ : ∃ r, rebO acc = r := ⟨_, rfl⟩
      have hl256 := rebO_small acc
      rw [hro] at hl256
      simp only at hl256
      have HRO := Lib.hid hro
      clear hro
      go_wp2_with fail
      refine (rebRef_any A1 k c1 acc _ HST.out (by omega) HCN.out).mono ?_
      rw [HRO.out]
      rintro e w10 ⟨v10, rfl, hL, hX⟩
      simp only at hL ⊢
      obtain ⟨A9, c9, rfl, hL⟩ := hL
      obtain ⟨N, hN⟩ : ∃ N, l.length = N := ⟨_, rfl⟩
      rw [hN] at hL hl256 ⊢
      replace HG0 := Lib.hid (HG0.out.ext hX)
      replace HG1 := Lib.hid (HG1.out.ext hX)
      replace HG2 := Lib.hid (HG2.out.ext hX)
      replace HX := Lib.hid (HX.out.trans hX)
      have p5 : w10.cell? ⟨g2, 5, none⟩ = some (.slice none 0 0) := HG2.out.cell 5
      have y5 : w10.frozen? ⟨g2, 5, none⟩ = false := HG2.out.free 5
      have HLL := Lib.hid hL
      clear hX HST HCN hL
      generalize wr.heap.size = B9 at HLL
      go_upto_region 34 with (fail)
      have hX' := HX.out.setCell (p := ⟨g2, 5, none⟩) (show w.heap.size ≤ g2 by omega) (.slice A9 N c9)
      have h0' := HG0.out.far (p := ⟨g2, 5, none⟩) (show g0 ≠ g2 by omega) (.slice A9 N c9)
      have h1' := HG1.out.far (p := ⟨g2, 5, none⟩) (show g1 ≠ g2 by omega) (.slice A9 N c9)
      have h2' : Blk (w10.setCell ⟨g2, 5, none⟩ (.slice A9 N c9)) g2 71 #[.int .i64 t, .int .i64 q0, .int .i64 q1, .int .i64 q2, .int .i64 q3, .slice A9 N c9] := HG2.out.set 5 (.slice A9 N c9)
      have hL' : OwnS .i64 3 B9 (w10.setCell ⟨g2, 5, none⟩ (.slice A9 N c9)) A9 N c9 l := ⟨row_away HLL.out.own ((Keeps.refl [g2] w10).setCell (.inl (by simp)) _) (fun k hk => by simp at hk; subst hk; exact NoRow.of_blk HG2.out (by decide)), HLL.out.len, HLL.out.wf⟩
      generalize w10.setCell ⟨g2, 5, none⟩ (.slice A9 N c9) = w11 at hX' h0' h1' h2' hL' ⊢
      clear HX HG0 HG1 HG2 HLL p5 y5
      have HX := Lib.hid hX'
      have HG0 := Lib.hid h0'
      have HG1 := Lib.hid h1'
      have HG2 := Lib.hid h2'
      have HL := Lib.hid hL'
      clear hX' h0' h1' h2' hL'
      by_cases he : ¬ er = 0
      · have q9 : (er != 0) = true := by simpa using he
        have HE := Lib.hid he
        clear he
        have HDN : Hid (decF bs = none) := Lib.hid (by rw [HD.out, endD_no (.inr (.inl (by rw [HRO.out]; exact HE.out)))])
        have m0 := HG1.out.cell 0
        have m1 := HG1.out.cell 1
        have m2 := HG1.out.cell 2
        have m3 := HG1.out.cell 3
        have m4 := HG1.out.cell 4
        have m5 := HG1.out.cell 5
        simp only [List.getElem?_toArray, List.getElem?_cons_zero, List.getElem?_cons_succ] at m0 m1 m2 m3 m4 m5
        have r0 := HG0.out.cell 0
        have r1 := HG0.out.cell 1
        have r2 := HG0.out.cell 2
        have r3 := HG0.out.cell 3
        have r4 := HG0.out.cell 4
        have r5 := HG0.out.cell 5
        have z0 := HG0.out.free 0
        have z1 := HG0.out.free 1
        have z2 := HG0.out.free 2
        have z3 := HG0.out.free 3
        have z4 := HG0.out.free 4
        have z5 := HG0.out.free 5
        simp only [List.getElem?_toArray, List.getElem?_cons_zero, List.getElem?_cons_succ] at r0 r1 r2 r3 r4 r5
        go_wp2
        refine bodyPost_ret (v := .tuple #[.agg #[.int .i64 0, .int .i64 0, .int .i64 0, .int .i64 0, .int .i64 0, .slice none 0 0], .int .i64 4]) (by simp [results, Try.results54, go_sem, *]) rfl ?_
        refine ⟨(((((HX.out.setCell (show w.heap.size ≤ g0 by omega) _).setCell (show w.heap.size ≤ g0 by omega) _).setCell (show w.heap.size ≤ g0 by omega) _).setCell (show w.heap.size ≤ g0 by omega) _).setCell (show w.heap.size ≤ g0 by omega) _).setCell (show w.heap.size ≤ g0 by omega) _, ?_⟩
        rw [HDN.out]
      obtain rfl : er = 0 := Decidable.not_not.1 he
      clear he
      have hbl := HI.out.1
      by_cases hz : ¬ n3 = 0
      · have hz2 : 0 < n3 := by omega
        have HBN : Hid (b ≠ []) := Lib.hid (by intro e; subst e; simp at hbl; omega)
        clear hz hbl
        have HDN : Hid (decF bs = none) := Lib.hid (by rw [HD.out, endD_no (.inl HBN.out)])
        have m0 := HG1.out.cell 0
        have m1 := HG1.out.cell 1
        have m2 := HG1.out.cell 2
        have m3 := HG1.out.cell 3
        have m4 := HG1.out.cell 4
        have m5 := HG1.out.cell 5
        simp only [List.getElem?_toArray, List.getElem?_cons_zero, List.getElem?_cons_succ] at m0 m1 m2 m3 m4 m5
        have r0 := HG0.out.cell 0
        have r1 := HG0.out.cell 1
        have r2 := HG0.out.cell 2
        have r3 := HG0.out.cell 3
        have r4 := HG0.out.cell 4
        have r5 := HG0.out.cell 5
        have z0 := HG0.out.free 0
        have z1 := HG0.out.free 1
        have z2 := HG0.out.free 2
        have z3 := HG0.out.free 3
        have z4 := HG0.out.free 4
        have z5 := HG0.out.free 5
        simp only [List.getElem?_toArray, List.getElem?_cons_zero, List.getElem?_cons_succ] at r0 r1 r2 r3 r4 r5
        go_wp2
        refine bodyPost_ret (v := .tuple #[.agg #[.int .i64 0, .int .i64 0, .int .i64 0, .int .i64 0, .int .i64 0, .slice none 0 0], .int .i64 4]) (by simp [results, Try.results54, go_sem, *]) rfl ?_
        refine ⟨(((((HX.out.setCell (show w.heap.size ≤ g0 by omega) _).setCell (show w.heap.size ≤ g0 by omega) _).setCell (show w.heap.size ≤ g0 by omega) _).setCell (show w.heap.size ≤ g0 by omega) _).setCell (show w.heap.size ≤ g0 by omega) _).setCell (show w.heap.size ≤ g0 by omega) _, ?_⟩
        rw [HDN.out]
      obtain rfl : n3 = 0 := Decidable.not_not.1 hz
      obtain rfl : b = [] := List.eq_nil_of_length_eq_zero hbl
      clear hz hbl
      by_cases hp : ¬ PulOk ⟨t, q0, q1, q2, q3, l⟩
      · have HPP : Hid (decide (PulOk ⟨t, q0, q1, q2, q3, l⟩) = false) := Lib.hid (decide_eq_false hp)
        have HNP := Lib.hid hp
        clear hp
        have p0 := HG2.out.cell 0
        have p1 := HG2.out.cell 1
        have p2 := HG2.out.cell 2
        have p3 := HG2.out.cell 3
        have p4 := HG2.out.cell 4
        have p5 := HG2.out.cell 5
        simp only [List.getElem?_toArray, List.getElem?_cons_zero, List.getElem?_cons_succ] at p0 p1 p2 p3 p4 p5
        go_wp2_with fail
        refine (validR_any ⟨t, q0, q1, q2, q3, l⟩ A9 N c9 _ HL.out.ints).mono ?_
        rw [HPP.out]
        rintro e w12 ⟨rfl, hX⟩
        replace HX := Lib.hid (HX.out.trans hX)
        replace HG0 := Lib.hid (HG0.out.ext hX)
        replace HG1 := Lib.hid (HG1.out.ext hX)
        clear hX p0 p1 p2 p3 p4 p5
        have HDN : Hid (decF bs = none) := Lib.hid (by rw [HD.out, endD_no (.inr (.inr (by rw [HRO.out]; exact HNP.out)))])
        have m0 := HG1.out.cell 0
        have m1 := HG1.out.cell 1
        have m2 := HG1.out.cell 2
        have m3 := HG1.out.cell 3
        have m4 := HG1.out.cell 4
        have m5 := HG1.out.cell 5
        simp only [List.getElem?_toArray, List.getElem?_cons_zero, List.getElem?_cons_succ] at m0 m1 m2 m3 m4 m5
        have r0 := HG0.out.cell 0
        have r1 := HG0.out.cell 1
        have r2 := HG0.out.cell 2
        have r3 := HG0.out.cell 3
        have r4 := HG0.out.cell 4
        have r5 := HG0.out.cell 5
        have z0 := HG0.out.free 0
        have z1 := HG0.out.free 1
        have z2 := HG0.out.free 2
        have z3 := HG0.out.free 3
        have z4 := HG0.out.free 4
        have z5 := HG0.out.free 5
        simp only [List.getElem?_toArray, List.getElem?_cons_zero, List.getElem?_cons_succ] at r0 r1 r2 r3 r4 r5
        go_wp2
        refine bodyPost_ret (v := .tuple #[.agg #[.int .i64 0, .int .i64 0, .int .i64 0, .int .i64 0, .int .i64 0, .slice none 0 0], .int .i64 4]) (by simp [results, Try.results54, go_sem, *]) rfl ?_
        refine ⟨(((((HX.out.setCell (show w.heap.size ≤ g0 by omega) _).setCell (show w.heap.size ≤ g0 by omega) _).setCell (show w.heap.size ≤ g0 by omega) _).setCell (show w.heap.size ≤ g0 by omega) _).setCell (show w.heap.size ≤ g0 by omega) _).setCell (show w.heap.size ≤ g0 by omega) _, ?_⟩
        rw [HDN.out]
      have hp' := Decidable.not_not.1 hp
      have HDN : Hid (decF bs = some ⟨t, q0, q1, q2, q3, l⟩) := Lib.hid (by
        have h1 := endD_yes (ss := acc) (t := t) (q0 := q0) (q1 := q1) (q2 := q2) (q3 := q3) (by rw [HRO.out]) (by rw [HRO.out]; exact hp')
        rw [HRO.out] at h1
        exact HD.out.trans h1)
      have HPP : Hid (decide (PulOk ⟨t, q0, q1, q2, q3, l⟩) = true) := Lib.hid (decide_eq_true hp')
      clear hp hp'
      have p0 := HG2.out.cell 0
      have p1 := HG2.out.cell 1
      have p2 := HG2.out.cell 2
      have p3 := HG2.out.cell 3
      have p4 := HG2.out.cell 4
      have p5 := HG2.out.cell 5
      simp only [List.getElem?_toArray, List.getElem?_cons_zero, List.getElem?_cons_succ] at p0 p1 p2 p3 p4 p5
      go_wp2_with fail
      refine (validR_any ⟨t, q0, q1, q2, q3, l⟩ A9 N c9 _ HL.out.ints).mono ?_
      rw [HPP.out]
      rintro e w12 ⟨rfl, hX⟩
      replace HX := Lib.hid (HX.out.trans hX)
      replace HG0 := Lib.hid (HG0.out.ext hX)
      replace HG2 := Lib.hid (HG2.out.ext hX)
      replace HL := Lib.hid (HL.out.ext hX)
      clear hX p0 p1 p2 p3 p4 p5
      have p0 := HG2.out.cell 0
      have p1 := HG2.out.cell 1
      have p2 := HG2.out.cell 2
      have p3 := HG2.out.cell 3
      have p4 := HG2.out.cell 4
      have p5 := HG2.out.cell 5
      simp only [List.getElem?_toArray, List.getElem?_cons_zero, List.getElem?_cons_succ] at p0 p1 p2 p3 p4 p5
      have r0 := HG0.out.cell 0
      have r1 := HG0.out.cell 1
      have r2 := HG0.out.cell 2
      have r3 := HG0.out.cell 3
      have r4 := HG0.out.cell 4
      have r5 := HG0.out.cell 5
      have z0 := HG0.out.free 0
      have z1 := HG0.out.free 1
      have z2 := HG0.out.free 2
      have z3 := HG0.out.free 3
      have z4 := HG0.out.free 4
      have z5 := HG0.out.free 5
      simp only [List.getElem?_toArray, List.getElem?_cons_zero, List.getElem?_cons_succ] at r0 r1 r2 r3 r4 r5
      have hk6 : ∀ (x0 x1 x2 x3 x4 x5 : Value), Keeps [g0] w12 ((((((w12.setCell ⟨g0, 0, none⟩ x0).setCell ⟨g0, 1, none⟩ x1).setCell ⟨g0, 2, none⟩ x2).setCell ⟨g0, 3, none⟩ x3).setCell ⟨g0, 4, none⟩ x4).setCell ⟨g0, 5, none⟩ x5) := fun x0 x1 x2 x3 x4 x5 => ((((((Keeps.refl [g0] w12).setCell (.inl (by simp)) _).setCell (.inl (by simp)) _).setCell (.inl (by simp)) _).setCell (.inl (by simp)) _).setCell (.inl (by simp)) _).setCell (.inl (by simp)) _
      have HK6 := Lib.hid hk6
      clear hk6
      go_wp2
      refine bodyPost_ret (v := .tuple #[.agg #[.int .i64 t, .int .i64 q0, .int .i64 q1, .int .i64 q2, .int .i64 q3, .slice A9 N c9], .int .i64 0]) (by simp [results, Try.results54, go_sem, *]) rfl ?_
      refine ⟨(HK6.out _ _ _ _ _ _).ext HX.out (by intro k hk; simp at hk; subst hk; exact hg0), ?_⟩
      rw [HDN.out]
      exact ⟨A9, N, c9, rfl, HL.out.len, HL.out.wf, At.of_own (row_away HL.out.own (HK6.out _ _ _ _ _ _) (fun k hk => by simp at hk; subst hk; exact NoRow.of_blk HG0.out (by decide)))⟩
end Go.Proofs.Ytagcgldhhdecjaa
namespace Go.Proofs.Ytagcgldhhdecjaa
open Go.RowKit

set_option maxRecDepth 100000 in
set_option maxHeartbeats 2000000 in
theorem sameI_eq (A B : Option Addr) (n c d : Nat) (xs : List Int) (w : World) (hA : Ints .i64 w A n xs) (hB : Ints .i64 w B n xs) (hn : n ≤ 1000000) :
    Calls Try.prog 38 #[.slice A n c, .slice B n d] w fun e w' => e = .returned (.bool true) ∧ Ext w w' := by
  have HA := Lib.hid hA
  have HB := Lib.hid hB
  clear hA hB
  have hnn : ((n : Int) != (n : Int)) = false := by simp
  go_enter Try.func38, Try.ntmps38
  go_wp2_with fail
  go_loopg [5] n (fun g i wr => ∃ k : Nat, g = n - k ∧ k ≤ n ∧ i = .int .i64 (k : Int) ∧ Hid (Ext w wr))
  case atStart => exact ⟨0, rfl, by omega, rfl, Lib.hid (Ext.refl w)⟩
  case round =>
    obtain ⟨k, rfl, hk, rfl, HX⟩ := hrel
    by_cases hlt : k < n
    · have q1 : decide (k < n) = true := decide_eq_true hlt
      obtain ⟨ga, oa, x, rfl, hx, _, ha⟩ := (HA.out.ext HX.out).get hlt
      obtain ⟨gb, ob, y, rfl, hy, _, hb⟩ := (HB.out.ext HX.out).get hlt
      obtain rfl : x = y := by rw [hx] at hy; injection hy
      have qx : (x != x) = false := by simp
      clear hx hy
      go_wp2_with fail
      go_region
      go_wp2
      go_roundg (n - (k + 1))
      case rel => exact ⟨k + 1, rfl, by omega, by go_num, Lib.hid HX.out.drew⟩
      case measure => omega
    · obtain rfl : k = n := by omega
      go_wp2
      go_ret
      exact ⟨rfl, HX.out⟩

end Go.Proofs.Ytagcgldhhdecjaa
namespace Go.Proofs.Ytagcgldhhdecjaa
open Go.RowKit

/-- The writer in memory: block g holds a slice of bytes of its own. -/
structure WrB (base : Nat) (w : World) (g : Nat) (A : Option Addr) (n c : Nat) (xs : List Int) : Prop where
  blk : Blk w g 107 #[.slice A n c]
  own : OwnS .u8 5 base w A n c xs
  lo : base ≤ g
theorem WrB.ext {base g n c : Nat} {w w' : World} {A : Option Addr} {xs : List Int} (h : WrB base w g A n c xs) (he : Ext w w') : WrB base w' g A n c xs := ⟨h.blk.ext he, h.own.ext he, h.lo⟩
theorem WrB.put {base g n c n' c' : Nat} {w w' : World} {A A' : Option Addr} {xs ys : List Int} (h : WrB base w g A n c xs) (hb : base ≤ w.heap.size) (ho : OwnS .u8 5 w.heap.size w' A' n' c' ys) (he : Ext w w') :
    WrB base (w'.setCell ⟨g, 0, none⟩ (.slice A' n' c')) g A' n' c' ys ∧ Keeps [g] w (w'.setCell ⟨g, 0, none⟩ (.slice A' n' c')) := by
  have hB := h.blk.ext he
  have hk : Keeps [g] w' (w'.setCell ⟨g, 0, none⟩ (.slice A' n' c')) := (Keeps.refl [g] w').setCell (.inl (by simp)) _
  refine ⟨⟨hB.set 0 _, ((ho.mono hb).keeps hk fun k hk' => ?_), h.lo⟩, (Keeps.of_ext he [g]).trans hk⟩
  rw [List.mem_singleton] at hk'
  subst hk'
  exact NoRow.of_blk hB (by decide)
end Go.Proofs.Ytagcgldhhdecjaa
namespace Go.Proofs.Ytagcgldhhdecjaa
open Go.RowKit

theorem StL.keeps {L : List Nat} {base : Nat} {w w' : World} {v : Value} {ss : List (Int × Int)} (h : StL base w v ss) (hk : Keeps L w w') (hL : ∀ k ∈ L, k < base) : StL base w' v ss := by
  refine ownsRow_keeps h hk fun g hg hl => ?_
  have := (World.ownsRow.lt h g hg).1
  have := hL g hl
  omega
end Go.Proofs.Ytagcgldhhdecjaa
namespace Go.Proofs.Ytagcgldhhdecjaa
open Go.RowKit

/-- What Decode returns, as a pulse and an error. -/
def decO (r : Option Pul) : Pul × Int := match r with
  | none => (⟨0, 0, 0, 0, 0, []⟩, 4)
  | some q => (q, 0)
theorem RetDc.open {w w' : World} {r : Option Pul} {e : Ending} (h : RetDc w r e w') : ∃ (A : Option Addr) (n c : Nat), e = .returned (.tuple #[(decO r).1.val A n c, .int .i64 (decO r).2]) ∧ Ints .i64 w' A n (decO r).1.smp ∧ Ext w w' := by
  obtain ⟨h1, h2⟩ := h
  cases r with
  | none => exact ⟨none, 0, 0, h2, Ints.nil, h1⟩
  | some q =>
    obtain ⟨A, n, c, h3, h4⟩ := h2
    exact ⟨A, n, c, h3, h4, h1⟩
theorem eqQuadS (x0 x1 x2 x3 : Int) (W : World) : (Op.equalIn 10000 69 (.agg #[.int .i64 x0, .int .i64 x1, .int .i64 x2, .int .i64 x3]) (.agg #[.int .i64 x0, .int .i64 x1, .int .i64 x2, .int .i64 x3])).run Try.prog W = .ok true W := by
  have hsome : (Try.prog.info? 3).isSome = true := by kernel_rfl
  obtain ⟨i, hi⟩ := Option.isSome_iff_exists.1 hsome
  have hc : Try.prog.cellsOf 3 = 1 := by kernel_rfl
  rw [run_equalIn_array W 9999 _ _ Try.underlying69 hi, hc]
  have hr : List.range 4 = [0, 1, 2, 3] := rfl
  have hu := Try.underlying3
  rw [hr]
  simp [Op.eqItems, go_sem]
set_option maxRecDepth 100000 in
set_option maxHeartbeats 2000000 in
theorem samePul_at (A B : Option Addr) (n c m d : Nat) (tm x0 x1 x2 x3 : Int) (l : List Int) (w : World) (hA : Ints .i64 w A n l) (hB : Ints .i64 w B m l) (hn : n ≤ 1000000) :
    Calls Try.prog 55 #[.agg #[.int .i64 tm, .int .i64 x0, .int .i64 x1, .int .i64 x2, .int .i64 x3, .slice A n c], .agg #[.int .i64 tm, .int .i64 x0, .int .i64 x1, .int .i64 x2, .int .i64 x3, .slice B m d]] w (fun e w' => e = .returned (.bool true) ∧ Ext w w') := by
  obtain rfl : m = n := hB.1.symm.trans hA.1
  have HA := Lib.hid hA
  have HB := Lib.hid hB
  have hq := eqQuadS x0 x1 x2 x3
  clear hA hB
  have q0 : (tm == tm) = true := by simp
  have q1 : (x0 == x0) = true := by simp
  have q2 : (x1 == x1) = true := by simp
  have q3 : (x2 == x2) = true := by simp
  have q4 : (x3 == x3) = true := by simp
  have hXe : Ext w ((w.alloc (.cells #[.int .i64 tm, .int .i64 x0, .int .i64 x1, .int .i64 x2, .int .i64 x3, .slice A m c] 71)).alloc (.cells #[.int .i64 tm, .int .i64 x0, .int .i64 x1, .int .i64 x2, .int .i64 x3, .slice B m d] 71)) := (((Ext.refl w).alloc _).alloc _)
  have kP : Blk ((w.alloc (.cells #[.int .i64 tm, .int .i64 x0, .int .i64 x1, .int .i64 x2, .int .i64 x3, .slice A m c] 71)).alloc (.cells #[.int .i64 tm, .int .i64 x0, .int .i64 x1, .int .i64 x2, .int .i64 x3, .slice B m d] 71)) w.heap.size 71 #[.int .i64 tm, .int .i64 x0, .int .i64 x1, .int .i64 x2, .int .i64 x3, .slice A m c] := Blk.alloc (Blk.at_ (by simp)) _
  have kQ : Blk ((w.alloc (.cells #[.int .i64 tm, .int .i64 x0, .int .i64 x1, .int .i64 x2, .int .i64 x3, .slice A m c] 71)).alloc (.cells #[.int .i64 tm, .int .i64 x0, .int .i64 x1, .int .i64 x2, .int .i64 x3, .slice B m d] 71)) (w.heap.size + 1) 71 #[.int .i64 tm, .int .i64 x0, .int .i64 x1, .int .i64 x2, .int .i64 x3, .slice B m d] := Blk.at_ (by simp)
  go_enter Try.func55, Try.ntmps55
  go_wp2_with fail
  generalize ((w.alloc (.cells #[.int .i64 tm, .int .i64 x0, .int .i64 x1, .int .i64 x2, .int .i64 x3, .slice A m c] 71)).alloc (.cells #[.int .i64 tm, .int .i64 x0, .int .i64 x1, .int .i64 x2, .int .i64 x3, .slice B m d] 71)) = w1 at hXe kP kQ ⊢
  have HX := Lib.hid hXe
  clear hXe
  have KP := Lib.hid kP
  clear kP
  have KQ := Lib.hid kQ
  clear kQ
  have cP0 : w1.cell? ⟨w.heap.size, 0, none⟩ = some (.int .i64 tm) := KP.out.cell 0
  have cP1 : w1.cell? ⟨w.heap.size, 1, none⟩ = some (.int .i64 x0) := KP.out.cell 1
  have cP2 : w1.cell? ⟨w.heap.size, 2, none⟩ = some (.int .i64 x1) := KP.out.cell 2
  have cP3 : w1.cell? ⟨w.heap.size, 3, none⟩ = some (.int .i64 x2) := KP.out.cell 3
  have cP4 : w1.cell? ⟨w.heap.size, 4, none⟩ = some (.int .i64 x3) := KP.out.cell 4
  have cP5 : w1.cell? ⟨w.heap.size, 5, none⟩ = some (.slice A m c) := KP.out.cell 5
  have cQ0 : w1.cell? ⟨(w.heap.size + 1), 0, none⟩ = some (.int .i64 tm) := KQ.out.cell 0
  have cQ1 : w1.cell? ⟨(w.heap.size + 1), 1, none⟩ = some (.int .i64 x0) := KQ.out.cell 1
  have cQ2 : w1.cell? ⟨(w.heap.size + 1), 2, none⟩ = some (.int .i64 x1) := KQ.out.cell 2
  have cQ3 : w1.cell? ⟨(w.heap.size + 1), 3, none⟩ = some (.int .i64 x2) := KQ.out.cell 3
  have cQ4 : w1.cell? ⟨(w.heap.size + 1), 4, none⟩ = some (.int .i64 x3) := KQ.out.cell 4
  have cQ5 : w1.cell? ⟨(w.heap.size + 1), 5, none⟩ = some (.slice B m d) := KQ.out.cell 5
  clear cP0 cP1 cP2 cP3 cP4 cP5 cQ0 cQ1 cQ2 cQ3 cQ4 cQ5
  refine (sameI_eq A B m c d l _ (HA.out.ext HX.out) (HB.out.ext HX.out) (by omega)).mono ?_
  rintro e w2 ⟨rfl, hX⟩
  replace hX : Ext w1 w2 := by with_reducible exact hX
  replace HX := Lib.hid (HX.out.trans hX)
  replace KP := Lib.hid (KP.out.ext hX)
  replace KQ := Lib.hid (KQ.out.ext hX)
  clear hX
  go_wp2
  go_ret
  exact ⟨rfl, HX.out⟩

theorem samePul_eq (q : Pul) (A B : Option Addr) (n c m d : Nat) (w : World) (hA : Ints .i64 w A n q.smp) (hB : Ints .i64 w B m q.smp) (hn : n ≤ 1000000) :
    Calls Try.prog 55 #[q.val A n c, q.val B m d] w (fun e w' => e = .returned (.bool true) ∧ Ext w w') :=
  samePul_at A B n c m d q.time q.q0 q.q1 q.q2 q.q3 q.smp w hA hB hn
theorem decO_len (r : Option Pul) (hr : ∀ q, r = some q → Smp q.smp) : (decO r).1.smp.length ≤ 256 := by
  cases r with
  | none => simp [decO]
  | some q => exact (hr q rfl).1
theorem endD_smp {t q0 q1 q2 q3 : Int} {r : Option (List (Int × Int) × List Int)} {q : Pul} (h : endD t q0 q1 q2 q3 r = some q) : Smp q.smp := by
  cases r with
  | none => cases h
  | some x =>
    obtain ⟨ss, b⟩ := x
    unfold endD at h
    simp only at h
    cases hr : rebF ss none [] with
    | none => rw [hr] at h; cases h
    | some l =>
      rw [hr] at h
      simp only at h
      split at h
      · rename_i hh
        injection h with h
        subst h
        exact hh.2.2.2.2.1
      · cases h
theorem midD_smp {t q0 q1 q2 q3 : Int} {b : List Int} {q : Pul} (h : midD rdSteps t q0 q1 q2 q3 b = some q) : Smp q.smp := by
  unfold midD at h
  split at h
  · cases h
  · split at h
    · cases h
    · exact endD_smp h
theorem decF_smp {b : List Int} {q : Pul} (h : decF b = some q) : Smp q.smp := by
  unfold decF at h
  rw [headD_eq] at h
  split at h
  · cases h
  · split at h
    · cases h
    · exact midD_smp h

set_option maxRecDepth 100000 in
set_option maxHeartbeats 2000000 in
theorem decodes_big (A : Option Addr) (n c : Nat) (w : World) (hn : 5000 < n) :
    Calls Try.prog 17 #[.slice A n c] w (fun e w' => e = .returned (.bool true) ∧ Ext w w') := by
  go_enter Try.func17, Try.ntmps17
  go_wp2_with fail
  have HX := Lib.hid (Ext.refl w)
  refine (firstW_any _).mono ?_
  rintro e w1 ⟨rfl, hX⟩
  replace hX : Ext w w1 := by with_reducible exact hX
  replace HX := Lib.hid (HX.out.trans hX)
  clear hX
  go_wp2
  go_ret
  exact ⟨rfl, HX.out⟩

set_option maxRecDepth 100000 in
set_option maxHeartbeats 4000000 in
theorem decodes_small (A : Option Addr) (n c : Nat) (bs : List Int) (w : World) (hn : ¬ 5000 < n) (hI : Ints .u8 w A n bs) (hc : n ≤ c) :
    Calls Try.prog 17 #[.slice A n c] w (fun e w' => e = .returned (.bool true) ∧ Ext w w') := by
  have hlen := decO_len (decF bs) (fun q h => decF_smp h)
  obtain ⟨⟨⟨tm, x0, x1, x2, x3, l⟩, er⟩, hD⟩ : ∃ r, decO (decF bs) = r := ⟨_, rfl⟩
  rw [hD] at hlen
  simp only at hlen
  have HD := Lib.hid hD
  have HI := Lib.hid hI
  have q9 : (er == er) = true := by simp
  clear hD hI
  go_enter Try.func17, Try.ntmps17
  go_wp2_with fail
  have HX := Lib.hid (Ext.refl w)
  refine (decodeP_any A n c bs _ (HI.out.ext HX.out) (by omega) hc).mono ?_
  rintro e w1 hr
  obtain ⟨Aa, na, ca, rfl, hi, hX⟩ := hr.open
  rw [HD.out] at hi ⊢
  simp only [Pul.val] at hi ⊢
  have Ia := Lib.hid hi
  clear hr hi
  replace hX : Ext w w1 := by with_reducible exact hX
  replace HX := Lib.hid (HX.out.trans hX)
  clear hX
  go_upto_region 4 with (fail)
  have hXa : Ext w1 (w1.alloc (.cells #[.int .i64 tm, .int .i64 x0, .int .i64 x1, .int .i64 x2, .int .i64 x3, .slice Aa na ca] 71)) := (Ext.refl _).alloc _
  have kP := Blk.new w1 71 #[.int .i64 tm, .int .i64 x0, .int .i64 x1, .int .i64 x2, .int .i64 x3, .slice Aa na ca]
  have zg := HX.out.size
  replace HX := Lib.hid (HX.out.trans hXa)
  replace Ia := Lib.hid (Ia.out.ext hXa)
  generalize (w1.alloc (.cells #[.int .i64 tm, .int .i64 x0, .int .i64 x1, .int .i64 x2, .int .i64 x3, .slice Aa na ca] 71)) = w2 at HX Ia kP ⊢
  have KP := Lib.hid kP
  clear kP hXa
  go_wp2_with fail
  refine (decodeR_any A n c bs _ (HI.out.ext HX.out) (by omega) hc).mono ?_
  rintro e w3 hr
  obtain ⟨Ab, nb, cb, rfl, hi, hX⟩ := hr.open
  rw [HD.out] at hi ⊢
  simp only [Pul.val] at hi ⊢
  have Ib := Lib.hid hi
  clear hr hi
  replace hX : Ext w2 w3 := by with_reducible exact hX
  replace HX := Lib.hid (HX.out.trans hX)
  replace Ia := Lib.hid (Ia.out.ext hX)
  replace KP := Lib.hid (KP.out.ext hX)
  clear hX
  go_upto_region 5 with (fail)
  have hXa : Ext w3 (w3.alloc (.cells #[.int .i64 tm, .int .i64 x0, .int .i64 x1, .int .i64 x2, .int .i64 x3, .slice Ab nb cb] 71)) := (Ext.refl _).alloc _
  have kQ := Blk.new w3 71 #[.int .i64 tm, .int .i64 x0, .int .i64 x1, .int .i64 x2, .int .i64 x3, .slice Ab nb cb]
  have zP := KP.out.lt
  have zg := HX.out.size
  replace HX := Lib.hid (HX.out.trans hXa)
  replace Ia := Lib.hid (Ia.out.ext hXa)
  replace Ib := Lib.hid (Ib.out.ext hXa)
  replace KP := Lib.hid (KP.out.ext hXa)
  generalize (w3.alloc (.cells #[.int .i64 tm, .int .i64 x0, .int .i64 x1, .int .i64 x2, .int .i64 x3, .slice Ab nb cb] 71)) = w4 at HX Ia Ib KP kQ ⊢
  have KQ := Lib.hid kQ
  clear kQ hXa
  have cP0 : w4.cell? ⟨w1.heap.size, 0, none⟩ = some (.int .i64 tm) := KP.out.cell 0
  have cP1 : w4.cell? ⟨w1.heap.size, 1, none⟩ = some (.int .i64 x0) := KP.out.cell 1
  have cP2 : w4.cell? ⟨w1.heap.size, 2, none⟩ = some (.int .i64 x1) := KP.out.cell 2
  have cP3 : w4.cell? ⟨w1.heap.size, 3, none⟩ = some (.int .i64 x2) := KP.out.cell 3
  have cP4 : w4.cell? ⟨w1.heap.size, 4, none⟩ = some (.int .i64 x3) := KP.out.cell 4
  have cP5 : w4.cell? ⟨w1.heap.size, 5, none⟩ = some (.slice Aa na ca) := KP.out.cell 5
  have cQ0 : w4.cell? ⟨w3.heap.size, 0, none⟩ = some (.int .i64 tm) := KQ.out.cell 0
  have cQ1 : w4.cell? ⟨w3.heap.size, 1, none⟩ = some (.int .i64 x0) := KQ.out.cell 1
  have cQ2 : w4.cell? ⟨w3.heap.size, 2, none⟩ = some (.int .i64 x1) := KQ.out.cell 2
  have cQ3 : w4.cell? ⟨w3.heap.size, 3, none⟩ = some (.int .i64 x2) := KQ.out.cell 3
  have cQ4 : w4.cell? ⟨w3.heap.size, 4, none⟩ = some (.int .i64 x3) := KQ.out.cell 4
  have cQ5 : w4.cell? ⟨w3.heap.size, 5, none⟩ = some (.slice Ab nb cb) := KQ.out.cell 5
  go_wp2_with fail
  clear cP0 cP1 cP2 cP3 cP4 cP5 cQ0 cQ1 cQ2 cQ3 cQ4 cQ5
  refine (samePul_eq ⟨tm, x0, x1, x2, x3, l⟩ Aa Ab na ca nb cb _ Ia.out Ib.out (by have := Ia.out.1; omega)).mono ?_
  rintro e w5 ⟨rfl, hX⟩
  replace hX : Ext w4 w5 := by with_reducible exact hX
  replace HX := Lib.hid (HX.out.trans hX)
  replace Ia := Lib.hid (Ia.out.ext hX)
  replace Ib := Lib.hid (Ib.out.ext hX)
  replace KP := Lib.hid (KP.out.ext hX)
  replace KQ := Lib.hid (KQ.out.ext hX)
  clear hX
  go_wp2_with fail
  refine (firstW_any _).mono ?_
  rintro e w6 ⟨rfl, hX⟩
  replace hX : Ext w5 w6 := by with_reducible exact hX
  replace HX := Lib.hid (HX.out.trans hX)
  replace Ia := Lib.hid (Ia.out.ext hX)
  replace Ib := Lib.hid (Ib.out.ext hX)
  replace KP := Lib.hid (KP.out.ext hX)
  replace KQ := Lib.hid (KQ.out.ext hX)
  clear hX
  go_wp2
  go_ret
  exact ⟨rfl, HX.out⟩

theorem waveDecodes_walk (A : Option Addr) (n c : Nat) (bs : List Int) (w : World) (h : Ints .u8 w A n bs) (hc : n ≤ c ∧ c ≤ 9223372036854775807) :
    Calls Try.prog 17 #[.slice A n c] w (fun e w' => e = .returned (.bool true) ∧ Ext w w') := by
  by_cases hn : 5000 < n
  · exact decodes_big A n c w hn
  · exact decodes_small A n c bs w hn h hc.1
end Go.Proofs.Ytagcgldhhdecjaa
