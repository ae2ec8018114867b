/- Lemmas of the proof that follows (Sends, part 5): walks of functions by contract, and plain lemmas. Conditions: none. -/
import Derived.Test.YtekhmfliaojabaaSendsD
namespace Go.Proofs.Ytekhmfliaojabaa
open Go.RowKit

theorem offerS_len (s : Snd) (b : List Int) : (offerS s b).1.bodies.length ≤ s.bodies.length + 1 := by
  unfold offerS; split
  · simp
  · split <;> simp
theorem ackS_len (s : Snd) (n : Int) : (ackS s n).1.bodies.length = s.bodies.length := by unfold ackS; split <;> rfl

set_option maxRecDepth 100000 in
set_option maxHeartbeats 2000000 in
theorem sends_r21 (wz : World) (b1 b2 ga ma gb gc : Nat) (vb : Value) (s : Snd) (kd nn : Int) (A2 : Option Addr) (l2 m2 : Nat) (A3 : Option Addr) (l3 m3 : Nat) (w : World) (hX : Ext wz w) (hC : Blk w gc 51 #[.int .i64 kd, .int .i64 nn, .slice A2 l2 m2, .slice A3 l3 m3]) (hP0 : SndP b1 w ga ma s) (hR0 : SndR b2 w gb vb s) (hsl : s.bodies.length ≤ 1000000) (hb1 : wz.heap.size ≤ b1) (hb2 : wz.heap.size ≤ b2) (a : Act) (Q : Exit → Act → World → Prop) (hsize : 103 ≤ a.tmps.size)
    (s7 : a.tmps[7]? = some (.pointer (some ⟨ga, 0, none⟩)))
    (s9 : a.tmps[9]? = some (.pointer (some ⟨gb, 0, none⟩)))
    (s12 : a.tmps[12]? = some (.pointer (some ⟨gc, 0, none⟩)))
    (hend : ∀ (xv0 xv1 xv2 xv3 xv4 xv5 xv6 xv7 xv8 : Value) (W : World), (xv0 = .pointer (some ⟨ga, 0, none⟩)) → (xv1 = .pointer (some ⟨gc, 1, none⟩)) → (xv2 = .int .i64 nn) → (xv3 = .int .i64 (ackS s nn).2) → (xv4 = .pointer (some ⟨gb, 0, none⟩)) → (xv5 = .pointer (some ⟨gc, 1, none⟩)) → (xv6 = .int .i64 nn) → (xv7 = .int .i64 (ackS s nn).2) → (xv8 = .bool false) → Ext wz W ∧ Blk W gc 51 #[.int .i64 kd, .int .i64 nn, .slice A2 l2 m2, .slice A3 l3 m3] ∧ SndP b1 W ga ma (ackS s nn).1 ∧ SndR b2 W gb vb (ackS s nn).1 → wpList Try.prog (rops Try.f7 21).toArray Q ((rops Try.f7 21).drop 9) (((((((((a.put (some 94) xv0).put (some 95) xv1).put (some 96) xv2).put (some 97) xv3).put (some 98) xv4).put (some 99) xv5).put (some 100) xv6).put (some 101) xv7).put (some 102) xv8) W) :
    (Code.region 21 (rops Try.f7 21).toArray true).wp Try.prog Q a w := by
  have hsz : ∀ d, some d ∈ ([some 94, some 95, some 96, some 97, some 98, some 99, some 100, some 101, some 102] : List (Option Tmp)) → d < a.tmps.size := slots_lt (by decide) hsize
  refine wp_region_j 9 [some 94, some 95, some 96, some 97, some 98, some 99, some 100, some 101, some 102] [[], [], [1], [0, 2], [], [], [5], [4, 6], [3, 7]] [[], [], [], [], [], [], [], [], []] (fun i v _ => match i with
    | 0 => v = .pointer (some ⟨ga, 0, none⟩)
    | 1 => v = .pointer (some ⟨gc, 1, none⟩)
    | 2 => v = .int .i64 nn
    | 3 => v = .int .i64 (ackS s nn).2
    | 4 => v = .pointer (some ⟨gb, 0, none⟩)
    | 5 => v = .pointer (some ⟨gc, 1, none⟩)
    | 6 => v = .int .i64 nn
    | 7 => v = .int .i64 (ackS s nn).2
    | 8 => v = .bool false
    | _ => True) (fun done W => Ext wz W ∧ Blk W gc 51 #[.int .i64 kd, .int .i64 nn, .slice A2 l2 m2, .slice A3 l3 m3] ∧ (done 3 → SndP b1 W ga ma (ackS s nn).1) ∧ (¬ done 3 → SndP b1 W ga ma s) ∧ (done 7 → SndR b2 W gb vb (ackS s nn).1) ∧ (¬ done 7 → SndR b2 W gb vb s)) (by kernel_rfl) (by kernel_rfl) hsz (fun p q W h hj => by have e : p = q := funext fun k => propext (h k); subst e; exact hj) ⟨hX.drew, hC.drew, fun h => h.elim, fun _ => hP0.ext (Ext.refl _).drew, fun h => h.elim, fun _ => hR0.ext (Ext.refl _).drew⟩ ?_ ?_
  · clear hend
    simp only [rops, Try.f7, regOf, Option.bind_some, Nat.reduceBEq, if_true, if_false, Bool.false_eq_true, Option.getD_some]
    simp only [List.take_succ_cons, List.take_zero]
    refine ⟨?_, ?_, ?_, ?_, ?_, ?_, ?_, ?_, ?_, trivial⟩
    · intro done us W hJ hdep haft hnot b hb hb' K hK Q'
      have e7 := (hb' 7 (by simp)).trans s7
      clear hb hb'
      go_simp
      exact hK _ _ rfl (fun _ _ _ h => h) ⟨hJ.1, hJ.2.1, fun d => hJ.2.2.1 (d.resolve_right (by decide)), fun d => hJ.2.2.2.1 (fun e => d (.inl e)), fun d => hJ.2.2.2.2.1 (d.resolve_right (by decide)), fun d => hJ.2.2.2.2.2 (fun e => d (.inl e))⟩
    · intro done us W hJ hdep haft hnot b hb hb' K hK Q'
      have e12 := (hb' 12 (by simp)).trans s12
      clear hb hb'
      go_simp
      exact hK _ _ rfl (fun _ _ _ h => h) ⟨hJ.1, hJ.2.1, fun d => hJ.2.2.1 (d.resolve_right (by decide)), fun d => hJ.2.2.2.1 (fun e => d (.inl e)), fun d => hJ.2.2.2.2.1 (d.resolve_right (by decide)), fun d => hJ.2.2.2.2.2 (fun e => d (.inl e))⟩
    · intro done us W hJ hdep haft hnot b hb hb' K hK Q'
      simp only [List.getD_cons_succ, List.getD_cons_zero, List.mem_cons, List.not_mem_nil, or_false, forall_eq_or_imp, forall_eq] at hdep
      have e95 := hb 1 95 rfl
      have d1 := hdep
      rw [d1.1] at e95
      clear hb hb' hdep d1
      have q := hJ.2.1.cell 1
      go_simp
      exact hK _ _ rfl (fun _ _ _ h => h) ⟨hJ.1, hJ.2.1, fun d => hJ.2.2.1 (d.resolve_right (by decide)), fun d => hJ.2.2.2.1 (fun e => d (.inl e)), fun d => hJ.2.2.2.2.1 (d.resolve_right (by decide)), fun d => hJ.2.2.2.2.2 (fun e => d (.inl e))⟩
    · intro done us W hJ hdep haft hnot b hb hb' K hK Q'
      simp only [List.getD_cons_succ, List.getD_cons_zero, List.mem_cons, List.not_mem_nil, or_false, forall_eq_or_imp, forall_eq] at hdep
      have e94 := hb 0 94 rfl
      have e96 := hb 2 96 rfl
      have d0 := hdep.1
      have d2 := hdep.2
      rw [d0.1] at e94
      rw [d2.1] at e96
      clear hb hb' hdep d0 d2
      have hP := hJ.2.2.2.1 hnot
      go_simp
      refine (ackP_any b1 ga ma s nn W hP hsl).mono ?_
      rintro e w' ⟨rfl, hP', hk⟩
      exact hK _ _ rfl (fun _ _ _ h => h) ⟨hk.ext hJ.1 (hP.new hb1), hJ.2.1.away hk (hP.far _ (by decide)), fun _ => hP', fun d => absurd (.inr rfl) d, fun d => (hJ.2.2.2.2.1 (d.resolve_right (by decide))).away hP hk, fun d => (hJ.2.2.2.2.2 (fun e => d (.inl e))).away hP hk⟩
    · intro done us W hJ hdep haft hnot b hb hb' K hK Q'
      have e9 := (hb' 9 (by simp)).trans s9
      clear hb hb'
      go_simp
      exact hK _ _ rfl (fun _ _ _ h => h) ⟨hJ.1, hJ.2.1, fun d => hJ.2.2.1 (d.resolve_right (by decide)), fun d => hJ.2.2.2.1 (fun e => d (.inl e)), fun d => hJ.2.2.2.2.1 (d.resolve_right (by decide)), fun d => hJ.2.2.2.2.2 (fun e => d (.inl e))⟩
    · intro done us W hJ hdep haft hnot b hb hb' K hK Q'
      have e12 := (hb' 12 (by simp)).trans s12
      clear hb hb'
      go_simp
      exact hK _ _ rfl (fun _ _ _ h => h) ⟨hJ.1, hJ.2.1, fun d => hJ.2.2.1 (d.resolve_right (by decide)), fun d => hJ.2.2.2.1 (fun e => d (.inl e)), fun d => hJ.2.2.2.2.1 (d.resolve_right (by decide)), fun d => hJ.2.2.2.2.2 (fun e => d (.inl e))⟩
    · intro done us W hJ hdep haft hnot b hb hb' K hK Q'
      simp only [List.getD_cons_succ, List.getD_cons_zero, List.mem_cons, List.not_mem_nil, or_false, forall_eq_or_imp, forall_eq] at hdep
      have e99 := hb 5 99 rfl
      have d5 := hdep
      rw [d5.1] at e99
      clear hb hb' hdep d5
      have q := hJ.2.1.cell 1
      go_simp
      exact hK _ _ rfl (fun _ _ _ h => h) ⟨hJ.1, hJ.2.1, fun d => hJ.2.2.1 (d.resolve_right (by decide)), fun d => hJ.2.2.2.1 (fun e => d (.inl e)), fun d => hJ.2.2.2.2.1 (d.resolve_right (by decide)), fun d => hJ.2.2.2.2.2 (fun e => d (.inl e))⟩
    · intro done us W hJ hdep haft hnot b hb hb' K hK Q'
      simp only [List.getD_cons_succ, List.getD_cons_zero, List.mem_cons, List.not_mem_nil, or_false, forall_eq_or_imp, forall_eq] at hdep
      have e98 := hb 4 98 rfl
      have e100 := hb 6 100 rfl
      have d4 := hdep.1
      have d6 := hdep.2
      rw [d4.1] at e98
      rw [d6.1] at e100
      clear hb hb' hdep d4 d6
      have hR := hJ.2.2.2.2.2 hnot
      go_simp
      refine (ackR_any b2 gb vb s nn W hR hsl).mono ?_
      rintro e w' ⟨rfl, hR', hk⟩
      exact hK _ _ rfl (fun _ _ _ h => h) ⟨hk.ext hJ.1 (hR.new hb2), hJ.2.1.away hk (hR.far _ (by decide) (by decide)), fun d => (hJ.2.2.1 (d.resolve_right (by decide))).away hR hk, fun d => (hJ.2.2.2.1 (fun e => d (.inl e))).away hR hk, fun _ => hR', fun d => absurd (.inr rfl) d⟩
    · intro done us W hJ hdep haft hnot b hb hb' K hK Q'
      simp only [List.getD_cons_succ, List.getD_cons_zero, List.mem_cons, List.not_mem_nil, or_false, forall_eq_or_imp, forall_eq] at hdep
      have e97 := hb 3 97 rfl
      have e101 := hb 7 101 rfl
      have d3 := hdep.1
      have d7 := hdep.2
      rw [d3.1] at e97
      rw [d7.1] at e101
      clear hb hb' hdep d3 d7
      go_simp
      exact hK _ _ rfl (fun _ _ _ h => h) ⟨hJ.1, hJ.2.1, fun d => hJ.2.2.1 (d.resolve_right (by decide)), fun d => hJ.2.2.2.1 (fun e => d (.inl e)), fun d => hJ.2.2.2.2.1 (d.resolve_right (by decide)), fun d => hJ.2.2.2.2.2 (fun e => d (.inl e))⟩
  · intro us W hV hJ
    exact hend (us 0) (us 1) (us 2) (us 3) (us 4) (us 5) (us 6) (us 7) (us 8) W (hV 0 (by omega)) (hV 1 (by omega)) (hV 2 (by omega)) (hV 3 (by omega)) (hV 4 (by omega)) (hV 5 (by omega)) (hV 6 (by omega)) (hV 7 (by omega)) (hV 8 (by omega)) (by simpa using hJ)
set_option maxRecDepth 100000 in
set_option maxHeartbeats 2000000 in
theorem sends_r27 (b1 b2 ga ma gb gc N : Nat) (vb : Value) (s : Snd) (fs : List Fr) (qs : List Int) (A3 : Option Addr) (l3 m3 : Nat) (w : World) (f3 : w.cell? ⟨gc, 3, none⟩ = some (.slice A3 l3 m3)) (hI : Ints .i64 w A3 l3 qs) (hl : l3 ≤ 40) (hP0 : SndP b1 w ga ma s) (hR0 : SndR b2 w gb vb s) (hsl : s.bodies.length ≤ 1000000) (hfs : againS s qs = fs) (hN : fs.length = N) (hNn : N ≤ 40) (a : Act) (Q : Exit → Act → World → Prop) (hsize : 123 ≤ a.tmps.size)
    (s7 : a.tmps[7]? = some (.pointer (some ⟨ga, 0, none⟩)))
    (s9 : a.tmps[9]? = some (.pointer (some ⟨gb, 0, none⟩)))
    (s12 : a.tmps[12]? = some (.pointer (some ⟨gc, 0, none⟩)))
    (hend : ∀ (xv0 xv1 xv2 xv3 xv4 xv5 xv6 xv7 xv8 xv9 : Value) (W : World), (xv0 = .pointer (some ⟨ga, 0, none⟩)) → (xv1 = .pointer (some ⟨gc, 3, none⟩)) → (xv2 = .slice A3 l3 m3) → (∃ A' c', xv3 = .slice A' N c' ∧ Frs W A' N fs) → (xv4 = .pointer (some ⟨gb, 0, none⟩)) → (xv5 = .pointer (some ⟨gc, 3, none⟩)) → (xv6 = .slice A3 l3 m3) → (∃ A' c', xv7 = .slice A' N c' ∧ Frs W A' N fs) → (xv8 = .bool true) → (xv9 = .bool false) → Ext w W → wpList Try.prog (rops Try.f7 27).toArray Q ((rops Try.f7 27).drop 10) ((((((((((a.put (some 113) xv0).put (some 114) xv1).put (some 115) xv2).put (some 116) xv3).put (some 117) xv4).put (some 118) xv5).put (some 119) xv6).put (some 120) xv7).put (some 121) xv8).put (some 122) xv9) W) :
    (Code.region 27 (rops Try.f7 27).toArray true).wp Try.prog Q a w := by
  have hmono : ∀ (W W' : World) (j : Nat) (u : Value), Ext W W' → (fun (i : Nat) (v : Value) (W : World) => match i with
    | 0 => v = .pointer (some ⟨ga, 0, none⟩)
    | 1 => v = .pointer (some ⟨gc, 3, none⟩)
    | 2 => v = .slice A3 l3 m3
    | 3 => ∃ A' c', v = .slice A' N c' ∧ Frs W A' N fs
    | 4 => v = .pointer (some ⟨gb, 0, none⟩)
    | 5 => v = .pointer (some ⟨gc, 3, none⟩)
    | 6 => v = .slice A3 l3 m3
    | 7 => ∃ A' c', v = .slice A' N c' ∧ Frs W A' N fs
    | 8 => v = .bool true
    | 9 => v = .bool false
    | _ => True) j u W → (fun (i : Nat) (v : Value) (W : World) => match i with
    | 0 => v = .pointer (some ⟨ga, 0, none⟩)
    | 1 => v = .pointer (some ⟨gc, 3, none⟩)
    | 2 => v = .slice A3 l3 m3
    | 3 => ∃ A' c', v = .slice A' N c' ∧ Frs W A' N fs
    | 4 => v = .pointer (some ⟨gb, 0, none⟩)
    | 5 => v = .pointer (some ⟨gc, 3, none⟩)
    | 6 => v = .slice A3 l3 m3
    | 7 => ∃ A' c', v = .slice A' N c' ∧ Frs W A' N fs
    | 8 => v = .bool true
    | 9 => v = .bool false
    | _ => True) j u W' := by
    intro W W' j u hX h
    match j, h with
    | 0, h => exact h
    | 1, h => exact h
    | 2, h => exact h
    | 3, h => obtain ⟨A', c', h1, h2⟩ := h; exact ⟨A', c', h1, h2.ext hX⟩
    | 4, h => exact h
    | 5, h => exact h
    | 6, h => exact h
    | 7, h => obtain ⟨A', c', h1, h2⟩ := h; exact ⟨A', c', h1, h2.ext hX⟩
    | 8, h => exact h
    | 9, h => exact h
    | _ + 10, h => exact h
  have hsz : ∀ d, some d ∈ ([some 113, some 114, some 115, some 116, some 117, some 118, some 119, some 120, some 121, some 122] : List (Option Tmp)) → d < a.tmps.size := slots_lt (by decide) hsize
  refine wp_region_j 10 [some 113, some 114, some 115, some 116, some 117, some 118, some 119, some 120, some 121, some 122] [[], [], [1], [0, 2], [], [], [5], [4, 6], [3, 7], [8]] [[], [], [], [], [], [], [], [], [], []] (fun (i : Nat) (v : Value) (W : World) => match i with
    | 0 => v = .pointer (some ⟨ga, 0, none⟩)
    | 1 => v = .pointer (some ⟨gc, 3, none⟩)
    | 2 => v = .slice A3 l3 m3
    | 3 => ∃ A' c', v = .slice A' N c' ∧ Frs W A' N fs
    | 4 => v = .pointer (some ⟨gb, 0, none⟩)
    | 5 => v = .pointer (some ⟨gc, 3, none⟩)
    | 6 => v = .slice A3 l3 m3
    | 7 => ∃ A' c', v = .slice A' N c' ∧ Frs W A' N fs
    | 8 => v = .bool true
    | 9 => v = .bool false
    | _ => True) (fun _ W => Ext w W) (by kernel_rfl) (by kernel_rfl) hsz (fun _ _ _ _ h => h) ((Ext.refl w).drew) ?_ ?_
  · clear hend
    simp only [rops, Try.f7, regOf, Option.bind_some, Nat.reduceBEq, if_true, if_false, Bool.false_eq_true, Option.getD_some]
    simp only [List.take_succ_cons, List.take_zero]
    refine ⟨?_, ?_, ?_, ?_, ?_, ?_, ?_, ?_, ?_, ?_, trivial⟩
    · intro done us W hJ hdep haft hnot b hb hb' K hK Q'
      have e7 := (hb' 7 (by simp)).trans s7
      clear hb hb'
      go_simp
      exact hK _ _ rfl (fun _ _ _ h => h) hJ
    · intro done us W hJ hdep haft hnot b hb hb' K hK Q'
      have e12 := (hb' 12 (by simp)).trans s12
      clear hb hb'
      go_simp
      exact hK _ _ rfl (fun _ _ _ h => h) hJ
    · intro done us W hJ hdep haft hnot b hb hb' K hK Q'
      simp only [List.getD_cons_succ, List.getD_cons_zero, List.mem_cons, List.not_mem_nil, or_false, forall_eq_or_imp, forall_eq] at hdep
      have e114 := hb 1 114 rfl
      have d1 := hdep
      rw [d1.1] at e114
      clear hb hb' hdep d1
      have q := Ext.cell hJ f3
      go_simp
      exact hK _ _ rfl (fun _ _ _ h => h) hJ
    · intro done us W hJ hdep haft hnot b hb hb' K hK Q'
      simp only [List.getD_cons_succ, List.getD_cons_zero, List.mem_cons, List.not_mem_nil, or_false, forall_eq_or_imp, forall_eq] at hdep
      have e113 := hb 0 113 rfl
      have e115 := hb 2 115 rfl
      have d0 := hdep.1
      have d2 := hdep.2
      rw [d0.1] at e113
      rw [d2.1] at e115
      clear hb hb' hdep d0 d2
      go_simp
      refine (againP_any b1 ga ma s A3 l3 m3 qs W (hP0.ext hJ) hsl (hI.ext hJ) (by omega)).mono ?_
      rintro e w' ⟨v, rfl, hv, hX⟩
      obtain ⟨A', c', rfl, hf, _, _⟩ := hv.frs
      rw [hfs] at hf ⊢
      rw [hN] at hf ⊢
      exact hK _ _ ⟨A', c', rfl, hf⟩ (fun j u _ h => hmono _ _ j u hX h) (Ext.trans hJ hX)
    · intro done us W hJ hdep haft hnot b hb hb' K hK Q'
      have e9 := (hb' 9 (by simp)).trans s9
      clear hb hb'
      go_simp
      exact hK _ _ rfl (fun _ _ _ h => h) hJ
    · intro done us W hJ hdep haft hnot b hb hb' K hK Q'
      have e12 := (hb' 12 (by simp)).trans s12
      clear hb hb'
      go_simp
      exact hK _ _ rfl (fun _ _ _ h => h) hJ
    · intro done us W hJ hdep haft hnot b hb hb' K hK Q'
      simp only [List.getD_cons_succ, List.getD_cons_zero, List.mem_cons, List.not_mem_nil, or_false, forall_eq_or_imp, forall_eq] at hdep
      have e118 := hb 5 118 rfl
      have d5 := hdep
      rw [d5.1] at e118
      clear hb hb' hdep d5
      have q := Ext.cell hJ f3
      go_simp
      exact hK _ _ rfl (fun _ _ _ h => h) hJ
    · intro done us W hJ hdep haft hnot b hb hb' K hK Q'
      simp only [List.getD_cons_succ, List.getD_cons_zero, List.mem_cons, List.not_mem_nil, or_false, forall_eq_or_imp, forall_eq] at hdep
      have e117 := hb 4 117 rfl
      have e119 := hb 6 119 rfl
      have d4 := hdep.1
      have d6 := hdep.2
      rw [d4.1] at e117
      rw [d6.1] at e119
      clear hb hb' hdep d4 d6
      go_simp
      refine (againR_any b2 gb vb s A3 l3 m3 qs W (hR0.ext hJ) hsl (hI.ext hJ) (by omega)).mono ?_
      rintro e w' ⟨v, rfl, hv, hX⟩
      obtain ⟨A', c', rfl, hf, _, _⟩ := hv.frs
      rw [hfs] at hf ⊢
      rw [hN] at hf ⊢
      exact hK _ _ ⟨A', c', rfl, hf⟩ (fun j u _ h => hmono _ _ j u hX h) (Ext.trans hJ hX)
    · intro done us W hJ hdep haft hnot b hb hb' K hK Q'
      simp only [List.getD_cons_succ, List.getD_cons_zero, List.mem_cons, List.not_mem_nil, or_false, forall_eq_or_imp, forall_eq] at hdep
      have e116 := hb 3 116 rfl
      have e120 := hb 7 120 rfl
      have d3 := hdep.1
      have d7 := hdep.2
      clear hb hb' hdep 
      obtain ⟨A', c', e', hf⟩ := d3.1
      obtain ⟨A2, c2, e2, hf2⟩ := d7.1
      rw [e'] at e116
      rw [e2] at e120
      go_simp
      refine (sameFrames_eq A' A2 N c' c2 fs W hf hf2 (by omega)).mono ?_
      rintro e w' ⟨rfl, hX⟩
      exact hK _ _ rfl (fun j u _ h => hmono _ _ j u hX h) (Ext.trans hJ hX)
    · intro done us W hJ hdep haft hnot b hb hb' K hK Q'
      simp only [List.getD_cons_succ, List.getD_cons_zero, List.mem_cons, List.not_mem_nil, or_false, forall_eq_or_imp, forall_eq] at hdep
      have e121 := hb 8 121 rfl
      have d8 := hdep
      rw [d8.1] at e121
      clear hb hb' hdep d8
      go_simp
      exact hK _ _ rfl (fun _ _ _ h => h) hJ
  · intro us W hV hJ
    exact hend (us 0) (us 1) (us 2) (us 3) (us 4) (us 5) (us 6) (us 7) (us 8) (us 9) W (hV 0 (by omega)) (hV 1 (by omega)) (hV 2 (by omega)) (hV 3 (by omega)) (hV 4 (by omega)) (hV 5 (by omega)) (hV 6 (by omega)) (hV 7 (by omega)) (hV 8 (by omega)) (hV 9 (by omega)) hJ

theorem tmod4 (x : Int) : (IntKind.u64.wrap x).tmod 4 = 0 ∨ (IntKind.u64.wrap x).tmod 4 = 1 ∨ (IntKind.u64.wrap x).tmod 4 = 2 ∨ (IntKind.u64.wrap x).tmod 4 = 3 := by
  have h : 0 ≤ IntKind.u64.wrap x := by simp [IntKind.wrap, IntKind.signed, IntKind.bits]; omega
  rw [Int.tmod_eq_emod_of_nonneg h]
  omega
set_option maxRecDepth 100000 in
set_option maxHeartbeats 8000000 in
theorem linkSends_walk (st wn : Int) (A : Option Addr) (n c : Nat) (fs : List (Int × Int × List Int × List Int)) (w : World) (hE : Els SendE w A n fs) :
    Calls Try.prog 7 #[.int .i64 st, .int .i64 wn, .slice A n c] w fun e w' => e = .returned (.bool true) ∧ Ext w w' := by
  have HE := Lib.hid hE
  clear hE
  have HX := Lib.hid (Ext.refl w)
  by_cases hn : 60 < n
  · go_enter Try.func7, Try.ntmps7
    go_wp2_with fail
    refine (awake _).mono ?_
    rintro e w9 ⟨rfl, hX9⟩
    have HX9 := Lib.hid (HX.out.trans hX9)
    clear hX9
    go_wp2
    go_ret
    exact ⟨rfl, HX9.out⟩
  by_cases hbad : BadS st wn
  · go_enter Try.func7, Try.ntmps7
    go_wp2_with fail
    refine (newP_bad st wn _ hbad).mono ?_
    rintro e w1 ⟨rfl, hX1⟩
    replace HX := Lib.hid (HX.out.trans hX1)
    clear hX1
    go_wp2_with fail
    refine (newR_bad st wn _ hbad).mono ?_
    rintro e w2 ⟨rfl, hX1⟩
    replace HX := Lib.hid (HX.out.trans hX1)
    clear hX1
    go_wp2_with fail
    refine (awake _).mono ?_
    rintro e w9 ⟨rfl, hX9⟩
    have HX9 := Lib.hid (HX.out.trans hX9)
    clear hX9
    go_wp2
    go_ret
    exact ⟨rfl, HX9.out⟩
  go_enter Try.func7, Try.ntmps7
  go_wp2_with fail
  refine (newP_any st wn _ hbad).mono ?_
  rintro e w1 ⟨ga, ma, rfl, hP, hX1⟩
  have HP := Lib.hid hP
  replace HX := Lib.hid (HX.out.trans hX1)
  have hb1 := Nat.le_refl w.heap.size
  clear hP hX1
  go_wp2_with fail
  refine (newR_any st wn _ hbad).mono ?_
  rintro e w2 ⟨gb, vb, rfl, hR, hX1⟩
  have HR := Lib.hid hR
  replace HP := Lib.hid (HP.out.ext hX1)
  have hb2 := HX.out.size
  replace HX := Lib.hid (HX.out.trans hX1)
  clear hR hX1
  obtain ⟨b2, hb2'⟩ : ∃ b, b = w1.heap.size := ⟨_, rfl⟩
  rw [← hb2'] at HR hb2
  clear hb2' hbad
  go_wp2_with fail
  go_loopg [48] n (fun f i wr => ∃ (k : Nat) (s : Snd) (vb : Value), f = n - k ∧ k ≤ n ∧ i = .int .i64 k ∧ s.bodies.length ≤ k ∧ Hid (SndP w.heap.size wr ga ma s) ∧ Hid (SndR b2 wr gb vb s) ∧ Hid (Ext w wr))
  case atStart => exact ⟨0, _, vb, rfl, by omega, rfl, by simp [snd0], HP, HR, HX⟩
  case round =>
    clear HX HP HR vb
    obtain ⟨k, s, vb, rfl, hk, rfl, hsk, HP, HR, HX⟩ := hrel
    by_cases hlt : k < n
    · obtain ⟨b, off, f, cs, rfl, hf, ⟨A2, l2, m2, A3, l3, m3, rfl, hq1, hq2, ⟨hI2, hl2, hm2⟩, ⟨hI3, hl3, hm3⟩⟩, hc⟩ := HE.out.get SendE.len (by omega) hlt
      obtain ⟨kd, nn, body, qs⟩ := f
      simp only at hq1 hq2 hI2 hI3 hc
      have q0 := HX.out.cell (hc 0 _ rfl)
      have q1 := HX.out.cell (hc 1 _ rfl)
      have q2 := HX.out.cell (hc 2 _ rfl)
      have q3 := HX.out.cell (hc 3 _ rfl)
      rw [Nat.add_zero] at q0
      have HI2 := Lib.hid hI2
      have HI3 := Lib.hid hI3
      clear hI2 hI3 hf hc
      by_cases h1 : 1032 < l2
      · go_wp2_with fail
        refine (awake _).mono ?_
        rintro e w9 ⟨rfl, hX9⟩
        have HX9 := Lib.hid ((HX.out.alloc _).trans hX9)
        clear hX9
        go_wp2
        go_ret
        exact ⟨rfl, HX9.out⟩
      by_cases h2 : 40 < l3
      · go_wp2_with fail
        refine (awake _).mono ?_
        rintro e w9 ⟨rfl, hX9⟩
        have HX9 := Lib.hid ((HX.out.alloc _).trans hX9)
        clear hX9
        go_wp2
        go_ret
        exact ⟨rfl, HX9.out⟩
      rcases tmod4 kd with h0 | h0 | h0 | h0
      · have hr0 : (IntKind.u64.wrap kd).tmod 4 = 0 := h0
        clear h0
        go_wp2_with fail
        clear q0 q1 q2 q3
        have hXa : Ext wr (wr.alloc (.cells #[.int .i64 kd, .int .i64 nn, .slice A2 l2 m2, .slice A3 l3 m3] 51)) := (Ext.refl _).alloc _
        have kb := Blk.new wr 51 #[.int .i64 kd, .int .i64 nn, .slice A2 l2 m2, .slice A3 l3 m3]
        generalize wr.alloc (.cells #[.int .i64 kd, .int .i64 nn, .slice A2 l2 m2, .slice A3 l3 m3] 51) = w3 at hXa kb ⊢
        replace HP := Lib.hid (HP.out.ext hXa)
        replace HR := Lib.hid (HR.out.ext hXa)
        replace HX := Lib.hid (HX.out.trans hXa)
        have KC := Lib.hid kb
        clear hXa kb
        obtain ⟨r, hr⟩ : ∃ r, offerS s body = r := ⟨_, rfl⟩
        have hlen := offerS_len s body
        rw [hr] at hlen
        obtain ⟨s', ⟨f1, f2, f3⟩, er⟩ := r
        have hP := offerP_any _ ga ma s A2 l2 m2 body w3 HP.out (HI2.out.ext HX.out) (by omega) (by omega)
        rw [hr] at hP
        refine hP.mono ?_
        rintro e w4 ⟨v, rfl, ⟨A4, n4, c4, rfl, hO4⟩, hP4, hk⟩
        simp only at hO4 hP4 hlen ⊢
        have HO4 := Lib.hid hO4
        replace HR := Lib.hid (HR.out.away HP.out hk)
        replace HX := Lib.hid (hk.ext HX.out (HP.out.new hb1))
        replace KC := Lib.hid (KC.out.away hk (HP.out.far _ (by decide)))
        replace HP := Lib.hid hP4
        have HRR := Lib.hid hr
        clear hP hP4 hk hO4 hr
        go_upto_region 17 with (fail)
        have hXa : Ext w4 (w4.alloc (.cells #[.int .i64 f1, .int .i64 f2, .slice A4 n4 c4] 38)) := (Ext.refl _).alloc _
        have kb := Blk.new w4 38 #[.int .i64 f1, .int .i64 f2, .slice A4 n4 c4]
        generalize w4.alloc (.cells #[.int .i64 f1, .int .i64 f2, .slice A4 n4 c4] 38) = w5 at hXa kb ⊢
        replace HP := Lib.hid (HP.out.ext hXa)
        replace HR := Lib.hid (HR.out.ext hXa)
        replace KC := Lib.hid (KC.out.ext hXa)
        replace HO4 := Lib.hid (HO4.out.ext hXa)
        replace HX := Lib.hid (HX.out.trans hXa)
        have KX := Lib.hid kb
        clear hXa kb
        have z2 := KC.out.cell 2
        go_wp2_with fail
        clear z2
        have hR := offerR_any _ gb vb s A2 l2 m2 body w5 HR.out (HI2.out.ext HX.out) hl2 hm2 (by omega) (by omega)
        rw [HRR.out] at hR
        refine hR.mono ?_
        rintro e w6 ⟨u, vb', rfl, ⟨A6, n6, c6, rfl, hO6⟩, hR6, hk⟩
        simp only at hO6 hR6 ⊢
        have HO6 := Lib.hid hO6
        replace HP := Lib.hid (HP.out.away HR.out hk)
        replace HX := Lib.hid (hk.ext HX.out (HR.out.new hb2))
        replace KX := Lib.hid (KX.out.away hk (HR.out.far _ (by decide) (by decide)))
        replace HO4 := Lib.hid (HO4.out.keeps hk (HR.out.far _ (by decide) (by decide)))
        replace HR := Lib.hid hR6
        clear hR hR6 hk hO6 KC
        go_upto_region 18 with (fail)
        have hXa : Ext w6 (w6.alloc (.cells #[.int .i64 f1, .int .i64 f2, .slice A6 n6 c6] 38)) := (Ext.refl _).alloc _
        have kb := Blk.new w6 38 #[.int .i64 f1, .int .i64 f2, .slice A6 n6 c6]
        generalize w6.alloc (.cells #[.int .i64 f1, .int .i64 f2, .slice A6 n6 c6] 38) = w7 at hXa kb ⊢
        replace HP := Lib.hid (HP.out.ext hXa)
        replace HR := Lib.hid (HR.out.ext hXa)
        replace KX := Lib.hid (KX.out.ext hXa)
        replace HO4 := Lib.hid (HO4.out.ext hXa)
        replace HO6 := Lib.hid (HO6.out.ext hXa)
        replace HX := Lib.hid (HX.out.trans hXa)
        have KY := Lib.hid kb
        clear hXa kb
        have x0 := KX.out.cell 0
        have x1 := KX.out.cell 1
        have x2 := KX.out.cell 2
        have y0 := KY.out.cell 0
        have y1 := KY.out.cell 1
        have y2 := KY.out.cell 2
        go_wp2_with fail
        refine (sameFrame_eq f1 f2 A4 A6 n4 c4 n6 c6 f3 w7 HO4.out.ints HO6.out.ints).mono ?_
        rintro e w8 ⟨rfl, hX8⟩
        clear x0 x1 x2 y0 y1 y2
        replace HP := Lib.hid (HP.out.ext hX8)
        replace HR := Lib.hid (HR.out.ext hX8)
        replace HX := Lib.hid (HX.out.trans hX8)
        clear hX8
        go_wp2_with fail
        go_roundg (n - (k + 1))
        case rel => exact ⟨k + 1, s', vb', rfl, by omega, by go_num, by omega, HP, HR, HX⟩
        case measure => omega
      · have hr0 : (IntKind.u64.wrap kd).tmod 4 = 1 := h0
        clear h0
        go_upto_region 21 with (fail)
        clear q0 q1 q2 q3
        have hXa : Ext wr (wr.alloc (.cells #[.int .i64 kd, .int .i64 nn, .slice A2 l2 m2, .slice A3 l3 m3] 51)) := (Ext.refl _).alloc _
        have kb := Blk.new wr 51 #[.int .i64 kd, .int .i64 nn, .slice A2 l2 m2, .slice A3 l3 m3]
        generalize wr.alloc (.cells #[.int .i64 kd, .int .i64 nn, .slice A2 l2 m2, .slice A3 l3 m3] 51) = w3 at hXa kb ⊢
        replace HP := Lib.hid (HP.out.ext hXa)
        replace HR := Lib.hid (HR.out.ext hXa)
        replace HX := Lib.hid (HX.out.trans hXa)
        have KC := Lib.hid kb
        clear hXa kb
        refine sends_r21 w _ b2 ga ma gb wr.heap.size vb s kd nn A2 l2 m2 A3 l3 m3 w3 HX.out KC.out HP.out HR.out (by omega) hb1 hb2 _ _ (by simp) rfl rfl rfl ?_
        rintro xv0 xv1 xv2 xv3 xv4 xv5 xv6 xv7 xv8 w4 rfl rfl rfl rfl rfl rfl rfl rfl rfl ⟨hX4, _, hP4, hR4⟩
        simp only [rops, Try.f7, regOf, Option.bind_some, Nat.reduceBEq, if_true, if_false, Bool.false_eq_true, Option.getD_some, List.drop_succ_cons, List.drop_zero]
        simp only [Act.put, List.setIfInBounds_toArray, List.set_cons_succ, List.set_cons_zero]
        have hlen := ackS_len s nn
        replace HX := Lib.hid hX4
        replace HP := Lib.hid hP4
        replace HR := Lib.hid hR4
        have hlen2 : (ackS s nn).1.bodies.length ≤ k + 1 := by omega
        clear hX4 hP4 hR4 KC hlen
        go_wp2_with fail
        go_roundg (n - (k + 1))
        case rel => exact ⟨k + 1, _, vb, rfl, by omega, by go_num, hlen2, HP, HR, HX⟩
        case measure => omega
      · have hr0 : (IntKind.u64.wrap kd).tmod 4 = 2 := h0
        clear h0
        go_wp2_with fail
        clear q0 q1 q2 q3
        have hXa : Ext wr (wr.alloc (.cells #[.int .i64 kd, .int .i64 nn, .slice A2 l2 m2, .slice A3 l3 m3] 51)) := (Ext.refl _).alloc _
        have kb := Blk.new wr 51 #[.int .i64 kd, .int .i64 nn, .slice A2 l2 m2, .slice A3 l3 m3]
        generalize wr.alloc (.cells #[.int .i64 kd, .int .i64 nn, .slice A2 l2 m2, .slice A3 l3 m3] 51) = w3 at hXa kb ⊢
        replace HP := Lib.hid (HP.out.ext hXa)
        replace HR := Lib.hid (HR.out.ext hXa)
        replace HX := Lib.hid (HX.out.trans hXa)
        have KC := Lib.hid kb
        clear hXa kb
        refine (pendP_any _ ga ma s _ HP.out (by omega)).mono ?_
        rintro e w4 ⟨v, rfl, hv, hX4⟩
        obtain ⟨A4, c4, rfl, hf4, _, _⟩ := hv.frs
        have HF4 := Lib.hid hf4
        replace HR := Lib.hid (HR.out.ext hX4)
        replace HP := Lib.hid (HP.out.ext hX4)
        replace HX := Lib.hid (HX.out.trans hX4)
        clear hv hf4 hX4
        go_wp2_with fail
        refine (pendR_any _ gb vb s _ HR.out (by omega)).mono ?_
        rintro e w5 ⟨v, rfl, hv, hX5⟩
        obtain ⟨A5, c5, rfl, hf5, _, _⟩ := hv.frs
        have HF5 := Lib.hid hf5
        replace HF4 := Lib.hid (HF4.out.ext hX5)
        replace HR := Lib.hid (HR.out.ext hX5)
        replace HP := Lib.hid (HP.out.ext hX5)
        replace HX := Lib.hid (HX.out.trans hX5)
        clear hv hf5 hX5
        have hpl : (pendS s).length ≤ 60 := by rw [pendS_len]; omega
        go_wp2_with fail
        refine (sameFrames_eq A4 A5 _ c4 c5 (pendS s) _ HF4.out HF5.out (by omega)).mono ?_
        rintro e w6 ⟨rfl, hX6⟩
        replace HR := Lib.hid (HR.out.ext hX6)
        replace HP := Lib.hid (HP.out.ext hX6)
        replace HX := Lib.hid (HX.out.trans hX6)
        clear hX6
        go_wp2_with fail
        go_roundg (n - (k + 1))
        case rel => exact ⟨k + 1, s, vb, rfl, by omega, by go_num, by omega, HP, HR, HX⟩
        case measure => omega
      · have hr0 : (IntKind.u64.wrap kd).tmod 4 = 3 := h0
        clear h0
        go_upto_region 27 with (fail)
        clear q0 q1 q2 q3
        have hXa : Ext wr (wr.alloc (.cells #[.int .i64 kd, .int .i64 nn, .slice A2 l2 m2, .slice A3 l3 m3] 51)) := (Ext.refl _).alloc _
        have kb := Blk.new wr 51 #[.int .i64 kd, .int .i64 nn, .slice A2 l2 m2, .slice A3 l3 m3]
        generalize wr.alloc (.cells #[.int .i64 kd, .int .i64 nn, .slice A2 l2 m2, .slice A3 l3 m3] 51) = w3 at hXa kb ⊢
        replace HP := Lib.hid (HP.out.ext hXa)
        replace HR := Lib.hid (HR.out.ext hXa)
        replace HX := Lib.hid (HX.out.trans hXa)
        have KC := Lib.hid kb
        clear hXa kb
        refine sends_r27 _ b2 ga ma gb wr.heap.size (againS s qs).length vb s _ qs A3 l3 m3 w3 (KC.out.cell 3) (HI3.out.ext HX.out) (by omega) HP.out HR.out (by omega) rfl rfl (by have := againS_len s qs; have := HI3.out.1; omega) _ _ (by simp) rfl rfl rfl ?_
        rintro xv0 xv1 xv2 xv3 xv4 xv5 xv6 xv7 xv8 xv9 w4 rfl rfl rfl _ rfl rfl rfl _ rfl rfl hX4
        simp only [rops, Try.f7, regOf, Option.bind_some, Nat.reduceBEq, if_true, if_false, Bool.false_eq_true, Option.getD_some, List.drop_succ_cons, List.drop_zero]
        simp only [Act.put, List.setIfInBounds_toArray, List.set_cons_succ, List.set_cons_zero]
        replace HR := Lib.hid (HR.out.ext hX4)
        replace HP := Lib.hid (HP.out.ext hX4)
        replace HX := Lib.hid (HX.out.trans hX4)
        clear hX4 KC
        go_wp2_with fail
        go_roundg (n - (k + 1))
        case rel => exact ⟨k + 1, s, vb, rfl, by omega, by go_num, by omega, HP, HR, HX⟩
        case measure => omega
    · go_wp2_with fail
      refine (pendP_any _ ga ma s _ HP.out (by omega)).mono ?_
      rintro e w4 ⟨v, rfl, hv, hX4⟩
      obtain ⟨A4, c4, rfl, hf4, _, _⟩ := hv.frs
      have HF4 := Lib.hid hf4
      replace HR := Lib.hid (HR.out.ext hX4)
      replace HP := Lib.hid (HP.out.ext hX4)
      replace HX := Lib.hid (HX.out.trans hX4)
      clear hv hf4 hX4
      go_wp2_with fail
      refine (pendR_any _ gb vb s _ HR.out (by omega)).mono ?_
      rintro e w5 ⟨v, rfl, hv, hX5⟩
      obtain ⟨A5, c5, rfl, hf5, _, _⟩ := hv.frs
      have HF5 := Lib.hid hf5
      replace HF4 := Lib.hid (HF4.out.ext hX5)
      replace HR := Lib.hid (HR.out.ext hX5)
      replace HP := Lib.hid (HP.out.ext hX5)
      replace HX := Lib.hid (HX.out.trans hX5)
      clear hv hf5 hX5
      have hpl : (pendS s).length ≤ 60 := by rw [pendS_len]; omega
      go_wp2_with fail
      refine (sameFrames_eq A4 A5 _ c4 c5 (pendS s) _ HF4.out HF5.out (by omega)).mono ?_
      rintro e w6 ⟨rfl, hX6⟩
      replace HR := Lib.hid (HR.out.ext hX6)
      replace HP := Lib.hid (HP.out.ext hX6)
      replace HX := Lib.hid (HX.out.trans hX6)
      clear hX6
      go_wp2_with fail
      refine (awake _).mono ?_
      rintro e w9 ⟨rfl, hX9⟩
      have HX9 := Lib.hid (HX.out.trans hX9)
      clear hX9
      go_wp2
      go_ret
      exact ⟨rfl, HX9.out⟩

end Go.Proofs.Ytekhmfliaojabaa
