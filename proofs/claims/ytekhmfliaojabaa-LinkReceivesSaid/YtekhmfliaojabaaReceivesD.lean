/- Lemmas of the proof that follows (Receives, part 4): walks of functions by contract, and plain lemmas. Conditions: none. -/
import Derived.Test.YtekhmfliaojabaaReceivesC
namespace Go.Proofs.Ytekhmfliaojabaa
open Go.RowKit

/-- What has answers. -/
def HasI (h : List Dlv) (s z : Int) : Prop := (findD h s = none ∧ z = -1) ∨ ∃ (i : Nat) (d : Dlv), z = i ∧ h[i]? = some d ∧ findD h s = some d
theorem findD_step {h : List Dlv} {k : Nat} {d : Dlv} {s : Int} (h0 : findD (h.take k) s = none) (hd : h[k]? = some d) (hs : d.seq ≠ s) : findD (h.take (k + 1)) s = none := by
  rw [findD_none] at h0 ⊢
  intro x hx
  rw [List.take_add_one, hd] at hx
  rcases List.mem_append.1 hx with hx | hx
  · exact h0 x hx
  · simp at hx; subst hx; exact hs
theorem findD_at {h : List Dlv} {k : Nat} {d : Dlv} {s : Int} (h0 : findD (h.take k) s = none) (hd : h[k]? = some d) (hs : d.seq = s) : findD h s = some d := by
  have e : h = h.take k ++ d :: h.drop (k + 1) := by
    obtain ⟨hk, rfl⟩ := List.getElem?_eq_some_iff.1 hd
    rw [List.getElem_cons_drop, List.take_append_drop]
  rw [e]
  unfold findD at h0 ⊢
  rw [List.find?_append, h0]
  simp [hs]


set_option maxRecDepth 100000 in
set_option maxHeartbeats 2000000 in
theorem hasR_any (base g : Nat) (v : Value) (st wn n : Int) (h : List Dlv) (s : Int) (w : World) (hq : RecQ base w g v st wn n h) (hl : h.length ≤ 1000) :
    Calls Try.prog 90 #[.pointer (some ⟨g, 0, none⟩), .int .i64 s] w (fun e w' => ∃ z : Int, e = .returned (.int .i64 z) ∧ w = w' ∧ HasI h s z) := by
  have HQ := Lib.hid hq
  have f3 := hq.blk.cell 3
  obtain ⟨A0, c0, rfl⟩ := hq.row.slice
  clear hq
  go_enter Try.func90, Try.ntmps90
  go_wp2_with fail
  go_loopg [11] h.length (fun f i wr => ∃ k : Nat, f = h.length - k ∧ k ≤ h.length ∧ i = .int .i64 (k : Int) ∧ Hid (findD (h.take k) s = none) ∧ w = wr)
  case atStart => exact ⟨0, rfl, by omega, rfl, Lib.hid rfl, rfl⟩
  case round =>
    obtain ⟨k, rfl, hk, rfl, HN, rfl⟩ := hrel
    by_cases hlt : k < h.length
    · obtain ⟨gb, c, d, A, m, cc, e, hd, hc0, hc1, hc2, hO⟩ := HQ.out.row.get hlt
      injection e with e1 e2 e3
      subst e1 e3
      have HD := Lib.hid hd
      clear hd hO hc1 hc2
      by_cases hs : d.seq = s
      · have q1 : (d.seq == s) = true := by simpa using hs
        have HS := Lib.hid hs
        clear hs
        go_wp2
        go_ret
        exact ⟨k, rfl, rfl, .inr ⟨k, d, rfl, HD.out, findD_at HN.out HD.out HS.out⟩⟩
      · have q1 : (d.seq == s) = false := by simpa using hs
        have HS := Lib.hid hs
        clear hs
        go_wp2
        go_roundg (h.length - (k + 1))
        case rel => exact ⟨k + 1, rfl, by omega, by go_num, Lib.hid (findD_step HN.out HD.out HS.out), rfl⟩
        case measure => omega
    · go_wp2
      go_ret
      refine ⟨-1, rfl, rfl, .inl ⟨?_, rfl⟩⟩
      have := HN.out
      rwa [List.take_of_length_le (by omega)] at this

set_option maxRecDepth 100000 in
set_option maxHeartbeats 2000000 in
theorem keep_r1 (g gd : Nat) (sq nx : Int) (fb : Bool) (w : World) (y0 : w.cell? ⟨gd, 0, none⟩ = some (.int .i64 sq)) (f2 : w.cell? ⟨g, 2, none⟩ = some (.int .i64 nx)) (hfb : Hid (decide (sq < nx) = fb)) (a : Act) (Q : Exit → Act → World → Prop) (hsize : 17 ≤ a.tmps.size)
    (s0 : a.tmps[0]? = some (.pointer (some ⟨g, 0, none⟩)))
    (s3 : a.tmps[3]? = some (.pointer (some ⟨gd, 0, none⟩)))
    (hend : ∀ (xv0 xv1 xv2 xv3 xv4 xv5 xv6 : Value) (W : World), (xv0 = .pointer (some ⟨gd, 0, none⟩)) → (xv1 = .int .i64 sq) → (xv2 = .pointer (some ⟨g, 0, none⟩)) → (xv3 = .pointer (some ⟨g, 0, none⟩)) → (xv4 = .pointer (some ⟨g, 2, none⟩)) → (xv5 = .int .i64 nx) → (xv6 = .bool fb) → Ext w W → wpList Try.prog (rops Try.f83 1).toArray Q ((rops Try.f83 1).drop 7) (((((((a.put (some 10) xv0).put (some 11) xv1).put (some 12) xv2).put (some 13) xv3).put (some 14) xv4).put (some 15) xv5).put (some 16) xv6) W) :
    (Code.region 1 (rops Try.f83 1).toArray true).wp Try.prog Q a w := by
  have hmono : ∀ (W W' : World) (j : Nat) (u : Value), Ext W W' → (fun (i : Nat) (v : Value) (W : World) => match i with
    | 0 => v = .pointer (some ⟨gd, 0, none⟩)
    | 1 => v = .int .i64 sq
    | 2 => v = .pointer (some ⟨g, 0, none⟩)
    | 3 => v = .pointer (some ⟨g, 0, none⟩)
    | 4 => v = .pointer (some ⟨g, 2, none⟩)
    | 5 => v = .int .i64 nx
    | 6 => v = .bool fb
    | _ => True) j u W → (fun (i : Nat) (v : Value) (W : World) => match i with
    | 0 => v = .pointer (some ⟨gd, 0, none⟩)
    | 1 => v = .int .i64 sq
    | 2 => v = .pointer (some ⟨g, 0, none⟩)
    | 3 => v = .pointer (some ⟨g, 0, none⟩)
    | 4 => v = .pointer (some ⟨g, 2, none⟩)
    | 5 => v = .int .i64 nx
    | 6 => v = .bool fb
    | _ => True) j u W' := by
    intro W W' j u hX h
    match j, h with
    | 0, h => exact h
    | 1, h => exact h
    | 2, h => exact h
    | 3, h => exact h
    | 4, h => exact h
    | 5, h => exact h
    | 6, h => exact h
    | _ + 7, h => exact h
  have hsz : ∀ d, some d ∈ ([some 10, some 11, some 12, some 13, some 14, some 15, some 16] : List (Option Tmp)) → d < a.tmps.size := slots_lt (by decide) hsize
  refine wp_region_j 7 [some 10, some 11, some 12, some 13, some 14, some 15, some 16] [[], [0], [], [2], [3], [4], [1, 5]] [[], [], [], [], [], [], []] (fun (i : Nat) (v : Value) (W : World) => match i with
    | 0 => v = .pointer (some ⟨gd, 0, none⟩)
    | 1 => v = .int .i64 sq
    | 2 => v = .pointer (some ⟨g, 0, none⟩)
    | 3 => v = .pointer (some ⟨g, 0, none⟩)
    | 4 => v = .pointer (some ⟨g, 2, none⟩)
    | 5 => v = .int .i64 nx
    | 6 => v = .bool fb
    | _ => True) (fun _ W => Ext w W) (by kernel_rfl) (by kernel_rfl) hsz (fun _ _ _ _ h => h) ((Ext.refl w).drew) ?_ ?_
  · clear hend
    simp only [rops, Try.f83, regOf, Option.bind_some, Nat.reduceBEq, if_true, if_false, Bool.false_eq_true, Option.getD_some]
    simp only [List.take_succ_cons, List.take_zero]
    refine ⟨?_, ?_, ?_, ?_, ?_, ?_, ?_, trivial⟩
    · intro done us W hJ hdep haft hnot b hb hb' K hK Q'
      have e3 := (hb' 3 (by simp)).trans s3
      clear hb hb'
      go_simp
      exact hK _ _ rfl (fun _ _ _ h => h) hJ
    · intro done us W hJ hdep haft hnot b hb hb' K hK Q'
      simp only [List.getD_cons_succ, List.getD_cons_zero, List.mem_cons, List.not_mem_nil, or_false, forall_eq_or_imp, forall_eq] at hdep
      have e10 := hb 0 10 rfl
      have d0 := hdep
      rw [d0.1] at e10
      clear hb hb' hdep d0
      have q := Ext.cell hJ y0
      go_simp
      exact hK _ _ rfl (fun _ _ _ h => h) hJ
    · intro done us W hJ hdep haft hnot b hb hb' K hK Q'
      have e0 := (hb' 0 (by simp)).trans s0
      clear hb hb'
      go_simp
      exact hK _ _ rfl (fun _ _ _ h => h) hJ
    · intro done us W hJ hdep haft hnot b hb hb' K hK Q'
      simp only [List.getD_cons_succ, List.getD_cons_zero, List.mem_cons, List.not_mem_nil, or_false, forall_eq_or_imp, forall_eq] at hdep
      have e12 := hb 2 12 rfl
      have d2 := hdep
      rw [d2.1] at e12
      clear hb hb' hdep d2
      go_simp
      exact hK _ _ rfl (fun _ _ _ h => h) hJ
    · intro done us W hJ hdep haft hnot b hb hb' K hK Q'
      simp only [List.getD_cons_succ, List.getD_cons_zero, List.mem_cons, List.not_mem_nil, or_false, forall_eq_or_imp, forall_eq] at hdep
      have e13 := hb 3 13 rfl
      have d3 := hdep
      rw [d3.1] at e13
      clear hb hb' hdep d3
      go_simp
      exact hK _ _ rfl (fun _ _ _ h => h) hJ
    · intro done us W hJ hdep haft hnot b hb hb' K hK Q'
      simp only [List.getD_cons_succ, List.getD_cons_zero, List.mem_cons, List.not_mem_nil, or_false, forall_eq_or_imp, forall_eq] at hdep
      have e14 := hb 4 14 rfl
      have d4 := hdep
      rw [d4.1] at e14
      clear hb hb' hdep d4
      have q := Ext.cell hJ f2
      go_simp
      exact hK _ _ rfl (fun _ _ _ h => h) hJ
    · intro done us W hJ hdep haft hnot b hb hb' K hK Q'
      simp only [List.getD_cons_succ, List.getD_cons_zero, List.mem_cons, List.not_mem_nil, or_false, forall_eq_or_imp, forall_eq] at hdep
      have e11 := hb 1 11 rfl
      have e15 := hb 5 15 rfl
      have d1 := hdep.1
      have d5 := hdep.2
      rw [d1.1] at e11
      rw [d5.1] at e15
      clear hb hb' hdep d1 d5
      go_simp
      exact hK _ _ (by first | rfl | exact congrArg Value.bool hfb.out | (congr 1; exact hfb.out)) (fun _ _ _ h => h) hJ
  · intro us W hV hJ
    exact hend (us 0) (us 1) (us 2) (us 3) (us 4) (us 5) (us 6) W (hV 0 (by omega)) (hV 1 (by omega)) (hV 2 (by omega)) (hV 3 (by omega)) (hV 4 (by omega)) (hV 5 (by omega)) (hV 6 (by omega)) hJ
set_option maxRecDepth 100000 in
set_option maxHeartbeats 2000000 in
theorem keep_r5 (g gd : Nat) (sq nx wn : Int) (fb : Bool) (w : World) (y0 : w.cell? ⟨gd, 0, none⟩ = some (.int .i64 sq)) (f2 : w.cell? ⟨g, 2, none⟩ = some (.int .i64 nx)) (f1 : w.cell? ⟨g, 1, none⟩ = some (.int .i64 wn)) (h1 : 0 ≤ nx) (h2 : nx ≤ sq) (h3 : sq ≤ 4294967295) (hfb : Hid (decide (wn ≤ sq - nx) = fb)) (a : Act) (Q : Exit → Act → World → Prop) (hsize : 34 ≤ a.tmps.size)
    (s0 : a.tmps[0]? = some (.pointer (some ⟨g, 0, none⟩)))
    (s3 : a.tmps[3]? = some (.pointer (some ⟨gd, 0, none⟩)))
    (hend : ∀ (xv0 xv1 xv2 xv3 xv4 xv5 xv6 xv7 xv8 xv9 xv10 xv11 : Value) (W : World), (xv0 = .pointer (some ⟨gd, 0, none⟩)) → (xv1 = .int .i64 sq) → (xv2 = .pointer (some ⟨g, 0, none⟩)) → (xv3 = .pointer (some ⟨g, 0, none⟩)) → (xv4 = .pointer (some ⟨g, 2, none⟩)) → (xv5 = .int .i64 nx) → (xv6 = .int .i64 (sq - nx)) → (xv7 = .pointer (some ⟨g, 0, none⟩)) → (xv8 = .pointer (some ⟨g, 0, none⟩)) → (xv9 = .pointer (some ⟨g, 1, none⟩)) → (xv10 = .int .i64 wn) → (xv11 = .bool fb) → Ext w W → wpList Try.prog (rops Try.f83 5).toArray Q ((rops Try.f83 5).drop 12) ((((((((((((a.put (some 22) xv0).put (some 23) xv1).put (some 24) xv2).put (some 25) xv3).put (some 26) xv4).put (some 27) xv5).put (some 28) xv6).put (some 29) xv7).put (some 30) xv8).put (some 31) xv9).put (some 32) xv10).put (some 33) xv11) W) :
    (Code.region 5 (rops Try.f83 5).toArray true).wp Try.prog Q a w := by
  have hmono : ∀ (W W' : World) (j : Nat) (u : Value), Ext W W' → (fun (i : Nat) (v : Value) (W : World) => match i with
    | 0 => v = .pointer (some ⟨gd, 0, none⟩)
    | 1 => v = .int .i64 sq
    | 2 => v = .pointer (some ⟨g, 0, none⟩)
    | 3 => v = .pointer (some ⟨g, 0, none⟩)
    | 4 => v = .pointer (some ⟨g, 2, none⟩)
    | 5 => v = .int .i64 nx
    | 6 => v = .int .i64 (sq - nx)
    | 7 => v = .pointer (some ⟨g, 0, none⟩)
    | 8 => v = .pointer (some ⟨g, 0, none⟩)
    | 9 => v = .pointer (some ⟨g, 1, none⟩)
    | 10 => v = .int .i64 wn
    | 11 => v = .bool fb
    | _ => True) j u W → (fun (i : Nat) (v : Value) (W : World) => match i with
    | 0 => v = .pointer (some ⟨gd, 0, none⟩)
    | 1 => v = .int .i64 sq
    | 2 => v = .pointer (some ⟨g, 0, none⟩)
    | 3 => v = .pointer (some ⟨g, 0, none⟩)
    | 4 => v = .pointer (some ⟨g, 2, none⟩)
    | 5 => v = .int .i64 nx
    | 6 => v = .int .i64 (sq - nx)
    | 7 => v = .pointer (some ⟨g, 0, none⟩)
    | 8 => v = .pointer (some ⟨g, 0, none⟩)
    | 9 => v = .pointer (some ⟨g, 1, none⟩)
    | 10 => v = .int .i64 wn
    | 11 => v = .bool fb
    | _ => True) j u W' := by
    intro W W' j u hX h
    match j, h with
    | 0, h => exact h
    | 1, h => exact h
    | 2, h => exact h
    | 3, h => exact h
    | 4, h => exact h
    | 5, h => exact h
    | 6, h => exact h
    | 7, h => exact h
    | 8, h => exact h
    | 9, h => exact h
    | 10, h => exact h
    | 11, h => exact h
    | _ + 12, h => exact h
  have hsz : ∀ d, some d ∈ ([some 22, some 23, some 24, some 25, some 26, some 27, some 28, some 29, some 30, some 31, some 32, some 33] : List (Option Tmp)) → d < a.tmps.size := slots_lt (by decide) hsize
  refine wp_region_j 12 [some 22, some 23, some 24, some 25, some 26, some 27, some 28, some 29, some 30, some 31, some 32, some 33] [[], [0], [], [2], [3], [4], [1, 5], [], [7], [8], [9], [6, 10]] [[], [], [], [], [], [], [], [], [], [], [], []] (fun (i : Nat) (v : Value) (W : World) => match i with
    | 0 => v = .pointer (some ⟨gd, 0, none⟩)
    | 1 => v = .int .i64 sq
    | 2 => v = .pointer (some ⟨g, 0, none⟩)
    | 3 => v = .pointer (some ⟨g, 0, none⟩)
    | 4 => v = .pointer (some ⟨g, 2, none⟩)
    | 5 => v = .int .i64 nx
    | 6 => v = .int .i64 (sq - nx)
    | 7 => v = .pointer (some ⟨g, 0, none⟩)
    | 8 => v = .pointer (some ⟨g, 0, none⟩)
    | 9 => v = .pointer (some ⟨g, 1, none⟩)
    | 10 => v = .int .i64 wn
    | 11 => v = .bool fb
    | _ => True) (fun _ W => Ext w W) (by kernel_rfl) (by kernel_rfl) hsz (fun _ _ _ _ h => h) ((Ext.refl w).drew) ?_ ?_
  · clear hend
    simp only [rops, Try.f83, regOf, Option.bind_some, Nat.reduceBEq, if_true, if_false, Bool.false_eq_true, Option.getD_some]
    simp only [List.take_succ_cons, List.take_zero]
    refine ⟨?_, ?_, ?_, ?_, ?_, ?_, ?_, ?_, ?_, ?_, ?_, ?_, trivial⟩
    · intro done us W hJ hdep haft hnot b hb hb' K hK Q'
      have e3 := (hb' 3 (by simp)).trans s3
      clear hb hb'
      go_simp
      exact hK _ _ rfl (fun _ _ _ h => h) hJ
    · intro done us W hJ hdep haft hnot b hb hb' K hK Q'
      simp only [List.getD_cons_succ, List.getD_cons_zero, List.mem_cons, List.not_mem_nil, or_false, forall_eq_or_imp, forall_eq] at hdep
      have e22 := hb 0 22 rfl
      have d0 := hdep
      rw [d0.1] at e22
      clear hb hb' hdep d0
      have q := Ext.cell hJ y0
      go_simp
      exact hK _ _ rfl (fun _ _ _ h => h) hJ
    · intro done us W hJ hdep haft hnot b hb hb' K hK Q'
      have e0 := (hb' 0 (by simp)).trans s0
      clear hb hb'
      go_simp
      exact hK _ _ rfl (fun _ _ _ h => h) hJ
    · intro done us W hJ hdep haft hnot b hb hb' K hK Q'
      simp only [List.getD_cons_succ, List.getD_cons_zero, List.mem_cons, List.not_mem_nil, or_false, forall_eq_or_imp, forall_eq] at hdep
      have e24 := hb 2 24 rfl
      have d2 := hdep
      rw [d2.1] at e24
      clear hb hb' hdep d2
      go_simp
      exact hK _ _ rfl (fun _ _ _ h => h) hJ
    · intro done us W hJ hdep haft hnot b hb hb' K hK Q'
      simp only [List.getD_cons_succ, List.getD_cons_zero, List.mem_cons, List.not_mem_nil, or_false, forall_eq_or_imp, forall_eq] at hdep
      have e25 := hb 3 25 rfl
      have d3 := hdep
      rw [d3.1] at e25
      clear hb hb' hdep d3
      go_simp
      exact hK _ _ rfl (fun _ _ _ h => h) hJ
    · intro done us W hJ hdep haft hnot b hb hb' K hK Q'
      simp only [List.getD_cons_succ, List.getD_cons_zero, List.mem_cons, List.not_mem_nil, or_false, forall_eq_or_imp, forall_eq] at hdep
      have e26 := hb 4 26 rfl
      have d4 := hdep
      rw [d4.1] at e26
      clear hb hb' hdep d4
      have q := Ext.cell hJ f2
      go_simp
      exact hK _ _ rfl (fun _ _ _ h => h) hJ
    · intro done us W hJ hdep haft hnot b hb hb' K hK Q'
      simp only [List.getD_cons_succ, List.getD_cons_zero, List.mem_cons, List.not_mem_nil, or_false, forall_eq_or_imp, forall_eq] at hdep
      have e23 := hb 1 23 rfl
      have e27 := hb 5 27 rfl
      have d1 := hdep.1
      have d5 := hdep.2
      rw [d1.1] at e23
      rw [d5.1] at e27
      clear hb hb' hdep d1 d5
      have qw : IntKind.i64.wrap (sq - nx) = sq - nx := IntWalk.i64_in _ (by omega)
      go_simp
      exact hK _ _ rfl (fun _ _ _ h => h) hJ
    · intro done us W hJ hdep haft hnot b hb hb' K hK Q'
      have e0 := (hb' 0 (by simp)).trans s0
      clear hb hb'
      go_simp
      exact hK _ _ rfl (fun _ _ _ h => h) hJ
    · intro done us W hJ hdep haft hnot b hb hb' K hK Q'
      simp only [List.getD_cons_succ, List.getD_cons_zero, List.mem_cons, List.not_mem_nil, or_false, forall_eq_or_imp, forall_eq] at hdep
      have e29 := hb 7 29 rfl
      have d7 := hdep
      rw [d7.1] at e29
      clear hb hb' hdep d7
      go_simp
      exact hK _ _ rfl (fun _ _ _ h => h) hJ
    · intro done us W hJ hdep haft hnot b hb hb' K hK Q'
      simp only [List.getD_cons_succ, List.getD_cons_zero, List.mem_cons, List.not_mem_nil, or_false, forall_eq_or_imp, forall_eq] at hdep
      have e30 := hb 8 30 rfl
      have d8 := hdep
      rw [d8.1] at e30
      clear hb hb' hdep d8
      go_simp
      exact hK _ _ rfl (fun _ _ _ h => h) hJ
    · intro done us W hJ hdep haft hnot b hb hb' K hK Q'
      simp only [List.getD_cons_succ, List.getD_cons_zero, List.mem_cons, List.not_mem_nil, or_false, forall_eq_or_imp, forall_eq] at hdep
      have e31 := hb 9 31 rfl
      have d9 := hdep
      rw [d9.1] at e31
      clear hb hb' hdep d9
      have q := Ext.cell hJ f1
      go_simp
      exact hK _ _ rfl (fun _ _ _ h => h) hJ
    · intro done us W hJ hdep haft hnot b hb hb' K hK Q'
      simp only [List.getD_cons_succ, List.getD_cons_zero, List.mem_cons, List.not_mem_nil, or_false, forall_eq_or_imp, forall_eq] at hdep
      have e28 := hb 6 28 rfl
      have e32 := hb 10 32 rfl
      have d6 := hdep.1
      have d10 := hdep.2
      rw [d6.1] at e28
      rw [d10.1] at e32
      clear hb hb' hdep d6 d10
      go_simp
      exact hK _ _ (by first | rfl | exact congrArg Value.bool hfb.out | (congr 1; exact hfb.out)) (fun _ _ _ h => h) hJ
  · intro us W hV hJ
    exact hend (us 0) (us 1) (us 2) (us 3) (us 4) (us 5) (us 6) (us 7) (us 8) (us 9) (us 10) (us 11) W (hV 0 (by omega)) (hV 1 (by omega)) (hV 2 (by omega)) (hV 3 (by omega)) (hV 4 (by omega)) (hV 5 (by omega)) (hV 6 (by omega)) (hV 7 (by omega)) (hV 8 (by omega)) (hV 9 (by omega)) (hV 10 (by omega)) (hV 11 (by omega)) hJ
set_option maxRecDepth 100000 in
set_option maxHeartbeats 2000000 in
theorem keep_r7 (base g gd nl : Nat) (A0 : Option Addr) (c0 : Nat) (sq : Int) (Ab : Option Addr) (n c : Nat) (lo : Bool) (xs : List Int) (hh : List Dlv) (vs : List Value) (w : World) (f3 : w.cell? ⟨g, 3, none⟩ = some (.slice A0 nl c0)) (hD : Blk w gd 72 #[.int .i64 sq, .slice Ab n c, .bool lo]) (hgd : gd ∉ (Value.slice A0 nl c0).ownBlock.toList) (hO : OwnS .u8 5 base w Ab n c xs) (hnl2 : nl ≤ 1000) (hnl : hh.length = nl) (hown : w.ownsRow base 72 3 (.slice A0 nl c0) nl vs) (hcs : CsR (DlO base w) vs hh) (hb : base ≤ w.heap.size) (hLb : ∀ k ∈ (Value.slice A0 nl c0).ownBlock.toList, k < w.heap.size) (a : Act) (Q : Exit → Act → World → Prop) (hsize : 44 ≤ a.tmps.size)
    (s0 : a.tmps[0]? = some (.pointer (some ⟨g, 0, none⟩)))
    (s3 : a.tmps[3]? = some (.pointer (some ⟨gd, 0, none⟩)))
    (hend : ∀ (xv0 xv1 xv2 xv3 xv4 xv5 xv6 xv7 xv8 xv9 : Value) (W : World), (xv0 = .pointer (some ⟨g, 0, none⟩)) → (xv1 = .pointer (some ⟨g, 0, none⟩)) → (xv2 = .pointer (some ⟨g, 0, none⟩)) → (xv3 = .pointer (some ⟨g, 3, none⟩)) → (xv4 = .slice A0 nl c0) → (xv5 = .agg #[.int .i64 sq, .slice Ab n c, .bool lo]) → (∃ g', xv6 = .slice (some ⟨g', 0, none⟩) 1 1 ∧ w.heap.size ≤ g' ∧ Blk W g' 72 #[.int .i64 sq, .slice Ab n c, .bool lo]) → (DlL base base W xv7 (hh ++ [⟨sq, xs, lo⟩])) → (xv8 = .pointer (some ⟨g, 0, none⟩)) → (xv9 = .pointer (some ⟨g, 3, none⟩)) → Keeps ((Value.slice A0 nl c0).ownBlock.toList) w W → wpList Try.prog (rops Try.f83 7).toArray Q ((rops Try.f83 7).drop 10) ((((((((((a.put (some 34) xv0).put (some 35) xv1).put (some 36) xv2).put (some 37) xv3).put (some 38) xv4).put (some 39) xv5).put (some 40) xv6).put (some 41) xv7).put (some 42) xv8).put (some 43) xv9) W) :
    (Code.region 7 (rops Try.f83 7).toArray true).wp Try.prog Q a w := by
  have hmono : ∀ (W W' : World) (j : Nat) (u : Value), Ext W W' → (fun (i : Nat) (v : Value) (W : World) => match i with
    | 0 => v = .pointer (some ⟨g, 0, none⟩)
    | 1 => v = .pointer (some ⟨g, 0, none⟩)
    | 2 => v = .pointer (some ⟨g, 0, none⟩)
    | 3 => v = .pointer (some ⟨g, 3, none⟩)
    | 4 => v = .slice A0 nl c0
    | 5 => v = .agg #[.int .i64 sq, .slice Ab n c, .bool lo]
    | 6 => ∃ g', v = .slice (some ⟨g', 0, none⟩) 1 1 ∧ w.heap.size ≤ g' ∧ Blk W g' 72 #[.int .i64 sq, .slice Ab n c, .bool lo]
    | 7 => DlL base base W v (hh ++ [⟨sq, xs, lo⟩])
    | 8 => v = .pointer (some ⟨g, 0, none⟩)
    | 9 => v = .pointer (some ⟨g, 3, none⟩)
    | _ => True) j u W → (fun (i : Nat) (v : Value) (W : World) => match i with
    | 0 => v = .pointer (some ⟨g, 0, none⟩)
    | 1 => v = .pointer (some ⟨g, 0, none⟩)
    | 2 => v = .pointer (some ⟨g, 0, none⟩)
    | 3 => v = .pointer (some ⟨g, 3, none⟩)
    | 4 => v = .slice A0 nl c0
    | 5 => v = .agg #[.int .i64 sq, .slice Ab n c, .bool lo]
    | 6 => ∃ g', v = .slice (some ⟨g', 0, none⟩) 1 1 ∧ w.heap.size ≤ g' ∧ Blk W g' 72 #[.int .i64 sq, .slice Ab n c, .bool lo]
    | 7 => DlL base base W v (hh ++ [⟨sq, xs, lo⟩])
    | 8 => v = .pointer (some ⟨g, 0, none⟩)
    | 9 => v = .pointer (some ⟨g, 3, none⟩)
    | _ => True) j u W' := by
    intro W W' j u hX h
    match j, h with
    | 0, h => exact h
    | 1, h => exact h
    | 2, h => exact h
    | 3, h => exact h
    | 4, h => exact h
    | 5, h => exact h
    | 6, h => obtain ⟨g', h1, h2, h3⟩ := h; exact ⟨g', h1, h2, h3.ext hX⟩
    | 7, h => exact DlL.ext h hX
    | 8, h => exact h
    | 9, h => exact h
    | _ + 10, h => exact h
  have hmonoK : ∀ (W W' : World) (j : Nat) (u : Value), Keeps ((Value.slice A0 nl c0).ownBlock.toList) W W' → (∀ k ∈ ((Value.slice A0 nl c0).ownBlock.toList), NoRow 5 W k) → j ≠ 7 → (fun (i : Nat) (v : Value) (W : World) => match i with
    | 0 => v = .pointer (some ⟨g, 0, none⟩)
    | 1 => v = .pointer (some ⟨g, 0, none⟩)
    | 2 => v = .pointer (some ⟨g, 0, none⟩)
    | 3 => v = .pointer (some ⟨g, 3, none⟩)
    | 4 => v = .slice A0 nl c0
    | 5 => v = .agg #[.int .i64 sq, .slice Ab n c, .bool lo]
    | 6 => ∃ g', v = .slice (some ⟨g', 0, none⟩) 1 1 ∧ w.heap.size ≤ g' ∧ Blk W g' 72 #[.int .i64 sq, .slice Ab n c, .bool lo]
    | 7 => DlL base base W v (hh ++ [⟨sq, xs, lo⟩])
    | 8 => v = .pointer (some ⟨g, 0, none⟩)
    | 9 => v = .pointer (some ⟨g, 3, none⟩)
    | _ => True) j u W → (fun (i : Nat) (v : Value) (W : World) => match i with
    | 0 => v = .pointer (some ⟨g, 0, none⟩)
    | 1 => v = .pointer (some ⟨g, 0, none⟩)
    | 2 => v = .pointer (some ⟨g, 0, none⟩)
    | 3 => v = .pointer (some ⟨g, 3, none⟩)
    | 4 => v = .slice A0 nl c0
    | 5 => v = .agg #[.int .i64 sq, .slice Ab n c, .bool lo]
    | 6 => ∃ g', v = .slice (some ⟨g', 0, none⟩) 1 1 ∧ w.heap.size ≤ g' ∧ Blk W g' 72 #[.int .i64 sq, .slice Ab n c, .bool lo]
    | 7 => DlL base base W v (hh ++ [⟨sq, xs, lo⟩])
    | 8 => v = .pointer (some ⟨g, 0, none⟩)
    | 9 => v = .pointer (some ⟨g, 3, none⟩)
    | _ => True) j u W' := by
    intro W W' j u hk hN hne h
    match j, h with
    | 0, h => exact h
    | 1, h => exact h
    | 2, h => exact h
    | 3, h => exact h
    | 4, h => exact h
    | 5, h => exact h
    | 6, h => obtain ⟨g', h1, h2, h3⟩ := h; exact ⟨g', h1, h2, h3.keeps hk (fun hl => by have := hLb _ hl; omega)⟩
    | 7, h => exact absurd rfl hne
    | 8, h => exact h
    | 9, h => exact h
    | _ + 10, h => exact h
  have hsz : ∀ d, some d ∈ ([some 34, some 35, some 36, some 37, some 38, some 39, some 40, some 41, some 42, some 43] : List (Option Tmp)) → d < a.tmps.size := slots_lt (by decide) hsize
  refine wp_region_j 10 [some 34, some 35, some 36, some 37, some 38, some 39, some 40, some 41, some 42, some 43] [[], [], [1], [2], [3], [], [5], [4, 6], [0], [8]] [[], [], [], [], [7], [], [], [], [], []] (fun (i : Nat) (v : Value) (W : World) => match i with
    | 0 => v = .pointer (some ⟨g, 0, none⟩)
    | 1 => v = .pointer (some ⟨g, 0, none⟩)
    | 2 => v = .pointer (some ⟨g, 0, none⟩)
    | 3 => v = .pointer (some ⟨g, 3, none⟩)
    | 4 => v = .slice A0 nl c0
    | 5 => v = .agg #[.int .i64 sq, .slice Ab n c, .bool lo]
    | 6 => ∃ g', v = .slice (some ⟨g', 0, none⟩) 1 1 ∧ w.heap.size ≤ g' ∧ Blk W g' 72 #[.int .i64 sq, .slice Ab n c, .bool lo]
    | 7 => DlL base base W v (hh ++ [⟨sq, xs, lo⟩])
    | 8 => v = .pointer (some ⟨g, 0, none⟩)
    | 9 => v = .pointer (some ⟨g, 3, none⟩)
    | _ => True) (fun done W => Keeps ((Value.slice A0 nl c0).ownBlock.toList) w W ∧ (¬ done 7 → Ext w W)) (by kernel_rfl) (by kernel_rfl) hsz (fun p q W h hj => ⟨hj.1, fun hn => hj.2 fun hp => hn ((h _).1 hp)⟩) ⟨Keeps.of_ext (Ext.refl w).drew _, fun _ => (Ext.refl w).drew⟩ ?_ ?_
  · clear hend
    simp only [rops, Try.f83, regOf, Option.bind_some, Nat.reduceBEq, if_true, if_false, Bool.false_eq_true, Option.getD_some]
    simp only [List.take_succ_cons, List.take_zero]
    refine ⟨?_, ?_, ?_, ?_, ?_, ?_, ?_, ?_, ?_, ?_, trivial⟩
    · intro done us W hJ hdep haft hnot b hb hb' K hK Q'
      have e0 := (hb' 0 (by simp)).trans s0
      clear hb hb'
      go_simp
      exact hK _ _ rfl (fun _ _ _ h => h) ⟨hJ.1, fun h => hJ.2 fun d => h (.inl d)⟩
    · intro done us W hJ hdep haft hnot b hb hb' K hK Q'
      have e0 := (hb' 0 (by simp)).trans s0
      clear hb hb'
      go_simp
      exact hK _ _ rfl (fun _ _ _ h => h) ⟨hJ.1, fun h => hJ.2 fun d => h (.inl d)⟩
    · intro done us W hJ hdep haft hnot b hb hb' K hK Q'
      simp only [List.getD_cons_succ, List.getD_cons_zero, List.mem_cons, List.not_mem_nil, or_false, forall_eq_or_imp, forall_eq] at hdep
      have e35 := hb 1 35 rfl
      have d1 := hdep
      rw [d1.1] at e35
      clear hb hb' hdep d1
      go_simp
      exact hK _ _ rfl (fun _ _ _ h => h) ⟨hJ.1, fun h => hJ.2 fun d => h (.inl d)⟩
    · intro done us W hJ hdep haft hnot b hb hb' K hK Q'
      simp only [List.getD_cons_succ, List.getD_cons_zero, List.mem_cons, List.not_mem_nil, or_false, forall_eq_or_imp, forall_eq] at hdep
      have e36 := hb 2 36 rfl
      have d2 := hdep
      rw [d2.1] at e36
      clear hb hb' hdep d2
      go_simp
      exact hK _ _ rfl (fun _ _ _ h => h) ⟨hJ.1, fun h => hJ.2 fun d => h (.inl d)⟩
    · intro done us W hJ hdep haft hnot b hb hb' K hK Q'
      simp only [List.getD_cons_succ, List.getD_cons_zero, List.mem_cons, List.not_mem_nil, or_false, forall_eq_or_imp, forall_eq] at hdep
      simp only [List.getD_cons_succ, List.getD_cons_zero, List.mem_cons, List.not_mem_nil, or_false, forall_eq_or_imp, forall_eq] at haft
      have e37 := hb 3 37 rfl
      have d3 := hdep
      rw [d3.1] at e37
      clear hb hb' hdep d3
      have hJE := hJ.2 haft
      have q := Ext.cell hJE f3
      go_simp
      exact hK _ _ rfl (fun _ _ _ h => h) ⟨hJ.1, fun h => hJ.2 fun d => h (.inl d)⟩
    · intro done us W hJ hdep haft hnot b hb hb' K hK Q'
      have e3 := (hb' 3 (by simp)).trans s3
      clear hb hb'
      have hT := hD.keeps hJ.1 hgd
      have q0 := hT.cell 0
      have q1 := hT.cell 1
      have q2 := hT.cell 2
      go_simp
      exact hK _ _ rfl (fun _ _ _ h => h) ⟨hJ.1, fun h => hJ.2 fun d => h (.inl d)⟩
    · intro done us W hJ hdep haft hnot b hb hb' K hK Q'
      simp only [List.getD_cons_succ, List.getD_cons_zero, List.mem_cons, List.not_mem_nil, or_false, forall_eq_or_imp, forall_eq] at hdep
      have e39 := hb 5 39 rfl
      have d5 := hdep
      rw [d5.1] at e39
      clear hb hb' hdep d5
      have hb1 := Blk.new W 72 #[.int .i64 sq, .slice Ab n c, .bool lo]
      have hX := (Ext.refl W).alloc (.cells #[.int .i64 sq, .slice Ab n c, .bool lo] 72)
      have hs := hJ.1.size
      go_simp
      exact hK _ _ (⟨_, rfl, hs, hb1⟩) (fun j u _ h => hmono _ _ j u hX h) ⟨hJ.1.trans (Keeps.of_ext hX _), fun h => (hJ.2 fun d => h (.inl d)).trans hX⟩
    · intro done us W hJ hdep haft hnot b hb hb' K hK Q'
      simp only [List.getD_cons_succ, List.getD_cons_zero, List.mem_cons, List.not_mem_nil, or_false, forall_eq_or_imp, forall_eq] at hdep
      have e38 := hb 4 38 rfl
      have e40 := hb 6 40 rfl
      have d4 := hdep.1
      have d6 := hdep.2
      rw [d4.1] at e38
      clear hb hb' hdep d4
      have hJE := hJ.2 hnot
      obtain ⟨g', e', hg', hb1⟩ := d6.1
      rw [e'] at e40
      have hoW := World.ownsRow.ext' hown hJE
      have hs := Ext.size hJE
      obtain ⟨v', W', q, ho, hG, _⟩ := run_app (P := Try.prog) W elD 67 base (.slice A0 nl c0) nl vs hoW (some ⟨g', 0, none⟩) 1 1 [.int .i64 sq, .slice Ab n c, .bool lo] rfl (fun _ => ⟨g', 0, rfl, fun j y hy => by match j with | 0 => (simp at hy; subst hy; exact hb1.cell 0) | 1 => (simp at hy; subst hy; exact hb1.cell 1) | 2 => (simp at hy; subst hy; exact hb1.cell 2) | j + 3 => simp at hy⟩) (by simp [Value.oneCell']) (by omega) (by unfold maxLen; omega) (by omega)
      have hk : Keeps ((Value.slice A0 nl c0).ownBlock.toList) W W' := Keeps.of_grown hG (fun k hk => by rw [hk]; simp)
      have hN : ∀ k ∈ ((Value.slice A0 nl c0).ownBlock.toList), NoRow 5 W k := fun k hk => NoRow.of_own hoW (by simpa using hk) (by decide)
      have hR := DlL.snoc (ds := hh) (s := sq) (lo := lo) (hcs.imp fun _ _ h => DlO.ext h hJE) (by rw [hnl]; exact hoW) (hO.ext hJE) (by rw [hnl]; exact ho) hG
      exact jop_app rfl rfl e38 e40 q (hK _ _ hR (fun j u hd h => hmonoK _ _ j u hk hN (by intro e; subst e; exact hnot hd) h) ⟨hJ.1.trans hk, fun h => absurd (.inr rfl) h⟩)
    · intro done us W hJ hdep haft hnot b hb hb' K hK Q'
      simp only [List.getD_cons_succ, List.getD_cons_zero, List.mem_cons, List.not_mem_nil, or_false, forall_eq_or_imp, forall_eq] at hdep
      have e34 := hb 0 34 rfl
      have d0 := hdep
      rw [d0.1] at e34
      clear hb hb' hdep d0
      go_simp
      exact hK _ _ rfl (fun _ _ _ h => h) ⟨hJ.1, fun h => hJ.2 fun d => h (.inl d)⟩
    · intro done us W hJ hdep haft hnot b hb hb' K hK Q'
      simp only [List.getD_cons_succ, List.getD_cons_zero, List.mem_cons, List.not_mem_nil, or_false, forall_eq_or_imp, forall_eq] at hdep
      have e42 := hb 8 42 rfl
      have d8 := hdep
      rw [d8.1] at e42
      clear hb hb' hdep d8
      go_simp
      exact hK _ _ rfl (fun _ _ _ h => h) ⟨hJ.1, fun h => hJ.2 fun d => h (.inl d)⟩
  · intro us W hV hJ
    exact hend (us 0) (us 1) (us 2) (us 3) (us 4) (us 5) (us 6) (us 7) (us 8) (us 9) W (hV 0 (by omega)) (hV 1 (by omega)) (hV 2 (by omega)) (hV 3 (by omega)) (hV 4 (by omega)) (hV 5 (by omega)) (hV 6 (by omega)) (hV 7 (by omega)) (hV 8 (by omega)) (hV 9 (by omega)) (by simpa using hJ)
end Go.Proofs.Ytekhmfliaojabaa
namespace Go.Proofs.Ytekhmfliaojabaa
open Go.RowKit

/-- What the reference's keep, Take and GiveUp leave. -/
def RetKe (base g : Nat) (v : Value) (w : World) (r : Rcv × List Dlv × Int) (e : Ending) (w' : World) : Prop :=
  ∃ u v', e = .returned (.tuple #[u, .int .i64 r.2.2]) ∧ DlL w.heap.size base w' u r.2.1 ∧ RecR base w' g v' r.1 ∧ Keeps (g :: v.ownBlock.toList) w w'
theorem refuse_26 {r : Rcv} {s : Int} (h : s < r.next) : refuse r s = 26 := by unfold refuse; rw [if_pos h]
theorem refuse_27 {r : Rcv} {s : Int} {d : Dlv} (h : r.next ≤ s) (h2 : findD r.held s = some d) : refuse r s = 27 := by unfold refuse; rw [if_neg (by omega), h2]; rfl
theorem refuse_28 {r : Rcv} {s : Int} (h : r.next ≤ s) (h2 : findD r.held s = none) (h3 : r.next + r.window ≤ s) : refuse r s = 28 := by unfold refuse; rw [if_neg (by omega), h2, if_neg (by simp), if_pos h3]
theorem refuse_0 {r : Rcv} {s : Int} (h : r.next ≤ s) (h2 : findD r.held s = none) (h3 : s < r.next + r.window) : refuse r s = 0 := by unfold refuse; rw [if_neg (by omega), h2, if_neg (by simp), if_neg (by omega)]
theorem nodup_keep {r : Rcv} {d : Dlv} (h : RcvOk r) (hr : refuse r d.seq = 0) : ((r.held ++ [d]).map Dlv.seq).Nodup := by
  obtain ⟨_, h2, _⟩ := refuse_ok hr
  rw [List.map_append, List.nodup_append]
  refine ⟨h.apart, by simp, fun a ha b hb => ?_⟩
  simp at hb
  subst hb
  rintro rfl
  obtain ⟨x, hx, e⟩ := List.mem_map.1 ha
  exact findD_none.1 h2 x hx e
set_option maxRecDepth 100000 in
set_option maxHeartbeats 8000000 in
theorem keepE_any (base g : Nat) (v : Value) (r : Rcv) (d : Dlv) (Ab : Option Addr) (n c : Nat) (w : World) (h : RecR base w g v r) (hO : OwnS .u8 5 base w Ab n c d.body) (h1 : 0 ≤ d.seq) (h2 : d.seq ≤ 4294967295) (h3 : d.body.length ≤ 1024) :
    Calls Try.prog 83 #[.pointer (some ⟨g, 0, none⟩), .agg #[.int .i64 d.seq, .slice Ab n c, .bool d.lost]] w (RetKe base g v w (keepR r d)) := by
  obtain ⟨sq, xs, lo⟩ := d
  simp only at hO h1 h2 h3 ⊢
  obtain ⟨A0, c0, rfl⟩ := h.q.row.slice
  have HR := Lib.hid h
  have HO := Lib.hid hO
  have lb := h.q.base_le
  obtain ⟨lw0, lw1⟩ := h.ok.window
  obtain ⟨ln0, ln1⟩ := h.ok.next
  have lrm := h.ok.room
  have HLb : Hid (∀ k ∈ (Value.slice A0 r.held.length c0).ownBlock.toList, k < w.heap.size) := Lib.hid fun k hk => (h.q.row.lt k (Option.mem_toList.1 hk)).2
  have HG := Lib.hid h.q.ne
  clear h hO
  have hXe : Ext w (w.alloc (.cells #[.int .i64 sq, .slice Ab n c, .bool lo] 72)) := ((Ext.refl w).alloc _)
  have kd : Blk (w.alloc (.cells #[.int .i64 sq, .slice Ab n c, .bool lo] 72)) w.heap.size 72 #[.int .i64 sq, .slice Ab n c, .bool lo] := Blk.at_ (by simp)
  go_enter Try.func83, Try.ntmps83
  go_upto_region 1 with (fail)
  generalize (w.alloc (.cells #[.int .i64 sq, .slice Ab n c, .bool lo] 72)) = w1 at hXe kd ⊢
  have HX := Lib.hid hXe
  clear hXe
  have Kd := Lib.hid kd
  clear kd
  replace HR := Lib.hid (HR.out.ext HX.out)
  replace HO := Lib.hid (HO.out.ext HX.out)
  by_cases hc : sq < r.next
  · have HE : Hid (keepR r ⟨sq, xs, lo⟩ = (r, [], 26)) := Lib.hid (by have e : refuse r (⟨sq, xs, lo⟩ : Dlv).seq = 26 := refuse_26 hc; rw [keepR_no (by rw [e]; omega), e])
    go_wp2_with fail
    refine keep_r1 g w.heap.size sq r.next true _ (Kd.out.cell 0) (HR.out.q.blk.cell 2) (Lib.hid (decide_eq_true (by omega))) _ _ (by simp) rfl rfl ?_
    rintro xv0 xv1 xv2 xv3 xv4 xv5 xv6 w2 rfl rfl rfl rfl rfl rfl rfl hXW
    simp only [rops, Try.f83, regOf, Option.bind_some, Nat.reduceBEq, if_true, if_false, Bool.false_eq_true, Option.getD_some, List.drop_succ_cons, List.drop_zero]
    simp only [Act.put, List.setIfInBounds_toArray, List.set_cons_succ, List.set_cons_zero]
    replace HX := Lib.hid (HX.out.trans hXW)
    replace HR := Lib.hid (HR.out.ext hXW)
    replace HO := Lib.hid (HO.out.ext hXW)
    replace Kd := Lib.hid (Kd.out.ext hXW)
    clear hXW
    go_wp2
    go_ret2
    rw [HE.out]
    exact ⟨_, _, rfl, DlL.nil _ _ _, HR.out, Keeps.of_ext HX.out _⟩
  · have HC : Hid (¬ sq < r.next) := Lib.hid (by omega)
    go_wp2_with fail
    refine keep_r1 g w.heap.size sq r.next false _ (Kd.out.cell 0) (HR.out.q.blk.cell 2) (Lib.hid (decide_eq_false (by omega))) _ _ (by simp) rfl rfl ?_
    rintro xv0 xv1 xv2 xv3 xv4 xv5 xv6 w2 rfl rfl rfl rfl rfl rfl rfl hXW
    simp only [rops, Try.f83, regOf, Option.bind_some, Nat.reduceBEq, if_true, if_false, Bool.false_eq_true, Option.getD_some, List.drop_succ_cons, List.drop_zero]
    simp only [Act.put, List.setIfInBounds_toArray, List.set_cons_succ, List.set_cons_zero]
    replace HX := Lib.hid (HX.out.trans hXW)
    replace HR := Lib.hid (HR.out.ext hXW)
    replace HO := Lib.hid (HO.out.ext hXW)
    replace Kd := Lib.hid (Kd.out.ext hXW)
    clear hXW
    have hnx : r.next ≤ sq := by omega
    clear hc
    have cd0 : w2.cell? ⟨w.heap.size, 0, none⟩ = some (.int .i64 sq) := Kd.out.cell 0
    have cd1 : w2.cell? ⟨w.heap.size, 1, none⟩ = some (.slice Ab n c) := Kd.out.cell 1
    have cd2 : w2.cell? ⟨w.heap.size, 2, none⟩ = some (.bool lo) := Kd.out.cell 2
    go_wp2_with fail
    clear cd0 cd1 cd2
    refine (hasR_any base g _ r.stream r.window r.next r.held sq _ HR.out.q (by omega)).mono ?_
    rintro e _ ⟨zz, rfl, rfl, hz⟩
    rcases hz with ⟨hf, rfl⟩ | ⟨i, d', rfl, hi, hf⟩
    · have HF := Lib.hid hf
      clear hf
      go_upto_region 5 with (fail)
      by_cases hc : r.window ≤ sq - r.next
      · have HE : Hid (keepR r ⟨sq, xs, lo⟩ = (r, [], 28)) := Lib.hid (by have e : refuse r (⟨sq, xs, lo⟩ : Dlv).seq = 28 := refuse_28 hnx HF.out (show r.next + r.window ≤ sq by omega); rw [keepR_no (by rw [e]; omega), e])
        refine keep_r5 g w.heap.size sq r.next r.window true _ (Kd.out.cell 0) (HR.out.q.blk.cell 2) (HR.out.q.blk.cell 1) ln0 hnx h2 (Lib.hid (decide_eq_true (by omega))) _ _ (by simp) rfl rfl ?_
        rintro xv0 xv1 xv2 xv3 xv4 xv5 xv6 xv7 xv8 xv9 xv10 xv11 w3 rfl rfl rfl rfl rfl rfl rfl rfl rfl rfl rfl rfl hXW
        simp only [rops, Try.f83, regOf, Option.bind_some, Nat.reduceBEq, if_true, if_false, Bool.false_eq_true, Option.getD_some, List.drop_succ_cons, List.drop_zero]
        simp only [Act.put, List.setIfInBounds_toArray, List.set_cons_succ, List.set_cons_zero]
        replace HX := Lib.hid (HX.out.trans hXW)
        replace HR := Lib.hid (HR.out.ext hXW)
        replace HO := Lib.hid (HO.out.ext hXW)
        replace Kd := Lib.hid (Kd.out.ext hXW)
        clear hXW
        go_wp2
        go_ret2
        rw [HE.out]
        exact ⟨_, _, rfl, DlL.nil _ _ _, HR.out, Keeps.of_ext HX.out _⟩
      · have HRF : Hid (refuse r (⟨sq, xs, lo⟩ : Dlv).seq = 0) := Lib.hid (refuse_0 hnx HF.out (show sq < r.next + r.window by omega))
        refine keep_r5 g w.heap.size sq r.next r.window false _ (Kd.out.cell 0) (HR.out.q.blk.cell 2) (HR.out.q.blk.cell 1) ln0 hnx h2 (Lib.hid (decide_eq_false (by omega))) _ _ (by simp) rfl rfl ?_
        rintro xv0 xv1 xv2 xv3 xv4 xv5 xv6 xv7 xv8 xv9 xv10 xv11 w3 rfl rfl rfl rfl rfl rfl rfl rfl rfl rfl rfl rfl hXW
        simp only [rops, Try.f83, regOf, Option.bind_some, Nat.reduceBEq, if_true, if_false, Bool.false_eq_true, Option.getD_some, List.drop_succ_cons, List.drop_zero]
        simp only [Act.put, List.setIfInBounds_toArray, List.set_cons_succ, List.set_cons_zero]
        replace HX := Lib.hid (HX.out.trans hXW)
        replace HR := Lib.hid (HR.out.ext hXW)
        replace HO := Lib.hid (HO.out.ext hXW)
        replace Kd := Lib.hid (Kd.out.ext hXW)
        clear hXW
        clear hc
        go_upto_region 7 with (fail)
        obtain ⟨vs, hown, hcs⟩ := HR.out.q.row
        have hy := HX.out.size
        refine keep_r7 base g w.heap.size r.held.length A0 c0 sq Ab n c lo xs r.held vs w3 (HR.out.q.blk.cell 3) Kd.out (fun hl => by have := HLb.out _ hl; omega) HO.out (by omega) rfl hown hcs (by omega) (fun k hk => by have := HLb.out k hk; omega) _ _ (by simp) rfl rfl ?_
        rintro xv0 xv1 xv2 xv3 xv4 xv5 xv6 xv7 xv8 xv9 W4 rfl rfl rfl rfl rfl rfl _ hL4 rfl rfl hK4
        simp only [rops, Try.f83, regOf, Option.bind_some, Nat.reduceBEq, if_true, if_false, Bool.false_eq_true, Option.getD_some, List.drop_succ_cons, List.drop_zero]
        simp only [Act.put, List.setIfInBounds_toArray, List.set_cons_succ, List.set_cons_zero]
        obtain ⟨A1, c1, hx7⟩ : ∃ A c, xv7 = .slice A (r.held.length + 1) c := by simpa using hL4.slice
        subst hx7
        have hB4 := HR.out.q.blk.keeps hK4 (fun hl => HG.out (Option.mem_toList.1 hl).symm)
        have hK0 : Keeps (g :: (Value.slice A0 r.held.length c0).ownBlock.toList) w W4 := (Keeps.of_ext HX.out _).trans (hK4.mono fun k hk _ => by simp only [List.mem_cons]; exact .inr hk)
        have f3 := hB4.cell 3
        have z3 := hB4.free 3
        have HKO := Lib.hid (keepR_ok (d := ⟨sq, xs, lo⟩) HR.out.ok h2 h3)
        have HND := Lib.hid (nodup_keep HR.out.ok HRF.out)
        have hst : KeepSt base w (g :: (Value.slice A0 r.held.length c0).ownBlock.toList) (W4.setCell ⟨g, 3, none⟩ (.slice A1 (r.held.length + 1) c1)) g (.slice A1 (r.held.length + 1) c1) (.slice none 0 0) r.stream r.window r.next (r.held ++ [⟨sq, xs, lo⟩]) [] := ⟨RecQ.grow hB4 hL4 HR.out.q.lo, DlL.nil _ _ _, fun j hj => by simp [Value.ownBlock] at hj, hK0.setCell (.inl (by simp)) _⟩
        have HST := Lib.hid hst
        clear hst hB4 hK0 hL4 hK4 hown hcs HR HO HX Kd
        go_wp2_with fail
        clear f3 z3
        obtain ⟨H, hH⟩ : ∃ H, H = (r.held ++ [⟨sq, xs, lo⟩]) := ⟨_, rfl⟩
        rw [← hH] at HST HND
        have hHl : H.length ≤ 65 := by rw [hH]; simp; omega
        have HH := Lib.hid hH
        clear hH
        go_loopg [6] (H.length + 1) (fun f out wr => ∃ (n' : Int) (h' pre : List Dlv) (v' : Value), f = h'.length + 1 ∧ pre.length + h'.length = H.length ∧ r.next ≤ n' ∧ n' ≤ r.next + pre.length ∧ Hid (deliv H.length r.next H = (pre ++ (deliv h'.length n' h').1, (deliv h'.length n' h').2)) ∧ Hid (KeepSt base w (g :: (Value.slice A0 r.held.length c0).ownBlock.toList) wr g v' out r.stream r.window n' h' pre) ∧ Hid ((h'.map Dlv.seq).Nodup))
        case atStart => exact ⟨r.next, H, [], _, rfl, by simp, by omega, by simp, Lib.hid (by simp), HST, HND⟩
        case round =>
          clear HST HND
          obtain ⟨n', h', pre, v', rfl, hlen, hn0, hn1, HD, HK, HN⟩ := hrel
          obtain ⟨A7, c7, rfl⟩ := HK.out.q.row.slice
          obtain ⟨A9, c9, rfl⟩ := HK.out.outL.slice
          have f2 := HK.out.q.blk.cell 2
          go_wp2_with fail
          refine (hasR_any base g _ _ _ n' h' n' _ HK.out.q (by omega)).mono ?_
          rintro e _ ⟨zz, rfl, rfl, hz⟩
          rcases hz with ⟨hf, rfl⟩ | ⟨i, d', rfl, hi, hf⟩
          · have HD2 : Hid (deliv H.length r.next H = (pre, n', h')) := Lib.hid (by rw [HD.out, deliv_none hf]; simp)
            clear hf f2
            go_wp2
            go_ret2
            have hko := HKO.out
            rw [keepR_yes HRF.out, ← HH.out, HD2.out] at hko
            rw [keepR_yes HRF.out, ← HH.out, HD2.out]
            exact ⟨_, _, rfl, HK.out.outL, ⟨HK.out.q, hko⟩, HK.out.keeps⟩
          · have HF := Lib.hid hf
            clear hf hi
            have hi0 : decide ((0 : Int) ≤ (i : Int)) = true := decide_eq_true (by omega)
            go_wp2_with fail
            refine (hasR_any base g _ _ _ n' h' n' _ HK.out.q (by omega)).mono ?_
            rintro e _ ⟨zz, rfl, rfl, hz⟩
            rcases hz with ⟨hf, _⟩ | ⟨i2, d2, rfl, hi2, hf⟩
            · rw [HF.out] at hf; cases hf
            · have hdd : d2 = d' := by rw [HF.out] at hf; exact (Option.some.inj hf).symm
              have hwl := wipe_len HN.out hf
              have HWL := Lib.hid hwl
              have HD2 : Hid (deliv H.length r.next H = ((pre ++ [d2]) ++ (deliv (wipe h' n').length (n' + 1) (wipe h' n')).1, (deliv (wipe h' n').length (n' + 1) (wipe h' n')).2)) := Lib.hid (by rw [HD.out, ← hwl, deliv_some hf]; simp)
              have HSQ := Lib.hid (findD_mem hf).2
              have HI2 := Lib.hid hi2
              have hi2l : i2 < h'.length := (List.getElem?_eq_some_iff.1 hi2).1
              obtain ⟨gb, c7', d2', A8, n8, c8, e, hd2, hc0, hc1, hc2, hO8⟩ := HK.out.q.row.get hi2l
              injection e with e1 e2 e3
              subst e1 e3
              obtain rfl : d2' = d2 := by rw [hi2] at hd2; exact (Option.some.inj hd2).symm
              have HO8 := Lib.hid hO8
              have hsz := HK.out.keeps.size
              have f3 := HK.out.q.blk.cell 3
              obtain ⟨vs, hown, hcs⟩ := HK.out.outL
              have hpl : pre.length ≤ 65 := by omega
              clear hf hi2 hdd hwl hd2 hO8 f2 HF
              clear d'
              obtain ⟨d2, rfl⟩ : ∃ d, d = d2' := ⟨_, rfl⟩
              go_wp2_with (at_builtin; refine wpList_app _ elD rfl _ _ rfl w.heap.size (.slice A9 pre.length c9) pre.length vs rfl (hown.alloc _) _ 1 1 [.int .i64 d2.seq, .slice A8 n8 c8, .bool d2.lost] rfl rfl (At.new' _ [_, _, _] _ (by simp)) (by simp [Value.oneCell']) (by omega) (by unfold maxLen; omega) (by simp; omega) ?_; intro v4 w4 hown4 hgr4 hdj4; have HK4 := Lib.hid ((HK.out.ext ((Ext.refl _).alloc _)).app d2 (hown.alloc _) (hcs.imp fun _ _ h => h.ext ((Ext.refl _).alloc _)) (HO8.out.ext ((Ext.refl _).alloc _)) hown4 hgr4 hdj4); clear f3 hc0 hc1 hc2 hown hcs hown4 hgr4 hdj4; have f3 := HK4.out.q.blk.cell 3)
              obtain ⟨A4, c4, hA4⟩ : ∃ A c, v4 = .slice A (pre.length + 1) c := by simpa using HK4.out.outL.slice
              subst hA4
              clear f3 HK HO8
              go_loopg [8, 72] h'.length (fun f lv ix wr => ∃ (k : Nat) (ls : List Dlv), f = h'.length - k ∧ k ≤ h'.length ∧ ix = .int .i64 (k : Int) ∧ ls.length ≤ k ∧ Hid (ls = wipe (h'.take k) n') ∧ Hid (KeepSl base w (g :: (Value.slice A0 r.held.length c0).ownBlock.toList) wr g (.slice (some ⟨gb, 0, none⟩) h'.length c7) (.slice A4 (pre.length + 1) c4) lv r.stream r.window n' h' (pre ++ [d2]) ls))
              case atStart => exact ⟨0, [], rfl, by omega, rfl, by simp, Lib.hid rfl, Lib.hid HK4.out.start⟩
              case round =>
                clear HK4
                obtain ⟨k, ls, rfl, hk, rfl, hlk, HLS, HS⟩ := hrel
                obtain ⟨A6, c6, rfl⟩ := HS.out.leftL.slice
                by_cases hlt : k < h'.length
                · obtain ⟨gb', c7', d5, A5, n5, c5, e, hd5, hc0, hc1, hc2, hO5⟩ := HS.out.k.q.row.get hlt
                  injection e with e1 e2 e3
                  injection e1 with e1
                  injection e1 with e1
                  subst e1 e3
                  have HD5 := Lib.hid hd5
                  have HO5 := Lib.hid hO5
                  have hsz := HS.out.k.keeps.size
                  have f3 := HS.out.k.q.blk.cell 3
                  obtain ⟨vs, hown, hcs⟩ := HS.out.leftL
                  clear hd5 hO5
                  by_cases hki : k = i2
                  · have HKI := Lib.hid hki
                    have q1 : ((k : Int) != (i2 : Int)) = false := by simp [hki]
                    clear hki hc0 hc1 hc2 hown hcs f3
                    go_wp2
                    go_roundg (h'.length - (k + 1))
                    case rel =>
                      refine ⟨k + 1, ls, rfl, by omega, by go_num, by omega, Lib.hid ?_, HS⟩
                      have e5 : d5 = d2 := by have h1 := HD5.out; rw [HKI.out, HI2.out] at h1; exact (Option.some.inj h1).symm
                      rw [List.take_add_one, HD5.out]
                      rw [Option.toList_some, wipe_snoc_yes (by rw [e5]; exact HSQ.out)]
                      exact HLS.out
                    case measure => omega
                  · have q1 : ((k : Int) != (i2 : Int)) = true := by simp; omega
                    have HNE : Hid (d5.seq ≠ n') := Lib.hid fun e => hki (seq_inj HN.out HD5.out HI2.out (e.trans HSQ.out.symm))
                    clear hki
                    go_wp2_with (at_builtin; refine wpList_app _ elD rfl _ _ rfl w.heap.size (.slice A6 ls.length c6) ls.length vs rfl (hown.alloc _) _ 1 1 [.int .i64 d5.seq, .slice A5 n5 c5, .bool d5.lost] rfl rfl (At.new' _ [_, _, _] _ (by simp)) (by simp [Value.oneCell']) (by omega) (by unfold maxLen; omega) (by simp; omega) ?_; intro v6 w6 hown6 hgr6 hdj6; have HS6 := Lib.hid ((HS.out.ext ((Ext.refl _).alloc _)).app d5 (hown.alloc _) (hcs.imp fun _ _ h => h.ext ((Ext.refl _).alloc _)) (HO5.out.ext ((Ext.refl _).alloc _)) hown6 hgr6 hdj6); clear f3 hc0 hc1 hc2 hown hcs hown6 hgr6 hdj6)
                    go_roundg (h'.length - (k + 1))
                    case rel =>
                      refine ⟨k + 1, ls ++ [d5], rfl, by omega, by go_num, by simp; omega, Lib.hid ?_, HS6⟩
                      rw [List.take_add_one, HD5.out, Option.toList_some, wipe_snoc_no HNE.out, ← HLS.out]
                    case measure => omega
                · obtain rfl : k = h'.length := by omega
                  have hB := HS.out.k.q.blk
                  have f2 := hB.cell 2
                  have z2 := hB.free 2
                  have f3 := hB.cell 3
                  have z3 := hB.free 3
                  have HKE := Lib.hid (HS.out.stored (by simp) lb)
                  clear hB
                  go_wp2
                  go_roundg ((wipe h' n').length + 1)
                  case rel =>
                    have hls : ls = wipe h' n' := by rw [HLS.out, List.take_of_length_le (Nat.le_refl _)]
                    subst hls
                    exact ⟨n' + 1, wipe h' n', pre ++ [d2], _, rfl, by have := HWL.out; simp; omega, by omega, by simp; omega, HD2, HKE, Lib.hid (wipe_nodup HN.out)⟩
                  case measure => have := HWL.out; omega
        
    · have HE : Hid (keepR r ⟨sq, xs, lo⟩ = (r, [], 27)) := Lib.hid (by have e : refuse r (⟨sq, xs, lo⟩ : Dlv).seq = 27 := refuse_27 hnx hf; rw [keepR_no (by rw [e]; omega), e])
      have hi0 : decide ((0 : Int) ≤ (i : Int)) = true := decide_eq_true (by omega)
      clear hf hi
      go_wp2
      go_ret2
      rw [HE.out]
      exact ⟨_, _, rfl, DlL.nil _ _ _, HR.out, Keeps.of_ext HX.out _⟩

end Go.Proofs.Ytekhmfliaojabaa
namespace Go.Proofs.Ytekhmfliaojabaa
open Go.RowKit

/-- The act with the values 'us k', 'us (k + 1)', .. in the slots 'ds'. -/
def fillA (a : Act) : List Tmp → (Nat → Value) → Nat → Act
  | [], _, _ => a
  | d :: ds, us, k => fillA (a.put (some d) (us k)) ds us (k + 1)

/-- What one operation must give. -/
def MonoOp (P : Program) (ops : Array Oper) (V : Nat → Value → World → Prop) (D : List (List Nat)) (ds : List Tmp) (a : Act) (w0 : World) (i : Nat) (o : Oper) : Prop :=
  ∀ (us : Nat → Value) (W : World), Ext w0 W → (∀ j ∈ D.getD i [], V j (us j) W) → ∀ K : Act → World → Prop, (∀ v W', V i v W' → Ext W W' → K ((fillA a ds us 0).put o.dst v) W') → ∀ Q' : Exit → Act → World → Prop,
    if Region.wanted o (yielded ops (fillA a ds us 0).tmps) then o.wp P (fillA a ds us 0) W K Q' else K ((fillA a ds us 0).put o.dst undef) W
def MonoAll (P : Program) (ops : Array Oper) (V : Nat → Value → World → Prop) (D : List (List Nat)) (ds : List Tmp) (a : Act) (w0 : World) : Nat → List Oper → Prop
  | _, [] => True
  | i, o :: rest => MonoOp P ops V D ds a w0 i o ∧ MonoAll P ops V D ds a w0 (i + 1) rest

theorem MonoAll.at {P : Program} {ops : Array Oper} {V : Nat → Value → World → Prop} {D : List (List Nat)} {ds : List Tmp} {a : Act} {w0 : World} : ∀ (l : List Oper) (k : Nat), MonoAll P ops V D ds a w0 k l → ∀ i o, l[i]? = some o → MonoOp P ops V D ds a w0 (k + i) o := by
  intro l
  induction l with
  | nil => intro k _ i o h; simp at h
  | cons x l ih =>
    intro k h i o ho
    cases i with
    | zero => simp at ho; subst ho; exact h.1
    | succ i =>
      have := ih (k + 1) h.2 i o (by simpa using ho)
      rw [show k + 1 + i = k + (i + 1) by omega] at this
      exact this

section
variable {P : Program} {l : List Oper} {n : Nat} {ds : List Tmp} {D : List (List Nat)} {V : Nat → Value → World → Prop} {a : Act} {w0 : World} {Q : Exit → Act → World → Prop}

end
end Go.Proofs.Ytekhmfliaojabaa
namespace Go.Proofs.Ytekhmfliaojabaa
open Go.RowKit

set_option maxHeartbeats 400000 in
theorem validR_yes (s q : Int) (A : Option Addr) (n c : Nat) (w : World) (h1 : 0 ≤ s) (h2 : s ≤ 255) (h3 : 0 ≤ q) (h4 : q ≤ 4294967295) (h5 : n ≤ 1024) :
    Calls Try.prog 53 #[.agg #[.int .i64 s, .int .i64 q, .slice A n c]] w fun e w' => e = .returned (.bool true) ∧ Ext w w' := by
  go_enter Try.func53, Try.ntmps53
  go_wp2
  go_ret
  exact ⟨by simp; omega, (Ext.refl w).alloc _⟩
set_option maxHeartbeats 400000 in
theorem validR_no (s q : Int) (A : Option Addr) (n c : Nat) (w : World) (h : ¬ (0 ≤ s ∧ s ≤ 255 ∧ 0 ≤ q ∧ q ≤ 4294967295 ∧ n ≤ 1024)) :
    Calls Try.prog 53 #[.agg #[.int .i64 s, .int .i64 q, .slice A n c]] w fun e w' => e = .returned (.bool false) ∧ Ext w w' := by
  by_cases h1 : 0 ≤ s
  · by_cases h2 : s ≤ 255
    · by_cases h3 : 0 ≤ q
      · by_cases h4 : q ≤ 4294967295
        · have h5 : ¬ n ≤ 1024 := fun h5 => h ⟨h1, by omega, h3, h4, h5⟩
          clear h
          go_enter Try.func53, Try.ntmps53
          go_wp2
          go_ret
          exact ⟨by simp; omega, (Ext.refl w).alloc _⟩
        · clear h
          go_enter Try.func53, Try.ntmps53
          go_wp2
          go_ret
          exact ⟨by simp, (Ext.refl w).alloc _⟩
      · clear h
        go_enter Try.func53, Try.ntmps53
        go_wp2
        go_ret
        exact ⟨by simp, (Ext.refl w).alloc _⟩
    · clear h
      go_enter Try.func53, Try.ntmps53
      go_wp2
      go_ret
      exact ⟨by simp, (Ext.refl w).alloc _⟩
  · clear h
    go_enter Try.func53, Try.ntmps53
    go_wp2
    go_ret
    exact ⟨by simp, (Ext.refl w).alloc _⟩

theorem Lists.two {k : IntKind} {w : World} {A : Option Addr} {u v : Value} {xs ys : List Int} (hat : At w A [u, v]) (h1 : SlV k w u xs) (h2 : SlV k w v ys) : Lists k w A 2 [xs, ys] :=
  ⟨rfl, [u, v], rfl, hat, fun j a zs ha hz => by
    match j with
    | 0 => simp at ha hz; subst ha hz; exact h1
    | 1 => simp at ha hz; subst ha hz; exact h2
    | j + 2 => simp at ha⟩
end Go.Proofs.Ytekhmfliaojabaa
namespace Go.Proofs.Ytekhmfliaojabaa
open Go.RowKit

set_option maxRecDepth 100000 in
set_option maxHeartbeats 2000000 in
theorem takeE_r3 (g gf : Nat) (fs st : Int) (fb : Bool) (w : World) (y0 : w.cell? ⟨gf, 0, none⟩ = some (.int .i64 fs)) (f0 : w.cell? ⟨g, 0, none⟩ = some (.int .i64 st)) (hfb : Hid ((fs != st) = fb)) (a : Act) (Q : Exit → Act → World → Prop) (hsize : 16 ≤ a.tmps.size)
    (s0 : a.tmps[0]? = some (.pointer (some ⟨g, 0, none⟩)))
    (s3 : a.tmps[3]? = some (.pointer (some ⟨gf, 0, none⟩)))
    (hend : ∀ (xv0 xv1 xv2 xv3 xv4 xv5 xv6 : Value) (W : World), (xv0 = .pointer (some ⟨gf, 0, none⟩)) → (xv1 = .int .i64 fs) → (xv2 = .pointer (some ⟨g, 0, none⟩)) → (xv3 = .pointer (some ⟨g, 0, none⟩)) → (xv4 = .pointer (some ⟨g, 0, none⟩)) → (xv5 = .int .i64 st) → (xv6 = .bool fb) → Ext w W → wpList Try.prog (rops Try.f57 3).toArray Q ((rops Try.f57 3).drop 7) (((((((a.put (some 9) xv0).put (some 10) xv1).put (some 11) xv2).put (some 12) xv3).put (some 13) xv4).put (some 14) xv5).put (some 15) xv6) W) :
    (Code.region 3 (rops Try.f57 3).toArray true).wp Try.prog Q a w := by
  have hmono : ∀ (W W' : World) (j : Nat) (u : Value), Ext W W' → (fun (i : Nat) (v : Value) (W : World) => match i with
    | 0 => v = .pointer (some ⟨gf, 0, none⟩)
    | 1 => v = .int .i64 fs
    | 2 => v = .pointer (some ⟨g, 0, none⟩)
    | 3 => v = .pointer (some ⟨g, 0, none⟩)
    | 4 => v = .pointer (some ⟨g, 0, none⟩)
    | 5 => v = .int .i64 st
    | 6 => v = .bool fb
    | _ => True) j u W → (fun (i : Nat) (v : Value) (W : World) => match i with
    | 0 => v = .pointer (some ⟨gf, 0, none⟩)
    | 1 => v = .int .i64 fs
    | 2 => v = .pointer (some ⟨g, 0, none⟩)
    | 3 => v = .pointer (some ⟨g, 0, none⟩)
    | 4 => v = .pointer (some ⟨g, 0, none⟩)
    | 5 => v = .int .i64 st
    | 6 => v = .bool fb
    | _ => True) j u W' := by
    intro W W' j u hX h
    match j, h with
    | 0, h => exact h
    | 1, h => exact h
    | 2, h => exact h
    | 3, h => exact h
    | 4, h => exact h
    | 5, h => exact h
    | 6, h => exact h
    | _ + 7, h => exact h
  have hsz : ∀ d, some d ∈ ([some 9, some 10, some 11, some 12, some 13, some 14, some 15] : List (Option Tmp)) → d < a.tmps.size := slots_lt (by decide) hsize
  refine wp_region_j 7 [some 9, some 10, some 11, some 12, some 13, some 14, some 15] [[], [0], [], [2], [3], [4], [1, 5]] [[], [], [], [], [], [], []] (fun (i : Nat) (v : Value) (W : World) => match i with
    | 0 => v = .pointer (some ⟨gf, 0, none⟩)
    | 1 => v = .int .i64 fs
    | 2 => v = .pointer (some ⟨g, 0, none⟩)
    | 3 => v = .pointer (some ⟨g, 0, none⟩)
    | 4 => v = .pointer (some ⟨g, 0, none⟩)
    | 5 => v = .int .i64 st
    | 6 => v = .bool fb
    | _ => True) (fun _ W => Ext w W) (by kernel_rfl) (by kernel_rfl) hsz (fun _ _ _ _ h => h) ((Ext.refl w).drew) ?_ ?_
  · clear hend
    simp only [rops, Try.f57, regOf, Option.bind_some, Nat.reduceBEq, if_true, if_false, Bool.false_eq_true, Option.getD_some]
    simp only [List.take_succ_cons, List.take_zero]
    refine ⟨?_, ?_, ?_, ?_, ?_, ?_, ?_, trivial⟩
    · intro done us W hJ hdep haft hnot b hb hb' K hK Q'
      have e3 := (hb' 3 (by simp)).trans s3
      clear hb hb'
      go_simp
      exact hK _ _ rfl (fun _ _ _ h => h) hJ
    · intro done us W hJ hdep haft hnot b hb hb' K hK Q'
      simp only [List.getD_cons_succ, List.getD_cons_zero, List.mem_cons, List.not_mem_nil, or_false, forall_eq_or_imp, forall_eq] at hdep
      have e9 := hb 0 9 rfl
      have d0 := hdep
      rw [d0.1] at e9
      clear hb hb' hdep d0
      have q := Ext.cell hJ y0
      go_simp
      exact hK _ _ rfl (fun _ _ _ h => h) hJ
    · intro done us W hJ hdep haft hnot b hb hb' K hK Q'
      have e0 := (hb' 0 (by simp)).trans s0
      clear hb hb'
      go_simp
      exact hK _ _ rfl (fun _ _ _ h => h) hJ
    · intro done us W hJ hdep haft hnot b hb hb' K hK Q'
      simp only [List.getD_cons_succ, List.getD_cons_zero, List.mem_cons, List.not_mem_nil, or_false, forall_eq_or_imp, forall_eq] at hdep
      have e11 := hb 2 11 rfl
      have d2 := hdep
      rw [d2.1] at e11
      clear hb hb' hdep d2
      go_simp
      exact hK _ _ rfl (fun _ _ _ h => h) hJ
    · intro done us W hJ hdep haft hnot b hb hb' K hK Q'
      simp only [List.getD_cons_succ, List.getD_cons_zero, List.mem_cons, List.not_mem_nil, or_false, forall_eq_or_imp, forall_eq] at hdep
      have e12 := hb 3 12 rfl
      have d3 := hdep
      rw [d3.1] at e12
      clear hb hb' hdep d3
      go_simp
      exact hK _ _ rfl (fun _ _ _ h => h) hJ
    · intro done us W hJ hdep haft hnot b hb hb' K hK Q'
      simp only [List.getD_cons_succ, List.getD_cons_zero, List.mem_cons, List.not_mem_nil, or_false, forall_eq_or_imp, forall_eq] at hdep
      have e13 := hb 4 13 rfl
      have d4 := hdep
      rw [d4.1] at e13
      clear hb hb' hdep d4
      have q := Ext.cell hJ f0
      go_simp
      exact hK _ _ rfl (fun _ _ _ h => h) hJ
    · intro done us W hJ hdep haft hnot b hb hb' K hK Q'
      simp only [List.getD_cons_succ, List.getD_cons_zero, List.mem_cons, List.not_mem_nil, or_false, forall_eq_or_imp, forall_eq] at hdep
      have e10 := hb 1 10 rfl
      have e14 := hb 5 14 rfl
      have d1 := hdep.1
      have d5 := hdep.2
      rw [d1.1] at e10
      rw [d5.1] at e14
      clear hb hb' hdep d1 d5
      go_simp
      exact hK _ _ (by first | rfl | exact congrArg Value.bool hfb.out | (congr 1; exact hfb.out)) (fun _ _ _ h => h) hJ
  · intro us W hV hJ
    exact hend (us 0) (us 1) (us 2) (us 3) (us 4) (us 5) (us 6) W (hV 0 (by omega)) (hV 1 (by omega)) (hV 2 (by omega)) (hV 3 (by omega)) (hV 4 (by omega)) (hV 5 (by omega)) (hV 6 (by omega)) hJ
set_option maxRecDepth 100000 in
set_option maxHeartbeats 2000000 in
theorem takeE_r5 (base g gf : Nat) (v0 : Value) (r : Rcv) (fs fq : Int) (Ab : Option Addr) (n c : Nat) (xs : List Int) (w : World) (hF : Blk w gf 38 #[.int .i64 fs, .int .i64 fq, .slice Ab n c]) (hgf : gf ∉ g :: v0.ownBlock.toList) (hI : Ints .u8 w Ab n xs) (hc1 : n ≤ c) (hc2 : c ≤ 9223372036854775807) (hn : n ≤ 1000000) (hR : RecR base w g v0 r) (hb : base ≤ w.heap.size) (hLb : ∀ k ∈ g :: v0.ownBlock.toList, k < w.heap.size) (h1 : 0 ≤ fq) (h2 : fq ≤ 4294967295) (h3 : xs.length ≤ 1024) (a : Act) (Q : Exit → Act → World → Prop) (hsize : 27 ≤ a.tmps.size)
    (s0 : a.tmps[0]? = some (.pointer (some ⟨g, 0, none⟩)))
    (s3 : a.tmps[3]? = some (.pointer (some ⟨gf, 0, none⟩)))
    (hend : ∀ (xv0 xv1 xv2 xv3 xv4 xv5 xv6 xv7 xv8 xv9 xv10 xv11 xv12 : Value) (W : World), (xv0 = .pointer (some ⟨g, 0, none⟩)) → (xv1 = .pointer (some ⟨gf, 1, none⟩)) → (xv2 = .int .i64 fq) → (xv3 = .pointer (some ⟨gf, 2, none⟩)) → (xv4 = .slice Ab n c) → (∃ g', xv5 = .slice (some ⟨g', 0, none⟩) 1 1 ∧ w.heap.size ≤ g' ∧ Blk W g' 22 #[.slice Ab n c]) → (BodyV w.heap.size W xv6 xs) → (∃ A' n' c', xv7 = .agg #[.int .i64 fq, .slice A' n' c', .bool false] ∧ OwnS .u8 5 w.heap.size W A' n' c' xs) → (∃ u xv8', xv8 = .tuple #[u, .int .i64 (keepR r ⟨fq, xs, false⟩).2.2] ∧ DlL w.heap.size base W u (keepR r ⟨fq, xs, false⟩).2.1 ∧ RecR base W g xv8' (keepR r ⟨fq, xs, false⟩).1) → (DlL w.heap.size base W xv9 (keepR r ⟨fq, xs, false⟩).2.1 ∧ ∃ xv9', RecR base W g xv9' (keepR r ⟨fq, xs, false⟩).1) → ((xv10 = .int .i64 (keepR r ⟨fq, xs, false⟩).2.2)) → (DlL w.heap.size base W xv11 (keepR r ⟨fq, xs, false⟩).2.1 ∧ ∃ xv11', RecR base W g xv11' (keepR r ⟨fq, xs, false⟩).1) → (xv12 = .int .i64 (keepR r ⟨fq, xs, false⟩).2.2) → Keeps (g :: v0.ownBlock.toList) w W → wpList Try.prog (rops Try.f57 5).toArray Q ((rops Try.f57 5).drop 13) (((((((((((((a.put (some 16) xv0).put (some 17) xv1).put (some 18) xv2).put (some 19) xv3).put (some 20) xv4).put (some 21) xv5).put (some 22) xv6).put (some 23) xv7).put (some 24) xv8).put (some 25) xv9).put (some 26) xv10).put (some 4) xv11).put (some 5) xv12) W) :
    (Code.region 5 (rops Try.f57 5).toArray true).wp Try.prog Q a w := by
  have hmono : ∀ (W W' : World) (j : Nat) (u : Value), Ext W W' → (fun (i : Nat) (v : Value) (W : World) => match i with
    | 0 => v = .pointer (some ⟨g, 0, none⟩)
    | 1 => v = .pointer (some ⟨gf, 1, none⟩)
    | 2 => v = .int .i64 fq
    | 3 => v = .pointer (some ⟨gf, 2, none⟩)
    | 4 => v = .slice Ab n c
    | 5 => ∃ g', v = .slice (some ⟨g', 0, none⟩) 1 1 ∧ w.heap.size ≤ g' ∧ Blk W g' 22 #[.slice Ab n c]
    | 6 => BodyV w.heap.size W v xs
    | 7 => ∃ A' n' c', v = .agg #[.int .i64 fq, .slice A' n' c', .bool false] ∧ OwnS .u8 5 w.heap.size W A' n' c' xs
    | 8 => ∃ u v', v = .tuple #[u, .int .i64 (keepR r ⟨fq, xs, false⟩).2.2] ∧ DlL w.heap.size base W u (keepR r ⟨fq, xs, false⟩).2.1 ∧ RecR base W g v' (keepR r ⟨fq, xs, false⟩).1
    | 9 => DlL w.heap.size base W v (keepR r ⟨fq, xs, false⟩).2.1 ∧ ∃ v', RecR base W g v' (keepR r ⟨fq, xs, false⟩).1
    | 10 => (v = .int .i64 (keepR r ⟨fq, xs, false⟩).2.2)
    | 11 => DlL w.heap.size base W v (keepR r ⟨fq, xs, false⟩).2.1 ∧ ∃ v', RecR base W g v' (keepR r ⟨fq, xs, false⟩).1
    | 12 => v = .int .i64 (keepR r ⟨fq, xs, false⟩).2.2
    | _ => True) j u W → (fun (i : Nat) (v : Value) (W : World) => match i with
    | 0 => v = .pointer (some ⟨g, 0, none⟩)
    | 1 => v = .pointer (some ⟨gf, 1, none⟩)
    | 2 => v = .int .i64 fq
    | 3 => v = .pointer (some ⟨gf, 2, none⟩)
    | 4 => v = .slice Ab n c
    | 5 => ∃ g', v = .slice (some ⟨g', 0, none⟩) 1 1 ∧ w.heap.size ≤ g' ∧ Blk W g' 22 #[.slice Ab n c]
    | 6 => BodyV w.heap.size W v xs
    | 7 => ∃ A' n' c', v = .agg #[.int .i64 fq, .slice A' n' c', .bool false] ∧ OwnS .u8 5 w.heap.size W A' n' c' xs
    | 8 => ∃ u v', v = .tuple #[u, .int .i64 (keepR r ⟨fq, xs, false⟩).2.2] ∧ DlL w.heap.size base W u (keepR r ⟨fq, xs, false⟩).2.1 ∧ RecR base W g v' (keepR r ⟨fq, xs, false⟩).1
    | 9 => DlL w.heap.size base W v (keepR r ⟨fq, xs, false⟩).2.1 ∧ ∃ v', RecR base W g v' (keepR r ⟨fq, xs, false⟩).1
    | 10 => (v = .int .i64 (keepR r ⟨fq, xs, false⟩).2.2)
    | 11 => DlL w.heap.size base W v (keepR r ⟨fq, xs, false⟩).2.1 ∧ ∃ v', RecR base W g v' (keepR r ⟨fq, xs, false⟩).1
    | 12 => v = .int .i64 (keepR r ⟨fq, xs, false⟩).2.2
    | _ => True) j u W' := by
    intro W W' j u hX h
    match j, h with
    | 0, h => exact h
    | 1, h => exact h
    | 2, h => exact h
    | 3, h => exact h
    | 4, h => exact h
    | 5, h => obtain ⟨g', h1, h2, h3⟩ := h; exact ⟨g', h1, h2, h3.ext hX⟩
    | 6, h => exact BodyV.ext h hX
    | 7, h => obtain ⟨A', n', c', h1, h2⟩ := h; exact ⟨A', n', c', h1, h2.ext hX⟩
    | 8, h => obtain ⟨u, v', h1, h2, h3⟩ := h; exact ⟨u, v', h1, h2.ext hX, h3.ext hX⟩
    | 9, h => obtain ⟨h1, v', h2⟩ := h; exact ⟨h1.ext hX, v', h2.ext hX⟩
    | 10, h => exact h
    | 11, h => obtain ⟨h1, v', h2⟩ := h; exact ⟨h1.ext hX, v', h2.ext hX⟩
    | 12, h => exact h
    | _ + 13, h => exact h
  have hmonoK : ∀ (W W' : World) (j : Nat) (u : Value), Keeps (g :: v0.ownBlock.toList) W W' → (∀ k ∈ (g :: v0.ownBlock.toList), NoRow 5 W k) → j < 8 → (fun (i : Nat) (v : Value) (W : World) => match i with
    | 0 => v = .pointer (some ⟨g, 0, none⟩)
    | 1 => v = .pointer (some ⟨gf, 1, none⟩)
    | 2 => v = .int .i64 fq
    | 3 => v = .pointer (some ⟨gf, 2, none⟩)
    | 4 => v = .slice Ab n c
    | 5 => ∃ g', v = .slice (some ⟨g', 0, none⟩) 1 1 ∧ w.heap.size ≤ g' ∧ Blk W g' 22 #[.slice Ab n c]
    | 6 => BodyV w.heap.size W v xs
    | 7 => ∃ A' n' c', v = .agg #[.int .i64 fq, .slice A' n' c', .bool false] ∧ OwnS .u8 5 w.heap.size W A' n' c' xs
    | 8 => ∃ u v', v = .tuple #[u, .int .i64 (keepR r ⟨fq, xs, false⟩).2.2] ∧ DlL w.heap.size base W u (keepR r ⟨fq, xs, false⟩).2.1 ∧ RecR base W g v' (keepR r ⟨fq, xs, false⟩).1
    | 9 => DlL w.heap.size base W v (keepR r ⟨fq, xs, false⟩).2.1 ∧ ∃ v', RecR base W g v' (keepR r ⟨fq, xs, false⟩).1
    | 10 => (v = .int .i64 (keepR r ⟨fq, xs, false⟩).2.2)
    | 11 => DlL w.heap.size base W v (keepR r ⟨fq, xs, false⟩).2.1 ∧ ∃ v', RecR base W g v' (keepR r ⟨fq, xs, false⟩).1
    | 12 => v = .int .i64 (keepR r ⟨fq, xs, false⟩).2.2
    | _ => True) j u W → (fun (i : Nat) (v : Value) (W : World) => match i with
    | 0 => v = .pointer (some ⟨g, 0, none⟩)
    | 1 => v = .pointer (some ⟨gf, 1, none⟩)
    | 2 => v = .int .i64 fq
    | 3 => v = .pointer (some ⟨gf, 2, none⟩)
    | 4 => v = .slice Ab n c
    | 5 => ∃ g', v = .slice (some ⟨g', 0, none⟩) 1 1 ∧ w.heap.size ≤ g' ∧ Blk W g' 22 #[.slice Ab n c]
    | 6 => BodyV w.heap.size W v xs
    | 7 => ∃ A' n' c', v = .agg #[.int .i64 fq, .slice A' n' c', .bool false] ∧ OwnS .u8 5 w.heap.size W A' n' c' xs
    | 8 => ∃ u v', v = .tuple #[u, .int .i64 (keepR r ⟨fq, xs, false⟩).2.2] ∧ DlL w.heap.size base W u (keepR r ⟨fq, xs, false⟩).2.1 ∧ RecR base W g v' (keepR r ⟨fq, xs, false⟩).1
    | 9 => DlL w.heap.size base W v (keepR r ⟨fq, xs, false⟩).2.1 ∧ ∃ v', RecR base W g v' (keepR r ⟨fq, xs, false⟩).1
    | 10 => (v = .int .i64 (keepR r ⟨fq, xs, false⟩).2.2)
    | 11 => DlL w.heap.size base W v (keepR r ⟨fq, xs, false⟩).2.1 ∧ ∃ v', RecR base W g v' (keepR r ⟨fq, xs, false⟩).1
    | 12 => v = .int .i64 (keepR r ⟨fq, xs, false⟩).2.2
    | _ => True) j u W' := by
    intro W W' j u hk hN hne h
    match j, h with
    | 0, h => exact h
    | 1, h => exact h
    | 2, h => exact h
    | 3, h => exact h
    | 4, h => exact h
    | 5, h => obtain ⟨g', h1, h2, h3⟩ := h; exact ⟨g', h1, h2, h3.keeps hk (fun hl => by have := hLb _ hl; omega)⟩
    | 6, h => exact BodyV.keeps h hk hN
    | 7, h => obtain ⟨A', n', c', h1, h2⟩ := h; exact ⟨A', n', c', h1, h2.keeps hk hN⟩
    | 8, h => omega
    | 9, h => omega
    | 10, h => omega
    | 11, h => omega
    | 12, h => omega
    | _ + 13, h => exact h
  have hsz : ∀ d, some d ∈ ([some 16, some 17, some 18, some 19, some 20, some 21, some 22, some 23, some 24, some 25, some 26, some 4, some 5] : List (Option Tmp)) → d < a.tmps.size := slots_lt (by decide) hsize
  refine wp_region_j 13 [some 16, some 17, some 18, some 19, some 20, some 21, some 22, some 23, some 24, some 25, some 26, some 4, some 5] [[], [], [1], [], [3], [4], [5], [2, 6], [0, 7], [8], [8], [9], [10]] [[], [], [], [], [], [], [8], [8], [], [], [], [], []] (fun (i : Nat) (v : Value) (W : World) => match i with
    | 0 => v = .pointer (some ⟨g, 0, none⟩)
    | 1 => v = .pointer (some ⟨gf, 1, none⟩)
    | 2 => v = .int .i64 fq
    | 3 => v = .pointer (some ⟨gf, 2, none⟩)
    | 4 => v = .slice Ab n c
    | 5 => ∃ g', v = .slice (some ⟨g', 0, none⟩) 1 1 ∧ w.heap.size ≤ g' ∧ Blk W g' 22 #[.slice Ab n c]
    | 6 => BodyV w.heap.size W v xs
    | 7 => ∃ A' n' c', v = .agg #[.int .i64 fq, .slice A' n' c', .bool false] ∧ OwnS .u8 5 w.heap.size W A' n' c' xs
    | 8 => ∃ u v', v = .tuple #[u, .int .i64 (keepR r ⟨fq, xs, false⟩).2.2] ∧ DlL w.heap.size base W u (keepR r ⟨fq, xs, false⟩).2.1 ∧ RecR base W g v' (keepR r ⟨fq, xs, false⟩).1
    | 9 => DlL w.heap.size base W v (keepR r ⟨fq, xs, false⟩).2.1 ∧ ∃ v', RecR base W g v' (keepR r ⟨fq, xs, false⟩).1
    | 10 => (v = .int .i64 (keepR r ⟨fq, xs, false⟩).2.2)
    | 11 => DlL w.heap.size base W v (keepR r ⟨fq, xs, false⟩).2.1 ∧ ∃ v', RecR base W g v' (keepR r ⟨fq, xs, false⟩).1
    | 12 => v = .int .i64 (keepR r ⟨fq, xs, false⟩).2.2
    | _ => True) (fun done W => Keeps (g :: v0.ownBlock.toList) w W ∧ (¬ done 8 → Ext w W) ∧ (∀ j, 8 < j → done j → done 8)) (by kernel_rfl) (by kernel_rfl) hsz (fun p q W h hj => by have e : p = q := funext fun k => propext (h k); subst e; exact hj) ⟨Keeps.of_ext (Ext.refl w).drew _, fun _ => (Ext.refl w).drew, fun _ _ h => h⟩ ?_ ?_
  · clear hend
    simp only [rops, Try.f57, regOf, Option.bind_some, Nat.reduceBEq, if_true, if_false, Bool.false_eq_true, Option.getD_some]
    simp only [List.take_succ_cons, List.take_zero]
    refine ⟨?_, ?_, ?_, ?_, ?_, ?_, ?_, ?_, ?_, ?_, ?_, ?_, ?_, trivial⟩
    · intro done us W hJ hdep haft hnot b hb hb' K hK Q'
      have e0 := (hb' 0 (by simp)).trans s0
      clear hb hb'
      go_simp
      exact hK _ _ rfl (fun _ _ _ h => h) ⟨hJ.1, fun h => hJ.2.1 fun d => h (.inl d), fun j hj d => d.elim (fun d => .inl (hJ.2.2 j hj d)) (fun e => by omega)⟩
    · intro done us W hJ hdep haft hnot b hb hb' K hK Q'
      have e3 := (hb' 3 (by simp)).trans s3
      clear hb hb'
      go_simp
      exact hK _ _ rfl (fun _ _ _ h => h) ⟨hJ.1, fun h => hJ.2.1 fun d => h (.inl d), fun j hj d => d.elim (fun d => .inl (hJ.2.2 j hj d)) (fun e => by omega)⟩
    · intro done us W hJ hdep haft hnot b hb hb' K hK Q'
      simp only [List.getD_cons_succ, List.getD_cons_zero, List.mem_cons, List.not_mem_nil, or_false, forall_eq_or_imp, forall_eq] at hdep
      have e17 := hb 1 17 rfl
      have d1 := hdep
      rw [d1.1] at e17
      clear hb hb' hdep d1
      have q := (hF.keeps hJ.1 hgf).cell 1
      go_simp
      exact hK _ _ (rfl) (fun _ _ _ h => h) ⟨hJ.1, fun h => hJ.2.1 fun d => h (.inl d), fun j hj d => d.elim (fun d => .inl (hJ.2.2 j hj d)) (fun e => by omega)⟩
    · intro done us W hJ hdep haft hnot b hb hb' K hK Q'
      have e3 := (hb' 3 (by simp)).trans s3
      clear hb hb'
      go_simp
      exact hK _ _ rfl (fun _ _ _ h => h) ⟨hJ.1, fun h => hJ.2.1 fun d => h (.inl d), fun j hj d => d.elim (fun d => .inl (hJ.2.2 j hj d)) (fun e => by omega)⟩
    · intro done us W hJ hdep haft hnot b hb hb' K hK Q'
      simp only [List.getD_cons_succ, List.getD_cons_zero, List.mem_cons, List.not_mem_nil, or_false, forall_eq_or_imp, forall_eq] at hdep
      have e19 := hb 3 19 rfl
      have d3 := hdep
      rw [d3.1] at e19
      clear hb hb' hdep d3
      have q := (hF.keeps hJ.1 hgf).cell 2
      go_simp
      exact hK _ _ (rfl) (fun _ _ _ h => h) ⟨hJ.1, fun h => hJ.2.1 fun d => h (.inl d), fun j hj d => d.elim (fun d => .inl (hJ.2.2 j hj d)) (fun e => by omega)⟩
    · intro done us W hJ hdep haft hnot b hb hb' K hK Q'
      simp only [List.getD_cons_succ, List.getD_cons_zero, List.mem_cons, List.not_mem_nil, or_false, forall_eq_or_imp, forall_eq] at hdep
      have e20 := hb 4 20 rfl
      have d4 := hdep
      rw [d4.1] at e20
      clear hb hb' hdep d4
      have hb1 := Blk.new W 22 #[.slice Ab n c]
      have hX := (Ext.refl W).alloc (.cells #[.slice Ab n c] 22)
      have hs := hJ.1.size
      go_simp
      exact hK _ _ (⟨_, rfl, hs, hb1⟩) (fun j u _ h => hmono _ _ j u hX h) ⟨hJ.1.trans (Keeps.of_ext hX _), fun h => (hJ.2.1 fun d => h (.inl d)).trans hX, fun j hj d => d.elim (fun d => .inl (hJ.2.2 j hj d)) (fun e => by omega)⟩
    · intro done us W hJ hdep haft hnot b hb hb' K hK Q'
      simp only [List.getD_cons_succ, List.getD_cons_zero, List.mem_cons, List.not_mem_nil, or_false, forall_eq_or_imp, forall_eq] at hdep
      simp only [List.getD_cons_succ, List.getD_cons_zero, List.mem_cons, List.not_mem_nil, or_false, forall_eq_or_imp, forall_eq] at haft
      have e21 := hb 5 21 rfl
      have d5 := hdep
      clear hb hb' hdep 
      have hJE := hJ.2.1 haft
      obtain ⟨g', e', hg', hb1⟩ := d5.1
      rw [e'] at e21
      have hl : Lists .u8 W (some ⟨g', 0, none⟩) 1 [xs] := Lists.one (fun _ => ⟨g', 0, rfl, fun j u hu => by match j with | 0 => (simp at hu; subst hu; exact hb1.cell 0) | j + 1 => simp at hu⟩) ⟨Ab, n, c, rfl, hI.ext hJE, hc1, hc2⟩
      go_simp
      refine (joined_any _ 1 1 _ W hl (by omega) (by rw [flat_one, hI.1]; omega)).mono ?_
      rintro e w' ⟨A2, n2, c2, rfl, ho, hX⟩
      rw [flat_one] at ho
      exact hK _ _ (⟨A2, n2, c2, rfl, ho.mono (Ext.size hJE)⟩) (fun j u _ h => hmono _ _ j u hX h) ⟨hJ.1.trans (Keeps.of_ext hX _), fun h => (hJ.2.1 fun d => h (.inl d)).trans hX, fun j hj d => d.elim (fun d => .inl (hJ.2.2 j hj d)) (fun e => by omega)⟩
    · intro done us W hJ hdep haft hnot b hb hb' K hK Q'
      simp only [List.getD_cons_succ, List.getD_cons_zero, List.mem_cons, List.not_mem_nil, or_false, forall_eq_or_imp, forall_eq] at hdep
      simp only [List.getD_cons_succ, List.getD_cons_zero, List.mem_cons, List.not_mem_nil, or_false, forall_eq_or_imp, forall_eq] at haft
      have e18 := hb 2 18 rfl
      have e22 := hb 6 22 rfl
      have d2 := hdep.1
      have d6 := hdep.2
      rw [d2.1] at e18
      clear hb hb' hdep d2
      have hJE := hJ.2.1 haft
      obtain ⟨A', n', c', e', ho⟩ := d6.1
      rw [e'] at e22
      go_simp
      exact hK _ _ (⟨A', n', c', rfl, ho⟩) (fun _ _ _ h => h) ⟨hJ.1, fun h => hJ.2.1 fun d => h (.inl d), fun j hj d => d.elim (fun d => .inl (hJ.2.2 j hj d)) (fun e => by omega)⟩
    · intro done us W hJ hdep haft hnot b hb hb' K hK Q'
      simp only [List.getD_cons_succ, List.getD_cons_zero, List.mem_cons, List.not_mem_nil, or_false, forall_eq_or_imp, forall_eq] at hdep
      have e16 := hb 0 16 rfl
      have e23 := hb 7 23 rfl
      have d0 := hdep.1
      have d7 := hdep.2
      rw [d0.1] at e16
      clear hb hb' hdep d0
      have hJE := hJ.2.1 hnot
      have hlt : ∀ j, done j → j < 8 := fun j hd => by
        rcases Nat.lt_or_ge j 8 with h | h
        · exact h
        · rcases Nat.eq_or_lt_of_le h with h | h
          · subst h; exact absurd hd hnot
          · exact absurd (hJ.2.2 j h hd) hnot
      obtain ⟨A', n', c', e', ho⟩ := d7.1
      rw [e'] at e23
      have hR' := hR.ext hJE
      have hs := Ext.size hJE
      go_simp
      refine (keepE_any base g v0 r ⟨fq, xs, false⟩ A' n' c' W hR' (ho.mono (by omega)) h1 h2 h3).mono ?_
      rintro e w' ⟨u, v', rfl, hd', hr', hk⟩
      have hN : ∀ k ∈ (g :: v0.ownBlock.toList), NoRow 5 W k := hR'.q.far _ (by decide) (by decide)
      exact hK _ _ (⟨u, v', rfl, hd'.mono hs, hr'⟩) (fun j u hd h => hmonoK _ _ j u hk hN (hlt j hd) h) ⟨hJ.1.trans hk, fun h => absurd (.inr rfl) h, fun _ _ _ => .inr rfl⟩
    · intro done us W hJ hdep haft hnot b hb hb' K hK Q'
      simp only [List.getD_cons_succ, List.getD_cons_zero, List.mem_cons, List.not_mem_nil, or_false, forall_eq_or_imp, forall_eq] at hdep
      have e24 := hb 8 24 rfl
      have d8 := hdep
      clear hb hb' hdep 
      have hS : done 8 := d8.2
      obtain ⟨u, v', e', hd', hr'⟩ := d8.1
      rw [e'] at e24
      go_simp
      exact hK _ _ (⟨hd', v', hr'⟩) (fun _ _ _ h => h) ⟨hJ.1, fun h => absurd (.inl hS) h, fun j hj d => .inl hS⟩
    · intro done us W hJ hdep haft hnot b hb hb' K hK Q'
      simp only [List.getD_cons_succ, List.getD_cons_zero, List.mem_cons, List.not_mem_nil, or_false, forall_eq_or_imp, forall_eq] at hdep
      have e24 := hb 8 24 rfl
      have d8 := hdep
      clear hb hb' hdep 
      have hS : done 8 := d8.2
      obtain ⟨u, v', e', hd', hr'⟩ := d8.1
      rw [e'] at e24
      go_simp
      exact hK _ _ (rfl) (fun _ _ _ h => h) ⟨hJ.1, fun h => absurd (.inl hS) h, fun j hj d => .inl hS⟩
    · intro done us W hJ hdep haft hnot b hb hb' K hK Q'
      simp only [List.getD_cons_succ, List.getD_cons_zero, List.mem_cons, List.not_mem_nil, or_false, forall_eq_or_imp, forall_eq] at hdep
      have e25 := hb 9 25 rfl
      have d9 := hdep
      clear hb hb' hdep 
      have hS : done 8 := hJ.2.2 9 (by decide) d9.2
      have hv := d9.1
      go_simp
      exact hK _ _ (hv) (fun _ _ _ h => h) ⟨hJ.1, fun h => absurd (.inl hS) h, fun j hj d => .inl hS⟩
    · intro done us W hJ hdep haft hnot b hb hb' K hK Q'
      simp only [List.getD_cons_succ, List.getD_cons_zero, List.mem_cons, List.not_mem_nil, or_false, forall_eq_or_imp, forall_eq] at hdep
      have e26 := hb 10 26 rfl
      have d10 := hdep
      clear hb hb' hdep 
      have hS : done 8 := hJ.2.2 10 (by decide) d10.2
      rw [d10.1] at e26
      go_simp
      exact hK _ _ (rfl) (fun _ _ _ h => h) ⟨hJ.1, fun h => absurd (.inl hS) h, fun j hj d => .inl hS⟩
  · intro us W hV hJ
    exact hend (us 0) (us 1) (us 2) (us 3) (us 4) (us 5) (us 6) (us 7) (us 8) (us 9) (us 10) (us 11) (us 12) W (hV 0 (by omega)) (hV 1 (by omega)) (hV 2 (by omega)) (hV 3 (by omega)) (hV 4 (by omega)) (hV 5 (by omega)) (hV 6 (by omega)) (hV 7 (by omega)) (hV 8 (by omega)) (hV 9 (by omega)) (hV 10 (by omega)) (hV 11 (by omega)) (hV 12 (by omega)) hJ.1
set_option maxRecDepth 100000 in
set_option maxHeartbeats 4000000 in
theorem takeE_any (base g : Nat) (v : Value) (r : Rcv) (f : Fr) (Ab : Option Addr) (n c : Nat) (w : World) (h : RecR base w g v r) (hI : Ints .u8 w Ab n f.body) (hc1 : n ≤ c) (hc2 : c ≤ 9223372036854775807) (hn : n ≤ 1000000) :
    Calls Try.prog 57 #[.pointer (some ⟨g, 0, none⟩), .agg #[.int .i64 f.stream, .int .i64 f.seq, .slice Ab n c]] w (RetKe base g v w (takeR r f)) := by
  have HR := Lib.hid h
  have HI := Lib.hid hI
  have hbl := hI.1
  have lb := h.q.base_le
  have HLb : Hid (∀ k ∈ g :: v.ownBlock.toList, k < w.heap.size) := Lib.hid fun k hk => by
    simp only [List.mem_cons, Option.mem_toList] at hk
    rcases hk with rfl | hk
    · exact h.q.lt
    · exact (h.q.row.lt k hk).2
  obtain ⟨A0, c0, rfl⟩ := h.q.row.slice
  obtain ⟨st, q, xs⟩ := f
  simp only at hI HI hbl ⊢
  have HBL := Lib.hid hbl
  clear h hI hbl
  have hXe : Ext w (w.alloc (.cells #[.int .i64 st, .int .i64 q, .slice Ab n c] 38)) := ((Ext.refl w).alloc _)
  have kf : Blk (w.alloc (.cells #[.int .i64 st, .int .i64 q, .slice Ab n c] 38)) w.heap.size 38 #[.int .i64 st, .int .i64 q, .slice Ab n c] := Blk.at_ (by simp)
  go_enter Try.func57, Try.ntmps57
  go_wp2_with fail
  generalize (w.alloc (.cells #[.int .i64 st, .int .i64 q, .slice Ab n c] 38)) = w1 at hXe kf ⊢
  have HX := Lib.hid hXe
  clear hXe
  have Kf := Lib.hid kf
  clear kf
  replace HR := Lib.hid (HR.out.ext HX.out)
  replace HI := Lib.hid (HI.out.ext HX.out)
  by_cases hok : FrOk ⟨st, q, xs⟩
  · obtain ⟨o1, o2, o3, o4, o5⟩ := hok
    simp only at o1 o2 o3 o4 o5
    have HE0 : Hid (takeR r ⟨st, q, xs⟩ = if st ≠ r.stream then (r, [], 25) else keepR r ⟨q, xs, false⟩) := Lib.hid (by unfold takeR; rw [if_neg (fun h => h ⟨o1, o2, o3, o4, o5⟩)])
    have hn5 : n ≤ 1024 := by have := HBL.out; omega
    refine (validR_yes st q Ab n c _ o1 o2 o3 o4 hn5).mono ?_
    rintro e w2 ⟨rfl, hX⟩
    replace hX : Ext w1 w2 := by with_reducible exact hX
    replace HX := Lib.hid (HX.out.trans hX)
    replace HR := Lib.hid (HR.out.ext hX)
    replace HI := Lib.hid (HI.out.ext hX)
    replace Kf := Lib.hid (Kf.out.ext hX)
    clear hX
    by_cases hst : st = r.stream
    · have hfb : Hid ((st != r.stream) = false) := Lib.hid (by simpa using hst)
      have HE1 : Hid (takeR r ⟨st, q, xs⟩ = keepR r ⟨q, xs, false⟩) := Lib.hid (by rw [HE0.out, if_neg (by simpa using hst)])
      clear hst
      go_upto_region 3 with (fail)
      refine takeE_r3 g w.heap.size st r.stream false _ (Kf.out.cell 0) (HR.out.q.blk.cell 0) hfb _ _ (by simp) rfl rfl ?_
      rintro xv0 xv1 xv2 xv3 xv4 xv5 xv6 w3 rfl rfl rfl rfl rfl rfl rfl hXW
      simp only [rops, Try.f57, regOf, Option.bind_some, Nat.reduceBEq, if_true, if_false, Bool.false_eq_true, Option.getD_some, List.drop_succ_cons, List.drop_zero]
      simp only [Act.put, List.setIfInBounds_toArray, List.set_cons_succ, List.set_cons_zero]
      replace HX := Lib.hid (HX.out.trans hXW)
      replace HR := Lib.hid (HR.out.ext hXW)
      replace HI := Lib.hid (HI.out.ext hXW)
      replace Kf := Lib.hid (Kf.out.ext hXW)
      clear hXW
      go_upto_region 5 with (fail)
      have hy := HX.out.size
      have hz4 := hy
      refine takeE_r5 base g w.heap.size _ r st q Ab n c xs w3 Kf.out (fun hl => by have := HLb.out _ hl; omega) HI.out hc1 hc2 (by omega) HR.out (by omega) (fun k hk => by have := HLb.out k hk; omega) o3 o4 (by have := HBL.out; omega) _ _ (by simp) rfl rfl ?_
      rintro xv0 xv1 xv2 xv3 xv4 xv5 xv6 xv7 xv8 xv9 xv10 xv11 xv12 W4 rfl rfl rfl rfl rfl _ _ _ _ _ _ ⟨hd, v', hr'⟩ rfl hK4
      simp only [rops, Try.f57, regOf, Option.bind_some, Nat.reduceBEq, if_true, if_false, Bool.false_eq_true, Option.getD_some, List.drop_succ_cons, List.drop_zero]
      simp only [Act.put, List.setIfInBounds_toArray, List.set_cons_succ, List.set_cons_zero]
      have HD := Lib.hid (hd.mono hy)
      have HR' := Lib.hid hr'
      have HK := Lib.hid ((Keeps.of_ext HX.out _).trans hK4)
      clear hd hr' hK4
      go_wp2
      go_ret2
      rw [HE1.out]
      exact ⟨_, _, rfl, HD.out, HR'.out, HK.out⟩
    · have hfb : Hid ((st != r.stream) = true) := Lib.hid (by simpa using hst)
      have HE : Hid (takeR r ⟨st, q, xs⟩ = (r, [], 25)) := Lib.hid (by rw [HE0.out, if_pos hst])
      clear hst
      go_upto_region 3 with (fail)
      refine takeE_r3 g w.heap.size st r.stream true _ (Kf.out.cell 0) (HR.out.q.blk.cell 0) hfb _ _ (by simp) rfl rfl ?_
      rintro xv0 xv1 xv2 xv3 xv4 xv5 xv6 w3 rfl rfl rfl rfl rfl rfl rfl hXW
      simp only [rops, Try.f57, regOf, Option.bind_some, Nat.reduceBEq, if_true, if_false, Bool.false_eq_true, Option.getD_some, List.drop_succ_cons, List.drop_zero]
      simp only [Act.put, List.setIfInBounds_toArray, List.set_cons_succ, List.set_cons_zero]
      replace HX := Lib.hid (HX.out.trans hXW)
      replace HR := Lib.hid (HR.out.ext hXW)
      replace HI := Lib.hid (HI.out.ext hXW)
      replace Kf := Lib.hid (Kf.out.ext hXW)
      clear hXW
      go_wp2
      go_ret2
      rw [HE.out]
      exact ⟨_, _, rfl, DlL.nil _ _ _, HR.out, Keeps.of_ext HX.out _⟩
  · have HE : Hid (takeR r ⟨st, q, xs⟩ = (r, [], 20)) := Lib.hid (by unfold takeR; rw [if_pos hok])
    have hok2 : ¬ (0 ≤ st ∧ st ≤ 255 ∧ 0 ≤ q ∧ q ≤ 4294967295 ∧ n ≤ 1024) := by rw [← HBL.out]; exact hok
    clear hok
    refine (validR_no st q Ab n c _ hok2).mono ?_
    rintro e w2 ⟨rfl, hX⟩
    replace hX : Ext w1 w2 := by with_reducible exact hX
    replace HX := Lib.hid (HX.out.trans hX)
    replace HR := Lib.hid (HR.out.ext hX)
    replace HI := Lib.hid (HI.out.ext hX)
    replace Kf := Lib.hid (Kf.out.ext hX)
    clear hX
    clear hok2
    go_wp2
    go_ret2
    rw [HE.out]
    exact ⟨_, _, rfl, DlL.nil _ _ _, HR.out, Keeps.of_ext HX.out _⟩


set_option maxRecDepth 100000 in
set_option maxHeartbeats 2000000 in
theorem giveE_any (base g : Nat) (v : Value) (r : Rcv) (q : Int) (w : World) (h : RecR base w g v r) :
    Calls Try.prog 59 #[.pointer (some ⟨g, 0, none⟩), .int .i64 q] w (RetKe base g v w (giveR r q)) := by
  have HR := Lib.hid h
  have lb := h.q.base_le
  clear h
  by_cases h1 : q < 0
  · have q1 : decide (q < 0) = true := decide_eq_true h1
    have HE : Hid (giveR r q = (r, [], 2)) := Lib.hid (by unfold giveR; rw [if_pos (.inl h1)])
    go_enter Try.func59, Try.ntmps59
    go_wp2
    go_ret2
    rw [HE.out]
    exact ⟨_, _, rfl, DlL.nil _ _ _, HR.out, Keeps.refl _ _⟩
  · have q1 : decide (q < 0) = false := decide_eq_false h1
    by_cases h2 : 4294967295 < q
    · have q2 : decide (4294967295 < q) = true := decide_eq_true h2
      have HE : Hid (giveR r q = (r, [], 2)) := Lib.hid (by unfold giveR; rw [if_pos (.inr h2)])
      go_enter Try.func59, Try.ntmps59
      go_wp2
      go_ret2
      rw [HE.out]
      exact ⟨_, _, rfl, DlL.nil _ _ _, HR.out, Keeps.refl _ _⟩
    · have q2 : decide (4294967295 < q) = false := decide_eq_false h2
      have HE : Hid (giveR r q = keepR r ⟨q, [], true⟩) := Lib.hid (by unfold giveR; rw [if_neg (by omega)])
      have o1 : 0 ≤ q := by omega
      have o2 : q ≤ 4294967295 := by omega
      go_enter Try.func59, Try.ntmps59
      go_wp2_with fail
      refine (keepE_any base g v r ⟨q, [], true⟩ none 0 0 w HR.out ⟨World.ownsRow_nil _ _ _ _, rfl, by simp⟩ o1 o2 (by simp)).mono ?_
      rintro e w' ⟨u, v', rfl, hd, hr, hk⟩
      have HD := Lib.hid hd
      have HR' := Lib.hid hr
      have HK := Lib.hid hk
      clear hd hr hk
      go_wp2
      go_ret2
      rw [HE.out]
      exact ⟨_, _, rfl, HD.out, HR'.out, HK.out⟩

end Go.Proofs.Ytekhmfliaojabaa
namespace Go.Proofs.Ytekhmfliaojabaa
open Go.RowKit

/-- The first state of a receiver. -/
def rcv0 (st wn n : Int) : Rcv := ⟨st, wn, n, []⟩
def BadR (st wn n : Int) : Prop := st < 0 ∨ 255 < st ∨ wn < 1 ∨ 64 < wn ∨ n < 0 ∨ 4294967295 < n
theorem rcv0_ok {st wn n : Int} (h : ¬ BadR st wn n) : RcvOk (rcv0 st wn n) := by
  unfold BadR at h
  exact ⟨by simp only [rcv0]; omega, by simp only [rcv0]; omega, by simp only [rcv0]; omega, by simp [rcv0], by simp [rcv0], by simp [rcv0]⟩


set_option maxRecDepth 100000 in
set_option maxHeartbeats 2000000 in
theorem newQ_bad (st wn n : Int) (w : World) (h : BadR st wn n) : Calls Try.prog 45 #[.int .i64 st, .int .i64 wn, .int .i64 n] w (fun e w' => e = .returned (.tuple #[.pointer none, .int .i64 2]) ∧ Ext w w') := by
  unfold BadR at h
  by_cases h0 : st < 0
  · have q0 : decide (st < 0) = true := decide_eq_true h0
    clear h
    go_enter Try.func45, Try.ntmps45
    go_wp2
    go_ret2
    exact ⟨rfl, Ext.refl _⟩
  · have q0 : decide (st < 0) = false := decide_eq_false h0
    by_cases h1 : 256 ≤ st
    · have q1 : decide (256 ≤ st) = true := decide_eq_true h1
      clear h
      go_enter Try.func45, Try.ntmps45
      go_wp2
      go_ret2
      exact ⟨rfl, Ext.refl _⟩
    · have q1 : decide (256 ≤ st) = false := decide_eq_false h1
      by_cases h2 : wn < 1
      · have q2 : decide (wn < 1) = true := decide_eq_true h2
        clear h
        go_enter Try.func45, Try.ntmps45
        go_wp2
        go_ret2
        exact ⟨rfl, Ext.refl _⟩
      · have q2 : decide (wn < 1) = false := decide_eq_false h2
        by_cases h3 : 64 < wn
        · have q3 : decide (64 < wn) = true := decide_eq_true h3
          clear h
          go_enter Try.func45, Try.ntmps45
          go_wp2
          go_ret2
          exact ⟨rfl, Ext.refl _⟩
        · have q3 : decide (64 < wn) = false := decide_eq_false h3
          by_cases h4 : n < 0
          · have q4 : decide (n < 0) = true := decide_eq_true h4
            clear h
            go_enter Try.func45, Try.ntmps45
            go_wp2
            go_ret2
            exact ⟨rfl, Ext.refl _⟩
          · have q4 : decide (n < 0) = false := decide_eq_false h4
            have q5 : decide (4294967295 < n) = true := decide_eq_true (by omega)
            clear h
            go_enter Try.func45, Try.ntmps45
            go_wp2
            go_ret2
            exact ⟨rfl, Ext.refl _⟩
set_option maxRecDepth 100000 in
set_option maxHeartbeats 1000000 in
theorem newQ_any (st wn n : Int) (w : World) (h : ¬ BadR st wn n) : Calls Try.prog 45 #[.int .i64 st, .int .i64 wn, .int .i64 n] w (fun e w' => ∃ g m, e = .returned (.tuple #[.pointer (some ⟨g, 0, none⟩), .int .i64 0]) ∧ RcvP w.heap.size w' g m (rcv0 st wn n) ∧ Ext w w') := by
  have HS := Lib.hid (rcv0_ok h)
  unfold BadR at h
  have q0 : decide (st < 0) = false := decide_eq_false (by omega)
  have q1 : decide (256 ≤ st) = false := decide_eq_false (by omega)
  have q2 : decide (wn < 1) = false := decide_eq_false (by omega)
  have q3 : decide (64 < wn) = false := decide_eq_false (by omega)
  have q4 : decide (n < 0) = false := decide_eq_false (by omega)
  have q5 : decide (4294967295 < n) = false := decide_eq_false (by omega)
  clear h
  have hmm := @run_makeMap Try.prog
  go_enter Try.func45, Try.ntmps45
  go_wp2
  go_ret2
  refine ⟨_, w.heap.size, rfl, ⟨⟨?_, ⟨[], ?_, trivial⟩, ⟨by simp, Nat.le_refl _⟩⟩, HS.out⟩, ((Ext.refl w).alloc _).alloc _⟩
  · exact Blk.at_ (by simp)
  · exact (MapL.made w Try.prog 3).ext ((Ext.refl _).alloc _)


set_option maxRecDepth 100000 in
set_option maxHeartbeats 2000000 in
theorem newE_bad (st wn n : Int) (w : World) (h : BadR st wn n) : Calls Try.prog 56 #[.int .i64 st, .int .i64 wn, .int .i64 n] w (fun e w' => e = .returned (.tuple #[.pointer none, .int .i64 2]) ∧ Ext w w') := by
  unfold BadR at h
  by_cases h0 : st < 0
  · have q0 : decide (st < 0) = true := decide_eq_true h0
    clear h
    go_enter Try.func56, Try.ntmps56
    go_wp2
    go_ret2
    exact ⟨rfl, Ext.refl _⟩
  · have q0 : decide (st < 0) = false := decide_eq_false h0
    by_cases h1 : 255 < st
    · have q1 : decide (255 < st) = true := decide_eq_true h1
      clear h
      go_enter Try.func56, Try.ntmps56
      go_wp2
      go_ret2
      exact ⟨rfl, Ext.refl _⟩
    · have q1 : decide (255 < st) = false := decide_eq_false h1
      by_cases h2 : wn < 1
      · have q2 : decide (wn < 1) = true := decide_eq_true h2
        clear h
        go_enter Try.func56, Try.ntmps56
        go_wp2
        go_ret2
        exact ⟨rfl, Ext.refl _⟩
      · have q2 : decide (wn < 1) = false := decide_eq_false h2
        by_cases h3 : 64 < wn
        · have q3 : decide (64 < wn) = true := decide_eq_true h3
          clear h
          go_enter Try.func56, Try.ntmps56
          go_wp2
          go_ret2
          exact ⟨rfl, Ext.refl _⟩
        · have q3 : decide (64 < wn) = false := decide_eq_false h3
          by_cases h4 : n < 0
          · have q4 : decide (n < 0) = true := decide_eq_true h4
            clear h
            go_enter Try.func56, Try.ntmps56
            go_wp2
            go_ret2
            exact ⟨rfl, Ext.refl _⟩
          · have q4 : decide (n < 0) = false := decide_eq_false h4
            have q5 : decide (4294967295 < n) = true := decide_eq_true (by omega)
            clear h
            go_enter Try.func56, Try.ntmps56
            go_wp2
            go_ret2
            exact ⟨rfl, Ext.refl _⟩
set_option maxRecDepth 100000 in
set_option maxHeartbeats 1000000 in
theorem newE_any (st wn n : Int) (w : World) (h : ¬ BadR st wn n) : Calls Try.prog 56 #[.int .i64 st, .int .i64 wn, .int .i64 n] w (fun e w' => ∃ g v, e = .returned (.tuple #[.pointer (some ⟨g, 0, none⟩), .int .i64 0]) ∧ RecR w.heap.size w' g v (rcv0 st wn n) ∧ Ext w w') := by
  have HS := Lib.hid (rcv0_ok h)
  unfold BadR at h
  have q0 : decide (st < 0) = false := decide_eq_false (by omega)
  have q1 : decide (255 < st) = false := decide_eq_false (by omega)
  have q2 : decide (wn < 1) = false := decide_eq_false (by omega)
  have q3 : decide (64 < wn) = false := decide_eq_false (by omega)
  have q4 : decide (n < 0) = false := decide_eq_false (by omega)
  have q5 : decide (4294967295 < n) = false := decide_eq_false (by omega)
  clear h
  have hmm := @run_makeMap Try.prog
  go_enter Try.func56, Try.ntmps56
  go_wp2
  go_ret2
  refine ⟨_, .slice none 0 0, rfl, ⟨⟨?_, DlL.nil _ _ _, Nat.le_refl _⟩, HS.out⟩, (Ext.refl w).alloc _⟩
  exact Blk.new _ _ _


set_option maxRecDepth 100000 in
set_option maxHeartbeats 1000000 in
theorem nextP_any (base g m : Nat) (r : Rcv) (w : World) (h : RcvP base w g m r) : Calls Try.prog 47 #[.pointer (some ⟨g, 0, none⟩)] w (fun e w' => e = .returned (.int .i64 r.next) ∧ w = w') := by
  have f1 := h.q.blk.cell 1
  have f2 := h.q.blk.cell 2
  have f3 := h.q.blk.cell 3
  have hw := h.ok.window.1
  clear h
  go_enter Try.func47, Try.ntmps47
  go_wp2_with fail
  refine (noneQ_any g r.window _ f1 (by omega)).mono ?_
  rintro e _ ⟨rfl, rfl⟩
  go_wp2
  go_ret
  exact ⟨rfl, rfl⟩

set_option maxRecDepth 100000 in
set_option maxHeartbeats 1000000 in
theorem heldP_any (base g m : Nat) (r : Rcv) (w : World) (h : RcvP base w g m r) : Calls Try.prog 60 #[.pointer (some ⟨g, 0, none⟩)] w (fun e w' => e = .returned (.int .i64 (r.held.length : Int)) ∧ w = w') := by
  have f1 := h.q.blk.cell 1
  have f2 := h.q.blk.cell 2
  have f3 := h.q.blk.cell 3
  have hw := h.ok.window.1
  obtain ⟨l, hM, hF⟩ := h.q.map
  have hl := hF.len
  rw [← hl]
  clear h hl hF
  go_enter Try.func60, Try.ntmps60
  go_wp2_with fail
  refine (noneQ_any g r.window _ f1 (by omega)).mono ?_
  rintro e _ ⟨rfl, rfl⟩
  go_wp2_with (at_len; refine wpList_count _ rfl _ _ rfl _ und_mapS rfl hM ?_)
  go_ret
  exact ⟨rfl, rfl⟩
set_option maxRecDepth 100000 in
set_option maxHeartbeats 4000000 in
theorem giveP_any (base g m : Nat) (r : Rcv) (q : Int) (w : World) (h : RcvP base w g m r) (hq : -9223372036854775808 ≤ q ∧ q ≤ 9223372036854775807) :
    Calls Try.prog 58 #[.pointer (some ⟨g, 0, none⟩), .int .i64 q] w (RetK base g m w (giveR r q)) := by
  have HP := Lib.hid h
  have lb := h.q.base_le
  obtain ⟨lw0, lw1⟩ := h.ok.window
  clear h
  have HX := Lib.hid (Ext.refl w)
  go_enter Try.func58, Try.ntmps58
  go_wp2_with fail
  refine (noneQ_any g r.window _ (HP.out.q.blk.cell 1) (by omega)).mono ?_
  rintro e _ ⟨rfl, rfl⟩
  by_cases hok : q < 0 ∨ 4294967295 < q
  · have HE : Hid (giveR r q = (r, [], 2)) := Lib.hid (by unfold giveR; rw [if_pos hok])
    by_cases h1 : q < 0
    · have q1 : decide (q < 0) = true := decide_eq_true h1
      clear hok
      go_wp2
      go_ret2
      rw [HE.out]
      exact ⟨_, rfl, DlL.nil _ _ _, HP.out, Keeps.of_ext HX.out _⟩
    · have q1 : decide (q < 0) = false := decide_eq_false h1
      have q2 : decide (4294967295 < q) = true := decide_eq_true (by omega)
      clear hok
      go_wp2
      go_ret2
      rw [HE.out]
      exact ⟨_, rfl, DlL.nil _ _ _, HP.out, Keeps.of_ext HX.out _⟩
  · have HE1 : Hid (giveR r q = keepR r ⟨q, [], true⟩) := Lib.hid (by unfold giveR; rw [if_neg hok])
    have q1 : decide (q < 0) = false := decide_eq_false (by omega)
    have q2 : decide (4294967295 < q) = false := decide_eq_false (by omega)
    have o3 : 0 ≤ q := by omega
    have o4 : q ≤ 4294967295 := by omega
    clear hok
    go_wp2_with fail
    refine (refused_any base g m r q _ HP.out (by omega)).mono ?_
    rintro e w1 ⟨rfl, hX⟩
    replace hX : Ext w w1 := by with_reducible exact hX
    replace HX := Lib.hid (HX.out.trans hX)
    replace HP := Lib.hid (HP.out.ext hX)
    clear hX
    by_cases hrf : refuse r q = 0
    · have HRF : Hid (refuse r (⟨q, [], true⟩ : Dlv).seq = 0) := Lib.hid hrf
      have HE := HE1
      rw [hrf]
      clear hrf
      obtain ⟨l, hM, hF⟩ := HP.out.q.map
      have hl0 : look l q = none := find_none_ hF (refuse_ok HRF.out).2.1
      have hll : l.length ≤ 64 := by have := HP.out.ok.room; rw [hF.len]; exact this
      
      have f3 := HP.out.q.blk.cell 3
      go_wp2_with (at_mapUpdate; refine wpList_put_new _ rfl _ _ _ 100 rfl 121 keyed_int und_int und_mapS rfl hM (by unfold maxLen; omega) q _ rfl rfl (by omega) hl0 ?_; intro w5 hM5 hG5; clear f3)
      have HQ5 := Lib.hid (RcvQ.grow (d := ⟨q, [], true⟩) HP.out.q hM hF hM5 hG5 ⟨none, 0, 0, rfl, ⟨World.ownsRow_nil _ _ _ _, rfl, by simp⟩⟩)
      have HK5 := Lib.hid ((Keeps.of_ext HX.out [g, m]).grown hG5 (by rintro k ⟨⟩; simp))
      have hro := HP.out.ok.room
      have hnx := HP.out.ok.next
      have HKO := Lib.hid (keepR_ok (d := ⟨q, [], true⟩) HP.out.ok (by simp only; omega) (by simp))
      clear hM hF hl0 hll hM5 hG5 HP
      
      have hz5 := HK5.out.size
      refine (deliver_any base g m r.stream r.window r.next _ _ HQ5.out (by omega) (by omega) (by simp; omega)).mono ?_
      rintro e w6 ⟨v, rfl, hv, hq6, hk6⟩
      have HV := Lib.hid (hv.mono hz5)
      have HQ6 := Lib.hid hq6
      have HK6 := Lib.hid (HK5.out.trans hk6)
      clear hv hq6 hk6 HQ5 HK5
      go_wp2
      go_ret2
      have hko := HKO.out
      rw [HE.out]
      rw [keepR_yes HRF.out] at hko ⊢
      exact ⟨_, rfl, HV.out, ⟨HQ6.out, hko⟩, HK6.out⟩
    · have hne : (refuse r q != 0) = true := by simpa using hrf
      have HE : Hid (giveR r q = (r, [], refuse r q)) := Lib.hid (by rw [HE1.out, keepR_no hrf])
      clear hrf
      go_wp2
      go_ret2
      rw [HE.out]
      exact ⟨_, rfl, DlL.nil _ _ _, HP.out, Keeps.of_ext HX.out _⟩


theorem wpList_countN {P : Program} (w : World) {ops : Array Oper} {rest : List Oper} {o : Oper} {a : Act} {Q : Exit → Act → World → Prop} {k : TypeId} {b : Nat} {l : List (Int × Value)} (hg : o.guard = none) (m : Operand) (t : TypeId) (hop : o.op = Op.call { callee := Callee.builtin Builtin.len, args := #[m], argTypes := #[t] }) (e : TypeId) (ht : P.underlying t = some (.map k e))
    (hm : a.eval m = .map (some b)) (hown : MapL P k w b l) (N : Nat) (hN : l.length = N) (hK : wpList P ops Q rest (a.put o.dst (.int .i64 (N : Int))) w) : wpList P ops Q (o :: rest) a w :=
  wpList_count w hg m t hop e ht hm hown (by rw [hN]; exact hK)
theorem elInt : Elem Try.prog 49 3 1 8 (.int .i64 0) := Elem.mk' (by kernel_rfl) (by kernel_rfl) rfl (by decide)
theorem missK_len (r : Rcv) (k : Nat) : (missK r k).length ≤ k := by
  unfold missK
  refine Nat.le_trans (List.length_filter_le _ _) ?_
  simp [upN]
theorem missK_wf {r : Rcv} {k : Nat} (h0 : 0 ≤ r.next) (h1 : r.next ≤ 5000000000) (hk : k ≤ 1000) : ∀ x ∈ missK r k, (Lit.int .i64 x).wf = true := by
  intro x hx
  have := (List.mem_filter.1 hx).1
  unfold upN at this
  obtain ⟨i, hi, rfl⟩ := List.mem_map.1 this
  have := List.mem_range.1 hi
  simp [Lit.wf, IntKind.min, IntKind.max, IntKind.bits, IntKind.signed]; omega

set_option maxRecDepth 100000 in
set_option maxHeartbeats 4000000 in
theorem missP_any (base g m : Nat) (r : Rcv) (w : World) (h : RcvP base w g m r) :
    Calls Try.prog 63 #[.pointer (some ⟨g, 0, none⟩)] w (fun e w' => ∃ A n c, e = .returned (.slice A n c) ∧ OwnS .i64 3 w.heap.size w' A n c (missF r) ∧ Ext w w') := by
  have HP := Lib.hid h
  have f1 := h.q.blk.cell 1
  have f2 := h.q.blk.cell 2
  have f3 := h.q.blk.cell 3
  obtain ⟨lw0, lw1⟩ := h.ok.window
  obtain ⟨ln0, ln1⟩ := h.ok.next
  have hrm := h.ok.room
  obtain ⟨l, hM, hF⟩ := h.q.map
  have hl := hF.len
  have HF := Lib.hid hF
  have HM := Lib.hid hM
  have HS := Lib.hid h.ok.seq
  have HA := Lib.hid h.ok.apart
  have HLL := Lib.hid hl
  obtain ⟨a0, ha0⟩ : ∃ a0, l.length = a0 := ⟨_, rfl⟩
  have HA0 := Lib.hid ha0
  have ha1 : a0 ≤ 64 := by omega
  clear h hl hF ha0
  go_enter Try.func63, Try.ntmps63
  go_wp2_with fail
  refine (noneQ_any g r.window _ f1 (by omega)).mono ?_
  rintro e _ ⟨rfl, rfl⟩
  go_wp2_with (at_len; refine wpList_countN _ rfl _ _ rfl _ und_mapS rfl hM a0 HA0.out ?_)
  clear f1 f2 f3 hM
  go_loopg [3, 4, 5] 70 (fun f v a s wr => ∃ (k b n : Nat) (x : Int), f = 70 - k ∧ k ≤ 65 ∧ b ≤ 64 ∧ n ≤ k ∧ r.next ≤ x ∧ x ≤ r.next + 65 ∧ a = .int .i64 (b : Int) ∧ s = .int .i64 x ∧ Hid (x = r.next + k) ∧ Hid (b = above r.held x) ∧ Hid (k = 0 ∨ ∃ d ∈ r.held, r.next + k ≤ d.seq + 1) ∧ Hid (wr.ownsRow w.heap.size 3 1 v n ((missK r k).map (.int .i64))) ∧ Hid (Ext w wr))
  case atStart => exact ⟨0, a0, 0, r.next, rfl, by omega, ha1, by omega, by omega, by omega, rfl, rfl, Lib.hid (by simp), Lib.hid (by rw [above_all fun d hd => by have := (HS.out d hd).1; omega, ← HA0.out, HLL.out]), Lib.hid (.inl rfl), Lib.hid (by simpa [missK, upN] using World.ownsRow_nil _ _ _ _), Lib.hid (Ext.refl w)⟩
  case round =>
    obtain ⟨k, b, n, x, rfl, hk, hb, hnk, hx0, hx1, rfl, rfl, HXE, HBE, HKD, HO, HX⟩ := hrel
    have HR := Lib.hid (HP.out.ext HX.out)
    have hsl := own_slice HO.out
    obtain ⟨A0, c0, rfl⟩ := hsl
    by_cases hb0 : b = 0
    · have q1 : decide ((0 : Int) < (b : Int)) = false := decide_eq_false (by omega)
      go_wp2
      go_ret
      have hm := miss_end (r := r) (k := k) ln0 (by rw [← HXE.out, ← HBE.out]; exact hb0) HKD.out
      have ho := HO.out
      have hw := missK_wf (r := r) (k := k) ln0 (by omega) (by omega)
      rw [hm] at ho hw
      have := ho.1
      rw [List.length_map] at this
      exact ⟨A0, n, c0, rfl, ⟨ho, by omega, hw⟩, HX.out⟩
    · have q1 : decide ((0 : Int) < (b : Int)) = true := decide_eq_true (by omega)
      obtain ⟨d, hd, hdx⟩ := above_pos (l := r.held) (s := x) (by rw [← HBE.out]; exact hb0)
      have hsq := HS.out d hd
      have hk64 : k < 64 := by have := HXE.out; omega
      have HKN : Hid (k + 1 = 0 ∨ ∃ d ∈ r.held, r.next + ((k + 1 : Nat) : Int) ≤ d.seq + 1) := Lib.hid (.inr ⟨d, hd, by have := HXE.out; omega⟩)
      obtain ⟨A, nn, c, lo, e1, e2, _⟩ := slot_at (HF.out.imp fun p q _ h => And.intro h.1 (h.2.ext HX.out)) x
      have q := (HM.out.ext HX.out).run_look keyed_int und_mapS (zero_S _) (keyOf_i64 und_int (x := x) (by omega))
      rw [e1, e2] at q
      have f3 := HR.out.q.blk.cell 3
      have hxw : x + 1 ≤ 9223372036854775807 := by omega
      clear e1 e2 hd hdx hsq
      cases hfd : findD r.held x with
      | some d' =>
        rw [hfd] at q
        simp only [Option.isSome_some] at q
        have habv := above_some HA.out hfd
        have hmk := missK_no (r := r) (k := k) (d := d') (by rw [← HXE.out]; exact hfd)
        have HAB := Lib.hid habv
        have HMK := Lib.hid hmk
        clear habv hmk hfd
        go_wp2
        go_roundg (70 - (k + 1))
        case rel =>
          have hab := HAB.out
          have hbe := HBE.out
          refine ⟨k + 1, b - 1, n, x + 1, rfl, by omega, by omega, by omega, by omega, by have := HXE.out; omega, by congr 1; omega, by go_num, Lib.hid (by have := HXE.out; omega), Lib.hid (by omega), HKN, Lib.hid ?_, Lib.hid (HX.out.alloc _)⟩
          rw [HMK.out]
          exact HO.out.alloc _
        case measure => omega
      | none =>
        rw [hfd] at q
        simp only [Option.isSome_none] at q
        have HAB := Lib.hid (above_none hfd)
        have HMK := Lib.hid (missK_yes (r := r) (k := k) (by rw [← HXE.out]; exact hfd))
        clear hfd
        have hown := HO.out
        go_wp2_with (at_builtin; refine wpList_app _ elInt rfl _ _ rfl w.heap.size (.slice A0 n c0) _ _ rfl ((hown.alloc _).alloc _) _ 1 1 [.int .i64 x] rfl rfl (At.new' _ [_] _ (by simp)) (by simp [Value.oneCell']) (by omega) (by unfold maxLen; omega) (by have := HX.out.size; simp; omega) ?_; intro v1 w1 hown1 hgr1 _)
        go_roundg (70 - (k + 1))
        case rel =>
          have hab := HAB.out
          have hbe := HBE.out
          refine ⟨k + 1, b, n + 1, x + 1, rfl, by omega, by omega, by omega, by omega, by have := HXE.out; omega, rfl, by go_num, Lib.hid (by have := HXE.out; omega), Lib.hid (by omega), HKN, Lib.hid ?_, Lib.hid (((HX.out.alloc _).alloc _).grown hgr1 fun k hk => (hown.lt k hk).1)⟩
          rw [HMK.out, List.map_append, ← HXE.out]
          exact hown1
        case measure => omega

end Go.Proofs.Ytekhmfliaojabaa
namespace Go.Proofs.Ytekhmfliaojabaa
open Go.RowKit

theorem str_any (w : World) {A : Option Addr} {n c : Nat} {xs : List Int} (h : Ints .u8 w A n xs) :
    (convert 22 9 (.slice A n c)).run Try.prog w = .ok (.string (strOfNums xs)) w := run_str w Try.underlying22 Try.underlying5 Try.underlying9 h

end Go.Proofs.Ytekhmfliaojabaa
