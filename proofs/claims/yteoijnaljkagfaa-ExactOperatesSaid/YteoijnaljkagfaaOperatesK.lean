/- Lemmas of the proof that follows (Operates, part 11): walks of functions by contract, and plain lemmas. Conditions: none. -/
import Derived.Test.YteoijnaljkagfaaOperatesJ
namespace Go.Proofs.Yteoijnaljkagfaa
open Go.RowKit

theorem pow_double (m : Nat) : (65536 : Int) ^ (2 * m) = 4294967296 ^ m := by rw [Int.pow_mul]; rfl
theorem fit_double {n L : Nat} : Fit 65536 n (2 * L) ↔ Fit 4294967296 n L := by unfold Fit; rw [pow_double]
theorem fitR_double {q : Rat} {L : Nat} (h : FitQ q L) : FitR q (2 * L) := ⟨fit_double.2 h.1, fit_double.2 h.2⟩
theorem Blk.at2 {W : World} {g : Nat} {T : TypeId} {x y : Value} (h : Blk W g T #[x, y]) : At W (some ⟨g, 0, none⟩) [x, y] := fun _ => ⟨g, 0, rfl, fun j v hv => by rw [h.cell]; simpa using hv⟩
theorem limbs_step {out xs : List Int} {k : Nat} {x : Int} (hx : xs[k]? = some x) (hl : out.length = 2 * k) (hv : val 65536 out = val 4294967296 (xs.take k)) :
    val 65536 (out ++ [x % 65536, x / 65536]) = val 4294967296 (xs.take (k + 1)) := by
  rw [val_append, hl, pow_double, hv, val_take_succ hx]
  simp only [val]
  have h := Int.emod_add_mul_ediv x 65536
  generalize x % 65536 = r at *
  generalize x / 65536 = t at *
  grind

set_option maxRecDepth 100000 in
set_option maxHeartbeats 2000000 in
theorem limbs_r10 (bw ow l c k : Nat) (x : Int) (vo : Value) (w : World) (hcx : w.cell? ⟨bw, ow + k, none⟩ = some (.int .u32 x)) (hk0 : (0 : Int) ≤ (k : Int)) (hkl : (k : Int) < (l : Int)) (hx0 : 0 ≤ x) (hx1 : x ≤ 4294967295) (hw1 : IntKind.i64.wrap (x % 65536) = x % 65536) (hw2 : IntKind.i64.wrap (x / 65536) = x / 65536) (hw3 : IntKind.u32.wrap (x / 65536) = x / 65536) (hq0 : 0 ≤ x / 65536) (hq1 : x / 65536 ≤ 65535) (hr0 : 0 ≤ x % 65536) (hr1 : x % 65536 < 65536) (a : Act) (Q : Exit → Act → World → Prop) (hsize : 42 ≤ a.tmps.size)
    (s0 : a.tmps[0]? = some (.slice (some ⟨bw, ow, none⟩) l c))
    (s5 : a.tmps[5]? = some (vo))
    (s6 : a.tmps[6]? = some (.int .i64 (k : Int)))
    (hend : ∀ (xv0 xv1 xv2 xv3 xv4 xv5 xv6 xv7 xv8 xv9 xv10 xv11 xv12 xv13 : Value) (W : World), (xv0 = vo) → (xv1 = .slice (some ⟨bw, ow, none⟩) l c) → (xv2 = .int .i64 (k : Int)) → (xv3 = .pointer (some ⟨bw, ow + k, none⟩)) → (xv4 = .int .u32 x) → (xv5 = .int .u32 (x % 65536)) → (xv6 = .int .i64 (x % 65536)) → (xv7 = .slice (some ⟨bw, ow, none⟩) l c) → (xv8 = .int .i64 (k : Int)) → (xv9 = .pointer (some ⟨bw, ow + k, none⟩)) → (xv10 = .int .u32 x) → (xv11 = .int .u32 (x / 65536)) → (xv12 = .int .i64 (x / 65536)) → (∃ g, xv13 = .slice (some ⟨g, 0, none⟩) 2 2 ∧ Blk W g 3 #[.int .i64 (x % 65536), .int .i64 (x / 65536)]) → Ext w W → wpList Try.prog (rops Try.f119 10).toArray Q ((rops Try.f119 10).drop 14) ((((((((((((((a.put (some 28) xv0).put (some 29) xv1).put (some 30) xv2).put (some 31) xv3).put (some 32) xv4).put (some 33) xv5).put (some 34) xv6).put (some 35) xv7).put (some 36) xv8).put (some 37) xv9).put (some 38) xv10).put (some 39) xv11).put (some 40) xv12).put (some 41) xv13) W) :
    (Code.region 10 (rops Try.f119 10).toArray true).wp Try.prog Q a w := by
  have hmono : ∀ (W W' : World) (j : Nat) (u : Value), Ext W W' → (fun (i : Nat) (v : Value) (W : World) => match i with
    | 0 => v = vo
    | 1 => v = .slice (some ⟨bw, ow, none⟩) l c
    | 2 => v = .int .i64 (k : Int)
    | 3 => v = .pointer (some ⟨bw, ow + k, none⟩)
    | 4 => v = .int .u32 x
    | 5 => v = .int .u32 (x % 65536)
    | 6 => v = .int .i64 (x % 65536)
    | 7 => v = .slice (some ⟨bw, ow, none⟩) l c
    | 8 => v = .int .i64 (k : Int)
    | 9 => v = .pointer (some ⟨bw, ow + k, none⟩)
    | 10 => v = .int .u32 x
    | 11 => v = .int .u32 (x / 65536)
    | 12 => v = .int .i64 (x / 65536)
    | 13 => ∃ g, v = .slice (some ⟨g, 0, none⟩) 2 2 ∧ Blk W g 3 #[.int .i64 (x % 65536), .int .i64 (x / 65536)]
    | _ => True) j u W → (fun (i : Nat) (v : Value) (W : World) => match i with
    | 0 => v = vo
    | 1 => v = .slice (some ⟨bw, ow, none⟩) l c
    | 2 => v = .int .i64 (k : Int)
    | 3 => v = .pointer (some ⟨bw, ow + k, none⟩)
    | 4 => v = .int .u32 x
    | 5 => v = .int .u32 (x % 65536)
    | 6 => v = .int .i64 (x % 65536)
    | 7 => v = .slice (some ⟨bw, ow, none⟩) l c
    | 8 => v = .int .i64 (k : Int)
    | 9 => v = .pointer (some ⟨bw, ow + k, none⟩)
    | 10 => v = .int .u32 x
    | 11 => v = .int .u32 (x / 65536)
    | 12 => v = .int .i64 (x / 65536)
    | 13 => ∃ g, v = .slice (some ⟨g, 0, none⟩) 2 2 ∧ Blk W g 3 #[.int .i64 (x % 65536), .int .i64 (x / 65536)]
    | _ => True) j u W' := by
    intro W W' j u hX h
    match j, h with
    | 0, h => exact h
    | 1, h => exact h
    | 2, h => exact h
    | 3, h => exact h
    | 4, h => exact h
    | 5, h => exact h
    | 6, h => exact h
    | 7, h => exact h
    | 8, h => exact h
    | 9, h => exact h
    | 10, h => exact h
    | 11, h => exact h
    | 12, h => exact h
    | 13, h => obtain ⟨g, h1, h2⟩ := h; exact ⟨g, h1, h2.ext hX⟩
    | _ + 14, h => exact h
  have hsz : ∀ d, some d ∈ ([some 28, some 29, some 30, some 31, some 32, some 33, some 34, some 35, some 36, some 37, some 38, some 39, some 40, some 41] : List (Option Tmp)) → d < a.tmps.size := slots_lt (by decide) hsize
  refine wp_region_j 14 [some 28, some 29, some 30, some 31, some 32, some 33, some 34, some 35, some 36, some 37, some 38, some 39, some 40, some 41] [[], [], [], [1, 2], [3], [4], [5], [], [], [7, 8], [9], [10], [11], [6, 12]] [[], [], [], [], [], [], [], [], [], [], [], [], [], []] (fun (i : Nat) (v : Value) (W : World) => match i with
    | 0 => v = vo
    | 1 => v = .slice (some ⟨bw, ow, none⟩) l c
    | 2 => v = .int .i64 (k : Int)
    | 3 => v = .pointer (some ⟨bw, ow + k, none⟩)
    | 4 => v = .int .u32 x
    | 5 => v = .int .u32 (x % 65536)
    | 6 => v = .int .i64 (x % 65536)
    | 7 => v = .slice (some ⟨bw, ow, none⟩) l c
    | 8 => v = .int .i64 (k : Int)
    | 9 => v = .pointer (some ⟨bw, ow + k, none⟩)
    | 10 => v = .int .u32 x
    | 11 => v = .int .u32 (x / 65536)
    | 12 => v = .int .i64 (x / 65536)
    | 13 => ∃ g, v = .slice (some ⟨g, 0, none⟩) 2 2 ∧ Blk W g 3 #[.int .i64 (x % 65536), .int .i64 (x / 65536)]
    | _ => True) (fun _ W => Ext w W) (by kernel_rfl) (by kernel_rfl) hsz (fun _ _ _ _ h => h) ((Ext.refl w).drew) ?_ ?_
  · clear hend
    simp only [rops, Try.f119, regOf, Option.bind_some, Nat.reduceBEq, if_true, if_false, Bool.false_eq_true, Option.getD_some]
    simp only [List.take_succ_cons, List.take_zero]
    refine ⟨?_, ?_, ?_, ?_, ?_, ?_, ?_, ?_, ?_, ?_, ?_, ?_, ?_, ?_, trivial⟩
    · intro done us W hJ hdep haft hnot b hb hb' K hK Q'
      have e5 := (hb' 5 (by simp)).trans s5
      clear hb hb'
      go_simp
      exact hK _ _ rfl (fun _ _ _ h => h) hJ
    · intro done us W hJ hdep haft hnot b hb hb' K hK Q'
      have e0 := (hb' 0 (by simp)).trans s0
      clear hb hb'
      go_simp
      exact hK _ _ rfl (fun _ _ _ h => h) hJ
    · intro done us W hJ hdep haft hnot b hb hb' K hK Q'
      have e6 := (hb' 6 (by simp)).trans s6
      clear hb hb'
      go_simp
      exact hK _ _ rfl (fun _ _ _ h => h) hJ
    · intro done us W hJ hdep haft hnot b hb hb' K hK Q'
      simp only [List.getD_cons_succ, List.getD_cons_zero, List.mem_cons, List.not_mem_nil, or_false, forall_eq_or_imp, forall_eq] at hdep
      have e29 := hb 1 29 rfl
      have e30 := hb 2 30 rfl
      have d1 := hdep.1
      have d2 := hdep.2
      rw [d1.1] at e29
      rw [d2.1] at e30
      clear hb hb' hdep d1 d2
      go_simp
      exact hK _ _ rfl (fun _ _ _ h => h) hJ
    · intro done us W hJ hdep haft hnot b hb hb' K hK Q'
      simp only [List.getD_cons_succ, List.getD_cons_zero, List.mem_cons, List.not_mem_nil, or_false, forall_eq_or_imp, forall_eq] at hdep
      have e31 := hb 3 31 rfl
      have d3 := hdep
      rw [d3.1] at e31
      clear hb hb' hdep d3
      have q := Ext.cell hJ hcx
      go_simp
      exact hK _ _ rfl (fun _ _ _ h => h) hJ
    · intro done us W hJ hdep haft hnot b hb hb' K hK Q'
      simp only [List.getD_cons_succ, List.getD_cons_zero, List.mem_cons, List.not_mem_nil, or_false, forall_eq_or_imp, forall_eq] at hdep
      have e32 := hb 4 32 rfl
      have d4 := hdep
      rw [d4.1] at e32
      clear hb hb' hdep d4
      go_simp
      rw [Int.tmod_eq_emod_of_nonneg hx0]
      exact hK _ _ rfl (fun _ _ _ h => h) hJ
    · intro done us W hJ hdep haft hnot b hb hb' K hK Q'
      simp only [List.getD_cons_succ, List.getD_cons_zero, List.mem_cons, List.not_mem_nil, or_false, forall_eq_or_imp, forall_eq] at hdep
      have e33 := hb 5 33 rfl
      have d5 := hdep
      rw [d5.1] at e33
      clear hb hb' hdep d5
      go_simp
      exact hK _ _ rfl (fun _ _ _ h => h) hJ
    · intro done us W hJ hdep haft hnot b hb hb' K hK Q'
      have e0 := (hb' 0 (by simp)).trans s0
      clear hb hb'
      go_simp
      exact hK _ _ rfl (fun _ _ _ h => h) hJ
    · intro done us W hJ hdep haft hnot b hb hb' K hK Q'
      have e6 := (hb' 6 (by simp)).trans s6
      clear hb hb'
      go_simp
      exact hK _ _ rfl (fun _ _ _ h => h) hJ
    · intro done us W hJ hdep haft hnot b hb hb' K hK Q'
      simp only [List.getD_cons_succ, List.getD_cons_zero, List.mem_cons, List.not_mem_nil, or_false, forall_eq_or_imp, forall_eq] at hdep
      have e35 := hb 7 35 rfl
      have e36 := hb 8 36 rfl
      have d7 := hdep.1
      have d8 := hdep.2
      rw [d7.1] at e35
      rw [d8.1] at e36
      clear hb hb' hdep d7 d8
      go_simp
      exact hK _ _ rfl (fun _ _ _ h => h) hJ
    · intro done us W hJ hdep haft hnot b hb hb' K hK Q'
      simp only [List.getD_cons_succ, List.getD_cons_zero, List.mem_cons, List.not_mem_nil, or_false, forall_eq_or_imp, forall_eq] at hdep
      have e37 := hb 9 37 rfl
      have d9 := hdep
      rw [d9.1] at e37
      clear hb hb' hdep d9
      have q := Ext.cell hJ hcx
      go_simp
      exact hK _ _ rfl (fun _ _ _ h => h) hJ
    · intro done us W hJ hdep haft hnot b hb hb' K hK Q'
      simp only [List.getD_cons_succ, List.getD_cons_zero, List.mem_cons, List.not_mem_nil, or_false, forall_eq_or_imp, forall_eq] at hdep
      have e38 := hb 10 38 rfl
      have d10 := hdep
      rw [d10.1] at e38
      clear hb hb' hdep d10
      go_simp
      first
      | rw [hw3]
      | rw [Int.tdiv_eq_ediv_of_nonneg hx0, hw3]
      exact hK _ _ rfl (fun _ _ _ h => h) hJ
    · intro done us W hJ hdep haft hnot b hb hb' K hK Q'
      simp only [List.getD_cons_succ, List.getD_cons_zero, List.mem_cons, List.not_mem_nil, or_false, forall_eq_or_imp, forall_eq] at hdep
      have e39 := hb 11 39 rfl
      have d11 := hdep
      rw [d11.1] at e39
      clear hb hb' hdep d11
      go_simp
      exact hK _ _ rfl (fun _ _ _ h => h) hJ
    · intro done us W hJ hdep haft hnot b hb hb' K hK Q'
      simp only [List.getD_cons_succ, List.getD_cons_zero, List.mem_cons, List.not_mem_nil, or_false, forall_eq_or_imp, forall_eq] at hdep
      have e34 := hb 6 34 rfl
      have e40 := hb 12 40 rfl
      have d6 := hdep.1
      have d12 := hdep.2
      rw [d6.1] at e34
      rw [d12.1] at e40
      clear hb hb' hdep d6 d12
      have hX : Ext W (W.alloc (.cells #[.int .i64 (x % 65536), .int .i64 (x / 65536)] 3)) := (Ext.refl W).alloc _
      go_simp
      exact hK _ _ ⟨_, rfl, Blk.new _ _ _⟩ (fun j u _ h => hmono _ _ j u hX h) (Ext.trans hJ hX)
  · intro us W hV hJ
    exact hend (us 0) (us 1) (us 2) (us 3) (us 4) (us 5) (us 6) (us 7) (us 8) (us 9) (us 10) (us 11) (us 12) (us 13) W (hV 0 (by omega)) (hV 1 (by omega)) (hV 2 (by omega)) (hV 3 (by omega)) (hV 4 (by omega)) (hV 5 (by omega)) (hV 6 (by omega)) (hV 7 (by omega)) (hV 8 (by omega)) (hV 9 (by omega)) (hV 10 (by omega)) (hV 11 (by omega)) (hV 12 (by omega)) (hV 13 (by omega)) hJ
set_option maxRecDepth 100000 in
set_option maxHeartbeats 2000000 in
theorem limbs_no (A : Option Addr) (l c : Nat) (xs : List Int) (w : World) (hI : Ints .u32 w A l xs) (hc1 : l ≤ c) (hc2 : c ≤ 9223372036854775807) (hf : ¬ FitW (wN xs)) :
    Calls Try.prog 119 #[.slice A l c] w (fun e w' => e = .returned (.tuple #[.slice none 0 0, .bool false]) ∧ Ext w w') := by
  have H := Lib.hid hI
  have HL : Hid (xs.length = l) := hI.1
  have HF := Lib.hid hf
  clear hI hf
  go_enter Try.func119, Try.ntmps119
  go_upto_block 0 with (fail)
  go_cut [4] (fun v W => ∃ m : Nat, v = .int .i64 (m : Int) ∧ m ≤ l ∧ Hid (Nm (xs.take m)) ∧ Hid (val 4294967296 (xs.take m) = val 4294967296 xs) ∧ w = W)
  case first =>
    as_aux_lemma =>
      go_wp2
      go_loopg [4] l (fun g v wr => ∃ m : Nat, m = g ∧ m ≤ l ∧ v = .int .i64 (m : Int) ∧ Hid (val 4294967296 (xs.take m) = val 4294967296 xs) ∧ w = wr)
      case atStart => exact ⟨l, rfl, Nat.le_refl _, rfl, by rw [List.take_of_length_le (by rw [HL.out]; exact Nat.le_refl _)]; rfl, rfl⟩
      case round =>
        obtain ⟨m, rfl, hm, rfl, hv, rfl⟩ := hrel
        rcases Nat.eq_zero_or_pos m with h0 | h0
        · subst h0
          go_wp2
          go_meet
          exact ⟨0, rfl, by omega, by simp [Nm, Hid], hv.out, rfl⟩
        · obtain ⟨k, rfl⟩ : ∃ k, m = k + 1 := ⟨m - 1, by omega⟩
          obtain ⟨b, off, x, rfl, hx, hwf, hc⟩ := H.out.get (j := k) (by omega)
          obtain ⟨hx0, hx1⟩ := u32_bounds hwf
          have HX := Lib.hid hx
          have hkc : ((k + 1 : Nat) : Int) = (k : Int) + 1 := by omega
          have hk0 : (0 : Int) ≤ (k : Int) := by omega
          have hkn : (k : Int) < (l : Int) := by omega
          rw [hkc]
          clear hx hwf hkc
          by_cases hz : x = 0
          · have hzb : (x == 0) = true := by simpa using hz
            have HV : Hid (val 4294967296 (xs.take k) = val 4294967296 xs) := by
              have := hv.out
              rw [val_take_succ HX.out, hz] at this
              show _ = _
              omega
            clear hz hv
            go_wp2
            go_roundg k
            case rel => exact ⟨k, rfl, by omega, rfl, HV, rfl⟩
            case measure => omega
          · have hzb : (x == 0) = false := by simpa using hz
            have HZ := Lib.hid hz
            clear hz
            go_wp2
            go_meet
            exact ⟨k + 1, by rw [show ((k + 1 : Nat) : Int) = (k : Int) + 1 by omega], hm, Nm.take HX.out HZ.out, hv.out, rfl⟩
  case rest =>
    as_aux_lemma =>
      obtain ⟨m, rfl, hm, HN, HV, rfl⟩ := hcut
      have hlen := norm_len H.out hm HN.out HV.out 256
      have hbig : ¬ m ≤ 256 := fun h => HF.out ⟨hlen.1 h⟩
      have hbi : (256 : Int) < (m : Int) := by omega
      go_wp2
      go_ret2
      exact ⟨rfl, Ext.refl _⟩

set_option maxRecDepth 100000 in
set_option maxHeartbeats 2000000 in
theorem limbs_yes (A : Option Addr) (l c : Nat) (xs : List Int) (w : World) (hI : Ints .u32 w A l xs) (hc1 : l ≤ c) (hc2 : c ≤ 9223372036854775807) (hf : FitW (wN xs)) :
    Calls Try.prog 119 #[.slice A l c] w (fun e w' => ∃ v, e = .returned (.tuple #[v, .bool true]) ∧ Z16 w' v (wN xs) ∧ Ext w w') := by
  have H := Lib.hid hI
  have HL : Hid (xs.length = l) := hI.1
  have HF := Lib.hid hf
  clear hI hf
  go_enter Try.func119, Try.ntmps119
  go_upto_block 0 with (fail)
  go_cut [4] (fun v W => ∃ m : Nat, v = .int .i64 (m : Int) ∧ m ≤ l ∧ Hid (Nm (xs.take m)) ∧ Hid (val 4294967296 (xs.take m) = val 4294967296 xs) ∧ w = W)
  case first =>
    as_aux_lemma =>
      go_wp2
      go_loopg [4] l (fun g v wr => ∃ m : Nat, m = g ∧ m ≤ l ∧ v = .int .i64 (m : Int) ∧ Hid (val 4294967296 (xs.take m) = val 4294967296 xs) ∧ w = wr)
      case atStart => exact ⟨l, rfl, Nat.le_refl _, rfl, by rw [List.take_of_length_le (by rw [HL.out]; exact Nat.le_refl _)]; rfl, rfl⟩
      case round =>
        obtain ⟨m, rfl, hm, rfl, hv, rfl⟩ := hrel
        rcases Nat.eq_zero_or_pos m with h0 | h0
        · subst h0
          go_wp2
          go_meet
          exact ⟨0, rfl, by omega, by simp [Nm, Hid], hv.out, rfl⟩
        · obtain ⟨k, rfl⟩ : ∃ k, m = k + 1 := ⟨m - 1, by omega⟩
          obtain ⟨b, off, x, rfl, hx, hwf, hc⟩ := H.out.get (j := k) (by omega)
          obtain ⟨hx0, hx1⟩ := u32_bounds hwf
          have HX := Lib.hid hx
          have hkc : ((k + 1 : Nat) : Int) = (k : Int) + 1 := by omega
          have hk0 : (0 : Int) ≤ (k : Int) := by omega
          have hkn : (k : Int) < (l : Int) := by omega
          rw [hkc]
          clear hx hwf hkc
          by_cases hz : x = 0
          · have hzb : (x == 0) = true := by simpa using hz
            have HV : Hid (val 4294967296 (xs.take k) = val 4294967296 xs) := by
              have := hv.out
              rw [val_take_succ HX.out, hz] at this
              show _ = _
              omega
            clear hz hv
            go_wp2
            go_roundg k
            case rel => exact ⟨k, rfl, by omega, rfl, HV, rfl⟩
            case measure => omega
          · have hzb : (x == 0) = false := by simpa using hz
            have HZ := Lib.hid hz
            clear hz
            go_wp2
            go_meet
            exact ⟨k + 1, by rw [show ((k + 1 : Nat) : Int) = (k : Int) + 1 by omega], hm, Nm.take HX.out HZ.out, hv.out, rfl⟩
  case rest =>
    as_aux_lemma =>
      obtain ⟨m, rfl, hm, HN, HV, rfl⟩ := hcut
      have hlen := norm_len H.out hm HN.out HV.out 256
      have hbig : m ≤ 256 := hlen.2 HF.out.1
      have hbi : ¬ (256 : Int) < (m : Int) := by omega
      clear hlen
      go_wp2_with fail
      go_loopg [5, 6] m (fun g v s6 wr => ∃ (k : Nat) (out : List Int), g = m - k ∧ k ≤ m ∧ s6 = .int .i64 (k : Int) ∧ Hid (wr.ownsRow w.heap.size 3 1 v (2 * k) (out.map (.int .i64))) ∧ Hid (Dg 65536 out) ∧ Hid (out.length = 2 * k) ∧ Hid (val 65536 out = val 4294967296 (xs.take k)) ∧ Hid (Ext w wr))
      case atStart => exact ⟨0, [], rfl, by omega, rfl, World.ownsRow_nil _ _ _ _, Dg.nil, rfl, rfl, Ext.refl w⟩
      case round =>
        obtain ⟨k, out, rfl, hk, rfl, HO, HD, HLO, HI, HX⟩ := hrel
        obtain ⟨A2, c2, rfl⟩ := own_slice HO.out
        by_cases hlt : k < m
        · have hkm : (k : Int) < (m : Int) := by omega
          have hk0 : (0 : Int) ≤ (k : Int) := by omega
          have hkl : (k : Int) < (l : Int) := by omega
          obtain ⟨bw, ow, x, rfl, hx, hwf, hc⟩ := (H.out.ext HX.out).get (j := k) (by omega)
          obtain ⟨hx0, hx1⟩ := u32_bounds hwf
          have hr0 := Int.emod_nonneg x (show (65536 : Int) ≠ 0 by omega)
          have hr1 := Int.emod_lt_of_pos x (show (0 : Int) < 65536 by omega)
          have hq0 : 0 ≤ x / 65536 := by omega
          have hq1 : x / 65536 ≤ 65535 := by omega
          have hw1 : IntKind.i64.wrap (x % 65536) = x % 65536 := IntWalk.i64_in _ (by omega)
          have hw2 : IntKind.i64.wrap (x / 65536) = x / 65536 := IntWalk.i64_in _ (by omega)
          have hw3 : IntKind.u32.wrap (x / 65536) = x / 65536 := by rw [IntKind.wrap_u32]; omega
          have HST := Lib.hid (limbs_step hx HLO.out HI.out)
          have HDD : Hid (Dg 65536 (out ++ [x % 65536, x / 65536])) := HD.out.append (Dg.cons ⟨hr0, hr1⟩ (Dg.one ⟨hq0, by omega⟩))
          have HW : Hid ((Lit.int .i64 (x % 65536)).wf = true ∧ (Lit.int .i64 (x / 65536)).wf = true) := ⟨wf16 ⟨hr0, hr1⟩, wf16 ⟨hq0, by omega⟩⟩
          clear hx hwf
          go_wp2_with fail
          refine limbs_r10 bw ow l c k x _ _ hc hk0 hkl hx0 hx1 hw1 hw2 hw3 hq0 hq1 hr0 hr1 _ _ (by simp) rfl rfl rfl ?_
          rintro xv0 xv1 xv2 xv3 xv4 xv5 xv6 xv7 xv8 xv9 xv10 xv11 xv12 xv13 w1 rfl rfl rfl rfl rfl rfl rfl rfl rfl rfl rfl rfl rfl ⟨go, rfl, hBo⟩ hXW
          simp only [rops, Try.f119, regOf, Option.bind_some, Nat.reduceBEq, if_true, if_false, Bool.false_eq_true, Option.getD_some, List.drop_succ_cons, List.drop_zero]
          simp only [Act.put, List.setIfInBounds_toArray, List.set_cons_succ, List.set_cons_zero]
          have HX1 := Lib.hid (HX.out.trans hXW)
          have hown := World.ownsRow.ext' HO.out hXW
          have HAT := Lib.hid hBo.at2
          clear hBo hXW hc hr0 hr1 hq0 hq1 hw1 hw2 hw3 HO HX
          go_wp2_with (at_builtin; refine wpList_app _ elI rfl _ _ rfl w.heap.size _ (2 * k) _ rfl hown _ 2 2 [.int .i64 (x % 65536), .int .i64 (x / 65536)] rfl rfl HAT.out (by simp [Value.oneCell']) (by omega) (by unfold maxLen; omega) (by have := HX1.out.size; simp; omega) ?_; intro v1 w2 hown1 hgr1 _; have HO1 := Lib.hid hown1; have HX2 := Lib.hid (Ext.app HX1.out hown hgr1); clear hown1 hgr1 hown)
          go_roundg (m - (k + 1))
          case rel => exact ⟨k + 1, out ++ [x % 65536, x / 65536], rfl, by omega, by go_num, by rw [List.map_append, show 2 * (k + 1) = 2 * k + 2 by omega]; exact HO1.out, HDD.out, by rw [List.length_append, HLO.out]; show _ = _; simp; omega, HST.out, HX2.out⟩
          case measure => omega
        · obtain rfl : m = k := by omega
          have HOS : Hid (OwnS .i64 3 w.heap.size wr A2 (2 * m) c2 out) := ⟨HO.out, HLO.out, dg_wf HD.out⟩
          have HE : Hid (val 65536 out = ((wN xs : Nat) : Int)) := by
            show _ = _
            rw [HI.out, HV.out]; exact wN_val H.out
          go_wp2_with fail
          refine (trimN HOS.out.ints HD.out HE.out HOS.out.cap.1 HOS.out.cap.2).mono ?_
          rintro e _ ⟨v, rfl, hv, rfl⟩
          have HVV := Lib.hid hv
          clear hv
          go_wp2
          go_ret2
          exact ⟨_, rfl, HVV.out, HX.out⟩

end Go.Proofs.Yteoijnaljkagfaa
namespace Go.Proofs.Yteoijnaljkagfaa
open Go.RowKit

theorem fit512 {n : Nat} (h : Fit 4294967296 n 256) : Fit 65536 n 512 := by
  have h2 := (fit_double (n := n) (L := 256)).2 h
  rw [show 2 * 256 = 512 from rfl] at h2
  exact h2
theorem limbs_b (b : Bool) (A : Option Addr) (l c : Nat) (xs : List Int) (w : World) (hI : Ints .u32 w A l xs) (hc1 : l ≤ c) (hc2 : c ≤ 9223372036854775807) (hf : b = true ↔ FitW (wN xs)) :
    Calls Try.prog 119 #[.slice A l c] w (fun e w' => ∃ v, e = .returned (.tuple #[v, .bool b]) ∧ (b = true → Z16 w' v (wN xs)) ∧ Ext w w') := by
  cases b
  · refine (limbs_no A l c xs w hI hc1 hc2 (fun h => by have := hf.2 h; cases this)).mono ?_
    rintro e w' ⟨rfl, hX⟩
    exact ⟨_, rfl, (fun h => by cases h), hX⟩
  · refine (limbs_yes A l c xs w hI hc1 hc2 (hf.1 rfl)).mono ?_
    rintro e w' ⟨v, rfl, hz, hX⟩
    exact ⟨v, rfl, fun _ => hz, hX⟩
theorem wD_zero {ys : List Int} (h : wN ys = 0) : wD ys = 1 := by unfold wD; rw [if_pos h]
theorem wD_nz {ys : List Int} (h : wN ys ≠ 0) : wD ys = wN ys := by unfold wD; rw [if_neg h]
theorem ratV_z (s t : Bool) {n d : Nat} (hd : 0 < d) (hn : n = 0) : ratV s n d = ratV t n d := by rw [(ratV_zero s n d hd).2 hn, (ratV_zero t n d hd).2 hn]
/-- What Of returns of a number that is not large. -/
def RetOf (w : World) (q : Rat) (e : Ending) (w' : World) : Prop := ∃ v, e = .returned (.tuple #[v, .bool true]) ∧ QZ w' v q ∧ Ext w w'

set_option maxRecDepth 100000 in
set_option maxHeartbeats 2000000 in
theorem rof_n0 (s0 : Bool) (A0 B0 : Option Addr) (l0 c0 m0 k0 : Nat) (xs ys : List Int) (w : World) (hI : Ints .u32 w A0 l0 xs) (hc : l0 ≤ c0 ∧ c0 ≤ 9223372036854775807) (hJ : Ints .u32 w B0 m0 ys) (hk : m0 ≤ k0 ∧ k0 ≤ 9223372036854775807) (hb : ¬ FitW (wN xs)) :
    Calls Try.prog 87 #[.agg #[.bool s0, .slice A0 l0 c0, .slice B0 m0 k0]] w (fun e w' => e = .returned (.tuple #[.agg #[.bool false, .slice none 0 0, .slice none 0 0], .bool false]) ∧ Ext w w') := by
  have HI := Lib.hid hI
  have HJ := Lib.hid hJ
  clear hI hJ
  obtain ⟨hc1, hc2⟩ := hc
  obtain ⟨hk1, hk2⟩ := hk
  have H0 := Lib.hid hb
  clear hb
  obtain ⟨b1, hb1⟩ : ∃ b : Bool, b = true ↔ FitW (wN ys) := by
    by_cases h : FitW (wN ys)
    · exact ⟨true, by simp [h]⟩
    · exact ⟨false, by simp [h]⟩
  have H1 := Lib.hid hb1
  clear hb1
  have hXe : Ext w ((w.alloc (.cells #[.bool s0, .slice A0 l0 c0, .slice B0 m0 k0] 33)).alloc (.cells #[.bool false, .slice none 0 0, .slice none 0 0] 42)) := (((Ext.refl w).alloc _).alloc _)
  have kA : Blk ((w.alloc (.cells #[.bool s0, .slice A0 l0 c0, .slice B0 m0 k0] 33)).alloc (.cells #[.bool false, .slice none 0 0, .slice none 0 0] 42)) w.heap.size 33 #[.bool s0, .slice A0 l0 c0, .slice B0 m0 k0] := Blk.alloc (Blk.at_ (by simp)) _
  have kR : Blk ((w.alloc (.cells #[.bool s0, .slice A0 l0 c0, .slice B0 m0 k0] 33)).alloc (.cells #[.bool false, .slice none 0 0, .slice none 0 0] 42)) (w.heap.size + 1) 42 #[.bool false, .slice none 0 0, .slice none 0 0] := Blk.at_ (by simp)
  go_enter Try.func87, Try.ntmps87
  go_wp2_with fail
  generalize ((w.alloc (.cells #[.bool s0, .slice A0 l0 c0, .slice B0 m0 k0] 33)).alloc (.cells #[.bool false, .slice none 0 0, .slice none 0 0] 42)) = w1 at hXe kA kR ⊢
  have HX := Lib.hid hXe
  clear hXe
  have KA := Lib.hid kA
  clear kA
  have KR := Lib.hid kR
  clear kR
  replace HI := Lib.hid (HI.out.ext HX.out)
  replace HJ := Lib.hid (HJ.out.ext HX.out)
  have cA0 : w1.cell? ⟨w.heap.size, 0, none⟩ = some (.bool s0) := KA.out.cell 0
  have cA1 : w1.cell? ⟨w.heap.size, 1, none⟩ = some (.slice A0 l0 c0) := KA.out.cell 1
  have cA2 : w1.cell? ⟨w.heap.size, 2, none⟩ = some (.slice B0 m0 k0) := KA.out.cell 2
  go_wp2_with fail
  clear cA0 cA1 cA2
  refine (limbs_b false A0 l0 c0 xs _ HI.out hc1 hc2 ⟨(fun h => by cases h), fun h => absurd h H0.out⟩).mono ?_
  rintro e w2 ⟨v7, rfl, h7, hX⟩
  replace hX : Ext w1 w2 := by with_reducible exact hX
  replace HX := Lib.hid (HX.out.trans hX)
  replace HI := Lib.hid (HI.out.ext hX)
  replace HJ := Lib.hid (HJ.out.ext hX)
  replace KA := Lib.hid (KA.out.ext hX)
  replace KR := Lib.hid (KR.out.ext hX)
  clear hX
  have HV7 : Hid (True) := trivial
  clear h7
  have cA0 : w2.cell? ⟨w.heap.size, 0, none⟩ = some (.bool s0) := KA.out.cell 0
  have cA1 : w2.cell? ⟨w.heap.size, 1, none⟩ = some (.slice A0 l0 c0) := KA.out.cell 1
  have cA2 : w2.cell? ⟨w.heap.size, 2, none⟩ = some (.slice B0 m0 k0) := KA.out.cell 2
  go_wp2_with fail
  clear cA0 cA1 cA2
  refine (limbs_b b1 B0 m0 k0 ys _ HJ.out hk1 hk2 H1.out).mono ?_
  rintro e w3 ⟨v8, rfl, h8, hX⟩
  replace hX : Ext w2 w3 := by with_reducible exact hX
  replace HX := Lib.hid (HX.out.trans hX)
  replace HI := Lib.hid (HI.out.ext hX)
  replace HJ := Lib.hid (HJ.out.ext hX)
  replace KA := Lib.hid (KA.out.ext hX)
  replace KR := Lib.hid (KR.out.ext hX)
  clear hX
  clear h8
  have cR0 : w3.cell? ⟨(w.heap.size + 1), 0, none⟩ = some (.bool false) := KR.out.cell 0
  have fR0 : w3.frozen? ⟨(w.heap.size + 1), 0, none⟩ = false := KR.out.free 0
  have cR1 : w3.cell? ⟨(w.heap.size + 1), 1, none⟩ = some (.slice none 0 0) := KR.out.cell 1
  have fR1 : w3.frozen? ⟨(w.heap.size + 1), 1, none⟩ = false := KR.out.free 1
  have cR2 : w3.cell? ⟨(w.heap.size + 1), 2, none⟩ = some (.slice none 0 0) := KR.out.cell 2
  have fR2 : w3.frozen? ⟨(w.heap.size + 1), 2, none⟩ = false := KR.out.free 2
  go_wp2
  refine bodyPost_ret (v := .tuple #[.agg #[.bool false, .slice none 0 0, .slice none 0 0], .bool false]) (by simp [results, Try.results87, go_sem, *]) rfl ?_
  exact ⟨rfl, Ext.boxed HX.out (by omega) _ _ _⟩

set_option maxRecDepth 100000 in
set_option maxHeartbeats 2000000 in
theorem rof_n1 (s0 : Bool) (A0 B0 : Option Addr) (l0 c0 m0 k0 : Nat) (xs ys : List Int) (w : World) (hI : Ints .u32 w A0 l0 xs) (hc : l0 ≤ c0 ∧ c0 ≤ 9223372036854775807) (hJ : Ints .u32 w B0 m0 ys) (hk : m0 ≤ k0 ∧ k0 ≤ 9223372036854775807) (ha : FitW (wN xs)) (hb : ¬ FitW (wN ys)) :
    Calls Try.prog 87 #[.agg #[.bool s0, .slice A0 l0 c0, .slice B0 m0 k0]] w (fun e w' => e = .returned (.tuple #[.agg #[.bool false, .slice none 0 0, .slice none 0 0], .bool false]) ∧ Ext w w') := by
  have HI := Lib.hid hI
  have HJ := Lib.hid hJ
  clear hI hJ
  obtain ⟨hc1, hc2⟩ := hc
  obtain ⟨hk1, hk2⟩ := hk
  have H0 := Lib.hid ha
  have H1 := Lib.hid hb
  clear ha hb
  have hXe : Ext w ((w.alloc (.cells #[.bool s0, .slice A0 l0 c0, .slice B0 m0 k0] 33)).alloc (.cells #[.bool false, .slice none 0 0, .slice none 0 0] 42)) := (((Ext.refl w).alloc _).alloc _)
  have kA : Blk ((w.alloc (.cells #[.bool s0, .slice A0 l0 c0, .slice B0 m0 k0] 33)).alloc (.cells #[.bool false, .slice none 0 0, .slice none 0 0] 42)) w.heap.size 33 #[.bool s0, .slice A0 l0 c0, .slice B0 m0 k0] := Blk.alloc (Blk.at_ (by simp)) _
  have kR : Blk ((w.alloc (.cells #[.bool s0, .slice A0 l0 c0, .slice B0 m0 k0] 33)).alloc (.cells #[.bool false, .slice none 0 0, .slice none 0 0] 42)) (w.heap.size + 1) 42 #[.bool false, .slice none 0 0, .slice none 0 0] := Blk.at_ (by simp)
  go_enter Try.func87, Try.ntmps87
  go_wp2_with fail
  generalize ((w.alloc (.cells #[.bool s0, .slice A0 l0 c0, .slice B0 m0 k0] 33)).alloc (.cells #[.bool false, .slice none 0 0, .slice none 0 0] 42)) = w1 at hXe kA kR ⊢
  have HX := Lib.hid hXe
  clear hXe
  have KA := Lib.hid kA
  clear kA
  have KR := Lib.hid kR
  clear kR
  replace HI := Lib.hid (HI.out.ext HX.out)
  replace HJ := Lib.hid (HJ.out.ext HX.out)
  have cA0 : w1.cell? ⟨w.heap.size, 0, none⟩ = some (.bool s0) := KA.out.cell 0
  have cA1 : w1.cell? ⟨w.heap.size, 1, none⟩ = some (.slice A0 l0 c0) := KA.out.cell 1
  have cA2 : w1.cell? ⟨w.heap.size, 2, none⟩ = some (.slice B0 m0 k0) := KA.out.cell 2
  go_wp2_with fail
  clear cA0 cA1 cA2
  refine (limbs_b true A0 l0 c0 xs _ HI.out hc1 hc2 ⟨fun _ => H0.out, fun _ => rfl⟩).mono ?_
  rintro e w2 ⟨v7, rfl, h7, hX⟩
  replace hX : Ext w1 w2 := by with_reducible exact hX
  replace HX := Lib.hid (HX.out.trans hX)
  replace HI := Lib.hid (HI.out.ext hX)
  replace HJ := Lib.hid (HJ.out.ext hX)
  replace KA := Lib.hid (KA.out.ext hX)
  replace KR := Lib.hid (KR.out.ext hX)
  clear hX
  have HV7 : Hid (Z16 w2 v7 (wN xs)) := h7 rfl
  clear h7
  have cA0 : w2.cell? ⟨w.heap.size, 0, none⟩ = some (.bool s0) := KA.out.cell 0
  have cA1 : w2.cell? ⟨w.heap.size, 1, none⟩ = some (.slice A0 l0 c0) := KA.out.cell 1
  have cA2 : w2.cell? ⟨w.heap.size, 2, none⟩ = some (.slice B0 m0 k0) := KA.out.cell 2
  go_wp2_with fail
  clear cA0 cA1 cA2
  refine (limbs_b false B0 m0 k0 ys _ HJ.out hk1 hk2 ⟨(fun h => by cases h), fun h => absurd h H1.out⟩).mono ?_
  rintro e w3 ⟨v8, rfl, h8, hX⟩
  replace hX : Ext w2 w3 := by with_reducible exact hX
  replace HX := Lib.hid (HX.out.trans hX)
  replace HI := Lib.hid (HI.out.ext hX)
  replace HJ := Lib.hid (HJ.out.ext hX)
  replace HV7 := Lib.hid (HV7.out.ext hX)
  replace KA := Lib.hid (KA.out.ext hX)
  replace KR := Lib.hid (KR.out.ext hX)
  clear hX
  clear h8
  have cR0 : w3.cell? ⟨(w.heap.size + 1), 0, none⟩ = some (.bool false) := KR.out.cell 0
  have fR0 : w3.frozen? ⟨(w.heap.size + 1), 0, none⟩ = false := KR.out.free 0
  have cR1 : w3.cell? ⟨(w.heap.size + 1), 1, none⟩ = some (.slice none 0 0) := KR.out.cell 1
  have fR1 : w3.frozen? ⟨(w.heap.size + 1), 1, none⟩ = false := KR.out.free 1
  have cR2 : w3.cell? ⟨(w.heap.size + 1), 2, none⟩ = some (.slice none 0 0) := KR.out.cell 2
  have fR2 : w3.frozen? ⟨(w.heap.size + 1), 2, none⟩ = false := KR.out.free 2
  go_wp2
  refine bodyPost_ret (v := .tuple #[.agg #[.bool false, .slice none 0 0, .slice none 0 0], .bool false]) (by simp [results, Try.results87, go_sem, *]) rfl ?_
  exact ⟨rfl, Ext.boxed HX.out (by omega) _ _ _⟩

set_option maxRecDepth 100000 in
set_option maxHeartbeats 2000000 in
theorem rof_fone (A0 B0 : Option Addr) (l0 c0 m0 k0 : Nat) (xs ys : List Int) (w : World) (hI : Ints .u32 w A0 l0 xs) (hc : l0 ≤ c0 ∧ c0 ≤ 9223372036854775807) (hJ : Ints .u32 w B0 m0 ys) (hk : m0 ≤ k0 ∧ k0 ≤ 9223372036854775807) (ha : FitW (wN xs)) (hb : FitW (wN ys))  (hD : wN ys = 0) :
    Calls Try.prog 87 #[.agg #[.bool false, .slice A0 l0 c0, .slice B0 m0 k0]] w (RetOf w (ratOf false xs ys)) := by
  have HI := Lib.hid hI
  have HJ := Lib.hid hJ
  clear hI hJ
  obtain ⟨hc1, hc2⟩ := hc
  obtain ⟨hk1, hk2⟩ := hk
  have H0 := Lib.hid ha
  have H1 := Lib.hid hb
  obtain ⟨L, hL⟩ : ∃ L : Nat, L = 512 := ⟨_, rfl⟩
  have HF0 : Hid (Fit 65536 (wN xs) L) := by rw [hL]; exact fit512 ha.1
  have HF1 : Hid (Fit 65536 (wN ys) L) := by rw [hL]; exact fit512 hb.1
  replace hL : 1 ≤ L ∧ L ≤ 512 := by omega
  obtain ⟨hL0, hL1⟩ := hL
  clear ha hb
  have HE : Hid (ratV false (wN xs) (wD ys) = ratOf false xs ys) := rfl
  rw [wD_zero hD] at HE
  obtain ⟨n, hN⟩ : ∃ n, wN xs = n := ⟨_, rfl⟩
  obtain ⟨d, hDD⟩ : ∃ d, wN ys = d := ⟨_, rfl⟩
  have HN := Lib.hid hN
  have HDD := Lib.hid hDD
  rw [hDD] at hD
  clear hN hDD
  have hXe : Ext w ((w.alloc (.cells #[.bool false, .slice A0 l0 c0, .slice B0 m0 k0] 33)).alloc (.cells #[.bool false, .slice none 0 0, .slice none 0 0] 42)) := (((Ext.refl w).alloc _).alloc _)
  have kA : Blk ((w.alloc (.cells #[.bool false, .slice A0 l0 c0, .slice B0 m0 k0] 33)).alloc (.cells #[.bool false, .slice none 0 0, .slice none 0 0] 42)) w.heap.size 33 #[.bool false, .slice A0 l0 c0, .slice B0 m0 k0] := Blk.alloc (Blk.at_ (by simp)) _
  have kR : Blk ((w.alloc (.cells #[.bool false, .slice A0 l0 c0, .slice B0 m0 k0] 33)).alloc (.cells #[.bool false, .slice none 0 0, .slice none 0 0] 42)) (w.heap.size + 1) 42 #[.bool false, .slice none 0 0, .slice none 0 0] := Blk.at_ (by simp)
  go_enter Try.func87, Try.ntmps87
  go_wp2_with fail
  generalize ((w.alloc (.cells #[.bool false, .slice A0 l0 c0, .slice B0 m0 k0] 33)).alloc (.cells #[.bool false, .slice none 0 0, .slice none 0 0] 42)) = w1 at hXe kA kR ⊢
  have HX := Lib.hid hXe
  clear hXe
  have KA := Lib.hid kA
  clear kA
  have KR := Lib.hid kR
  clear kR
  replace HI := Lib.hid (HI.out.ext HX.out)
  replace HJ := Lib.hid (HJ.out.ext HX.out)
  have cA0 : w1.cell? ⟨w.heap.size, 0, none⟩ = some (.bool false) := KA.out.cell 0
  have cA1 : w1.cell? ⟨w.heap.size, 1, none⟩ = some (.slice A0 l0 c0) := KA.out.cell 1
  have cA2 : w1.cell? ⟨w.heap.size, 2, none⟩ = some (.slice B0 m0 k0) := KA.out.cell 2
  go_wp2_with fail
  clear cA0 cA1 cA2
  refine (limbs_b true A0 l0 c0 xs _ HI.out hc1 hc2 ⟨fun _ => H0.out, fun _ => rfl⟩).mono ?_
  rintro e w2 ⟨v7, rfl, h7, hX⟩
  replace hX : Ext w1 w2 := by with_reducible exact hX
  replace HX := Lib.hid (HX.out.trans hX)
  replace HI := Lib.hid (HI.out.ext hX)
  replace HJ := Lib.hid (HJ.out.ext hX)
  replace KA := Lib.hid (KA.out.ext hX)
  replace KR := Lib.hid (KR.out.ext hX)
  clear hX
  have HV7 : Hid (Z16 w2 v7 (wN xs)) := h7 rfl
  clear h7
  have cA0 : w2.cell? ⟨w.heap.size, 0, none⟩ = some (.bool false) := KA.out.cell 0
  have cA1 : w2.cell? ⟨w.heap.size, 1, none⟩ = some (.slice A0 l0 c0) := KA.out.cell 1
  have cA2 : w2.cell? ⟨w.heap.size, 2, none⟩ = some (.slice B0 m0 k0) := KA.out.cell 2
  go_wp2_with fail
  clear cA0 cA1 cA2
  refine (limbs_b true B0 m0 k0 ys _ HJ.out hk1 hk2 ⟨fun _ => H1.out, fun _ => rfl⟩).mono ?_
  rintro e w3 ⟨v8, rfl, h8, hX⟩
  replace hX : Ext w2 w3 := by with_reducible exact hX
  replace HX := Lib.hid (HX.out.trans hX)
  replace HI := Lib.hid (HI.out.ext hX)
  replace HJ := Lib.hid (HJ.out.ext hX)
  replace HV7 := Lib.hid (HV7.out.ext hX)
  replace KA := Lib.hid (KA.out.ext hX)
  replace KR := Lib.hid (KR.out.ext hX)
  clear hX
  have HV8 := Lib.hid (h8 rfl)
  clear h8
  rw [HN.out] at HV7 HF0 HE
  rw [HDD.out] at HV8 HF1
  obtain ⟨A7, l7, c7, rfl, hv7, hz7⟩ := Z16.open HV7.out
  obtain ⟨A8, l8, c8, rfl, hv8, hz8⟩ := Z16.open HV8.out
  clear hv7 hv8
  obtain rfl : l8 = 0 := hz8.2 hD
  clear hz7 hz8 hD
  have cA0 : w3.cell? ⟨w.heap.size, 0, none⟩ = some (.bool false) := KA.out.cell 0
  have cA1 : w3.cell? ⟨w.heap.size, 1, none⟩ = some (.slice A0 l0 c0) := KA.out.cell 1
  have cA2 : w3.cell? ⟨w.heap.size, 2, none⟩ = some (.slice B0 m0 k0) := KA.out.cell 2
  go_upto_region 7 with (fail)
  clear cA0 cA1 cA2
  have hXa : Ext w3 (w3.alloc (.cells #[.int .i64 1] 3)) := (Ext.refl _).alloc _
  have kO := Blk.new w3 3 #[.int .i64 1]
  have zA := KA.out.lt
  have zR := KR.out.lt
  have zg := HX.out.size
  replace HX := Lib.hid (HX.out.trans hXa)
  replace HI := Lib.hid (HI.out.ext hXa)
  replace HJ := Lib.hid (HJ.out.ext hXa)
  replace HV7 := Lib.hid (HV7.out.ext hXa)
  replace HV8 := Lib.hid (HV8.out.ext hXa)
  replace KA := Lib.hid (KA.out.ext hXa)
  replace KR := Lib.hid (KR.out.ext hXa)
  generalize (w3.alloc (.cells #[.int .i64 1] 3)) = w4 at HX HI HJ HV7 HV8 KA KR kO ⊢
  have KO := Lib.hid kO
  clear kO hXa
  have cA0 : w4.cell? ⟨w.heap.size, 0, none⟩ = some (.bool false) := KA.out.cell 0
  have cA1 : w4.cell? ⟨w.heap.size, 1, none⟩ = some (.slice A0 l0 c0) := KA.out.cell 1
  have cA2 : w4.cell? ⟨w.heap.size, 2, none⟩ = some (.slice B0 m0 k0) := KA.out.cell 2
  go_wp2_with fail
  clear cA0 cA1 cA2
  refine (frac_any false false A7 _ l7 c7 _ _ n 1 L _ HV7.out KO.out.one16 HF0.out (Fit.one (by omega) (by omega)) (by omega) (by omega)).mono ?_
  rw [HE.out]
  rintro e w5 ⟨v9, rfl, hv, hX⟩
  replace hX : Ext w4 w5 := by with_reducible exact hX
  replace HX := Lib.hid (HX.out.trans hX)
  replace HI := Lib.hid (HI.out.ext hX)
  replace HJ := Lib.hid (HJ.out.ext hX)
  replace HV7 := Lib.hid (HV7.out.ext hX)
  replace HV8 := Lib.hid (HV8.out.ext hX)
  replace KA := Lib.hid (KA.out.ext hX)
  replace KR := Lib.hid (KR.out.ext hX)
  replace KO := Lib.hid (KO.out.ext hX)
  clear hX
  obtain ⟨s9, A9, l9, c9, B9, m9, k9, rfl⟩ := QZ.open hv
  have HV := Lib.hid (QZ.past hv (NoInts.three KR.out))
  clear hv
  have cR0 : w5.cell? ⟨(w.heap.size + 1), 0, none⟩ = some (.bool false) := KR.out.cell 0
  have fR0 : w5.frozen? ⟨(w.heap.size + 1), 0, none⟩ = false := KR.out.free 0
  have cR1 : w5.cell? ⟨(w.heap.size + 1), 1, none⟩ = some (.slice none 0 0) := KR.out.cell 1
  have fR1 : w5.frozen? ⟨(w.heap.size + 1), 1, none⟩ = false := KR.out.free 1
  have cR2 : w5.cell? ⟨(w.heap.size + 1), 2, none⟩ = some (.slice none 0 0) := KR.out.cell 2
  have fR2 : w5.frozen? ⟨(w.heap.size + 1), 2, none⟩ = false := KR.out.free 2
  go_wp2
  refine bodyPost_ret (v := .tuple #[.agg #[.bool s9, .slice A9 l9 c9, .slice B9 m9 k9], .bool true]) (by simp [results, Try.results87, go_sem, *]) rfl ?_
  exact ⟨_, rfl, HV.out, Ext.boxed HX.out (by omega) _ _ _⟩

set_option maxRecDepth 100000 in
set_option maxHeartbeats 2000000 in
theorem rof_fden (A0 B0 : Option Addr) (l0 c0 m0 k0 : Nat) (xs ys : List Int) (w : World) (hI : Ints .u32 w A0 l0 xs) (hc : l0 ≤ c0 ∧ c0 ≤ 9223372036854775807) (hJ : Ints .u32 w B0 m0 ys) (hk : m0 ≤ k0 ∧ k0 ≤ 9223372036854775807) (ha : FitW (wN xs)) (hb : FitW (wN ys))  (hD : wN ys ≠ 0) :
    Calls Try.prog 87 #[.agg #[.bool false, .slice A0 l0 c0, .slice B0 m0 k0]] w (RetOf w (ratOf false xs ys)) := by
  have HI := Lib.hid hI
  have HJ := Lib.hid hJ
  clear hI hJ
  obtain ⟨hc1, hc2⟩ := hc
  obtain ⟨hk1, hk2⟩ := hk
  have H0 := Lib.hid ha
  have H1 := Lib.hid hb
  obtain ⟨L, hL⟩ : ∃ L : Nat, L = 512 := ⟨_, rfl⟩
  have HF0 : Hid (Fit 65536 (wN xs) L) := by rw [hL]; exact fit512 ha.1
  have HF1 : Hid (Fit 65536 (wN ys) L) := by rw [hL]; exact fit512 hb.1
  replace hL : 1 ≤ L ∧ L ≤ 512 := by omega
  obtain ⟨hL0, hL1⟩ := hL
  clear ha hb
  have HE : Hid (ratV false (wN xs) (wD ys) = ratOf false xs ys) := rfl
  rw [wD_nz hD] at HE
  obtain ⟨n, hN⟩ : ∃ n, wN xs = n := ⟨_, rfl⟩
  obtain ⟨d, hDD⟩ : ∃ d, wN ys = d := ⟨_, rfl⟩
  have HN := Lib.hid hN
  have HDD := Lib.hid hDD
  rw [hDD] at hD
  clear hN hDD
  have hXe : Ext w ((w.alloc (.cells #[.bool false, .slice A0 l0 c0, .slice B0 m0 k0] 33)).alloc (.cells #[.bool false, .slice none 0 0, .slice none 0 0] 42)) := (((Ext.refl w).alloc _).alloc _)
  have kA : Blk ((w.alloc (.cells #[.bool false, .slice A0 l0 c0, .slice B0 m0 k0] 33)).alloc (.cells #[.bool false, .slice none 0 0, .slice none 0 0] 42)) w.heap.size 33 #[.bool false, .slice A0 l0 c0, .slice B0 m0 k0] := Blk.alloc (Blk.at_ (by simp)) _
  have kR : Blk ((w.alloc (.cells #[.bool false, .slice A0 l0 c0, .slice B0 m0 k0] 33)).alloc (.cells #[.bool false, .slice none 0 0, .slice none 0 0] 42)) (w.heap.size + 1) 42 #[.bool false, .slice none 0 0, .slice none 0 0] := Blk.at_ (by simp)
  go_enter Try.func87, Try.ntmps87
  go_wp2_with fail
  generalize ((w.alloc (.cells #[.bool false, .slice A0 l0 c0, .slice B0 m0 k0] 33)).alloc (.cells #[.bool false, .slice none 0 0, .slice none 0 0] 42)) = w1 at hXe kA kR ⊢
  have HX := Lib.hid hXe
  clear hXe
  have KA := Lib.hid kA
  clear kA
  have KR := Lib.hid kR
  clear kR
  replace HI := Lib.hid (HI.out.ext HX.out)
  replace HJ := Lib.hid (HJ.out.ext HX.out)
  have cA0 : w1.cell? ⟨w.heap.size, 0, none⟩ = some (.bool false) := KA.out.cell 0
  have cA1 : w1.cell? ⟨w.heap.size, 1, none⟩ = some (.slice A0 l0 c0) := KA.out.cell 1
  have cA2 : w1.cell? ⟨w.heap.size, 2, none⟩ = some (.slice B0 m0 k0) := KA.out.cell 2
  go_wp2_with fail
  clear cA0 cA1 cA2
  refine (limbs_b true A0 l0 c0 xs _ HI.out hc1 hc2 ⟨fun _ => H0.out, fun _ => rfl⟩).mono ?_
  rintro e w2 ⟨v7, rfl, h7, hX⟩
  replace hX : Ext w1 w2 := by with_reducible exact hX
  replace HX := Lib.hid (HX.out.trans hX)
  replace HI := Lib.hid (HI.out.ext hX)
  replace HJ := Lib.hid (HJ.out.ext hX)
  replace KA := Lib.hid (KA.out.ext hX)
  replace KR := Lib.hid (KR.out.ext hX)
  clear hX
  have HV7 : Hid (Z16 w2 v7 (wN xs)) := h7 rfl
  clear h7
  have cA0 : w2.cell? ⟨w.heap.size, 0, none⟩ = some (.bool false) := KA.out.cell 0
  have cA1 : w2.cell? ⟨w.heap.size, 1, none⟩ = some (.slice A0 l0 c0) := KA.out.cell 1
  have cA2 : w2.cell? ⟨w.heap.size, 2, none⟩ = some (.slice B0 m0 k0) := KA.out.cell 2
  go_wp2_with fail
  clear cA0 cA1 cA2
  refine (limbs_b true B0 m0 k0 ys _ HJ.out hk1 hk2 ⟨fun _ => H1.out, fun _ => rfl⟩).mono ?_
  rintro e w3 ⟨v8, rfl, h8, hX⟩
  replace hX : Ext w2 w3 := by with_reducible exact hX
  replace HX := Lib.hid (HX.out.trans hX)
  replace HI := Lib.hid (HI.out.ext hX)
  replace HJ := Lib.hid (HJ.out.ext hX)
  replace HV7 := Lib.hid (HV7.out.ext hX)
  replace KA := Lib.hid (KA.out.ext hX)
  replace KR := Lib.hid (KR.out.ext hX)
  clear hX
  have HV8 := Lib.hid (h8 rfl)
  clear h8
  rw [HN.out] at HV7 HF0 HE
  rw [HDD.out] at HV8 HF1 HE
  obtain ⟨A7, l7, c7, rfl, hv7, hz7⟩ := Z16.open HV7.out
  obtain ⟨A8, l8, c8, rfl, hv8, hz8⟩ := Z16.open HV8.out
  clear hv7 hv8
  have hl8 : ¬ l8 = 0 := fun h => hD (hz8.1 h)
  have hl8' : ((l8 : Int) == 0) = false := by simp; omega
  have HDP : Hid (0 < d) := by show 0 < _; omega
  clear hz7 hz8 hD
  have cA0 : w3.cell? ⟨w.heap.size, 0, none⟩ = some (.bool false) := KA.out.cell 0
  have cA1 : w3.cell? ⟨w.heap.size, 1, none⟩ = some (.slice A0 l0 c0) := KA.out.cell 1
  have cA2 : w3.cell? ⟨w.heap.size, 2, none⟩ = some (.slice B0 m0 k0) := KA.out.cell 2
  go_wp2_with fail
  clear cA0 cA1 cA2
  refine (frac_any false false A7 _ l7 c7 _ _ n d L _ HV7.out HV8.out HF0.out HF1.out (by omega) HDP.out).mono ?_
  rw [HE.out]
  rintro e w4 ⟨v9, rfl, hv, hX⟩
  replace hX : Ext w3 w4 := by with_reducible exact hX
  replace HX := Lib.hid (HX.out.trans hX)
  replace HI := Lib.hid (HI.out.ext hX)
  replace HJ := Lib.hid (HJ.out.ext hX)
  replace HV7 := Lib.hid (HV7.out.ext hX)
  replace HV8 := Lib.hid (HV8.out.ext hX)
  replace KA := Lib.hid (KA.out.ext hX)
  replace KR := Lib.hid (KR.out.ext hX)
  clear hX
  obtain ⟨s9, A9, l9, c9, B9, m9, k9, rfl⟩ := QZ.open hv
  have HV := Lib.hid (QZ.past hv (NoInts.three KR.out))
  clear hv
  have cR0 : w4.cell? ⟨(w.heap.size + 1), 0, none⟩ = some (.bool false) := KR.out.cell 0
  have fR0 : w4.frozen? ⟨(w.heap.size + 1), 0, none⟩ = false := KR.out.free 0
  have cR1 : w4.cell? ⟨(w.heap.size + 1), 1, none⟩ = some (.slice none 0 0) := KR.out.cell 1
  have fR1 : w4.frozen? ⟨(w.heap.size + 1), 1, none⟩ = false := KR.out.free 1
  have cR2 : w4.cell? ⟨(w.heap.size + 1), 2, none⟩ = some (.slice none 0 0) := KR.out.cell 2
  have fR2 : w4.frozen? ⟨(w.heap.size + 1), 2, none⟩ = false := KR.out.free 2
  go_wp2
  refine bodyPost_ret (v := .tuple #[.agg #[.bool s9, .slice A9 l9 c9, .slice B9 m9 k9], .bool true]) (by simp [results, Try.results87, go_sem, *]) rfl ?_
  exact ⟨_, rfl, HV.out, Ext.boxed HX.out (by omega) _ _ _⟩

set_option maxRecDepth 100000 in
set_option maxHeartbeats 2000000 in
theorem rof_tone (A0 B0 : Option Addr) (l0 c0 m0 k0 : Nat) (xs ys : List Int) (w : World) (hI : Ints .u32 w A0 l0 xs) (hc : l0 ≤ c0 ∧ c0 ≤ 9223372036854775807) (hJ : Ints .u32 w B0 m0 ys) (hk : m0 ≤ k0 ∧ k0 ≤ 9223372036854775807) (ha : FitW (wN xs)) (hb : FitW (wN ys)) (hn : wN xs ≠ 0) (hD : wN ys = 0) :
    Calls Try.prog 87 #[.agg #[.bool true, .slice A0 l0 c0, .slice B0 m0 k0]] w (RetOf w (ratOf true xs ys)) := by
  have HI := Lib.hid hI
  have HJ := Lib.hid hJ
  clear hI hJ
  obtain ⟨hc1, hc2⟩ := hc
  obtain ⟨hk1, hk2⟩ := hk
  have H0 := Lib.hid ha
  have H1 := Lib.hid hb
  obtain ⟨L, hL⟩ : ∃ L : Nat, L = 512 := ⟨_, rfl⟩
  have HF0 : Hid (Fit 65536 (wN xs) L) := by rw [hL]; exact fit512 ha.1
  have HF1 : Hid (Fit 65536 (wN ys) L) := by rw [hL]; exact fit512 hb.1
  replace hL : 1 ≤ L ∧ L ≤ 512 := by omega
  obtain ⟨hL0, hL1⟩ := hL
  clear ha hb
  have HE : Hid (ratV true (wN xs) (wD ys) = ratOf true xs ys) := rfl
  rw [wD_zero hD] at HE
  obtain ⟨n, hN⟩ : ∃ n, wN xs = n := ⟨_, rfl⟩
  obtain ⟨d, hDD⟩ : ∃ d, wN ys = d := ⟨_, rfl⟩
  have HN := Lib.hid hN
  have HDD := Lib.hid hDD
  rw [hDD] at hD
  rw [hN] at hn
  clear hN hDD
  have hXe : Ext w ((w.alloc (.cells #[.bool true, .slice A0 l0 c0, .slice B0 m0 k0] 33)).alloc (.cells #[.bool false, .slice none 0 0, .slice none 0 0] 42)) := (((Ext.refl w).alloc _).alloc _)
  have kA : Blk ((w.alloc (.cells #[.bool true, .slice A0 l0 c0, .slice B0 m0 k0] 33)).alloc (.cells #[.bool false, .slice none 0 0, .slice none 0 0] 42)) w.heap.size 33 #[.bool true, .slice A0 l0 c0, .slice B0 m0 k0] := Blk.alloc (Blk.at_ (by simp)) _
  have kR : Blk ((w.alloc (.cells #[.bool true, .slice A0 l0 c0, .slice B0 m0 k0] 33)).alloc (.cells #[.bool false, .slice none 0 0, .slice none 0 0] 42)) (w.heap.size + 1) 42 #[.bool false, .slice none 0 0, .slice none 0 0] := Blk.at_ (by simp)
  go_enter Try.func87, Try.ntmps87
  go_wp2_with fail
  generalize ((w.alloc (.cells #[.bool true, .slice A0 l0 c0, .slice B0 m0 k0] 33)).alloc (.cells #[.bool false, .slice none 0 0, .slice none 0 0] 42)) = w1 at hXe kA kR ⊢
  have HX := Lib.hid hXe
  clear hXe
  have KA := Lib.hid kA
  clear kA
  have KR := Lib.hid kR
  clear kR
  replace HI := Lib.hid (HI.out.ext HX.out)
  replace HJ := Lib.hid (HJ.out.ext HX.out)
  have cA0 : w1.cell? ⟨w.heap.size, 0, none⟩ = some (.bool true) := KA.out.cell 0
  have cA1 : w1.cell? ⟨w.heap.size, 1, none⟩ = some (.slice A0 l0 c0) := KA.out.cell 1
  have cA2 : w1.cell? ⟨w.heap.size, 2, none⟩ = some (.slice B0 m0 k0) := KA.out.cell 2
  go_wp2_with fail
  clear cA0 cA1 cA2
  refine (limbs_b true A0 l0 c0 xs _ HI.out hc1 hc2 ⟨fun _ => H0.out, fun _ => rfl⟩).mono ?_
  rintro e w2 ⟨v7, rfl, h7, hX⟩
  replace hX : Ext w1 w2 := by with_reducible exact hX
  replace HX := Lib.hid (HX.out.trans hX)
  replace HI := Lib.hid (HI.out.ext hX)
  replace HJ := Lib.hid (HJ.out.ext hX)
  replace KA := Lib.hid (KA.out.ext hX)
  replace KR := Lib.hid (KR.out.ext hX)
  clear hX
  have HV7 : Hid (Z16 w2 v7 (wN xs)) := h7 rfl
  clear h7
  have cA0 : w2.cell? ⟨w.heap.size, 0, none⟩ = some (.bool true) := KA.out.cell 0
  have cA1 : w2.cell? ⟨w.heap.size, 1, none⟩ = some (.slice A0 l0 c0) := KA.out.cell 1
  have cA2 : w2.cell? ⟨w.heap.size, 2, none⟩ = some (.slice B0 m0 k0) := KA.out.cell 2
  go_wp2_with fail
  clear cA0 cA1 cA2
  refine (limbs_b true B0 m0 k0 ys _ HJ.out hk1 hk2 ⟨fun _ => H1.out, fun _ => rfl⟩).mono ?_
  rintro e w3 ⟨v8, rfl, h8, hX⟩
  replace hX : Ext w2 w3 := by with_reducible exact hX
  replace HX := Lib.hid (HX.out.trans hX)
  replace HI := Lib.hid (HI.out.ext hX)
  replace HJ := Lib.hid (HJ.out.ext hX)
  replace HV7 := Lib.hid (HV7.out.ext hX)
  replace KA := Lib.hid (KA.out.ext hX)
  replace KR := Lib.hid (KR.out.ext hX)
  clear hX
  have HV8 := Lib.hid (h8 rfl)
  clear h8
  rw [HN.out] at HV7 HF0 HE
  rw [HDD.out] at HV8 HF1
  obtain ⟨A7, l7, c7, rfl, hv7, hz7⟩ := Z16.open HV7.out
  obtain ⟨A8, l8, c8, rfl, hv8, hz8⟩ := Z16.open HV8.out
  clear hv7 hv8
  have hl7 : (0 : Int) < (l7 : Int) := by
    rcases Nat.eq_zero_or_pos l7 with h | h
    · exact absurd (hz7.1 h) hn
    · omega
  have hl7' : 0 < l7 := by omega
  obtain rfl : l8 = 0 := hz8.2 hD
  clear hz7 hz8 hD hn
  have cA0 : w3.cell? ⟨w.heap.size, 0, none⟩ = some (.bool true) := KA.out.cell 0
  have cA1 : w3.cell? ⟨w.heap.size, 1, none⟩ = some (.slice A0 l0 c0) := KA.out.cell 1
  have cA2 : w3.cell? ⟨w.heap.size, 2, none⟩ = some (.slice B0 m0 k0) := KA.out.cell 2
  go_upto_region 7 with (fail)
  clear cA0 cA1 cA2
  have hXa : Ext w3 (w3.alloc (.cells #[.int .i64 1] 3)) := (Ext.refl _).alloc _
  have kO := Blk.new w3 3 #[.int .i64 1]
  have zA := KA.out.lt
  have zR := KR.out.lt
  have zg := HX.out.size
  replace HX := Lib.hid (HX.out.trans hXa)
  replace HI := Lib.hid (HI.out.ext hXa)
  replace HJ := Lib.hid (HJ.out.ext hXa)
  replace HV7 := Lib.hid (HV7.out.ext hXa)
  replace HV8 := Lib.hid (HV8.out.ext hXa)
  replace KA := Lib.hid (KA.out.ext hXa)
  replace KR := Lib.hid (KR.out.ext hXa)
  generalize (w3.alloc (.cells #[.int .i64 1] 3)) = w4 at HX HI HJ HV7 HV8 KA KR kO ⊢
  have KO := Lib.hid kO
  clear kO hXa
  have cA0 : w4.cell? ⟨w.heap.size, 0, none⟩ = some (.bool true) := KA.out.cell 0
  have cA1 : w4.cell? ⟨w.heap.size, 1, none⟩ = some (.slice A0 l0 c0) := KA.out.cell 1
  have cA2 : w4.cell? ⟨w.heap.size, 2, none⟩ = some (.slice B0 m0 k0) := KA.out.cell 2
  go_wp2_with fail
  clear cA0 cA1 cA2
  refine (frac_any true false A7 _ l7 c7 _ _ n 1 L _ HV7.out KO.out.one16 HF0.out (Fit.one (by omega) (by omega)) (by omega) (by omega)).mono ?_
  rw [HE.out]
  rintro e w5 ⟨v9, rfl, hv, hX⟩
  replace hX : Ext w4 w5 := by with_reducible exact hX
  replace HX := Lib.hid (HX.out.trans hX)
  replace HI := Lib.hid (HI.out.ext hX)
  replace HJ := Lib.hid (HJ.out.ext hX)
  replace HV7 := Lib.hid (HV7.out.ext hX)
  replace HV8 := Lib.hid (HV8.out.ext hX)
  replace KA := Lib.hid (KA.out.ext hX)
  replace KR := Lib.hid (KR.out.ext hX)
  replace KO := Lib.hid (KO.out.ext hX)
  clear hX
  obtain ⟨s9, A9, l9, c9, B9, m9, k9, rfl⟩ := QZ.open hv
  have HV := Lib.hid (QZ.past hv (NoInts.three KR.out))
  clear hv
  have cR0 : w5.cell? ⟨(w.heap.size + 1), 0, none⟩ = some (.bool false) := KR.out.cell 0
  have fR0 : w5.frozen? ⟨(w.heap.size + 1), 0, none⟩ = false := KR.out.free 0
  have cR1 : w5.cell? ⟨(w.heap.size + 1), 1, none⟩ = some (.slice none 0 0) := KR.out.cell 1
  have fR1 : w5.frozen? ⟨(w.heap.size + 1), 1, none⟩ = false := KR.out.free 1
  have cR2 : w5.cell? ⟨(w.heap.size + 1), 2, none⟩ = some (.slice none 0 0) := KR.out.cell 2
  have fR2 : w5.frozen? ⟨(w.heap.size + 1), 2, none⟩ = false := KR.out.free 2
  go_wp2
  refine bodyPost_ret (v := .tuple #[.agg #[.bool s9, .slice A9 l9 c9, .slice B9 m9 k9], .bool true]) (by simp [results, Try.results87, go_sem, *]) rfl ?_
  exact ⟨_, rfl, HV.out, Ext.boxed HX.out (by omega) _ _ _⟩

set_option maxRecDepth 100000 in
set_option maxHeartbeats 2000000 in
theorem rof_tden (A0 B0 : Option Addr) (l0 c0 m0 k0 : Nat) (xs ys : List Int) (w : World) (hI : Ints .u32 w A0 l0 xs) (hc : l0 ≤ c0 ∧ c0 ≤ 9223372036854775807) (hJ : Ints .u32 w B0 m0 ys) (hk : m0 ≤ k0 ∧ k0 ≤ 9223372036854775807) (ha : FitW (wN xs)) (hb : FitW (wN ys)) (hn : wN xs ≠ 0) (hD : wN ys ≠ 0) :
    Calls Try.prog 87 #[.agg #[.bool true, .slice A0 l0 c0, .slice B0 m0 k0]] w (RetOf w (ratOf true xs ys)) := by
  have HI := Lib.hid hI
  have HJ := Lib.hid hJ
  clear hI hJ
  obtain ⟨hc1, hc2⟩ := hc
  obtain ⟨hk1, hk2⟩ := hk
  have H0 := Lib.hid ha
  have H1 := Lib.hid hb
  obtain ⟨L, hL⟩ : ∃ L : Nat, L = 512 := ⟨_, rfl⟩
  have HF0 : Hid (Fit 65536 (wN xs) L) := by rw [hL]; exact fit512 ha.1
  have HF1 : Hid (Fit 65536 (wN ys) L) := by rw [hL]; exact fit512 hb.1
  replace hL : 1 ≤ L ∧ L ≤ 512 := by omega
  obtain ⟨hL0, hL1⟩ := hL
  clear ha hb
  have HE : Hid (ratV true (wN xs) (wD ys) = ratOf true xs ys) := rfl
  rw [wD_nz hD] at HE
  obtain ⟨n, hN⟩ : ∃ n, wN xs = n := ⟨_, rfl⟩
  obtain ⟨d, hDD⟩ : ∃ d, wN ys = d := ⟨_, rfl⟩
  have HN := Lib.hid hN
  have HDD := Lib.hid hDD
  rw [hDD] at hD
  rw [hN] at hn
  clear hN hDD
  have hXe : Ext w ((w.alloc (.cells #[.bool true, .slice A0 l0 c0, .slice B0 m0 k0] 33)).alloc (.cells #[.bool false, .slice none 0 0, .slice none 0 0] 42)) := (((Ext.refl w).alloc _).alloc _)
  have kA : Blk ((w.alloc (.cells #[.bool true, .slice A0 l0 c0, .slice B0 m0 k0] 33)).alloc (.cells #[.bool false, .slice none 0 0, .slice none 0 0] 42)) w.heap.size 33 #[.bool true, .slice A0 l0 c0, .slice B0 m0 k0] := Blk.alloc (Blk.at_ (by simp)) _
  have kR : Blk ((w.alloc (.cells #[.bool true, .slice A0 l0 c0, .slice B0 m0 k0] 33)).alloc (.cells #[.bool false, .slice none 0 0, .slice none 0 0] 42)) (w.heap.size + 1) 42 #[.bool false, .slice none 0 0, .slice none 0 0] := Blk.at_ (by simp)
  go_enter Try.func87, Try.ntmps87
  go_wp2_with fail
  generalize ((w.alloc (.cells #[.bool true, .slice A0 l0 c0, .slice B0 m0 k0] 33)).alloc (.cells #[.bool false, .slice none 0 0, .slice none 0 0] 42)) = w1 at hXe kA kR ⊢
  have HX := Lib.hid hXe
  clear hXe
  have KA := Lib.hid kA
  clear kA
  have KR := Lib.hid kR
  clear kR
  replace HI := Lib.hid (HI.out.ext HX.out)
  replace HJ := Lib.hid (HJ.out.ext HX.out)
  have cA0 : w1.cell? ⟨w.heap.size, 0, none⟩ = some (.bool true) := KA.out.cell 0
  have cA1 : w1.cell? ⟨w.heap.size, 1, none⟩ = some (.slice A0 l0 c0) := KA.out.cell 1
  have cA2 : w1.cell? ⟨w.heap.size, 2, none⟩ = some (.slice B0 m0 k0) := KA.out.cell 2
  go_wp2_with fail
  clear cA0 cA1 cA2
  refine (limbs_b true A0 l0 c0 xs _ HI.out hc1 hc2 ⟨fun _ => H0.out, fun _ => rfl⟩).mono ?_
  rintro e w2 ⟨v7, rfl, h7, hX⟩
  replace hX : Ext w1 w2 := by with_reducible exact hX
  replace HX := Lib.hid (HX.out.trans hX)
  replace HI := Lib.hid (HI.out.ext hX)
  replace HJ := Lib.hid (HJ.out.ext hX)
  replace KA := Lib.hid (KA.out.ext hX)
  replace KR := Lib.hid (KR.out.ext hX)
  clear hX
  have HV7 : Hid (Z16 w2 v7 (wN xs)) := h7 rfl
  clear h7
  have cA0 : w2.cell? ⟨w.heap.size, 0, none⟩ = some (.bool true) := KA.out.cell 0
  have cA1 : w2.cell? ⟨w.heap.size, 1, none⟩ = some (.slice A0 l0 c0) := KA.out.cell 1
  have cA2 : w2.cell? ⟨w.heap.size, 2, none⟩ = some (.slice B0 m0 k0) := KA.out.cell 2
  go_wp2_with fail
  clear cA0 cA1 cA2
  refine (limbs_b true B0 m0 k0 ys _ HJ.out hk1 hk2 ⟨fun _ => H1.out, fun _ => rfl⟩).mono ?_
  rintro e w3 ⟨v8, rfl, h8, hX⟩
  replace hX : Ext w2 w3 := by with_reducible exact hX
  replace HX := Lib.hid (HX.out.trans hX)
  replace HI := Lib.hid (HI.out.ext hX)
  replace HJ := Lib.hid (HJ.out.ext hX)
  replace HV7 := Lib.hid (HV7.out.ext hX)
  replace KA := Lib.hid (KA.out.ext hX)
  replace KR := Lib.hid (KR.out.ext hX)
  clear hX
  have HV8 := Lib.hid (h8 rfl)
  clear h8
  rw [HN.out] at HV7 HF0 HE
  rw [HDD.out] at HV8 HF1 HE
  obtain ⟨A7, l7, c7, rfl, hv7, hz7⟩ := Z16.open HV7.out
  obtain ⟨A8, l8, c8, rfl, hv8, hz8⟩ := Z16.open HV8.out
  clear hv7 hv8
  have hl7 : (0 : Int) < (l7 : Int) := by
    rcases Nat.eq_zero_or_pos l7 with h | h
    · exact absurd (hz7.1 h) hn
    · omega
  have hl7' : 0 < l7 := by omega
  have hl8 : ¬ l8 = 0 := fun h => hD (hz8.1 h)
  have hl8' : ((l8 : Int) == 0) = false := by simp; omega
  have HDP : Hid (0 < d) := by show 0 < _; omega
  clear hz7 hz8 hD hn
  have cA0 : w3.cell? ⟨w.heap.size, 0, none⟩ = some (.bool true) := KA.out.cell 0
  have cA1 : w3.cell? ⟨w.heap.size, 1, none⟩ = some (.slice A0 l0 c0) := KA.out.cell 1
  have cA2 : w3.cell? ⟨w.heap.size, 2, none⟩ = some (.slice B0 m0 k0) := KA.out.cell 2
  go_wp2_with fail
  clear cA0 cA1 cA2
  refine (frac_any true false A7 _ l7 c7 _ _ n d L _ HV7.out HV8.out HF0.out HF1.out (by omega) HDP.out).mono ?_
  rw [HE.out]
  rintro e w4 ⟨v9, rfl, hv, hX⟩
  replace hX : Ext w3 w4 := by with_reducible exact hX
  replace HX := Lib.hid (HX.out.trans hX)
  replace HI := Lib.hid (HI.out.ext hX)
  replace HJ := Lib.hid (HJ.out.ext hX)
  replace HV7 := Lib.hid (HV7.out.ext hX)
  replace HV8 := Lib.hid (HV8.out.ext hX)
  replace KA := Lib.hid (KA.out.ext hX)
  replace KR := Lib.hid (KR.out.ext hX)
  clear hX
  obtain ⟨s9, A9, l9, c9, B9, m9, k9, rfl⟩ := QZ.open hv
  have HV := Lib.hid (QZ.past hv (NoInts.three KR.out))
  clear hv
  have cR0 : w4.cell? ⟨(w.heap.size + 1), 0, none⟩ = some (.bool false) := KR.out.cell 0
  have fR0 : w4.frozen? ⟨(w.heap.size + 1), 0, none⟩ = false := KR.out.free 0
  have cR1 : w4.cell? ⟨(w.heap.size + 1), 1, none⟩ = some (.slice none 0 0) := KR.out.cell 1
  have fR1 : w4.frozen? ⟨(w.heap.size + 1), 1, none⟩ = false := KR.out.free 1
  have cR2 : w4.cell? ⟨(w.heap.size + 1), 2, none⟩ = some (.slice none 0 0) := KR.out.cell 2
  have fR2 : w4.frozen? ⟨(w.heap.size + 1), 2, none⟩ = false := KR.out.free 2
  go_wp2
  refine bodyPost_ret (v := .tuple #[.agg #[.bool s9, .slice A9 l9 c9, .slice B9 m9 k9], .bool true]) (by simp [results, Try.results87, go_sem, *]) rfl ?_
  exact ⟨_, rfl, HV.out, Ext.boxed HX.out (by omega) _ _ _⟩

set_option maxRecDepth 100000 in
set_option maxHeartbeats 2000000 in
theorem rof_zone (A0 B0 : Option Addr) (l0 c0 m0 k0 : Nat) (xs ys : List Int) (w : World) (hI : Ints .u32 w A0 l0 xs) (hc : l0 ≤ c0 ∧ c0 ≤ 9223372036854775807) (hJ : Ints .u32 w B0 m0 ys) (hk : m0 ≤ k0 ∧ k0 ≤ 9223372036854775807) (ha : FitW (wN xs)) (hb : FitW (wN ys)) (hn : wN xs = 0) (hD : wN ys = 0) :
    Calls Try.prog 87 #[.agg #[.bool true, .slice A0 l0 c0, .slice B0 m0 k0]] w (RetOf w (ratOf true xs ys)) := by
  have HI := Lib.hid hI
  have HJ := Lib.hid hJ
  clear hI hJ
  obtain ⟨hc1, hc2⟩ := hc
  obtain ⟨hk1, hk2⟩ := hk
  have H0 := Lib.hid ha
  have H1 := Lib.hid hb
  obtain ⟨L, hL⟩ : ∃ L : Nat, L = 512 := ⟨_, rfl⟩
  have HF0 : Hid (Fit 65536 (wN xs) L) := by rw [hL]; exact fit512 ha.1
  have HF1 : Hid (Fit 65536 (wN ys) L) := by rw [hL]; exact fit512 hb.1
  replace hL : 1 ≤ L ∧ L ≤ 512 := by omega
  obtain ⟨hL0, hL1⟩ := hL
  clear ha hb
  have HE : Hid (ratV false (wN xs) (wD ys) = ratOf true xs ys) := ratV_z _ _ (wD_pos ys) hn
  rw [wD_zero hD] at HE
  obtain ⟨n, hN⟩ : ∃ n, wN xs = n := ⟨_, rfl⟩
  obtain ⟨d, hDD⟩ : ∃ d, wN ys = d := ⟨_, rfl⟩
  have HN := Lib.hid hN
  have HDD := Lib.hid hDD
  rw [hDD] at hD
  rw [hN] at hn
  clear hN hDD
  have hXe : Ext w ((w.alloc (.cells #[.bool true, .slice A0 l0 c0, .slice B0 m0 k0] 33)).alloc (.cells #[.bool false, .slice none 0 0, .slice none 0 0] 42)) := (((Ext.refl w).alloc _).alloc _)
  have kA : Blk ((w.alloc (.cells #[.bool true, .slice A0 l0 c0, .slice B0 m0 k0] 33)).alloc (.cells #[.bool false, .slice none 0 0, .slice none 0 0] 42)) w.heap.size 33 #[.bool true, .slice A0 l0 c0, .slice B0 m0 k0] := Blk.alloc (Blk.at_ (by simp)) _
  have kR : Blk ((w.alloc (.cells #[.bool true, .slice A0 l0 c0, .slice B0 m0 k0] 33)).alloc (.cells #[.bool false, .slice none 0 0, .slice none 0 0] 42)) (w.heap.size + 1) 42 #[.bool false, .slice none 0 0, .slice none 0 0] := Blk.at_ (by simp)
  go_enter Try.func87, Try.ntmps87
  go_wp2_with fail
  generalize ((w.alloc (.cells #[.bool true, .slice A0 l0 c0, .slice B0 m0 k0] 33)).alloc (.cells #[.bool false, .slice none 0 0, .slice none 0 0] 42)) = w1 at hXe kA kR ⊢
  have HX := Lib.hid hXe
  clear hXe
  have KA := Lib.hid kA
  clear kA
  have KR := Lib.hid kR
  clear kR
  replace HI := Lib.hid (HI.out.ext HX.out)
  replace HJ := Lib.hid (HJ.out.ext HX.out)
  have cA0 : w1.cell? ⟨w.heap.size, 0, none⟩ = some (.bool true) := KA.out.cell 0
  have cA1 : w1.cell? ⟨w.heap.size, 1, none⟩ = some (.slice A0 l0 c0) := KA.out.cell 1
  have cA2 : w1.cell? ⟨w.heap.size, 2, none⟩ = some (.slice B0 m0 k0) := KA.out.cell 2
  go_wp2_with fail
  clear cA0 cA1 cA2
  refine (limbs_b true A0 l0 c0 xs _ HI.out hc1 hc2 ⟨fun _ => H0.out, fun _ => rfl⟩).mono ?_
  rintro e w2 ⟨v7, rfl, h7, hX⟩
  replace hX : Ext w1 w2 := by with_reducible exact hX
  replace HX := Lib.hid (HX.out.trans hX)
  replace HI := Lib.hid (HI.out.ext hX)
  replace HJ := Lib.hid (HJ.out.ext hX)
  replace KA := Lib.hid (KA.out.ext hX)
  replace KR := Lib.hid (KR.out.ext hX)
  clear hX
  have HV7 : Hid (Z16 w2 v7 (wN xs)) := h7 rfl
  clear h7
  have cA0 : w2.cell? ⟨w.heap.size, 0, none⟩ = some (.bool true) := KA.out.cell 0
  have cA1 : w2.cell? ⟨w.heap.size, 1, none⟩ = some (.slice A0 l0 c0) := KA.out.cell 1
  have cA2 : w2.cell? ⟨w.heap.size, 2, none⟩ = some (.slice B0 m0 k0) := KA.out.cell 2
  go_wp2_with fail
  clear cA0 cA1 cA2
  refine (limbs_b true B0 m0 k0 ys _ HJ.out hk1 hk2 ⟨fun _ => H1.out, fun _ => rfl⟩).mono ?_
  rintro e w3 ⟨v8, rfl, h8, hX⟩
  replace hX : Ext w2 w3 := by with_reducible exact hX
  replace HX := Lib.hid (HX.out.trans hX)
  replace HI := Lib.hid (HI.out.ext hX)
  replace HJ := Lib.hid (HJ.out.ext hX)
  replace HV7 := Lib.hid (HV7.out.ext hX)
  replace KA := Lib.hid (KA.out.ext hX)
  replace KR := Lib.hid (KR.out.ext hX)
  clear hX
  have HV8 := Lib.hid (h8 rfl)
  clear h8
  rw [HN.out] at HV7 HF0 HE
  rw [HDD.out] at HV8 HF1
  obtain ⟨A7, l7, c7, rfl, hv7, hz7⟩ := Z16.open HV7.out
  obtain ⟨A8, l8, c8, rfl, hv8, hz8⟩ := Z16.open HV8.out
  clear hv7 hv8
  obtain rfl : l7 = 0 := hz7.2 hn
  obtain rfl : l8 = 0 := hz8.2 hD
  clear hz7 hz8 hD hn
  have cA0 : w3.cell? ⟨w.heap.size, 0, none⟩ = some (.bool true) := KA.out.cell 0
  have cA1 : w3.cell? ⟨w.heap.size, 1, none⟩ = some (.slice A0 l0 c0) := KA.out.cell 1
  have cA2 : w3.cell? ⟨w.heap.size, 2, none⟩ = some (.slice B0 m0 k0) := KA.out.cell 2
  go_upto_region 7 with (fail)
  clear cA0 cA1 cA2
  have hXa : Ext w3 (w3.alloc (.cells #[.int .i64 1] 3)) := (Ext.refl _).alloc _
  have kO := Blk.new w3 3 #[.int .i64 1]
  have zA := KA.out.lt
  have zR := KR.out.lt
  have zg := HX.out.size
  replace HX := Lib.hid (HX.out.trans hXa)
  replace HI := Lib.hid (HI.out.ext hXa)
  replace HJ := Lib.hid (HJ.out.ext hXa)
  replace HV7 := Lib.hid (HV7.out.ext hXa)
  replace HV8 := Lib.hid (HV8.out.ext hXa)
  replace KA := Lib.hid (KA.out.ext hXa)
  replace KR := Lib.hid (KR.out.ext hXa)
  generalize (w3.alloc (.cells #[.int .i64 1] 3)) = w4 at HX HI HJ HV7 HV8 KA KR kO ⊢
  have KO := Lib.hid kO
  clear kO hXa
  have cA0 : w4.cell? ⟨w.heap.size, 0, none⟩ = some (.bool true) := KA.out.cell 0
  have cA1 : w4.cell? ⟨w.heap.size, 1, none⟩ = some (.slice A0 l0 c0) := KA.out.cell 1
  have cA2 : w4.cell? ⟨w.heap.size, 2, none⟩ = some (.slice B0 m0 k0) := KA.out.cell 2
  go_wp2_with fail
  clear cA0 cA1 cA2
  refine (frac_any false false A7 _ 0 c7 _ _ n 1 L _ HV7.out KO.out.one16 HF0.out (Fit.one (by omega) (by omega)) (by omega) (by omega)).mono ?_
  rw [HE.out]
  rintro e w5 ⟨v9, rfl, hv, hX⟩
  replace hX : Ext w4 w5 := by with_reducible exact hX
  replace HX := Lib.hid (HX.out.trans hX)
  replace HI := Lib.hid (HI.out.ext hX)
  replace HJ := Lib.hid (HJ.out.ext hX)
  replace HV7 := Lib.hid (HV7.out.ext hX)
  replace HV8 := Lib.hid (HV8.out.ext hX)
  replace KA := Lib.hid (KA.out.ext hX)
  replace KR := Lib.hid (KR.out.ext hX)
  replace KO := Lib.hid (KO.out.ext hX)
  clear hX
  obtain ⟨s9, A9, l9, c9, B9, m9, k9, rfl⟩ := QZ.open hv
  have HV := Lib.hid (QZ.past hv (NoInts.three KR.out))
  clear hv
  have cR0 : w5.cell? ⟨(w.heap.size + 1), 0, none⟩ = some (.bool false) := KR.out.cell 0
  have fR0 : w5.frozen? ⟨(w.heap.size + 1), 0, none⟩ = false := KR.out.free 0
  have cR1 : w5.cell? ⟨(w.heap.size + 1), 1, none⟩ = some (.slice none 0 0) := KR.out.cell 1
  have fR1 : w5.frozen? ⟨(w.heap.size + 1), 1, none⟩ = false := KR.out.free 1
  have cR2 : w5.cell? ⟨(w.heap.size + 1), 2, none⟩ = some (.slice none 0 0) := KR.out.cell 2
  have fR2 : w5.frozen? ⟨(w.heap.size + 1), 2, none⟩ = false := KR.out.free 2
  go_wp2
  refine bodyPost_ret (v := .tuple #[.agg #[.bool s9, .slice A9 l9 c9, .slice B9 m9 k9], .bool true]) (by simp [results, Try.results87, go_sem, *]) rfl ?_
  exact ⟨_, rfl, HV.out, Ext.boxed HX.out (by omega) _ _ _⟩

set_option maxRecDepth 100000 in
set_option maxHeartbeats 2000000 in
theorem rof_zden (A0 B0 : Option Addr) (l0 c0 m0 k0 : Nat) (xs ys : List Int) (w : World) (hI : Ints .u32 w A0 l0 xs) (hc : l0 ≤ c0 ∧ c0 ≤ 9223372036854775807) (hJ : Ints .u32 w B0 m0 ys) (hk : m0 ≤ k0 ∧ k0 ≤ 9223372036854775807) (ha : FitW (wN xs)) (hb : FitW (wN ys)) (hn : wN xs = 0) (hD : wN ys ≠ 0) :
    Calls Try.prog 87 #[.agg #[.bool true, .slice A0 l0 c0, .slice B0 m0 k0]] w (RetOf w (ratOf true xs ys)) := by
  have HI := Lib.hid hI
  have HJ := Lib.hid hJ
  clear hI hJ
  obtain ⟨hc1, hc2⟩ := hc
  obtain ⟨hk1, hk2⟩ := hk
  have H0 := Lib.hid ha
  have H1 := Lib.hid hb
  obtain ⟨L, hL⟩ : ∃ L : Nat, L = 512 := ⟨_, rfl⟩
  have HF0 : Hid (Fit 65536 (wN xs) L) := by rw [hL]; exact fit512 ha.1
  have HF1 : Hid (Fit 65536 (wN ys) L) := by rw [hL]; exact fit512 hb.1
  replace hL : 1 ≤ L ∧ L ≤ 512 := by omega
  obtain ⟨hL0, hL1⟩ := hL
  clear ha hb
  have HE : Hid (ratV false (wN xs) (wD ys) = ratOf true xs ys) := ratV_z _ _ (wD_pos ys) hn
  rw [wD_nz hD] at HE
  obtain ⟨n, hN⟩ : ∃ n, wN xs = n := ⟨_, rfl⟩
  obtain ⟨d, hDD⟩ : ∃ d, wN ys = d := ⟨_, rfl⟩
  have HN := Lib.hid hN
  have HDD := Lib.hid hDD
  rw [hDD] at hD
  rw [hN] at hn
  clear hN hDD
  have hXe : Ext w ((w.alloc (.cells #[.bool true, .slice A0 l0 c0, .slice B0 m0 k0] 33)).alloc (.cells #[.bool false, .slice none 0 0, .slice none 0 0] 42)) := (((Ext.refl w).alloc _).alloc _)
  have kA : Blk ((w.alloc (.cells #[.bool true, .slice A0 l0 c0, .slice B0 m0 k0] 33)).alloc (.cells #[.bool false, .slice none 0 0, .slice none 0 0] 42)) w.heap.size 33 #[.bool true, .slice A0 l0 c0, .slice B0 m0 k0] := Blk.alloc (Blk.at_ (by simp)) _
  have kR : Blk ((w.alloc (.cells #[.bool true, .slice A0 l0 c0, .slice B0 m0 k0] 33)).alloc (.cells #[.bool false, .slice none 0 0, .slice none 0 0] 42)) (w.heap.size + 1) 42 #[.bool false, .slice none 0 0, .slice none 0 0] := Blk.at_ (by simp)
  go_enter Try.func87, Try.ntmps87
  go_wp2_with fail
  generalize ((w.alloc (.cells #[.bool true, .slice A0 l0 c0, .slice B0 m0 k0] 33)).alloc (.cells #[.bool false, .slice none 0 0, .slice none 0 0] 42)) = w1 at hXe kA kR ⊢
  have HX := Lib.hid hXe
  clear hXe
  have KA := Lib.hid kA
  clear kA
  have KR := Lib.hid kR
  clear kR
  replace HI := Lib.hid (HI.out.ext HX.out)
  replace HJ := Lib.hid (HJ.out.ext HX.out)
  have cA0 : w1.cell? ⟨w.heap.size, 0, none⟩ = some (.bool true) := KA.out.cell 0
  have cA1 : w1.cell? ⟨w.heap.size, 1, none⟩ = some (.slice A0 l0 c0) := KA.out.cell 1
  have cA2 : w1.cell? ⟨w.heap.size, 2, none⟩ = some (.slice B0 m0 k0) := KA.out.cell 2
  go_wp2_with fail
  clear cA0 cA1 cA2
  refine (limbs_b true A0 l0 c0 xs _ HI.out hc1 hc2 ⟨fun _ => H0.out, fun _ => rfl⟩).mono ?_
  rintro e w2 ⟨v7, rfl, h7, hX⟩
  replace hX : Ext w1 w2 := by with_reducible exact hX
  replace HX := Lib.hid (HX.out.trans hX)
  replace HI := Lib.hid (HI.out.ext hX)
  replace HJ := Lib.hid (HJ.out.ext hX)
  replace KA := Lib.hid (KA.out.ext hX)
  replace KR := Lib.hid (KR.out.ext hX)
  clear hX
  have HV7 : Hid (Z16 w2 v7 (wN xs)) := h7 rfl
  clear h7
  have cA0 : w2.cell? ⟨w.heap.size, 0, none⟩ = some (.bool true) := KA.out.cell 0
  have cA1 : w2.cell? ⟨w.heap.size, 1, none⟩ = some (.slice A0 l0 c0) := KA.out.cell 1
  have cA2 : w2.cell? ⟨w.heap.size, 2, none⟩ = some (.slice B0 m0 k0) := KA.out.cell 2
  go_wp2_with fail
  clear cA0 cA1 cA2
  refine (limbs_b true B0 m0 k0 ys _ HJ.out hk1 hk2 ⟨fun _ => H1.out, fun _ => rfl⟩).mono ?_
  rintro e w3 ⟨v8, rfl, h8, hX⟩
  replace hX : Ext w2 w3 := by with_reducible exact hX
  replace HX := Lib.hid (HX.out.trans hX)
  replace HI := Lib.hid (HI.out.ext hX)
  replace HJ := Lib.hid (HJ.out.ext hX)
  replace HV7 := Lib.hid (HV7.out.ext hX)
  replace KA := Lib.hid (KA.out.ext hX)
  replace KR := Lib.hid (KR.out.ext hX)
  clear hX
  have HV8 := Lib.hid (h8 rfl)
  clear h8
  rw [HN.out] at HV7 HF0 HE
  rw [HDD.out] at HV8 HF1 HE
  obtain ⟨A7, l7, c7, rfl, hv7, hz7⟩ := Z16.open HV7.out
  obtain ⟨A8, l8, c8, rfl, hv8, hz8⟩ := Z16.open HV8.out
  clear hv7 hv8
  obtain rfl : l7 = 0 := hz7.2 hn
  have hl8 : ¬ l8 = 0 := fun h => hD (hz8.1 h)
  have hl8' : ((l8 : Int) == 0) = false := by simp; omega
  have HDP : Hid (0 < d) := by show 0 < _; omega
  clear hz7 hz8 hD hn
  have cA0 : w3.cell? ⟨w.heap.size, 0, none⟩ = some (.bool true) := KA.out.cell 0
  have cA1 : w3.cell? ⟨w.heap.size, 1, none⟩ = some (.slice A0 l0 c0) := KA.out.cell 1
  have cA2 : w3.cell? ⟨w.heap.size, 2, none⟩ = some (.slice B0 m0 k0) := KA.out.cell 2
  go_wp2_with fail
  clear cA0 cA1 cA2
  refine (frac_any false false A7 _ 0 c7 _ _ n d L _ HV7.out HV8.out HF0.out HF1.out (by omega) HDP.out).mono ?_
  rw [HE.out]
  rintro e w4 ⟨v9, rfl, hv, hX⟩
  replace hX : Ext w3 w4 := by with_reducible exact hX
  replace HX := Lib.hid (HX.out.trans hX)
  replace HI := Lib.hid (HI.out.ext hX)
  replace HJ := Lib.hid (HJ.out.ext hX)
  replace HV7 := Lib.hid (HV7.out.ext hX)
  replace HV8 := Lib.hid (HV8.out.ext hX)
  replace KA := Lib.hid (KA.out.ext hX)
  replace KR := Lib.hid (KR.out.ext hX)
  clear hX
  obtain ⟨s9, A9, l9, c9, B9, m9, k9, rfl⟩ := QZ.open hv
  have HV := Lib.hid (QZ.past hv (NoInts.three KR.out))
  clear hv
  have cR0 : w4.cell? ⟨(w.heap.size + 1), 0, none⟩ = some (.bool false) := KR.out.cell 0
  have fR0 : w4.frozen? ⟨(w.heap.size + 1), 0, none⟩ = false := KR.out.free 0
  have cR1 : w4.cell? ⟨(w.heap.size + 1), 1, none⟩ = some (.slice none 0 0) := KR.out.cell 1
  have fR1 : w4.frozen? ⟨(w.heap.size + 1), 1, none⟩ = false := KR.out.free 1
  have cR2 : w4.cell? ⟨(w.heap.size + 1), 2, none⟩ = some (.slice none 0 0) := KR.out.cell 2
  have fR2 : w4.frozen? ⟨(w.heap.size + 1), 2, none⟩ = false := KR.out.free 2
  go_wp2
  refine bodyPost_ret (v := .tuple #[.agg #[.bool s9, .slice A9 l9 c9, .slice B9 m9 k9], .bool true]) (by simp [results, Try.results87, go_sem, *]) rfl ?_
  exact ⟨_, rfl, HV.out, Ext.boxed HX.out (by omega) _ _ _⟩


theorem rof_yes {w : World} {v : Value} {q : Rat} (h : RatG w v q) : Calls Try.prog 87 #[v] w (RetOf w q) := by
  obtain ⟨neg, xs, ys, ⟨A, l, c, B, m, k, rfl, h1, h2, h3, h4, h5, h6⟩, ⟨ha, hb⟩, rfl⟩ := h
  cases neg
  · by_cases hD : wN ys = 0
    · exact rof_fone A B l c m k xs ys w h1 ⟨h2, h3⟩ h4 ⟨h5, h6⟩ ha hb hD
    · exact rof_fden A B l c m k xs ys w h1 ⟨h2, h3⟩ h4 ⟨h5, h6⟩ ha hb hD
  · by_cases hn : wN xs = 0
    · by_cases hD : wN ys = 0
      · exact rof_zone A B l c m k xs ys w h1 ⟨h2, h3⟩ h4 ⟨h5, h6⟩ ha hb hn hD
      · exact rof_zden A B l c m k xs ys w h1 ⟨h2, h3⟩ h4 ⟨h5, h6⟩ ha hb hn hD
    · by_cases hD : wN ys = 0
      · exact rof_tone A B l c m k xs ys w h1 ⟨h2, h3⟩ h4 ⟨h5, h6⟩ ha hb hn hD
      · exact rof_tden A B l c m k xs ys w h1 ⟨h2, h3⟩ h4 ⟨h5, h6⟩ ha hb hn hD
theorem rof_no {w : World} {v : Value} (h : RatL w v true) : Calls Try.prog 87 #[v] w fun e w' => e = .returned (.tuple #[.agg #[.bool false, .slice none 0 0, .slice none 0 0], .bool false]) ∧ Ext w w' := by
  obtain ⟨neg, xs, ys, ⟨A, l, c, B, m, k, rfl, h1, h2, h3, h4, h5, h6⟩, hs⟩ := h
  by_cases ha : FitW (wN xs)
  · exact rof_n1 _ A B l c m k xs ys w h1 ⟨h2, h3⟩ h4 ⟨h5, h6⟩ ha (fun hb => (hs.1 rfl) ⟨ha, hb⟩)
  · exact rof_n0 _ A B l c m k xs ys w h1 ⟨h2, h3⟩ h4 ⟨h5, h6⟩ ha

end Go.Proofs.Yteoijnaljkagfaa
namespace Go.Proofs.Yteoijnaljkagfaa
open Go.RowKit

theorem fit512' {n : Nat} (h : Fit 65536 n 512) : Fit 4294967296 n 256 := by
  have h2 := h
  rw [show 512 = 2 * 256 from rfl] at h2
  exact fit_double.1 h2
theorem nm_of_low {B : Int} {xs : List Int} (hB : 1 < B) (hd : Dg B xs) (hne : xs ≠ []) (h : B ^ (xs.length - 1) ≤ val B xs) : Nm xs := by
  rcases List.eq_nil_or_concat xs with e | ⟨ys, x, e⟩
  · exact absurd e hne
  · subst e
    rw [List.concat_eq_append] at *
    by_cases hx : x = 0
    · exfalso
      subst hx
      rw [val_snoc, Int.mul_zero, Int.add_zero] at h
      have h2 := val_lt (B := B) (by omega) (show Dg B ys from fun y hy => hd y (by simp [hy]))
      simp at h
      omega
    · exact Nm.snoc hx
theorem words_step {out xs : List Int} {k : Nat} {x y : Int} (hx : xs[2 * k]? = some x) (hy : xs.getD (2 * k + 1) 0 = y) (hl : out.length = k) (hv : val 4294967296 out = val 65536 (xs.take (2 * k))) :
    val 4294967296 (out ++ [x + y * 65536]) = val 65536 (xs.take (2 * (k + 1))) := by
  rw [val_snoc, hl, hv, show 2 * (k + 1) = 2 * k + 1 + 1 by omega, val_take_next, val_take_next, hy, getD_some hx, Int.pow_succ, pow_double]
  grind
theorem words_end {out xs : List Int} {k n : Nat} (hr : Rep 65536 xs n) (hl : out.length = k) (hk : xs.length ≤ 2 * k) (hk2 : 2 * k ≤ xs.length + 1) (hd : Dg 4294967296 out) (hv : val 4294967296 out = val 65536 (xs.take (2 * k))) : Rep 4294967296 out n := by
  rw [List.take_of_length_le hk, hr.2.2] at hv
  refine ⟨hd, ?_, hv⟩
  by_cases h0 : xs = []
  · subst h0
    have : out = [] := List.eq_nil_of_length_eq_zero (by simp at hk2; omega)
    subst this; exact Nm.nil
  · have hxl : 0 < xs.length := List.length_pos_iff.2 h0
    refine nm_of_low (by omega) hd (by intro e; rw [e] at hl; simp at hl; omega) ?_
    have h1 := nm_low (B := 65536) (by omega) hr.1 hr.2.1 h0
    rw [hr.2.2] at h1
    rw [hv, hl]
    have h2 : (4294967296 : Int) ^ (k - 1) ≤ 65536 ^ (xs.length - 1) := by
      rw [← pow_double]
      exact pow_le (B := 65536) (by omega) (by omega)
    omega
theorem len_512 {xs : List Int} {n : Nat} (hr : Rep 65536 xs n) : xs.length ≤ 512 ↔ FitW n := by
  constructor
  · intro h
    have h1 := (Fit.of_rep (B := 65536) (by omega) hr).mono (by omega) h
    exact ⟨fit512' h1⟩
  · intro h
    have h1 := fit512 h.1
    exact h1.len (by omega) hr

set_option maxRecDepth 100000 in
set_option maxHeartbeats 1000000 in
theorem words_no (va : Value) (n : Nat) (w : World) (ha : Z16 w va n) (hf : ¬ FitW n) :
    Calls Try.prog 131 #[va] w (fun e w' => e = .returned (.tuple #[.slice none 0 0, .bool false]) ∧ Ext w w') := by
  obtain ⟨A, l, c, xs, rfl, hI, hr, hc1, hc2⟩ := ha
  have h := len_512 hr
  rw [hI.1] at h
  have hl : ¬ l ≤ 512 := fun hl => hf (h.1 hl)
  have hl2 : (512 : Int) < (l : Int) := by omega
  clear h hI hr hf
  go_enter Try.func131, Try.ntmps131
  go_wp2
  go_ret2
  exact ⟨rfl, Ext.refl _⟩

set_option maxRecDepth 100000 in
set_option maxHeartbeats 2000000 in
theorem words_yes (va : Value) (n : Nat) (w : World) (ha : Z16 w va n) (hf : FitW n) :
    Calls Try.prog 131 #[va] w (fun e w' => ∃ v, e = .returned (.tuple #[v, .bool true]) ∧ W32 w' v n ∧ Ext w w') := by
  obtain ⟨A, l, c, xs, rfl, hI, hr, hc1, hc2⟩ := ha
  have h := len_512 hr
  rw [hI.1] at h
  have hl : l ≤ 512 := h.2 hf
  have hl2 : ¬ (512 : Int) < (l : Int) := by omega
  have H := Lib.hid hI
  have HL : Hid (xs.length = l) := hI.1
  have HR := Lib.hid hr
  clear h hI hr hf
  go_enter Try.func131, Try.ntmps131
  go_wp2
  go_loopg [4, 5] (l + 2) (fun g s4 s5 wr => ∃ (k t : Nat) (out : List Int), g = l + 2 - t ∧ Hid (t = 2 * k) ∧ t ≤ l + 1 ∧ s5 = .int .i64 (t : Int) ∧ Hid (wr.ownsRow w.heap.size 79 1 s4 k (out.map (.int .u32))) ∧ Hid (Dg 4294967296 out) ∧ Hid (out.length = k) ∧ Hid (val 4294967296 out = val 65536 (xs.take (2 * k))) ∧ Hid (Ext w wr))
  case atStart => exact ⟨0, 0, [], rfl, rfl, by omega, rfl, World.ownsRow_nil _ _ _ _, Dg.nil, rfl, rfl, Ext.refl w⟩
  case round =>
    obtain ⟨k, t, out, rfl, HT, hk, rfl, HO, HD, HLO, HI, HX⟩ := hrel
    obtain ⟨A2, c2, rfl⟩ := own_slice HO.out
    by_cases hlt : t < l
    · have hkl : (t : Int) < (l : Int) := by omega
      have hk0 : (0 : Int) ≤ (t : Int) := by omega
      obtain ⟨bw, ow, x, rfl, hx, hwf, hc⟩ := (H.out.ext HX.out).get (j := t) (by omega)
      obtain ⟨hx0, hx1⟩ := HR.out.1.get hx
      have hw1 : IntKind.u32.wrap x = x := by rw [IntKind.wrap_u32]; omega
      have hown := HO.out
      have hkb : k ≤ 512 := by have := HT.out; omega
      rw [HT.out] at hx
      have HXX := Lib.hid hx
      clear hx hwf
      by_cases hod : t + 1 < l
      · have hkl1 : (t : Int) + 1 < (l : Int) := by omega
        obtain ⟨bw', ow', y, hA, hy, hwf', hd⟩ := (H.out.ext HX.out).get (j := t + 1) (by omega)
        injection hA with hA
        injection hA with e1 e2
        subst e1 e2
        obtain ⟨hy0, hy1⟩ := HR.out.1.get hy
        have hw2 : IntKind.u32.wrap y = y := by rw [IntKind.wrap_u32]; omega
        have hw3 : IntKind.u32.wrap (y * 65536) = y * 65536 := by rw [IntKind.wrap_u32]; omega
        have hw4 : IntKind.u32.wrap (x + y * 65536) = x + y * 65536 := by rw [IntKind.wrap_u32]; omega
        have hk1 : (0 : Int) ≤ (t : Int) + 1 := by omega
        rw [HT.out] at hy
        have HST := Lib.hid (words_step HXX.out (getD_some hy) HLO.out HI.out)
        have HDD := Lib.hid (HD.out.append (Dg.one (B := 4294967296) (x := x + y * 65536) (by omega)))
        clear hy hwf'
        go_wp2_with (at_builtin; refine wpList_app _ elU rfl _ _ rfl w.heap.size _ k _ rfl (hown.alloc _) _ 1 1 [.int .u32 (x + y * 65536)] rfl rfl (At.new _ [_] _) (by simp [Value.oneCell']) (by omega) (by unfold maxLen; omega) (by have := HX.out.size; simp; omega) ?_; intro v1 w1 hown1 hgr1 _; have HO1 := Lib.hid hown1; have HX1 := Lib.hid (Ext.push HX.out HO.out hgr1); clear hown1 hgr1)
        go_roundg (l + 2 - (t + 2))
        case rel => exact ⟨k + 1, t + 2, out ++ [x + y * 65536], rfl, (by have := HT.out; show _ = _; omega), by omega, by go_num, by rw [List.map_append]; exact HO1.out, HDD.out, by rw [List.length_append, HLO.out]; rfl, HST.out, HX1.out⟩
        case measure => omega
      · have hkl1 : ¬ (t : Int) + 1 < (l : Int) := by omega
        have hy : xs.getD (2 * k + 1) 0 = 0 := getD_none (by rw [HL.out]; have := HT.out; omega)
        have HST := Lib.hid (words_step HXX.out hy HLO.out HI.out)
        rw [Int.zero_mul, Int.add_zero] at HST
        have HDD := Lib.hid (HD.out.append (Dg.one (B := 4294967296) (x := x) (by omega)))
        clear hy
        go_wp2_with (at_builtin; refine wpList_app _ elU rfl _ _ rfl w.heap.size _ k _ rfl (hown.alloc _) _ 1 1 [.int .u32 x] rfl rfl (At.new _ [_] _) (by simp [Value.oneCell']) (by omega) (by unfold maxLen; omega) (by have := HX.out.size; simp; omega) ?_; intro v1 w1 hown1 hgr1 _; have HO1 := Lib.hid hown1; have HX1 := Lib.hid (Ext.push HX.out HO.out hgr1); clear hown1 hgr1)
        go_roundg (l + 2 - (t + 2))
        case rel => exact ⟨k + 1, t + 2, out ++ [x], rfl, (by have := HT.out; show _ = _; omega), by omega, by go_num, by rw [List.map_append]; exact HO1.out, HDD.out, by rw [List.length_append, HLO.out]; rfl, HST.out, HX1.out⟩
        case measure => omega
    · have hkl : ¬ (t : Int) < (l : Int) := by omega
      have HOS : Hid (OwnS .u32 79 w.heap.size wr A2 k c2 out) := ⟨HO.out, HLO.out, fun x hx => wf32 (HD.out x hx)⟩
      have HE : Hid (Rep 4294967296 out n) := words_end HR.out HLO.out (by rw [HL.out]; have := HT.out; omega) (by rw [HL.out]; have := HT.out; omega) HD.out HI.out
      go_wp2
      go_ret2
      exact ⟨_, rfl, HOS.out.natv HE.out, HX.out⟩
theorem words_b (b : Bool) (va : Value) (n : Nat) (w : World) (ha : Z16 w va n) (hf : b = true ↔ FitW n) :
    Calls Try.prog 131 #[va] w (fun e w' => ∃ v, e = .returned (.tuple #[v, .bool b]) ∧ (b = true → W32 w' v n) ∧ Ext w w') := by
  cases b
  · refine (words_no va n w ha (fun h => by have := hf.2 h; cases this)).mono ?_
    rintro e w' ⟨rfl, hX⟩
    exact ⟨_, rfl, (fun h => by cases h), hX⟩
  · refine (words_yes va n w ha (hf.1 rfl)).mono ?_
    rintro e w' ⟨v, rfl, hz, hX⟩
    exact ⟨v, rfl, fun _ => hz, hX⟩

theorem den16_one {w : World} {A : Option Addr} {l c d : Nat} (h : Z16 w (.slice A l c) d) (hd : d = 1) : l = 1 ∧ ∃ b o x, A = some ⟨b, o, none⟩ ∧ w.cell? ⟨b, o, none⟩ = some (.int .i64 x) ∧ (x == 1) = true := by
  obtain ⟨A', l', c', xs, e, hI, hr, hc⟩ := h
  injection e with e1 e2 e3
  subst e1 e2 e3
  obtain rfl : xs = [1] := by rw [hd] at hr; exact hr.unique (by omega) (Rep.one (by omega))
  obtain rfl : l = 1 := by simpa using hI.1.symm
  obtain ⟨b, o, y, rfl, hy, _, hcy⟩ := hI.get (j := 0) (by omega)
  obtain rfl : 1 = y := by simpa using hy
  exact ⟨rfl, b, o, 1, rfl, by simpa using hcy, by simp⟩
theorem den16_ne {w : World} {A : Option Addr} {l c d : Nat} (h : Z16 w (.slice A l c) d) (hl : l = 1) (hd : d ≠ 1) : ∃ b o x, A = some ⟨b, o, none⟩ ∧ w.cell? ⟨b, o, none⟩ = some (.int .i64 x) ∧ (x == 1) = false := by
  obtain ⟨A', l', c', xs, e, hI, hr, hc⟩ := h
  injection e with e1 e2 e3
  subst e1 e2 e3 hl
  obtain ⟨y, rfl⟩ : ∃ y, xs = [y] := List.length_eq_one_iff.1 hI.1
  obtain ⟨b, o, x, rfl, hx, _, hcx⟩ := hI.get (j := 0) (by omega)
  obtain rfl : y = x := by simpa using hx
  obtain ⟨h1, h2⟩ := hr.single (by omega)
  refine ⟨b, o, y, rfl, by simpa using hcx, ?_⟩
  simp only [beq_eq_false_iff_ne, ne_eq]
  omega
set_option maxRecDepth 100000 in
set_option maxHeartbeats 2000000 in
theorem rout_n0 (s0 : Bool) (A0 B0 : Option Addr) (l0 c0 m0 k0 : Nat) (n d : Nat) (w : World) (hI : Z16 w (.slice A0 l0 c0) n) (hJ : Z16 w (.slice B0 m0 k0) d) (hb : ¬ FitW n) :
    Calls Try.prog 108 #[.agg #[.bool s0, .slice A0 l0 c0, .slice B0 m0 k0]] w (RetE w (.agg #[.bool false, .slice none 0 0, .slice none 0 0]) 1) := by
  have H0 := Lib.hid hb
  clear hb
  obtain ⟨b1, hb1⟩ : ∃ b : Bool, b = true ↔ FitW d := by
    by_cases h : FitW d
    · exact ⟨true, by simp [h]⟩
    · exact ⟨false, by simp [h]⟩
  have H1 := Lib.hid hb1
  clear hb1
  have HI := Lib.hid hI
  have HJ := Lib.hid hJ
  clear hI hJ
  have hXe : Ext w ((w.alloc (.cells #[.bool s0, .slice A0 l0 c0, .slice B0 m0 k0] 42)).alloc (.cells #[.bool false, .slice none 0 0, .slice none 0 0] 33)) := (((Ext.refl w).alloc _).alloc _)
  have kA : Blk ((w.alloc (.cells #[.bool s0, .slice A0 l0 c0, .slice B0 m0 k0] 42)).alloc (.cells #[.bool false, .slice none 0 0, .slice none 0 0] 33)) w.heap.size 42 #[.bool s0, .slice A0 l0 c0, .slice B0 m0 k0] := Blk.alloc (Blk.at_ (by simp)) _
  have kR : Blk ((w.alloc (.cells #[.bool s0, .slice A0 l0 c0, .slice B0 m0 k0] 42)).alloc (.cells #[.bool false, .slice none 0 0, .slice none 0 0] 33)) (w.heap.size + 1) 33 #[.bool false, .slice none 0 0, .slice none 0 0] := Blk.at_ (by simp)
  go_enter Try.func108, Try.ntmps108
  go_wp2_with fail
  generalize ((w.alloc (.cells #[.bool s0, .slice A0 l0 c0, .slice B0 m0 k0] 42)).alloc (.cells #[.bool false, .slice none 0 0, .slice none 0 0] 33)) = w1 at hXe kA kR ⊢
  have HX := Lib.hid hXe
  clear hXe
  have KA := Lib.hid kA
  clear kA
  have KR := Lib.hid kR
  clear kR
  replace HI := Lib.hid (HI.out.ext HX.out)
  replace HJ := Lib.hid (HJ.out.ext HX.out)
  have cA0 : w1.cell? ⟨w.heap.size, 0, none⟩ = some (.bool s0) := KA.out.cell 0
  have cA1 : w1.cell? ⟨w.heap.size, 1, none⟩ = some (.slice A0 l0 c0) := KA.out.cell 1
  have cA2 : w1.cell? ⟨w.heap.size, 2, none⟩ = some (.slice B0 m0 k0) := KA.out.cell 2
  go_wp2_with fail
  clear cA0 cA1 cA2
  refine (words_b false _ n _ HI.out ⟨(fun h => by cases h), fun h => absurd h H0.out⟩).mono ?_
  rintro e w2 ⟨v7, rfl, h7, hX⟩
  replace hX : Ext w1 w2 := by with_reducible exact hX
  replace HX := Lib.hid (HX.out.trans hX)
  replace HI := Lib.hid (HI.out.ext hX)
  replace HJ := Lib.hid (HJ.out.ext hX)
  replace KA := Lib.hid (KA.out.ext hX)
  replace KR := Lib.hid (KR.out.ext hX)
  clear hX
  have HV7 : Hid (True) := trivial
  clear h7
  have cA0 : w2.cell? ⟨w.heap.size, 0, none⟩ = some (.bool s0) := KA.out.cell 0
  have cA1 : w2.cell? ⟨w.heap.size, 1, none⟩ = some (.slice A0 l0 c0) := KA.out.cell 1
  have cA2 : w2.cell? ⟨w.heap.size, 2, none⟩ = some (.slice B0 m0 k0) := KA.out.cell 2
  go_wp2_with fail
  clear cA0 cA1 cA2
  refine (words_b b1 _ d _ HJ.out H1.out).mono ?_
  rintro e w3 ⟨v8, rfl, h8, hX⟩
  replace hX : Ext w2 w3 := by with_reducible exact hX
  replace HX := Lib.hid (HX.out.trans hX)
  replace HI := Lib.hid (HI.out.ext hX)
  replace HJ := Lib.hid (HJ.out.ext hX)
  replace KA := Lib.hid (KA.out.ext hX)
  replace KR := Lib.hid (KR.out.ext hX)
  clear hX
  clear h8
  have cR0 : w3.cell? ⟨(w.heap.size + 1), 0, none⟩ = some (.bool false) := KR.out.cell 0
  have fR0 : w3.frozen? ⟨(w.heap.size + 1), 0, none⟩ = false := KR.out.free 0
  have cR1 : w3.cell? ⟨(w.heap.size + 1), 1, none⟩ = some (.slice none 0 0) := KR.out.cell 1
  have fR1 : w3.frozen? ⟨(w.heap.size + 1), 1, none⟩ = false := KR.out.free 1
  have cR2 : w3.cell? ⟨(w.heap.size + 1), 2, none⟩ = some (.slice none 0 0) := KR.out.cell 2
  have fR2 : w3.frozen? ⟨(w.heap.size + 1), 2, none⟩ = false := KR.out.free 2
  go_wp2
  refine bodyPost_ret (v := .tuple #[.agg #[.bool false, .slice none 0 0, .slice none 0 0], .int .i64 1]) (by simp [results, Try.results108, go_sem, *]) rfl ?_
  exact ⟨rfl, Ext.boxed HX.out (by omega) _ _ _⟩

set_option maxRecDepth 100000 in
set_option maxHeartbeats 2000000 in
theorem rout_n1 (s0 : Bool) (A0 B0 : Option Addr) (l0 c0 m0 k0 : Nat) (n d : Nat) (w : World) (hI : Z16 w (.slice A0 l0 c0) n) (hJ : Z16 w (.slice B0 m0 k0) d) (ha : FitW n) (hb : ¬ FitW d) :
    Calls Try.prog 108 #[.agg #[.bool s0, .slice A0 l0 c0, .slice B0 m0 k0]] w (RetE w (.agg #[.bool false, .slice none 0 0, .slice none 0 0]) 1) := by
  have H0 := Lib.hid ha
  have H1 := Lib.hid hb
  clear ha hb
  have HI := Lib.hid hI
  have HJ := Lib.hid hJ
  clear hI hJ
  have hXe : Ext w ((w.alloc (.cells #[.bool s0, .slice A0 l0 c0, .slice B0 m0 k0] 42)).alloc (.cells #[.bool false, .slice none 0 0, .slice none 0 0] 33)) := (((Ext.refl w).alloc _).alloc _)
  have kA : Blk ((w.alloc (.cells #[.bool s0, .slice A0 l0 c0, .slice B0 m0 k0] 42)).alloc (.cells #[.bool false, .slice none 0 0, .slice none 0 0] 33)) w.heap.size 42 #[.bool s0, .slice A0 l0 c0, .slice B0 m0 k0] := Blk.alloc (Blk.at_ (by simp)) _
  have kR : Blk ((w.alloc (.cells #[.bool s0, .slice A0 l0 c0, .slice B0 m0 k0] 42)).alloc (.cells #[.bool false, .slice none 0 0, .slice none 0 0] 33)) (w.heap.size + 1) 33 #[.bool false, .slice none 0 0, .slice none 0 0] := Blk.at_ (by simp)
  go_enter Try.func108, Try.ntmps108
  go_wp2_with fail
  generalize ((w.alloc (.cells #[.bool s0, .slice A0 l0 c0, .slice B0 m0 k0] 42)).alloc (.cells #[.bool false, .slice none 0 0, .slice none 0 0] 33)) = w1 at hXe kA kR ⊢
  have HX := Lib.hid hXe
  clear hXe
  have KA := Lib.hid kA
  clear kA
  have KR := Lib.hid kR
  clear kR
  replace HI := Lib.hid (HI.out.ext HX.out)
  replace HJ := Lib.hid (HJ.out.ext HX.out)
  have cA0 : w1.cell? ⟨w.heap.size, 0, none⟩ = some (.bool s0) := KA.out.cell 0
  have cA1 : w1.cell? ⟨w.heap.size, 1, none⟩ = some (.slice A0 l0 c0) := KA.out.cell 1
  have cA2 : w1.cell? ⟨w.heap.size, 2, none⟩ = some (.slice B0 m0 k0) := KA.out.cell 2
  go_wp2_with fail
  clear cA0 cA1 cA2
  refine (words_b true _ n _ HI.out ⟨fun _ => H0.out, fun _ => rfl⟩).mono ?_
  rintro e w2 ⟨v7, rfl, h7, hX⟩
  replace hX : Ext w1 w2 := by with_reducible exact hX
  replace HX := Lib.hid (HX.out.trans hX)
  replace HI := Lib.hid (HI.out.ext hX)
  replace HJ := Lib.hid (HJ.out.ext hX)
  replace KA := Lib.hid (KA.out.ext hX)
  replace KR := Lib.hid (KR.out.ext hX)
  clear hX
  have HV7 : Hid (W32 w2 v7 n) := h7 rfl
  clear h7
  have cA0 : w2.cell? ⟨w.heap.size, 0, none⟩ = some (.bool s0) := KA.out.cell 0
  have cA1 : w2.cell? ⟨w.heap.size, 1, none⟩ = some (.slice A0 l0 c0) := KA.out.cell 1
  have cA2 : w2.cell? ⟨w.heap.size, 2, none⟩ = some (.slice B0 m0 k0) := KA.out.cell 2
  go_wp2_with fail
  clear cA0 cA1 cA2
  refine (words_b false _ d _ HJ.out ⟨(fun h => by cases h), fun h => absurd h H1.out⟩).mono ?_
  rintro e w3 ⟨v8, rfl, h8, hX⟩
  replace hX : Ext w2 w3 := by with_reducible exact hX
  replace HX := Lib.hid (HX.out.trans hX)
  replace HI := Lib.hid (HI.out.ext hX)
  replace HJ := Lib.hid (HJ.out.ext hX)
  replace HV7 := Lib.hid (HV7.out.ext hX)
  replace KA := Lib.hid (KA.out.ext hX)
  replace KR := Lib.hid (KR.out.ext hX)
  clear hX
  clear h8
  have cR0 : w3.cell? ⟨(w.heap.size + 1), 0, none⟩ = some (.bool false) := KR.out.cell 0
  have fR0 : w3.frozen? ⟨(w.heap.size + 1), 0, none⟩ = false := KR.out.free 0
  have cR1 : w3.cell? ⟨(w.heap.size + 1), 1, none⟩ = some (.slice none 0 0) := KR.out.cell 1
  have fR1 : w3.frozen? ⟨(w.heap.size + 1), 1, none⟩ = false := KR.out.free 1
  have cR2 : w3.cell? ⟨(w.heap.size + 1), 2, none⟩ = some (.slice none 0 0) := KR.out.cell 2
  have fR2 : w3.frozen? ⟨(w.heap.size + 1), 2, none⟩ = false := KR.out.free 2
  go_wp2
  refine bodyPost_ret (v := .tuple #[.agg #[.bool false, .slice none 0 0, .slice none 0 0], .int .i64 1]) (by simp [results, Try.results108, go_sem, *]) rfl ?_
  exact ⟨rfl, Ext.boxed HX.out (by omega) _ _ _⟩

set_option maxRecDepth 100000 in
set_option maxHeartbeats 2000000 in
theorem rout_one (s0 : Bool) (A0 B0 : Option Addr) (l0 c0 m0 k0 : Nat) (n d : Nat) (w : World) (hI : Z16 w (.slice A0 l0 c0) n) (hJ : Z16 w (.slice B0 m0 k0) d) (ha : FitW n) (hb : FitW d) (hd : d = 1) :
    Calls Try.prog 108 #[.agg #[.bool s0, .slice A0 l0 c0, .slice B0 m0 k0]] w (fun e w' => ∃ A9 l9 c9 B9 m9 k9, e = .returned (.tuple #[.agg #[.bool s0, .slice A9 l9 c9, .slice B9 m9 k9], .int .i64 0]) ∧ W32 w' (.slice A9 l9 c9) n ∧ (B9 = none ∧ m9 = 0 ∧ k9 = 0) ∧ Ext w w') := by
  have H0 := Lib.hid ha
  have H1 := Lib.hid hb
  clear ha hb
  have HI := Lib.hid hI
  have HJ := Lib.hid hJ
  obtain ⟨hm, b1, o1, x1, hB, hc1, hx1⟩ := den16_one hJ hd
  subst hB
  subst hm
  clear hI hJ
  have hXe : Ext w ((w.alloc (.cells #[.bool s0, .slice A0 l0 c0, .slice (some ⟨b1, o1, none⟩) 1 k0] 42)).alloc (.cells #[.bool false, .slice none 0 0, .slice none 0 0] 33)) := (((Ext.refl w).alloc _).alloc _)
  have kA : Blk ((w.alloc (.cells #[.bool s0, .slice A0 l0 c0, .slice (some ⟨b1, o1, none⟩) 1 k0] 42)).alloc (.cells #[.bool false, .slice none 0 0, .slice none 0 0] 33)) w.heap.size 42 #[.bool s0, .slice A0 l0 c0, .slice (some ⟨b1, o1, none⟩) 1 k0] := Blk.alloc (Blk.at_ (by simp)) _
  have kR : Blk ((w.alloc (.cells #[.bool s0, .slice A0 l0 c0, .slice (some ⟨b1, o1, none⟩) 1 k0] 42)).alloc (.cells #[.bool false, .slice none 0 0, .slice none 0 0] 33)) (w.heap.size + 1) 33 #[.bool false, .slice none 0 0, .slice none 0 0] := Blk.at_ (by simp)
  go_enter Try.func108, Try.ntmps108
  go_wp2_with fail
  generalize ((w.alloc (.cells #[.bool s0, .slice A0 l0 c0, .slice (some ⟨b1, o1, none⟩) 1 k0] 42)).alloc (.cells #[.bool false, .slice none 0 0, .slice none 0 0] 33)) = w1 at hXe kA kR ⊢
  have HX := Lib.hid hXe
  clear hXe
  have KA := Lib.hid kA
  clear kA
  have KR := Lib.hid kR
  clear kR
  replace HI := Lib.hid (HI.out.ext HX.out)
  replace HJ := Lib.hid (HJ.out.ext HX.out)
  have hc0 := hc1
  clear hc1
  have cA0 : w1.cell? ⟨w.heap.size, 0, none⟩ = some (.bool s0) := KA.out.cell 0
  have cA1 : w1.cell? ⟨w.heap.size, 1, none⟩ = some (.slice A0 l0 c0) := KA.out.cell 1
  have cA2 : w1.cell? ⟨w.heap.size, 2, none⟩ = some (.slice (some ⟨b1, o1, none⟩) 1 k0) := KA.out.cell 2
  go_wp2_with fail
  clear cA0 cA1 cA2
  refine (words_b true _ n _ HI.out ⟨fun _ => H0.out, fun _ => rfl⟩).mono ?_
  rintro e w2 ⟨v7, rfl, h7, hX⟩
  replace hX : Ext w1 w2 := by with_reducible exact hX
  replace HX := Lib.hid (HX.out.trans hX)
  replace HI := Lib.hid (HI.out.ext hX)
  replace HJ := Lib.hid (HJ.out.ext hX)
  replace KA := Lib.hid (KA.out.ext hX)
  replace KR := Lib.hid (KR.out.ext hX)
  clear hX
  have HV7 : Hid (W32 w2 v7 n) := h7 rfl
  clear h7
  have cA0 : w2.cell? ⟨w.heap.size, 0, none⟩ = some (.bool s0) := KA.out.cell 0
  have cA1 : w2.cell? ⟨w.heap.size, 1, none⟩ = some (.slice A0 l0 c0) := KA.out.cell 1
  have cA2 : w2.cell? ⟨w.heap.size, 2, none⟩ = some (.slice (some ⟨b1, o1, none⟩) 1 k0) := KA.out.cell 2
  go_wp2_with fail
  clear cA0 cA1 cA2
  refine (words_b true _ d _ HJ.out ⟨fun _ => H1.out, fun _ => rfl⟩).mono ?_
  rintro e w3 ⟨v8, rfl, h8, hX⟩
  replace hX : Ext w2 w3 := by with_reducible exact hX
  replace HX := Lib.hid (HX.out.trans hX)
  replace HI := Lib.hid (HI.out.ext hX)
  replace HJ := Lib.hid (HJ.out.ext hX)
  replace HV7 := Lib.hid (HV7.out.ext hX)
  replace KA := Lib.hid (KA.out.ext hX)
  replace KR := Lib.hid (KR.out.ext hX)
  clear hX
  have HV8 := Lib.hid (h8 rfl)
  clear h8
  obtain ⟨A7, l7, c7, rfl, hv7, _⟩ := W32.open HV7.out
  obtain ⟨A8, l8, c8, rfl, hv8, _⟩ := W32.open HV8.out
  clear HV7 HV8
  have HU7 := Lib.hid (W32.boxed hv7 (NoInts.three KR.out) s0 A7 none l7 c7 0 0)
  have HU8 := Lib.hid (W32.boxed hv8 (NoInts.three KR.out) s0 A7 none l7 c7 0 0)
  clear hv7 hv8
  have hc2 := HX.out.cell hc0
  clear hc0
  have cA0 : w3.cell? ⟨w.heap.size, 0, none⟩ = some (.bool s0) := KA.out.cell 0
  have cA1 : w3.cell? ⟨w.heap.size, 1, none⟩ = some (.slice A0 l0 c0) := KA.out.cell 1
  have cA2 : w3.cell? ⟨w.heap.size, 2, none⟩ = some (.slice (some ⟨b1, o1, none⟩) 1 k0) := KA.out.cell 2
  have cR0 : w3.cell? ⟨(w.heap.size + 1), 0, none⟩ = some (.bool false) := KR.out.cell 0
  have fR0 : w3.frozen? ⟨(w.heap.size + 1), 0, none⟩ = false := KR.out.free 0
  have cR1 : w3.cell? ⟨(w.heap.size + 1), 1, none⟩ = some (.slice none 0 0) := KR.out.cell 1
  have fR1 : w3.frozen? ⟨(w.heap.size + 1), 1, none⟩ = false := KR.out.free 1
  have cR2 : w3.cell? ⟨(w.heap.size + 1), 2, none⟩ = some (.slice none 0 0) := KR.out.cell 2
  have fR2 : w3.frozen? ⟨(w.heap.size + 1), 2, none⟩ = false := KR.out.free 2
  go_wp2
  refine bodyPost_ret (v := .tuple #[.agg #[.bool s0, .slice A7 l7 c7, .slice none 0 0], .int .i64 0]) (by simp [results, Try.results108, go_sem, *]) rfl ?_
  exact ⟨_, _, _, _, _, _, rfl, HU7.out, ⟨rfl, rfl, rfl⟩, Ext.boxed HX.out (by omega) _ _ _⟩

set_option maxRecDepth 100000 in
set_option maxHeartbeats 2000000 in
theorem rout_len (s0 : Bool) (A0 B0 : Option Addr) (l0 c0 m0 k0 : Nat) (n d : Nat) (w : World) (hI : Z16 w (.slice A0 l0 c0) n) (hJ : Z16 w (.slice B0 m0 k0) d) (ha : FitW n) (hb : FitW d) (hd : m0 ≠ 1) :
    Calls Try.prog 108 #[.agg #[.bool s0, .slice A0 l0 c0, .slice B0 m0 k0]] w (fun e w' => ∃ A9 l9 c9 B9 m9 k9, e = .returned (.tuple #[.agg #[.bool s0, .slice A9 l9 c9, .slice B9 m9 k9], .int .i64 0]) ∧ W32 w' (.slice A9 l9 c9) n ∧ W32 w' (.slice B9 m9 k9) d ∧ Ext w w') := by
  have H0 := Lib.hid ha
  have H1 := Lib.hid hb
  clear ha hb
  have hb1 : ((m0 : Int) == 1) = false := by simp; omega
  clear hd
  have HI := Lib.hid hI
  have HJ := Lib.hid hJ
  clear hI hJ
  have hXe : Ext w ((w.alloc (.cells #[.bool s0, .slice A0 l0 c0, .slice B0 m0 k0] 42)).alloc (.cells #[.bool false, .slice none 0 0, .slice none 0 0] 33)) := (((Ext.refl w).alloc _).alloc _)
  have kA : Blk ((w.alloc (.cells #[.bool s0, .slice A0 l0 c0, .slice B0 m0 k0] 42)).alloc (.cells #[.bool false, .slice none 0 0, .slice none 0 0] 33)) w.heap.size 42 #[.bool s0, .slice A0 l0 c0, .slice B0 m0 k0] := Blk.alloc (Blk.at_ (by simp)) _
  have kR : Blk ((w.alloc (.cells #[.bool s0, .slice A0 l0 c0, .slice B0 m0 k0] 42)).alloc (.cells #[.bool false, .slice none 0 0, .slice none 0 0] 33)) (w.heap.size + 1) 33 #[.bool false, .slice none 0 0, .slice none 0 0] := Blk.at_ (by simp)
  go_enter Try.func108, Try.ntmps108
  go_wp2_with fail
  generalize ((w.alloc (.cells #[.bool s0, .slice A0 l0 c0, .slice B0 m0 k0] 42)).alloc (.cells #[.bool false, .slice none 0 0, .slice none 0 0] 33)) = w1 at hXe kA kR ⊢
  have HX := Lib.hid hXe
  clear hXe
  have KA := Lib.hid kA
  clear kA
  have KR := Lib.hid kR
  clear kR
  replace HI := Lib.hid (HI.out.ext HX.out)
  replace HJ := Lib.hid (HJ.out.ext HX.out)
  have cA0 : w1.cell? ⟨w.heap.size, 0, none⟩ = some (.bool s0) := KA.out.cell 0
  have cA1 : w1.cell? ⟨w.heap.size, 1, none⟩ = some (.slice A0 l0 c0) := KA.out.cell 1
  have cA2 : w1.cell? ⟨w.heap.size, 2, none⟩ = some (.slice B0 m0 k0) := KA.out.cell 2
  go_wp2_with fail
  clear cA0 cA1 cA2
  refine (words_b true _ n _ HI.out ⟨fun _ => H0.out, fun _ => rfl⟩).mono ?_
  rintro e w2 ⟨v7, rfl, h7, hX⟩
  replace hX : Ext w1 w2 := by with_reducible exact hX
  replace HX := Lib.hid (HX.out.trans hX)
  replace HI := Lib.hid (HI.out.ext hX)
  replace HJ := Lib.hid (HJ.out.ext hX)
  replace KA := Lib.hid (KA.out.ext hX)
  replace KR := Lib.hid (KR.out.ext hX)
  clear hX
  have HV7 : Hid (W32 w2 v7 n) := h7 rfl
  clear h7
  have cA0 : w2.cell? ⟨w.heap.size, 0, none⟩ = some (.bool s0) := KA.out.cell 0
  have cA1 : w2.cell? ⟨w.heap.size, 1, none⟩ = some (.slice A0 l0 c0) := KA.out.cell 1
  have cA2 : w2.cell? ⟨w.heap.size, 2, none⟩ = some (.slice B0 m0 k0) := KA.out.cell 2
  go_wp2_with fail
  clear cA0 cA1 cA2
  refine (words_b true _ d _ HJ.out ⟨fun _ => H1.out, fun _ => rfl⟩).mono ?_
  rintro e w3 ⟨v8, rfl, h8, hX⟩
  replace hX : Ext w2 w3 := by with_reducible exact hX
  replace HX := Lib.hid (HX.out.trans hX)
  replace HI := Lib.hid (HI.out.ext hX)
  replace HJ := Lib.hid (HJ.out.ext hX)
  replace HV7 := Lib.hid (HV7.out.ext hX)
  replace KA := Lib.hid (KA.out.ext hX)
  replace KR := Lib.hid (KR.out.ext hX)
  clear hX
  have HV8 := Lib.hid (h8 rfl)
  clear h8
  obtain ⟨A7, l7, c7, rfl, hv7, _⟩ := W32.open HV7.out
  obtain ⟨A8, l8, c8, rfl, hv8, _⟩ := W32.open HV8.out
  clear HV7 HV8
  have HU7 := Lib.hid (W32.boxed hv7 (NoInts.three KR.out) s0 A7 A8 l7 c7 l8 c8)
  have HU8 := Lib.hid (W32.boxed hv8 (NoInts.three KR.out) s0 A7 A8 l7 c7 l8 c8)
  clear hv7 hv8
  have cA0 : w3.cell? ⟨w.heap.size, 0, none⟩ = some (.bool s0) := KA.out.cell 0
  have cA1 : w3.cell? ⟨w.heap.size, 1, none⟩ = some (.slice A0 l0 c0) := KA.out.cell 1
  have cA2 : w3.cell? ⟨w.heap.size, 2, none⟩ = some (.slice B0 m0 k0) := KA.out.cell 2
  have cR0 : w3.cell? ⟨(w.heap.size + 1), 0, none⟩ = some (.bool false) := KR.out.cell 0
  have fR0 : w3.frozen? ⟨(w.heap.size + 1), 0, none⟩ = false := KR.out.free 0
  have cR1 : w3.cell? ⟨(w.heap.size + 1), 1, none⟩ = some (.slice none 0 0) := KR.out.cell 1
  have fR1 : w3.frozen? ⟨(w.heap.size + 1), 1, none⟩ = false := KR.out.free 1
  have cR2 : w3.cell? ⟨(w.heap.size + 1), 2, none⟩ = some (.slice none 0 0) := KR.out.cell 2
  have fR2 : w3.frozen? ⟨(w.heap.size + 1), 2, none⟩ = false := KR.out.free 2
  go_wp2
  refine bodyPost_ret (v := .tuple #[.agg #[.bool s0, .slice A7 l7 c7, .slice A8 l8 c8], .int .i64 0]) (by simp [results, Try.results108, go_sem, *]) rfl ?_
  exact ⟨_, _, _, _, _, _, rfl, HU7.out, HU8.out, Ext.boxed HX.out (by omega) _ _ _⟩

set_option maxRecDepth 100000 in
set_option maxHeartbeats 2000000 in
theorem rout_den (s0 : Bool) (A0 B0 : Option Addr) (l0 c0 m0 k0 : Nat) (n d : Nat) (w : World) (hI : Z16 w (.slice A0 l0 c0) n) (hJ : Z16 w (.slice B0 m0 k0) d) (ha : FitW n) (hb : FitW d) (hm : m0 = 1) (hd : d ≠ 1) :
    Calls Try.prog 108 #[.agg #[.bool s0, .slice A0 l0 c0, .slice B0 m0 k0]] w (fun e w' => ∃ A9 l9 c9 B9 m9 k9, e = .returned (.tuple #[.agg #[.bool s0, .slice A9 l9 c9, .slice B9 m9 k9], .int .i64 0]) ∧ W32 w' (.slice A9 l9 c9) n ∧ W32 w' (.slice B9 m9 k9) d ∧ Ext w w') := by
  have H0 := Lib.hid ha
  have H1 := Lib.hid hb
  clear ha hb
  have HI := Lib.hid hI
  have HJ := Lib.hid hJ
  obtain ⟨b1, o1, x1, hB, hc1, hx1⟩ := den16_ne hJ hm hd
  subst hB
  subst hm
  clear hI hJ
  have hXe : Ext w ((w.alloc (.cells #[.bool s0, .slice A0 l0 c0, .slice (some ⟨b1, o1, none⟩) 1 k0] 42)).alloc (.cells #[.bool false, .slice none 0 0, .slice none 0 0] 33)) := (((Ext.refl w).alloc _).alloc _)
  have kA : Blk ((w.alloc (.cells #[.bool s0, .slice A0 l0 c0, .slice (some ⟨b1, o1, none⟩) 1 k0] 42)).alloc (.cells #[.bool false, .slice none 0 0, .slice none 0 0] 33)) w.heap.size 42 #[.bool s0, .slice A0 l0 c0, .slice (some ⟨b1, o1, none⟩) 1 k0] := Blk.alloc (Blk.at_ (by simp)) _
  have kR : Blk ((w.alloc (.cells #[.bool s0, .slice A0 l0 c0, .slice (some ⟨b1, o1, none⟩) 1 k0] 42)).alloc (.cells #[.bool false, .slice none 0 0, .slice none 0 0] 33)) (w.heap.size + 1) 33 #[.bool false, .slice none 0 0, .slice none 0 0] := Blk.at_ (by simp)
  go_enter Try.func108, Try.ntmps108
  go_wp2_with fail
  generalize ((w.alloc (.cells #[.bool s0, .slice A0 l0 c0, .slice (some ⟨b1, o1, none⟩) 1 k0] 42)).alloc (.cells #[.bool false, .slice none 0 0, .slice none 0 0] 33)) = w1 at hXe kA kR ⊢
  have HX := Lib.hid hXe
  clear hXe
  have KA := Lib.hid kA
  clear kA
  have KR := Lib.hid kR
  clear kR
  replace HI := Lib.hid (HI.out.ext HX.out)
  replace HJ := Lib.hid (HJ.out.ext HX.out)
  have hc0 := hc1
  clear hc1
  have cA0 : w1.cell? ⟨w.heap.size, 0, none⟩ = some (.bool s0) := KA.out.cell 0
  have cA1 : w1.cell? ⟨w.heap.size, 1, none⟩ = some (.slice A0 l0 c0) := KA.out.cell 1
  have cA2 : w1.cell? ⟨w.heap.size, 2, none⟩ = some (.slice (some ⟨b1, o1, none⟩) 1 k0) := KA.out.cell 2
  go_wp2_with fail
  clear cA0 cA1 cA2
  refine (words_b true _ n _ HI.out ⟨fun _ => H0.out, fun _ => rfl⟩).mono ?_
  rintro e w2 ⟨v7, rfl, h7, hX⟩
  replace hX : Ext w1 w2 := by with_reducible exact hX
  replace HX := Lib.hid (HX.out.trans hX)
  replace HI := Lib.hid (HI.out.ext hX)
  replace HJ := Lib.hid (HJ.out.ext hX)
  replace KA := Lib.hid (KA.out.ext hX)
  replace KR := Lib.hid (KR.out.ext hX)
  clear hX
  have HV7 : Hid (W32 w2 v7 n) := h7 rfl
  clear h7
  have cA0 : w2.cell? ⟨w.heap.size, 0, none⟩ = some (.bool s0) := KA.out.cell 0
  have cA1 : w2.cell? ⟨w.heap.size, 1, none⟩ = some (.slice A0 l0 c0) := KA.out.cell 1
  have cA2 : w2.cell? ⟨w.heap.size, 2, none⟩ = some (.slice (some ⟨b1, o1, none⟩) 1 k0) := KA.out.cell 2
  go_wp2_with fail
  clear cA0 cA1 cA2
  refine (words_b true _ d _ HJ.out ⟨fun _ => H1.out, fun _ => rfl⟩).mono ?_
  rintro e w3 ⟨v8, rfl, h8, hX⟩
  replace hX : Ext w2 w3 := by with_reducible exact hX
  replace HX := Lib.hid (HX.out.trans hX)
  replace HI := Lib.hid (HI.out.ext hX)
  replace HJ := Lib.hid (HJ.out.ext hX)
  replace HV7 := Lib.hid (HV7.out.ext hX)
  replace KA := Lib.hid (KA.out.ext hX)
  replace KR := Lib.hid (KR.out.ext hX)
  clear hX
  have HV8 := Lib.hid (h8 rfl)
  clear h8
  obtain ⟨A7, l7, c7, rfl, hv7, _⟩ := W32.open HV7.out
  obtain ⟨A8, l8, c8, rfl, hv8, _⟩ := W32.open HV8.out
  clear HV7 HV8
  have HU7 := Lib.hid (W32.boxed hv7 (NoInts.three KR.out) s0 A7 A8 l7 c7 l8 c8)
  have HU8 := Lib.hid (W32.boxed hv8 (NoInts.three KR.out) s0 A7 A8 l7 c7 l8 c8)
  clear hv7 hv8
  have hc2 := HX.out.cell hc0
  clear hc0
  have cA0 : w3.cell? ⟨w.heap.size, 0, none⟩ = some (.bool s0) := KA.out.cell 0
  have cA1 : w3.cell? ⟨w.heap.size, 1, none⟩ = some (.slice A0 l0 c0) := KA.out.cell 1
  have cA2 : w3.cell? ⟨w.heap.size, 2, none⟩ = some (.slice (some ⟨b1, o1, none⟩) 1 k0) := KA.out.cell 2
  have cR0 : w3.cell? ⟨(w.heap.size + 1), 0, none⟩ = some (.bool false) := KR.out.cell 0
  have fR0 : w3.frozen? ⟨(w.heap.size + 1), 0, none⟩ = false := KR.out.free 0
  have cR1 : w3.cell? ⟨(w.heap.size + 1), 1, none⟩ = some (.slice none 0 0) := KR.out.cell 1
  have fR1 : w3.frozen? ⟨(w.heap.size + 1), 1, none⟩ = false := KR.out.free 1
  have cR2 : w3.cell? ⟨(w.heap.size + 1), 2, none⟩ = some (.slice none 0 0) := KR.out.cell 2
  have fR2 : w3.frozen? ⟨(w.heap.size + 1), 2, none⟩ = false := KR.out.free 2
  go_wp2
  refine bodyPost_ret (v := .tuple #[.agg #[.bool s0, .slice A7 l7 c7, .slice A8 l8 c8], .int .i64 0]) (by simp [results, Try.results108, go_sem, *]) rfl ?_
  exact ⟨_, _, _, _, _, _, rfl, HU7.out, HU8.out, Ext.boxed HX.out (by omega) _ _ _⟩


theorem rout_yes {w : World} {v : Value} {q : Rat} (h : QZ w v q) (hf : FitQW q) : Calls Try.prog 108 #[v] w (RetC w q) := by
  obtain ⟨b, A, l, c, B, m, k, rfl, rfl, h1, h2⟩ := h
  by_cases hd : q.den = 1
  · refine (rout_one _ A B l c m k _ _ w h1 h2 hf.1 hf.2 hd).mono ?_
    rintro e w' ⟨A9, l9, c9, B9, m9, k9, rfl, ⟨A', l', c', xs, e, hI, hr, hc⟩, ⟨rfl, rfl, rfl⟩, hX⟩
    injection e with e1 e2 e3
    subst e1 e2 e3
    exact ⟨_, rfl, ⟨xs, [], ⟨_, _, _, _, _, _, rfl, hI, hc.1, hc.2, Ints.nil, by omega, by omega⟩, hr, .inl ⟨hd, rfl⟩⟩, hX⟩
  · have fin : ∀ e w', (∃ A9 l9 c9 B9 m9 k9, e = .returned (.tuple #[.agg #[.bool (decide (q.num < 0)), .slice A9 l9 c9, .slice B9 m9 k9], .int .i64 0]) ∧ W32 w' (.slice A9 l9 c9) q.num.natAbs ∧ W32 w' (.slice B9 m9 k9) q.den ∧ Ext w w') → RetC w q e w' := by
      rintro e w' ⟨A9, l9, c9, B9, m9, k9, rfl, ⟨A', l', c', xs, e, hI, hr, hc⟩, ⟨B', m', k', ys, e', hJ, hs, hk⟩, hX⟩
      injection e with e1 e2 e3
      subst e1 e2 e3
      injection e' with e1 e2 e3
      subst e1 e2 e3
      exact ⟨_, rfl, ⟨xs, ys, ⟨_, _, _, _, _, _, rfl, hI, hc.1, hc.2, hJ, hk.1, hk.2⟩, hr, .inr ⟨hd, hs⟩⟩, hX⟩
    by_cases hm : m = 1
    · exact (rout_den _ A B l c m k _ _ w h1 h2 hf.1 hf.2 hm hd).mono fin
    · exact (rout_len _ A B l c m k _ _ w h1 h2 hf.1 hf.2 hm).mono fin
theorem rout_no {w : World} {v : Value} {q : Rat} (h : QZ w v q) (hf : ¬ FitQW q) : Calls Try.prog 108 #[v] w (RetE w zeroR 1) := by
  obtain ⟨b, A, l, c, B, m, k, rfl, rfl, h1, h2⟩ := h
  by_cases ha : FitW q.num.natAbs
  · exact rout_n1 _ A B l c m k _ _ w h1 h2 ha (fun hb => hf ⟨ha, hb⟩)
  · exact rout_n0 _ A B l c m k _ _ w h1 h2 ha

end Go.Proofs.Yteoijnaljkagfaa
