/- Lemmas of the proof that follows (Spans, part 4): walks of functions by contract, and plain lemmas. Conditions: none. -/
import Derived.Test.YteoijnaljkagfaaSpansC
namespace Go.Proofs.Yteoijnaljkagfaa
open Go.RowKit
set_option maxRecDepth 100000 in
set_option maxHeartbeats 2000000 in
theorem text_r17 (g l c pi pj : Nat) (x y : Int) (w : World) (hci : w.cell? ⟨g, pi, none⟩ = some (.int .u8 x)) (hcj : w.cell? ⟨g, pj, none⟩ = some (.int .u8 y)) (hfi : w.frozen? ⟨g, pi, none⟩ = false) (hf15 : Hid (w.frozen? ⟨g, pj, none⟩ = false)) (hc15 : Hid ((w.setCell ⟨g, pi, none⟩ (.int .u8 y)).cell? ⟨g, pj, none⟩ = some (.int .u8 y))) (hi0 : (0 : Int) ≤ (pi : Int)) (hj0 : (0 : Int) ≤ (pj : Int)) (hi1 : (pi : Int) < (l : Int)) (hj1 : (pj : Int) < (l : Int)) (a : Act) (Q : Exit → Act → World → Prop) (hsize : 68 ≤ a.tmps.size)
    (s3 : a.tmps[3]? = some (.slice (some ⟨g, 0, none⟩) l c))
    (s6 : a.tmps[6]? = some (.int .i64 (pi : Int)))
    (s7 : a.tmps[7]? = some (.int .i64 (pj : Int)))
    (hend : ∀ (xv0 xv1 xv2 xv3 xv4 xv5 xv6 xv7 xv8 xv9 xv10 xv11 xv12 xv13 xv14 xv15 : Value) (W : World), (xv0 = .slice (some ⟨g, 0, none⟩) l c) → (xv1 = .int .i64 (pi : Int)) → (xv2 = .slice (some ⟨g, 0, none⟩) l c) → (xv3 = .int .i64 (pj : Int)) → (xv4 = .slice (some ⟨g, 0, none⟩) l c) → (xv5 = .int .i64 (pj : Int)) → (xv6 = .pointer (some ⟨g, pj, none⟩)) → (xv7 = .int .u8 y) → (xv8 = .slice (some ⟨g, 0, none⟩) l c) → (xv9 = .int .i64 (pi : Int)) → (xv10 = .pointer (some ⟨g, pi, none⟩)) → (xv11 = .int .u8 x) → (xv12 = .pointer (some ⟨g, pi, none⟩)) → (True) → (xv14 = .pointer (some ⟨g, pj, none⟩)) → (True) → W = ((w.setCell ⟨g, pi, none⟩ (.int .u8 y)).setCell ⟨g, pj, none⟩ (.int .u8 x)).drew → wpList Try.prog (rops Try.f122 17).toArray Q ((rops Try.f122 17).drop 16) ((((((((((((((((a.put (some 54) xv0).put (some 55) xv1).put (some 56) xv2).put (some 57) xv3).put (some 58) xv4).put (some 59) xv5).put (some 60) xv6).put (some 61) xv7).put (some 62) xv8).put (some 63) xv9).put (some 64) xv10).put (some 65) xv11).put (some 66) xv12).put (none) xv13).put (some 67) xv14).put (none) xv15) W) :
    (Code.region 17 (rops Try.f122 17).toArray true).wp Try.prog Q a w := by
  have hsz : ∀ d, some d ∈ ([some 54, some 55, some 56, some 57, some 58, some 59, some 60, some 61, some 62, some 63, some 64, some 65, some 66, none, some 67, none] : List (Option Tmp)) → d < a.tmps.size := slots_lt (by decide) hsize
  refine wp_region_j 16 [some 54, some 55, some 56, some 57, some 58, some 59, some 60, some 61, some 62, some 63, some 64, some 65, some 66, none, some 67, none] [[], [], [], [], [], [], [4, 5], [6], [], [], [8, 9], [10], [0, 1], [7, 12], [2, 3], [11, 13, 14]] [[], [], [], [], [], [], [], [13], [], [], [], [13], [], [15], [], []] (fun i v _ => match i with
    | 0 => v = .slice (some ⟨g, 0, none⟩) l c
    | 1 => v = .int .i64 (pi : Int)
    | 2 => v = .slice (some ⟨g, 0, none⟩) l c
    | 3 => v = .int .i64 (pj : Int)
    | 4 => v = .slice (some ⟨g, 0, none⟩) l c
    | 5 => v = .int .i64 (pj : Int)
    | 6 => v = .pointer (some ⟨g, pj, none⟩)
    | 7 => v = .int .u8 y
    | 8 => v = .slice (some ⟨g, 0, none⟩) l c
    | 9 => v = .int .i64 (pi : Int)
    | 10 => v = .pointer (some ⟨g, pi, none⟩)
    | 11 => v = .int .u8 x
    | 12 => v = .pointer (some ⟨g, pi, none⟩)
    | 13 => True
    | 14 => v = .pointer (some ⟨g, pj, none⟩)
    | 15 => True
    | _ => True) (fun done W => (¬ done 13 → W = w.drew) ∧ (done 13 → ¬ done 15 → W = (w.setCell ⟨g, pi, none⟩ (.int .u8 y)).drew) ∧ (done 15 → W = ((w.setCell ⟨g, pi, none⟩ (.int .u8 y)).setCell ⟨g, pj, none⟩ (.int .u8 x)).drew)) (by kernel_rfl) (by kernel_rfl) hsz (fun p q W h hJ => ⟨fun hn => hJ.1 (fun hp => hn ((h 13).1 hp)), fun hq hn => hJ.2.1 ((h 13).2 hq) (fun hp => hn ((h 15).1 hp)), fun hq => hJ.2.2 ((h 15).2 hq)⟩) ⟨fun _ => rfl, fun h => h.elim, fun h => h.elim⟩ ?_ ?_
  · clear hend
    simp only [rops, Try.f122, regOf, Option.bind_some, Nat.reduceBEq, if_true, if_false, Bool.false_eq_true, Option.getD_some]
    simp only [List.take_succ_cons, List.take_zero]
    refine ⟨?_, ?_, ?_, ?_, ?_, ?_, ?_, ?_, ?_, ?_, ?_, ?_, ?_, ?_, ?_, ?_, trivial⟩
    · intro done us W hJ hdep haft hnot b hb hb' K hK Q'
      have e3 := (hb' 3 (by simp)).trans s3
      clear hb hb'
      go_simp
      exact hK _ _ rfl (fun _ _ _ h => h) (by simpa using hJ)
    · intro done us W hJ hdep haft hnot b hb hb' K hK Q'
      have e6 := (hb' 6 (by simp)).trans s6
      clear hb hb'
      go_simp
      exact hK _ _ rfl (fun _ _ _ h => h) (by simpa using hJ)
    · intro done us W hJ hdep haft hnot b hb hb' K hK Q'
      have e3 := (hb' 3 (by simp)).trans s3
      clear hb hb'
      go_simp
      exact hK _ _ rfl (fun _ _ _ h => h) (by simpa using hJ)
    · intro done us W hJ hdep haft hnot b hb hb' K hK Q'
      have e7 := (hb' 7 (by simp)).trans s7
      clear hb hb'
      go_simp
      exact hK _ _ rfl (fun _ _ _ h => h) (by simpa using hJ)
    · intro done us W hJ hdep haft hnot b hb hb' K hK Q'
      have e3 := (hb' 3 (by simp)).trans s3
      clear hb hb'
      go_simp
      exact hK _ _ rfl (fun _ _ _ h => h) (by simpa using hJ)
    · intro done us W hJ hdep haft hnot b hb hb' K hK Q'
      have e7 := (hb' 7 (by simp)).trans s7
      clear hb hb'
      go_simp
      exact hK _ _ rfl (fun _ _ _ h => h) (by simpa using hJ)
    · intro done us W hJ hdep haft hnot b hb hb' K hK Q'
      simp only [List.getD_cons_succ, List.getD_cons_zero, List.mem_cons, List.not_mem_nil, or_false, forall_eq_or_imp, forall_eq] at hdep
      have e58 := hb 4 58 rfl
      have e59 := hb 5 59 rfl
      have d4 := hdep.1
      have d5 := hdep.2
      rw [d4.1] at e58
      rw [d5.1] at e59
      clear hb hb' hdep d4 d5
      go_simp
      exact hK _ _ rfl (fun _ _ _ h => h) (by simpa using hJ)
    · intro done us W hJ hdep haft hnot b hb hb' K hK Q'
      simp only [List.getD_cons_succ, List.getD_cons_zero, List.mem_cons, List.not_mem_nil, or_false, forall_eq] at hdep
      simp only [List.getD_cons_succ, List.getD_cons_zero, List.mem_cons, List.not_mem_nil, or_false, forall_eq] at haft
      have e60 := hb 6 60 rfl
      have d6 := hdep
      rw [d6.1] at e60
      clear hb hb' hdep d6
      obtain rfl := hJ.1 haft
      go_simp
      exact hK _ _ rfl (fun _ _ _ h => h) (by simpa using hJ)
    · intro done us W hJ hdep haft hnot b hb hb' K hK Q'
      have e3 := (hb' 3 (by simp)).trans s3
      clear hb hb'
      go_simp
      exact hK _ _ rfl (fun _ _ _ h => h) (by simpa using hJ)
    · intro done us W hJ hdep haft hnot b hb hb' K hK Q'
      have e6 := (hb' 6 (by simp)).trans s6
      clear hb hb'
      go_simp
      exact hK _ _ rfl (fun _ _ _ h => h) (by simpa using hJ)
    · intro done us W hJ hdep haft hnot b hb hb' K hK Q'
      simp only [List.getD_cons_succ, List.getD_cons_zero, List.mem_cons, List.not_mem_nil, or_false, forall_eq_or_imp, forall_eq] at hdep
      have e62 := hb 8 62 rfl
      have e63 := hb 9 63 rfl
      have d8 := hdep.1
      have d9 := hdep.2
      rw [d8.1] at e62
      rw [d9.1] at e63
      clear hb hb' hdep d8 d9
      go_simp
      exact hK _ _ rfl (fun _ _ _ h => h) (by simpa using hJ)
    · intro done us W hJ hdep haft hnot b hb hb' K hK Q'
      simp only [List.getD_cons_succ, List.getD_cons_zero, List.mem_cons, List.not_mem_nil, or_false, forall_eq] at hdep
      simp only [List.getD_cons_succ, List.getD_cons_zero, List.mem_cons, List.not_mem_nil, or_false, forall_eq] at haft
      have e64 := hb 10 64 rfl
      have d10 := hdep
      rw [d10.1] at e64
      clear hb hb' hdep d10
      obtain rfl := hJ.1 haft
      go_simp
      exact hK _ _ rfl (fun _ _ _ h => h) (by simpa using hJ)
    · intro done us W hJ hdep haft hnot b hb hb' K hK Q'
      simp only [List.getD_cons_succ, List.getD_cons_zero, List.mem_cons, List.not_mem_nil, or_false, forall_eq_or_imp, forall_eq] at hdep
      have e54 := hb 0 54 rfl
      have e55 := hb 1 55 rfl
      have d0 := hdep.1
      have d1 := hdep.2
      rw [d0.1] at e54
      rw [d1.1] at e55
      clear hb hb' hdep d0 d1
      go_simp
      exact hK _ _ rfl (fun _ _ _ h => h) (by simpa using hJ)
    · intro done us W hJ hdep haft hnot b hb hb' K hK Q'
      simp only [List.getD_cons_succ, List.getD_cons_zero, List.mem_cons, List.not_mem_nil, or_false, forall_eq_or_imp, forall_eq] at hdep
      simp only [List.getD_cons_succ, List.getD_cons_zero, List.mem_cons, List.not_mem_nil, or_false, forall_eq] at haft
      have e61 := hb 7 61 rfl
      have e66 := hb 12 66 rfl
      have d7 := hdep.1
      have d12 := hdep.2
      rw [d7.1] at e61
      rw [d12.1] at e66
      clear hb hb' hdep d7 d12
      obtain rfl := hJ.1 hnot
      go_simp
      exact hK undef _ trivial (fun _ _ _ h => h) ⟨fun h => absurd (Or.inr rfl) h, fun _ _ => rfl, fun h => by rcases h with h | h; exact absurd h haft; cases h⟩
    · intro done us W hJ hdep haft hnot b hb hb' K hK Q'
      simp only [List.getD_cons_succ, List.getD_cons_zero, List.mem_cons, List.not_mem_nil, or_false, forall_eq_or_imp, forall_eq] at hdep
      have e56 := hb 2 56 rfl
      have e57 := hb 3 57 rfl
      have d2 := hdep.1
      have d3 := hdep.2
      rw [d2.1] at e56
      rw [d3.1] at e57
      clear hb hb' hdep d2 d3
      go_simp
      exact hK _ _ rfl (fun _ _ _ h => h) (by simpa using hJ)
    · intro done us W hJ hdep haft hnot b hb hb' K hK Q'
      simp only [List.getD_cons_succ, List.getD_cons_zero, List.mem_cons, List.not_mem_nil, or_false, forall_eq_or_imp, forall_eq] at hdep
      have e65 := hb 11 65 rfl
      have e67 := hb 14 67 rfl
      have d11 := hdep.1
      have d13 := hdep.2.1
      have d14 := hdep.2.2
      rw [d11.1] at e65
      rw [d14.1] at e67
      clear hb hb' hdep d11 d14
      obtain rfl := hJ.2.1 d13.2 hnot
      have hf2 := hf15.out
      have hc2 := hc15.out
      go_simp
      exact hK undef _ trivial (fun _ _ _ h => h) ⟨fun h => absurd (Or.inl d13.2) h, fun _ h => absurd (Or.inr rfl) h, fun _ => rfl⟩
  · intro us W hV hJ
    exact hend (us 0) (us 1) (us 2) (us 3) (us 4) (us 5) (us 6) (us 7) (us 8) (us 9) (us 10) (us 11) (us 12) (us 13) (us 14) (us 15) W (hV 0 (by omega)) (hV 1 (by omega)) (hV 2 (by omega)) (hV 3 (by omega)) (hV 4 (by omega)) (hV 5 (by omega)) (hV 6 (by omega)) (hV 7 (by omega)) (hV 8 (by omega)) (hV 9 (by omega)) (hV 10 (by omega)) (hV 11 (by omega)) (hV 12 (by omega)) (hV 13 (by omega)) (hV 14 (by omega)) (hV 15 (by omega)) (by simpa using hJ)
end Go.Proofs.Yteoijnaljkagfaa
namespace Go.Proofs.Yteoijnaljkagfaa
open Go.RowKit

theorem elB : Elem Try.prog 148 5 1 1 (.int .u8 0) := Elem.mk' (by kernel_rfl) (by kernel_rfl) rfl (by decide)

/-- What text returns: the decimal digits. -/
def RetDec (w : World) (n : Nat) (e : Ending) (w' : World) : Prop := ∃ s, e = .returned (.string (strOfNums s)) ∧ Dec n s ∧ Ext w w'

theorem text_push {wr w1 : World} {o : Obj} {va v v' : Value} {q : Nat} (hW : W32 wr va q) (hS : Sep va v.ownBlock) (hg : (wr.alloc o).grownBy w1 v.ownBlock) (hb : v'.ownBlock = v.ownBlock ∨ v'.ownBlock = some (wr.alloc o).heap.size) : W32 w1 va q ∧ Sep va v'.ownBlock := by
  have h1 := hW.ext ((Ext.refl wr).alloc o)
  refine ⟨NatV.grown h1 hg hS, ?_⟩
  rcases hb with hb | hb
  · rw [hb]; exact hS
  · rw [hb]; exact Sep.new h1 (Nat.le_refl _)
theorem text_own {w1 : World} {base : Nat} {A : Option Addr} {c nd : Nat} {es : List Int} {d : Int} (hl : es.length = nd) (hd : Dg 10 (es ++ [d])) (h : w1.ownsRow base 5 1 (.slice A (nd + 1) c) (nd + 1) ((es.map (48 + ·)).map (Value.int .u8) ++ [.int .u8 (48 + d)])) : OwnS .u8 5 base w1 A (nd + 1) c ((es ++ [d]).map (48 + ·)) := by
  refine ⟨by simpa using h, by simp [hl], fun x hx => ?_⟩
  obtain ⟨y, hy, rfl⟩ := List.mem_map.1 hx
  have := hd y hy
  exact WalkArith.wf_u8 (by omega)
theorem dec_le {es : List Int} {n m : Nat} (hd : Dg 10 es) (h : val 10 es + 10 ^ es.length * (m : Int) = n) : m ≤ n := by
  have h0 := val_nonneg (B := 10) (by omega) hd
  have h1 : (1 : Int) ≤ 10 ^ es.length := Int.pow_pos (by omega)
  have h2 : 1 * (m : Int) ≤ 10 ^ es.length * (m : Int) := Int.mul_le_mul_of_nonneg_right h1 (by omega)
  omega
theorem word_split (m : Nat) : ∃ (q : Nat) (r : Int), Hid (m / (1000000000 : Int).toNat = q) ∧ Hid ((m : Int) % 1000000000 = r) ∧ 0 ≤ r ∧ r < 1000000000 ∧ Hid ((m : Int) = r + 10 ^ 9 * (q : Int)) ∧ (0 < m → q < m) :=
  ⟨_, _, rfl, rfl, by omega, by omega, by show _ = _; rw [show (1000000000 : Int).toNat = 1000000000 from rfl]; omega, by rw [show (1000000000 : Int).toNat = 1000000000 from rfl]; omega⟩
theorem ten_le {g : Nat} {r : Int} (hg : g ≤ 9) (h : r < 10 ^ g) : r < 1000000000 := by
  have := pow_le (B := 10) (a := g) (b := 9) (by omega) hg
  have e : (10 : Int) ^ 9 = 1000000000 := by decide
  omega

set_option maxHeartbeats 2000000 in
theorem text_any (va : Value) (n L : Nat) (w : World) (ha : W32 w va n) (hn : Fit 4294967296 n L) (hL : L ≤ 1000000000) :
    Calls Try.prog 122 #[va] w (RetDec w n) := by
  have HW := Lib.hid ha
  obtain ⟨A, la, ca, xs, rfl, hA, hrx, hca, hcam⟩ := ha
  rcases Nat.eq_zero_or_pos n with h0 | h0
  · subst h0
    obtain rfl := Rep.zero (by omega) hrx
    obtain rfl : la = 0 := by simpa using hA.1.symm
    clear HW hA hrx hn
    go_enter Try.func122, Try.ntmps122
    go_wp2
    go_ret
    exact ⟨[48], rfl, .inl ⟨rfl, rfl⟩, Ext.refl _⟩
  · have hla : 0 < la := by
      rcases Nat.eq_zero_or_pos la with h | h
      · have h1 := hA.1
        rw [h] at h1
        have := (Rep.pos (by omega) hrx).2 (List.eq_nil_of_length_eq_zero h1)
        omega
      · exact h
    have hlb : ((la : Int) == 0) = false := by simp; omega
    have HN := Lib.hid hn
    clear hA hrx hn
    go_enter Try.func122, Try.ntmps122
    go_wp2
    go_loopg [0, 3] n (fun g va vd wr => ∃ (m : Nat) (Aa : Option Addr) (na cq : Nat) (Ad : Option Addr) (nd cd : Nat) (es : List Int), m = g ∧ va = .slice Aa na cq ∧ vd = .slice Ad nd cd ∧ Hid (W32 wr (.slice Aa na cq) m) ∧ Hid (Sep (.slice Aa na cq) (Value.slice Ad nd cd).ownBlock) ∧ Hid (OwnS .u8 5 w.heap.size wr Ad nd cd (es.map (48 + ·))) ∧ Hid (Dg 10 es) ∧ Hid (val 10 es + 10 ^ es.length * (m : Int) = n) ∧ Hid (Ext w wr))
    case atStart => exact ⟨n, A, la, ca, none, 0, 0, [], rfl, rfl, rfl, HW.out, Sep.nil _, ⟨⟨rfl, .inl ⟨rfl, rfl⟩⟩, rfl, by simp⟩, Dg.nil, by simp [val, Hid], Ext.refl _⟩
    case round =>
      obtain ⟨m, Aa, na, cq, Ad, nd, cd, es, rfl, rfl, rfl, HWm, HSep, HO, HD, HV, HX⟩ := hrel
      obtain ⟨A2, n2, c2, zs, hz1, hz2, hz3, hz4, hz5⟩ := HWm.out
      injection hz1 with e1 e2 e3
      subst e1 e2 e3
      have HL : Hid (es.length = nd) := by have := HO.out.len; simpa [Hid] using this
      rcases Nat.eq_zero_or_pos m with hm0 | hm0
      · subst hm0
        obtain rfl := Rep.zero (by omega) hz3
        obtain rfl : na = 0 := by simpa using hz2.1.symm
        have HV' : Hid (val 10 es = (n : Int)) := by have := HV.out; simp at this; exact this
        clear hz2 hz3 hz4 hz5 HV HWm HSep
        go_wp2
        go_loopg [3] nd (fun g v wq => ∃ l, l = g ∧ l ≤ nd ∧ v = .slice Ad l cd ∧ Hid (val 10 (es.take l) = (n : Int)) ∧ wr = wq)
        case atStart => exact ⟨nd, rfl, Nat.le_refl _, rfl, by rw [List.take_of_length_le (by rw [HL.out]; exact Nat.le_refl _)]; exact HV'.out, rfl⟩
        case round =>
          obtain ⟨l, rfl, hl, rfl, HVl, rfl⟩ := hrel
          obtain ⟨k, rfl⟩ : ∃ k, l = k + 1 := by
            rcases l with _ | k
            · have := HVl.out
              simp [val] at this
              omega
            · exact ⟨k, rfl⟩
          obtain ⟨g, x, hAd, hx, hwf, hc⟩ := HO.out.get (j := k) (by omega)
          subst hAd
          obtain ⟨d, hd, hxd⟩ : ∃ d, es[k]? = some d ∧ 48 + d = x := by
            rw [List.getElem?_map] at hx
            rcases he : es[k]? with _ | d
            · rw [he] at hx; cases hx
            · rw [he] at hx; exact ⟨d, rfl, by simpa using hx⟩
          have hd0 := HD.out.get hd
          have HDk := Lib.hid hd
          have hcap := HO.out.cap
          clear hx hwf hd
          by_cases hz : d = 0
          · have hxe : (x == 48) = true := by simp; omega
            have HVk : Hid (val 10 (es.take k) = (n : Int)) := by
              have := HVl.out
              rw [val_take_succ HDk.out, hz] at this
              show _ = _
              omega
            clear hz hxd hd0
            go_wp2
            go_roundg k
            case rel => exact ⟨k, rfl, by omega, rfl, HVk, rfl⟩
            case measure => omega
          · have hxe : (x == 48) = false := by simp; omega
            have HR : Hid (Rep 10 (es.take (k + 1)) n) := ⟨HD.out.take _, Nm.take HDk.out hz, HVl.out⟩
            have hOk := HO.out.front (m := k + 1) hl
            rw [← List.map_take] at hOk
            obtain ⟨zs, hzs⟩ : ∃ zs, es.take (k + 1) = zs := ⟨_, rfl⟩
            rw [hzs] at HR hOk
            have HOk := Lib.hid hOk
            have HZL : Hid (zs.length = k + 1) := by have := hOk.len; simpa [Hid] using this
            clear hz hxd hd0 hOk hzs HDk HVl HV' HO
            go_wp2
            go_loopg [6, 7] (k + 1) (fun g' vi vj wq => ∃ (pi pj : Nat) (ys : List Int), g' = k + 1 - pi ∧ pi + pj = k ∧ pi ≤ pj + 1 ∧ vi = .int .i64 (pi : Int) ∧ vj = .int .i64 (pj : Int) ∧ Hid (OwnS .u8 5 w.heap.size wq (some ⟨g, 0, none⟩) (k + 1) cd ys) ∧ Hid (RevAt (zs.map (48 + ·)) ys pi) ∧ Hid (Ext w wq))
            case atStart => exact ⟨0, k, _, rfl, by omega, by omega, rfl, by go_num, HOk, RevAt.zero _, HX⟩
            case round =>
              obtain ⟨pi, pj, ys, rfl, hij, hij', rfl, rfl, HOy, HRy, HXy⟩ := hrel
              by_cases hlt : pi < pj
              · obtain ⟨g1, x1, hg1, hx1, hwf1, hc1, hf1, hb1, hst1⟩ := HOy.out.store (j := pi) (by omega)
                obtain ⟨g2, y1, hg2, hy1, hwf2, hc2, hf2, hb2, _⟩ := HOy.out.store (j := pj) (by omega)
                injection hg1 with hg1
                injection hg1 with hg1
                injection hg2 with hg2
                injection hg2 with hg2
                subst hg1 hg2
                have hO1 := hst1.out y1 hwf2
                obtain ⟨g3, y3, hg3, hy3, hwf3, hc3, hf3, hb3, hst3⟩ := hO1.store (j := pj) (by omega)
                injection hg3 with hg3
                injection hg3 with hg3
                subst hg3
                have hy13 : y3 = y1 := by
                  rw [List.getElem?_set_ne (by omega), hy1] at hy3
                  injection hy3 with hy3
                  exact hy3.symm
                subst hy13
                have HO3 := Lib.hid (hst3.out x1 hwf1)
                have HR3 := Lib.hid (HRy.out.step (j := pj) (by simp [HZL.out]; omega) hlt hx1 hy1)
                have HC3 := Lib.hid hc3
                have HF3 := Lib.hid hf2
                have hi0 : (0 : Int) ≤ (pi : Int) := by omega
                have hj0 : (0 : Int) ≤ (pj : Int) := by omega
                have hi1 : (pi : Int) < ((k + 1 : Nat) : Int) := by omega
                have hj1 : (pj : Int) < ((k + 1 : Nat) : Int) := by omega
                have hltI : (pi : Int) < (pj : Int) := by omega
                clear hst1 hst3 hO1 hy3 hx1 hy1 hc3 hf3 hf2 hwf1 hwf2 hwf3 hb2 hb3 HRy
                go_wp2_with fail
                refine text_r17 g (k + 1) cd pi pj x1 y3 _ hc1 hc2 hf1 HF3 HC3 hi0 hj0 hi1 hj1 _ _ (by simp) rfl rfl rfl ?_
                rintro _ _ _ _ _ _ _ _ _ _ _ _ _ x13 _ x15 _ rfl rfl rfl rfl rfl rfl rfl rfl rfl rfl rfl rfl rfl _ rfl _ rfl
                simp only [rops, Try.f122, regOf, Option.bind_some, Nat.reduceBEq, if_true, if_false, Bool.false_eq_true, Option.getD_some, List.drop_succ_cons, List.drop_zero]
                simp only [Act.put, List.setIfInBounds_toArray, List.set_cons_succ, List.set_cons_zero]
                go_wp2
                go_roundg (k + 1 - (pi + 1))
                case rel => exact ⟨pi + 1, pj - 1, _, rfl, by omega, by omega, by go_num, by go_num, HO3.out.ext ((Ext.refl _).drew), HR3.out, ((HXy.out.setCell hb1 _).setCell hb1 _).drew⟩
                case measure => omega
              · have hltI : ¬ (pi : Int) < (pj : Int) := by omega
                have hys := HRy.out.done (by simp [HZL.out]; omega)
                have hstr := run_str (P := Try.prog) _ (c := cd) Try.underlying148 Try.underlying5 Try.underlying9 HOy.out.ints
                have HY := Lib.hid hys
                clear hys
                go_wp2
                go_ret
                exact ⟨ys, rfl, .inr ⟨by omega, zs, HR.out, HY.out⟩, HXy.out⟩
      · have hna : 0 < na := by
          rcases Nat.eq_zero_or_pos na with h | h
          · have h1 := hz2.1
            rw [h] at h1
            have := (Rep.pos (by omega) hz3).2 (List.eq_nil_of_length_eq_zero h1)
            omega
          · exact h
        have hlen := dec_len HN.out HD.out HV.out hm0
        rw [HL.out] at hlen
        have hfit := HN.out.le (dec_le HD.out HV.out)
        obtain ⟨q, r, hq, hr, hr0, hr1, hqr, hqm⟩ := word_split m
        have hqm := hqm hm0
        have HF := Lib.hid hfit
        clear hz2 hz3 hfit
        go_wp2_with fail
        refine (word_sep (.slice Aa na cq) m L 1000000000 _ HWm.out HF.out (by omega) (by omega) (by omega)).mono ?_
        rintro e w2 ⟨mq, cq2, rfl, hW2, hX2⟩
        rw [hq.out] at hW2
        rw [hr.out]
        have hS2 : Sep (.slice (some ⟨_, 0, none⟩) mq cq2) (Value.slice Ad nd cd).ownBlock := Sep.fresh (m := mq) (c := cq2) HO.out.own
        obtain ⟨bq, hbq⟩ : ∃ b, wr.heap.size = b := ⟨_, rfl⟩
        rw [hbq] at hS2 hW2 ⊢
        have HS2 := Lib.hid hS2
        have HW2 := Lib.hid hW2
        have HO2 := Lib.hid (HO.out.ext hX2)
        have HX2 := Lib.hid (HX.out.trans hX2)
        have HV2 : Hid (val 10 es + 10 ^ es.length * (r + 10 ^ 9 * (q : Int)) = n) := by have := HV.out; rw [hqr.out] at this; exact this
        clear hW2 hX2 hS2 hq hr hbq HWm HF HO HX HV hqr HSep
        go_wp2
        go_loopg [3, 5, 20] 9 (fun g vd rv iv wr => ∃ (k : Nat) (r : Int) (Ad : Option Addr) (nd' cd : Nat) (es' : List Int), k = g ∧ k ≤ 9 ∧ vd = .slice Ad nd' cd ∧ rv = .int .u32 r ∧ iv = .int .i64 (9 - (k : Int)) ∧ Hid (W32 wr (.slice (some ⟨bq, 0, none⟩) mq cq2) q) ∧ Hid (Sep (.slice (some ⟨bq, 0, none⟩) mq cq2) (Value.slice Ad nd' cd).ownBlock) ∧ Hid (OwnS .u8 5 w.heap.size wr Ad nd' cd (es'.map (48 + ·))) ∧ Hid (Dg 10 es') ∧ 0 ≤ r ∧ Hid (r < 10 ^ k) ∧ Hid (val 10 es' + 10 ^ es'.length * (r + 10 ^ k * (q : Int)) = n) ∧ nd' + k ≤ nd + 9 ∧ Hid (Ext w wr))
        case atStart => exact ⟨9, r, Ad, nd, cd, es, rfl, by omega, rfl, rfl, rfl, HW2.out, HS2.out, HO2.out, HD.out, hr0, by show r < 10 ^ 9; rw [show (10 : Int) ^ 9 = 1000000000 by decide]; exact hr1, HV2.out, by omega, HX2.out⟩
        case round =>
          obtain ⟨k, r, Ad, nd', cd, es', rfl, hk9, rfl, rfl, rfl, HW3, HS3, HO3, HD3, hr0, HR3, HV3, hnd, HX3⟩ := hrel
          have hr1 := ten_le hk9 HR3.out
          have HL3 : Hid (es'.length = nd') := by have := HO3.out.len; simpa [Hid] using this
          rcases Nat.eq_zero_or_pos k with hk0 | hk0
          · subst hk0
            rw [show ((9 : Int) - ((0 : Nat) : Int)) = 9 by omega]
            have HV4 : Hid (val 10 es' + 10 ^ es'.length * (q : Int) = n) := by
              have h1 := HR3.out
              have h2 := HV3.out
              rw [Int.pow_zero] at h1 h2
              rw [show r = 0 by omega, Int.zero_add, Int.one_mul] at h2
              exact h2
            go_wp2
            go_roundg q
            case rel => exact ⟨q, _, mq, cq2, Ad, nd', cd, es', rfl, rfl, rfl, HW3, HS3, HO3, HD3, HV4, HX3⟩
            case measure => omega
          · obtain ⟨i, rfl⟩ : ∃ i, k = i + 1 := ⟨k - 1, by omega⟩
            rw [show ((9 : Int) - ((i + 1 : Nat) : Int)) = 8 - (i : Int) by omega]
            have hi9 : (8 : Int) - (i : Int) < 9 := by omega
            obtain ⟨hD4, hr40, hr41, hV4⟩ := dec_step HD3.out hr0 HR3.out HV3.out
            have HD4 := Lib.hid hD4
            have HR4 := Lib.hid hr41
            have HV4 := Lib.hid hV4
            clear hD4 hr41 hV4
            go_wp2_with (at_builtin; refine wpList_app _ elB rfl _ _ rfl w.heap.size _ _ _ rfl (HO3.out.own.alloc _) _ 1 1 [.int .u8 (48 + r % 10)] rfl rfl (At.new _ [_] _) (by simp [Value.oneCell']) (by omega) (by unfold maxLen; omega) (by have := HX3.out.size; simp; omega) ?_; intro v1 w1 hown1 hgr1 hbl1)
            go_roundg i
            case rel =>
              obtain ⟨A1, c1, rfl⟩ := own_slice hown1
              obtain ⟨hW5, hS5⟩ := text_push HW3.out HS3.out hgr1 hbl1
              exact ⟨i, r / 10, A1, nd' + 1, c1, es' ++ [r % 10], rfl, by omega, rfl, rfl, by go_num, hW5, hS5, text_own HL3.out HD4.out hown1, HD4.out, hr40, HR4.out, HV4.out, by omega, HX3.out.push HO3.out.own hgr1⟩
            case measure => omega
end Go.Proofs.Yteoijnaljkagfaa
namespace Go.Proofs.Yteoijnaljkagfaa
open Go.RowKit

theorem NumV.open {w : World} {v : Value} {s : Bool} {n d : Nat} (h : NumV w v s n d) : ∃ A1 l1 c1 A2 l2 c2, v = .agg #[.bool s, .slice A1 l1 c1, .slice A2 l2 c2] ∧ W32 w (.slice A1 l1 c1) n ∧ W32 w (.slice A2 l2 c2) d ∧ (l1 = 0 ↔ n = 0) ∧ (l2 = 0 ↔ d = 0) := by
  obtain ⟨vn, vd, rfl, h1, h2⟩ := h
  obtain ⟨A1, l1, c1, rfl, g1, e1⟩ := h1.open
  obtain ⟨A2, l2, c2, rfl, g2, e2⟩ := h2.open
  exact ⟨A1, l1, c1, A2, l2, c2, rfl, g1, g2, e1, e2⟩

set_option maxHeartbeats 1000000 in
theorem neg_any (v : Value) (s : Bool) (n d : Nat) (w : World) (h : NumV w v s n d) :
    Calls Try.prog 86 #[v] w (RetR w (nz (!s) n) n d) := by
  obtain ⟨A1, l1, c1, A2, l2, c2, rfl, h1, h2, e1, _⟩ := h.open
  have H1 := Lib.hid h1
  have H2 := Lib.hid h2
  have E1 := Lib.hid e1
  clear h h1 h2 e1
  rcases (by rcases Bool.eq_false_or_eq_true s with h | h <;> rcases Nat.eq_zero_or_pos l1 with g | g <;> simp [h, g] : s = true ∨ (s = false ∧ l1 = 0) ∨ (s = false ∧ 0 < l1)) with hs | ⟨hs, hl⟩ | ⟨hs, hl⟩
  · subst hs
    rw [show nz (!true) n = false from nz_false n]
    go_enter Try.func86, Try.ntmps86
    go_wp2
    refine bodyPost_ret (v := .agg #[.bool false, .slice A1 l1 c1, .slice A2 l2 c2]) (by simp [results, Try.results86, go_sem]) rfl ?_
    exact ⟨_, rfl, ⟨_, _, rfl, H1.out.ext (((Ext.refl w).alloc _).alloc _), H2.out.ext (((Ext.refl w).alloc _).alloc _)⟩, ((Ext.refl w).alloc _).alloc _⟩
  · subst hs hl
    have hn := E1.out.1 rfl
    rw [show nz (!false) n = false by rw [hn]; exact nz_zero _]
    have HN := Lib.hid hn
    clear hn
    go_enter Try.func86, Try.ntmps86
    go_wp2
    refine bodyPost_ret (v := .agg #[.bool false, .slice A1 0 c1, .slice A2 l2 c2]) (by simp [results, Try.results86, go_sem]) rfl ?_
    exact ⟨_, rfl, ⟨_, _, rfl, H1.out.ext (((Ext.refl w).alloc _).alloc _), H2.out.ext (((Ext.refl w).alloc _).alloc _)⟩, ((Ext.refl w).alloc _).alloc _⟩
  · subst hs
    have hn : n ≠ 0 := fun h => by have := E1.out.2 h; omega
    rw [show nz (!false) n = true from nz_pos _ hn]
    clear hn
    go_enter Try.func86, Try.ntmps86
    go_wp2
    refine bodyPost_ret (v := .agg #[.bool true, .slice A1 l1 c1, .slice A2 l2 c2]) (by simp [results, Try.results86, go_sem]) rfl ?_
    exact ⟨_, rfl, ⟨_, _, rfl, H1.out.ext (((Ext.refl w).alloc _).alloc _), H2.out.ext (((Ext.refl w).alloc _).alloc _)⟩, ((Ext.refl w).alloc _).alloc _⟩

set_option maxRecDepth 100000 in
set_option maxHeartbeats 4000000 in
theorem reduced_any (v : Value) (s : Bool) (n d L : Nat) (w : World) (h : NumV w v s n d) (hd : 0 < d) (hn : Fit 4294967296 n L) (hdL : Fit 4294967296 d L) (hL : L ≤ 1099511627775) :
    Calls Try.prog 112 #[v] w (RetR w (nz s n) (n / Nat.gcd n d) (d / Nat.gcd n d)) := by
  obtain ⟨A1, l1, c1, A2, l2, c2, rfl, h1, h2, e1, _⟩ := h.open
  have H1 := Lib.hid h1
  have H2 := Lib.hid h2
  have E1 := Lib.hid e1
  clear h h1 h2 e1
  rcases Nat.eq_zero_or_pos l1 with hl | hl
  · subst hl
    have hn0 := E1.out.1 rfl
    have HS : Hid (nz s n = false ∧ n / Nat.gcd n d = 0 ∧ d / Nat.gcd n d = 1) := ⟨by rw [hn0]; exact nz_zero s, by rw [hn0]; simp, by rw [hn0, Nat.gcd_zero_left]; exact Nat.div_self hd⟩
    clear hn0
    go_enter Try.func112, Try.ntmps112
    go_wp2
    refine bodyPost_ret (v := .agg #[.bool false, .slice none 0 0, .slice (some ⟨w.heap.size + 1 + 1, 0, none⟩) 1 1]) (by simp [results, Try.results112, go_sem]) rfl ?_
    rw [HS.out.1, HS.out.2.1, HS.out.2.2]
    exact ⟨_, rfl, ⟨_, _, rfl, NatV.zero, W32.one' _ (by simp) rfl⟩, (((Ext.refl w).alloc _).alloc _).alloc _⟩
  · have hnp : 0 < n := by
      rcases Nat.eq_zero_or_pos n with h | h
      · have := E1.out.2 h; omega
      · exact h
    have hgp0 : 0 < Nat.gcd n d := Nat.gcd_pos_of_pos_left d hnp
    have HSN : Hid (nz s n = s) := nz_pos s (by omega)
    have hlb : ((l1 : Int) == 0) = false := by simp; omega
    go_enter Try.func112, Try.ntmps112
    go_wp2_with fail
    have hXw : Ext w ((w.alloc (.cells #[.bool s, .slice A1 l1 c1, .slice A2 l2 c2] 96)).alloc (.cells #[.bool false, .slice none 0 0, .slice none 0 0] 96)) := ((Ext.refl w).alloc _).alloc _
    have hBA : Blk ((w.alloc (.cells #[.bool s, .slice A1 l1 c1, .slice A2 l2 c2] 96)).alloc (.cells #[.bool false, .slice none 0 0, .slice none 0 0] 96)) w.heap.size 96 #[.bool s, .slice A1 l1 c1, .slice A2 l2 c2] := (Blk.new w _ _).alloc _
    have hBR : Blk ((w.alloc (.cells #[.bool s, .slice A1 l1 c1, .slice A2 l2 c2] 96)).alloc (.cells #[.bool false, .slice none 0 0, .slice none 0 0] 96)) (w.heap.size + 1) 96 #[.bool false, .slice none 0 0, .slice none 0 0] := by
      have := Blk.new (w.alloc (.cells #[.bool s, .slice A1 l1 c1, .slice A2 l2 c2] 96)) 96 #[.bool false, .slice none 0 0, .slice none 0 0]
      simpa using this
    generalize (w.alloc (.cells #[.bool s, .slice A1 l1 c1, .slice A2 l2 c2] 96)).alloc (.cells #[.bool false, .slice none 0 0, .slice none 0 0] 96) = w1 at hXw hBA hBR ⊢
    have HXw := Lib.hid hXw
    have HBA := Lib.hid hBA
    have HBR := Lib.hid hBR
    replace H1 := Lib.hid (H1.out.ext hXw)
    replace H2 := Lib.hid (H2.out.ext hXw)
    clear hXw hBA hBR
    refine (gcd_any _ _ n d L _ H1.out H2.out hn hdL hL).mono ?_
    rintro e w2 ⟨vg, rfl, hg, hX2⟩
    obtain ⟨g, hge⟩ : ∃ g, Nat.gcd n d = g := ⟨_, rfl⟩
    rw [hge] at hg hgp0
    have hgp := hgp0
    have HGE := Lib.hid hge
    obtain ⟨Ag, lg, cg, xs, rfl, hIg, hRg, hcg, hcgm⟩ := hg
    have hWg : W32 w2 (.slice Ag lg cg) g := ⟨Ag, lg, cg, xs, rfl, hIg, hRg, hcg, hcgm⟩
    obtain ⟨z0, z1, z2, _, _, _⟩ := (HBA.out.ext hX2).three
    have HX2 := Lib.hid hX2
    have HWg := Lib.hid hWg
    by_cases hg1 : g = 1
    · have hxs : xs = [1] := by rw [hg1] at hRg; exact hRg.unique (by omega) (Rep.one (by omega))
      subst hxs
      obtain rfl : lg = 1 := by simpa using hIg.1.symm
      obtain ⟨b, o, y, rfl, hy, _, hcy⟩ := hIg.get (j := 0) (by omega)
      obtain rfl : 1 = y := by simpa using hy
      rw [Nat.add_zero] at hcy
      obtain ⟨y0, y1, y2, f0, f1, f2⟩ := (HBR.out.ext hX2).three
      have HNB := Lib.hid (NoInts.three (HBR.out.ext hX2))
      have HG1 := Lib.hid hg1
      clear hge hIg hRg hWg hX2 hy hg1 hgp hgp0
      go_wp2
      refine bodyPost_ret (v := .agg #[.bool s, .slice A1 l1 c1, .slice A2 l2 c2]) (by simp [results, Try.results112, go_sem, *]) rfl ?_
      refine ⟨_, rfl, ⟨.slice A1 l1 c1, .slice A2 l2 c2, ?_, ?_, ?_⟩, Ext.boxed (HXw.out.trans HX2.out) (Nat.le_succ _) _ _ _⟩
      · rw [HSN.out]
      · rw [HGE.out, HG1.out, Nat.div_one]; exact (H1.out.ext HX2.out).boxed HNB.out _ _ _ _ _ _ _
      · rw [HGE.out, HG1.out, Nat.div_one]; exact (H2.out.ext HX2.out).boxed HNB.out _ _ _ _ _ _ _
    · rw [← hge] at hg1
      have hcase : (lg = 1 ∧ ∃ b o x, Ag = some ⟨b, o, none⟩ ∧ w2.cell? ⟨b, o, none⟩ = some (.int .u32 x) ∧ (x == 1) = false) ∨ ((lg : Int) == 1) = false := by
        by_cases hl1 : lg = 1
        · left
          refine ⟨hl1, ?_⟩
          subst hl1
          obtain ⟨x, rfl, hx, _, _⟩ := one_digit (by omega) hRg hIg.1
          obtain ⟨b, o, y, rfl, hy, _, hcy⟩ := hIg.get (j := 0) (by omega)
          obtain rfl : x = y := by simpa using hy
          rw [Nat.add_zero] at hcy
          refine ⟨b, o, x, rfl, hcy, ?_⟩
          simp only [beq_eq_false_iff_ne, ne_eq]
          intro h1
          apply hg1
          rw [hge]; omega
        · right; simp; omega
      clear hge hIg hRg hWg hX2 hg1 hgp0
      rcases hcase with ⟨rfl, b, o, x, rfl, hcx, hx1⟩ | hlg
      · 
        go_wp2_with fail
        refine (div_any _ _ n g L _ (H1.out.ext HX2.out) (HWg.out) hgp hn hL).mono ?_
        rintro e w3 ⟨q1, r1, rfl, hq1, _, hX3⟩
        obtain ⟨B1, m1, k1, rfl, hq1, _⟩ := hq1.open
        have hX3' := HX2.out.trans hX3
        obtain ⟨z0, z1, z2, _, _, _⟩ := (HBA.out.ext hX3').three
        have HQ1 := Lib.hid hq1
        have HX3 := Lib.hid hX3'
        have HG3 := Lib.hid (W32.ext HWg.out hX3)
        clear hq1 hX3 hX3'
        go_wp2_with fail
        refine (div_any _ _ d g L _ (H2.out.ext HX3.out) HG3.out hgp hdL hL).mono ?_
        rintro e w4 ⟨q2, r2, rfl, hq2, _, hX4⟩
        obtain ⟨B2, m2, k2, rfl, hq2, _⟩ := hq2.open
        have hX4' := HX3.out.trans hX4
        obtain ⟨z0, z1, z2, _, _, _⟩ := (HBA.out.ext hX4').three
        obtain ⟨y0, y1, y2, f0, f1, f2⟩ := (HBR.out.ext hX4').three
        have HQ1b := Lib.hid (HQ1.out.ext hX4)
        have HQ2 := Lib.hid hq2
        have HX4 := Lib.hid hX4'
        have HNB := Lib.hid (NoInts.three (HBR.out.ext hX4'))
        clear hq2 hX4 hX4'
        go_wp2
        refine bodyPost_ret (v := .agg #[.bool s, .slice B1 m1 k1, .slice B2 m2 k2]) (by simp [results, Try.results112, go_sem, *]) rfl ?_
        refine ⟨_, rfl, ⟨.slice B1 m1 k1, .slice B2 m2 k2, ?_, ?_, ?_⟩, Ext.boxed (HXw.out.trans HX4.out) (Nat.le_succ _) _ _ _⟩
        · rw [HSN.out]
        · rw [HGE.out]; exact HQ1b.out.boxed HNB.out _ _ _ _ _ _ _
        · rw [HGE.out]; exact HQ2.out.boxed HNB.out _ _ _ _ _ _ _
      · 
        go_wp2_with fail
        refine (div_any _ _ n g L _ (H1.out.ext HX2.out) (HWg.out) hgp hn hL).mono ?_
        rintro e w3 ⟨q1, r1, rfl, hq1, _, hX3⟩
        obtain ⟨B1, m1, k1, rfl, hq1, _⟩ := hq1.open
        have hX3' := HX2.out.trans hX3
        obtain ⟨z0, z1, z2, _, _, _⟩ := (HBA.out.ext hX3').three
        have HQ1 := Lib.hid hq1
        have HX3 := Lib.hid hX3'
        have HG3 := Lib.hid (W32.ext HWg.out hX3)
        clear hq1 hX3 hX3'
        go_wp2_with fail
        refine (div_any _ _ d g L _ (H2.out.ext HX3.out) HG3.out hgp hdL hL).mono ?_
        rintro e w4 ⟨q2, r2, rfl, hq2, _, hX4⟩
        obtain ⟨B2, m2, k2, rfl, hq2, _⟩ := hq2.open
        have hX4' := HX3.out.trans hX4
        obtain ⟨z0, z1, z2, _, _, _⟩ := (HBA.out.ext hX4').three
        obtain ⟨y0, y1, y2, f0, f1, f2⟩ := (HBR.out.ext hX4').three
        have HQ1b := Lib.hid (HQ1.out.ext hX4)
        have HQ2 := Lib.hid hq2
        have HX4 := Lib.hid hX4'
        have HNB := Lib.hid (NoInts.three (HBR.out.ext hX4'))
        clear hq2 hX4 hX4'
        go_wp2
        refine bodyPost_ret (v := .agg #[.bool s, .slice B1 m1 k1, .slice B2 m2 k2]) (by simp [results, Try.results112, go_sem, *]) rfl ?_
        refine ⟨_, rfl, ⟨.slice B1 m1 k1, .slice B2 m2 k2, ?_, ?_, ?_⟩, Ext.boxed (HXw.out.trans HX4.out) (Nat.le_succ _) _ _ _⟩
        · rw [HSN.out]
        · rw [HGE.out]; exact HQ1b.out.boxed HNB.out _ _ _ _ _ _ _
        · rw [HGE.out]; exact HQ2.out.boxed HNB.out _ _ _ _ _ _ _
end Go.Proofs.Yteoijnaljkagfaa
namespace Go.Proofs.Yteoijnaljkagfaa
open Go.RowKit

set_option maxRecDepth 100000 in
set_option maxHeartbeats 2000000 in
theorem rdiv_r1 (ga gb : Nat) (s t : Bool) (A1 A2 B1 B2 : Option Addr) (l1 c1 l2 c2 m1 k1 m2 k2 n d m e L M : Nat) (w : World) (a0 : w.cell? ⟨ga, 0, none⟩ = some (.bool s)) (a1 : w.cell? ⟨ga, 1, none⟩ = some (.slice A1 l1 c1)) (a2 : w.cell? ⟨ga, 2, none⟩ = some (.slice A2 l2 c2)) (b0 : w.cell? ⟨gb, 0, none⟩ = some (.bool t)) (b1 : w.cell? ⟨gb, 1, none⟩ = some (.slice B1 m1 k1)) (b2 : w.cell? ⟨gb, 2, none⟩ = some (.slice B2 m2 k2)) (h1 : W32 w (.slice A1 l1 c1) n) (h2 : W32 w (.slice A2 l2 c2) d) (h3 : W32 w (.slice B1 m1 k1) m) (h4 : W32 w (.slice B2 m2 k2) e) (f1 : Fit 4294967296 n L) (f2 : Fit 4294967296 d L) (f3 : Fit 4294967296 m M) (f4 : Fit 4294967296 e M) (hL : L ≤ 1099511627776) (hM : M ≤ 1099511627776) (a : Act) (Q : Exit → Act → World → Prop) (hsize : 21 ≤ a.tmps.size)
    (s2 : a.tmps[2]? = some (.pointer (some ⟨ga, 0, none⟩)))
    (s3 : a.tmps[3]? = some (.pointer (some ⟨gb, 0, none⟩)))
    (hend : ∀ (x0 x1 x2 x3 x4 x5 x6 x7 x8 x9 x10 x11 x12 x13 x14 x15 : Value) (W : World), (x0 = .pointer (some ⟨ga, 0, none⟩)) → (x1 = .bool s) → (x2 = .pointer (some ⟨gb, 0, none⟩)) → (x3 = .bool t) → (x4 = .bool (s != t)) → (x5 = .pointer (some ⟨ga, 1, none⟩)) → (x6 = .slice A1 l1 c1) → (x7 = .pointer (some ⟨gb, 2, none⟩)) → (x8 = .slice B2 m2 k2) → (W32 W x9 (n * e)) → (x10 = .pointer (some ⟨ga, 2, none⟩)) → (x11 = .slice A2 l2 c2) → (x12 = .pointer (some ⟨gb, 1, none⟩)) → (x13 = .slice B1 m1 k1) → (W32 W x14 (d * m)) → (NumV W x15 (s != t) (n * e) (d * m)) → Ext w W → wpList Try.prog (rops Try.f76 1).toArray Q ((rops Try.f76 1).drop 16) ((((((((((((((((a.put (some 5) x0).put (some 6) x1).put (some 7) x2).put (some 8) x3).put (some 9) x4).put (some 10) x5).put (some 11) x6).put (some 12) x7).put (some 13) x8).put (some 14) x9).put (some 15) x10).put (some 16) x11).put (some 17) x12).put (some 18) x13).put (some 19) x14).put (some 20) x15) W) :
    (Code.region 1 (rops Try.f76 1).toArray true).wp Try.prog Q a w := by
  have hmono : ∀ (W W' : World) (j : Nat) (u : Value), Ext W W' → (fun (i : Nat) (v : Value) (W : World) => match i with
    | 0 => v = .pointer (some ⟨ga, 0, none⟩)
    | 1 => v = .bool s
    | 2 => v = .pointer (some ⟨gb, 0, none⟩)
    | 3 => v = .bool t
    | 4 => v = .bool (s != t)
    | 5 => v = .pointer (some ⟨ga, 1, none⟩)
    | 6 => v = .slice A1 l1 c1
    | 7 => v = .pointer (some ⟨gb, 2, none⟩)
    | 8 => v = .slice B2 m2 k2
    | 9 => W32 W v (n * e)
    | 10 => v = .pointer (some ⟨ga, 2, none⟩)
    | 11 => v = .slice A2 l2 c2
    | 12 => v = .pointer (some ⟨gb, 1, none⟩)
    | 13 => v = .slice B1 m1 k1
    | 14 => W32 W v (d * m)
    | 15 => NumV W v (s != t) (n * e) (d * m)
    | _ => True) j u W → (fun (i : Nat) (v : Value) (W : World) => match i with
    | 0 => v = .pointer (some ⟨ga, 0, none⟩)
    | 1 => v = .bool s
    | 2 => v = .pointer (some ⟨gb, 0, none⟩)
    | 3 => v = .bool t
    | 4 => v = .bool (s != t)
    | 5 => v = .pointer (some ⟨ga, 1, none⟩)
    | 6 => v = .slice A1 l1 c1
    | 7 => v = .pointer (some ⟨gb, 2, none⟩)
    | 8 => v = .slice B2 m2 k2
    | 9 => W32 W v (n * e)
    | 10 => v = .pointer (some ⟨ga, 2, none⟩)
    | 11 => v = .slice A2 l2 c2
    | 12 => v = .pointer (some ⟨gb, 1, none⟩)
    | 13 => v = .slice B1 m1 k1
    | 14 => W32 W v (d * m)
    | 15 => NumV W v (s != t) (n * e) (d * m)
    | _ => True) j u W' := by
    intro W W' j u hX h
    match j, h with
    | 0, h => exact h
    | 1, h => exact h
    | 2, h => exact h
    | 3, h => exact h
    | 4, h => exact h
    | 5, h => exact h
    | 6, h => exact h
    | 7, h => exact h
    | 8, h => exact h
    | 9, h => exact W32.ext h hX
    | 10, h => exact h
    | 11, h => exact h
    | 12, h => exact h
    | 13, h => exact h
    | 14, h => exact W32.ext h hX
    | 15, h => exact NumV.ext h hX
    | _ + 16, h => exact h
  have hsz : ∀ d, some d ∈ ([some 5, some 6, some 7, some 8, some 9, some 10, some 11, some 12, some 13, some 14, some 15, some 16, some 17, some 18, some 19, some 20] : List (Option Tmp)) → d < a.tmps.size := slots_lt (by decide) hsize
  refine wp_region_j 16 [some 5, some 6, some 7, some 8, some 9, some 10, some 11, some 12, some 13, some 14, some 15, some 16, some 17, some 18, some 19, some 20] [[], [0], [], [2], [1, 3], [], [5], [], [7], [6, 8], [], [10], [], [12], [11, 13], [4, 9, 14]] [[], [], [], [], [], [], [], [], [], [], [], [], [], [], [], []] (fun (i : Nat) (v : Value) (W : World) => match i with
    | 0 => v = .pointer (some ⟨ga, 0, none⟩)
    | 1 => v = .bool s
    | 2 => v = .pointer (some ⟨gb, 0, none⟩)
    | 3 => v = .bool t
    | 4 => v = .bool (s != t)
    | 5 => v = .pointer (some ⟨ga, 1, none⟩)
    | 6 => v = .slice A1 l1 c1
    | 7 => v = .pointer (some ⟨gb, 2, none⟩)
    | 8 => v = .slice B2 m2 k2
    | 9 => W32 W v (n * e)
    | 10 => v = .pointer (some ⟨ga, 2, none⟩)
    | 11 => v = .slice A2 l2 c2
    | 12 => v = .pointer (some ⟨gb, 1, none⟩)
    | 13 => v = .slice B1 m1 k1
    | 14 => W32 W v (d * m)
    | 15 => NumV W v (s != t) (n * e) (d * m)
    | _ => True) (fun _ W => Ext w W) (by kernel_rfl) (by kernel_rfl) hsz (fun _ _ _ _ h => h) ((Ext.refl w).drew) ?_ ?_
  · clear hend
    simp only [rops, Try.f76, regOf, Option.bind_some, Nat.reduceBEq, if_true, if_false, Bool.false_eq_true, Option.getD_some]
    simp only [List.take_succ_cons, List.take_zero]
    refine ⟨?_, ?_, ?_, ?_, ?_, ?_, ?_, ?_, ?_, ?_, ?_, ?_, ?_, ?_, ?_, ?_, trivial⟩
    · intro done us W hJ hdep haft hnot b hb hb' K hK Q'
      have e2 := (hb' 2 (by simp)).trans s2
      clear hb hb'
      go_simp
      exact hK _ _ rfl (fun _ _ _ h => h) hJ
    · intro done us W hJ hdep haft hnot b hb hb' K hK Q'
      simp only [List.getD_cons_succ, List.getD_cons_zero, List.mem_cons, List.not_mem_nil, or_false, forall_eq] at hdep
      have e5 := hb 0 5 rfl
      have d0 := hdep
      rw [d0.1] at e5
      clear hb hb' hdep d0
      have q := Ext.cell hJ a0
      go_simp
      exact hK _ _ rfl (fun _ _ _ h => h) hJ
    · intro done us W hJ hdep haft hnot b hb hb' K hK Q'
      have e3 := (hb' 3 (by simp)).trans s3
      clear hb hb'
      go_simp
      exact hK _ _ rfl (fun _ _ _ h => h) hJ
    · intro done us W hJ hdep haft hnot b hb hb' K hK Q'
      simp only [List.getD_cons_succ, List.getD_cons_zero, List.mem_cons, List.not_mem_nil, or_false, forall_eq] at hdep
      have e7 := hb 2 7 rfl
      have d2 := hdep
      rw [d2.1] at e7
      clear hb hb' hdep d2
      have q := Ext.cell hJ b0
      go_simp
      exact hK _ _ rfl (fun _ _ _ h => h) hJ
    · intro done us W hJ hdep haft hnot b hb hb' K hK Q'
      simp only [List.getD_cons_succ, List.getD_cons_zero, List.mem_cons, List.not_mem_nil, or_false, forall_eq_or_imp, forall_eq] at hdep
      have e6 := hb 1 6 rfl
      have e8 := hb 3 8 rfl
      have d1 := hdep.1
      have d3 := hdep.2
      rw [d1.1] at e6
      rw [d3.1] at e8
      clear hb hb' hdep d1 d3
      go_simp
      exact hK _ _ rfl (fun _ _ _ h => h) hJ
    · intro done us W hJ hdep haft hnot b hb hb' K hK Q'
      have e2 := (hb' 2 (by simp)).trans s2
      clear hb hb'
      go_simp
      exact hK _ _ rfl (fun _ _ _ h => h) hJ
    · intro done us W hJ hdep haft hnot b hb hb' K hK Q'
      simp only [List.getD_cons_succ, List.getD_cons_zero, List.mem_cons, List.not_mem_nil, or_false, forall_eq] at hdep
      have e10 := hb 5 10 rfl
      have d5 := hdep
      rw [d5.1] at e10
      clear hb hb' hdep d5
      have q := Ext.cell hJ a1
      go_simp
      exact hK _ _ rfl (fun _ _ _ h => h) hJ
    · intro done us W hJ hdep haft hnot b hb hb' K hK Q'
      have e3 := (hb' 3 (by simp)).trans s3
      clear hb hb'
      go_simp
      exact hK _ _ rfl (fun _ _ _ h => h) hJ
    · intro done us W hJ hdep haft hnot b hb hb' K hK Q'
      simp only [List.getD_cons_succ, List.getD_cons_zero, List.mem_cons, List.not_mem_nil, or_false, forall_eq] at hdep
      have e12 := hb 7 12 rfl
      have d7 := hdep
      rw [d7.1] at e12
      clear hb hb' hdep d7
      have q := Ext.cell hJ b2
      go_simp
      exact hK _ _ rfl (fun _ _ _ h => h) hJ
    · intro done us W hJ hdep haft hnot b hb hb' K hK Q'
      simp only [List.getD_cons_succ, List.getD_cons_zero, List.mem_cons, List.not_mem_nil, or_false, forall_eq_or_imp, forall_eq] at hdep
      have e11 := hb 6 11 rfl
      have e13 := hb 8 13 rfl
      have d6 := hdep.1
      have d8 := hdep.2
      rw [d6.1] at e11
      rw [d8.1] at e13
      clear hb hb' hdep d6 d8
      go_simp
      refine (mul_any _ _ n e L M _ (W32.ext h1 hJ) (W32.ext h4 hJ) f1 f4 hL hM).mono ?_
      rintro e w' ⟨v, rfl, hv, hX⟩
      exact hK _ _ hv (fun j u _ h => hmono _ _ j u hX h) (Ext.trans hJ hX)
    · intro done us W hJ hdep haft hnot b hb hb' K hK Q'
      have e2 := (hb' 2 (by simp)).trans s2
      clear hb hb'
      go_simp
      exact hK _ _ rfl (fun _ _ _ h => h) hJ
    · intro done us W hJ hdep haft hnot b hb hb' K hK Q'
      simp only [List.getD_cons_succ, List.getD_cons_zero, List.mem_cons, List.not_mem_nil, or_false, forall_eq] at hdep
      have e15 := hb 10 15 rfl
      have d10 := hdep
      rw [d10.1] at e15
      clear hb hb' hdep d10
      have q := Ext.cell hJ a2
      go_simp
      exact hK _ _ rfl (fun _ _ _ h => h) hJ
    · intro done us W hJ hdep haft hnot b hb hb' K hK Q'
      have e3 := (hb' 3 (by simp)).trans s3
      clear hb hb'
      go_simp
      exact hK _ _ rfl (fun _ _ _ h => h) hJ
    · intro done us W hJ hdep haft hnot b hb hb' K hK Q'
      simp only [List.getD_cons_succ, List.getD_cons_zero, List.mem_cons, List.not_mem_nil, or_false, forall_eq] at hdep
      have e17 := hb 12 17 rfl
      have d12 := hdep
      rw [d12.1] at e17
      clear hb hb' hdep d12
      have q := Ext.cell hJ b1
      go_simp
      exact hK _ _ rfl (fun _ _ _ h => h) hJ
    · intro done us W hJ hdep haft hnot b hb hb' K hK Q'
      simp only [List.getD_cons_succ, List.getD_cons_zero, List.mem_cons, List.not_mem_nil, or_false, forall_eq_or_imp, forall_eq] at hdep
      have e16 := hb 11 16 rfl
      have e18 := hb 13 18 rfl
      have d11 := hdep.1
      have d13 := hdep.2
      rw [d11.1] at e16
      rw [d13.1] at e18
      clear hb hb' hdep d11 d13
      go_simp
      refine (mul_any _ _ d m L M _ (W32.ext h2 hJ) (W32.ext h3 hJ) f2 f3 hL hM).mono ?_
      rintro e w' ⟨v, rfl, hv, hX⟩
      exact hK _ _ hv (fun j u _ h => hmono _ _ j u hX h) (Ext.trans hJ hX)
    · intro done us W hJ hdep haft hnot b hb hb' K hK Q'
      simp only [List.getD_cons_succ, List.getD_cons_zero, List.mem_cons, List.not_mem_nil, or_false, forall_eq_or_imp, forall_eq] at hdep
      have e9 := hb 4 9 rfl
      have e14 := hb 9 14 rfl
      have e19 := hb 14 19 rfl
      have d4 := hdep.1
      have d9 := hdep.2.1
      have d14 := hdep.2.2
      rw [d4.1] at e9
      clear hb hb' hdep d4
      obtain ⟨P1, q1, r1, hv1, g1, _⟩ := W32.open d9.1
      obtain ⟨P2, q2, r2, hv2, g2, _⟩ := W32.open d14.1
      rw [hv1] at e14
      rw [hv2] at e19
      go_simp
      exact hK _ _ ⟨_, _, rfl, g1, g2⟩ (fun _ _ _ h => h) hJ
  · intro us W hV hJ
    exact hend (us 0) (us 1) (us 2) (us 3) (us 4) (us 5) (us 6) (us 7) (us 8) (us 9) (us 10) (us 11) (us 12) (us 13) (us 14) (us 15) W (hV 0 (by omega)) (hV 1 (by omega)) (hV 2 (by omega)) (hV 3 (by omega)) (hV 4 (by omega)) (hV 5 (by omega)) (hV 6 (by omega)) (hV 7 (by omega)) (hV 8 (by omega)) (hV 9 (by omega)) (hV 10 (by omega)) (hV 11 (by omega)) (hV 12 (by omega)) (hV 13 (by omega)) (hV 14 (by omega)) (hV 15 (by omega)) hJ

set_option maxRecDepth 100000 in
set_option maxHeartbeats 1000000 in
theorem rdiv_any (va vb : Value) (s t : Bool) (n d m e L M : Nat) (w : World) (ha : NumV w va s n d) (hb : NumV w vb t m e) (f1 : Fit 4294967296 n L) (f2 : Fit 4294967296 d L) (f3 : Fit 4294967296 m M) (f4 : Fit 4294967296 e M) (hL : L ≤ 1099511627776) (hM : M ≤ 1099511627776) :
    Calls Try.prog 76 #[va, vb] w (RetR w (s != t) (n * e) (d * m)) := by
  obtain ⟨A1, l1, c1, A2, l2, c2, rfl, h1, h2, _, _⟩ := ha.open
  obtain ⟨B1, m1, k1, B2, m2, k2, rfl, h3, h4, _, _⟩ := hb.open
  clear ha hb
  have H1 := Lib.hid h1
  have H2 := Lib.hid h2
  have H3 := Lib.hid h3
  have H4 := Lib.hid h4
  clear h1 h2 h3 h4
  go_enter Try.func76, Try.ntmps76
  go_wp2_with fail
  have hXw : Ext w (((w.alloc (.cells #[.bool s, .slice A1 l1 c1, .slice A2 l2 c2] 96)).alloc (.cells #[.bool t, .slice B1 m1 k1, .slice B2 m2 k2] 96)).alloc (.cells #[.bool false, .slice none 0 0, .slice none 0 0] 96)) := (((Ext.refl w).alloc _).alloc _).alloc _
  have hBA : Blk (((w.alloc (.cells #[.bool s, .slice A1 l1 c1, .slice A2 l2 c2] 96)).alloc (.cells #[.bool t, .slice B1 m1 k1, .slice B2 m2 k2] 96)).alloc (.cells #[.bool false, .slice none 0 0, .slice none 0 0] 96)) w.heap.size 96 #[.bool s, .slice A1 l1 c1, .slice A2 l2 c2] := ((Blk.new w _ _).alloc _).alloc _
  have hBB : Blk (((w.alloc (.cells #[.bool s, .slice A1 l1 c1, .slice A2 l2 c2] 96)).alloc (.cells #[.bool t, .slice B1 m1 k1, .slice B2 m2 k2] 96)).alloc (.cells #[.bool false, .slice none 0 0, .slice none 0 0] 96)) (w.heap.size + 1) 96 #[.bool t, .slice B1 m1 k1, .slice B2 m2 k2] := by
    have := (Blk.new (w.alloc (.cells #[.bool s, .slice A1 l1 c1, .slice A2 l2 c2] 96)) 96 #[.bool t, .slice B1 m1 k1, .slice B2 m2 k2]).alloc (.cells #[.bool false, .slice none 0 0, .slice none 0 0] 96)
    simpa using this
  have hBR : Blk (((w.alloc (.cells #[.bool s, .slice A1 l1 c1, .slice A2 l2 c2] 96)).alloc (.cells #[.bool t, .slice B1 m1 k1, .slice B2 m2 k2] 96)).alloc (.cells #[.bool false, .slice none 0 0, .slice none 0 0] 96)) (w.heap.size + 1 + 1) 96 #[.bool false, .slice none 0 0, .slice none 0 0] := by
    have := Blk.new ((w.alloc (.cells #[.bool s, .slice A1 l1 c1, .slice A2 l2 c2] 96)).alloc (.cells #[.bool t, .slice B1 m1 k1, .slice B2 m2 k2] 96)) 96 #[.bool false, .slice none 0 0, .slice none 0 0]
    simpa using this
  generalize ((w.alloc (.cells #[.bool s, .slice A1 l1 c1, .slice A2 l2 c2] 96)).alloc (.cells #[.bool t, .slice B1 m1 k1, .slice B2 m2 k2] 96)).alloc (.cells #[.bool false, .slice none 0 0, .slice none 0 0] 96) = w1 at hXw hBA hBB hBR ⊢
  obtain ⟨a0, a1, a2, _, _, _⟩ := hBA.three
  obtain ⟨b0, b1, b2, _, _, _⟩ := hBB.three
  have HXw := Lib.hid hXw
  have HBA := Lib.hid hBA
  have HBB := Lib.hid hBB
  have HBR := Lib.hid hBR
  replace H1 := Lib.hid (H1.out.ext hXw)
  replace H2 := Lib.hid (H2.out.ext hXw)
  replace H3 := Lib.hid (H3.out.ext hXw)
  replace H4 := Lib.hid (H4.out.ext hXw)
  clear hXw hBA hBB hBR
  refine rdiv_r1 w.heap.size (w.heap.size + 1) s t A1 A2 B1 B2 l1 c1 l2 c2 m1 k1 m2 k2 n d m e L M w1 a0 a1 a2 b0 b1 b2 H1.out H2.out H3.out H4.out f1 f2 f3 f4 hL hM _ _ (by simp) rfl rfl ?_
  rintro x0 x1 x2 x3 x4 x5 x6 x7 x8 x9 x10 x11 x12 x13 x14 x15 W rfl rfl rfl rfl rfl rfl rfl rfl rfl h9 rfl rfl rfl rfl h14 h15 hXW
  simp only [rops, Try.f76, regOf, Option.bind_some, Nat.reduceBEq, if_true, if_false, Bool.false_eq_true, Option.getD_some, List.drop_succ_cons, List.drop_zero]
  simp only [Act.put, List.setIfInBounds_toArray, List.set_cons_succ, List.set_cons_zero]
  obtain ⟨P1, q1, r1, P2, q2, r2, rfl, g1, g2, _, _⟩ := NumV.open h15
  clear h9 h14 h15
  obtain ⟨y0, y1, y2, f0, f1', f2'⟩ := (HBR.out.ext hXW).three
  have HNB := Lib.hid (NoInts.three (HBR.out.ext hXW))
  have G1 := Lib.hid g1
  have G2 := Lib.hid g2
  have HXW := Lib.hid hXW
  clear g1 g2 hXW a0 a1 a2 b0 b1 b2
  go_wp2
  refine bodyPost_ret (v := .agg #[.bool (s != t), .slice P1 q1 r1, .slice P2 q2 r2]) (by simp [results, Try.results76, go_sem, *]) rfl ?_
  exact ⟨_, rfl, ⟨_, _, rfl, G1.out.boxed HNB.out _ _ _ _ _ _ _, G2.out.boxed HNB.out _ _ _ _ _ _ _⟩, Ext.boxed (HXw.out.trans HXW.out) (by omega) _ _ _⟩

end Go.Proofs.Yteoijnaljkagfaa
namespace Go.Proofs.Yteoijnaljkagfaa
open Go.RowKit

/-- A value that is the rational number q, perhaps not in lowest terms, of at most L words above and below. -/
def NumX (w : World) (v : Value) (q : Rat) (L : Nat) : Prop := ∃ s n d, NumV w v s n d ∧ 0 < d ∧ ratV s n d = q ∧ Fit 4294967296 n L ∧ Fit 4294967296 d L
/-- The same in lowest terms. -/
def NumQ (w : World) (v : Value) (q : Rat) : Prop := NumV w v (decide (q.num < 0)) q.num.natAbs q.den
theorem NumX.ext {w w' : World} {v : Value} {q : Rat} {L : Nat} (h : NumX w v q L) (he : Ext w w') : NumX w' v q L := by
  obtain ⟨s, n, d, h1, h2⟩ := h
  exact ⟨s, n, d, h1.ext he, h2⟩
theorem NumQ.ext {w w' : World} {v : Value} {q : Rat} (h : NumQ w v q) (he : Ext w w') : NumQ w' v q := NumV.ext h he
theorem NumX.mono {w : World} {v : Value} {q : Rat} {L M : Nat} (h : NumX w v q L) (hl : L ≤ M) : NumX w v q M := by
  obtain ⟨s, n, d, h1, h2, h3, h4, h5⟩ := h
  exact ⟨s, n, d, h1, h2, h3, h4.mono (by omega) hl, h5.mono (by omega) hl⟩
theorem NumQ.numx {w : World} {v : Value} {q : Rat} {L : Nat} (h : NumQ w v q) (hf : FitQ q L) : NumX w v q L := ⟨_, _, _, h, q.den_pos, ratV_self q, hf.1, hf.2⟩
theorem NumX.fit {w : World} {v : Value} {q : Rat} {L : Nat} (h : NumX w v q L) : FitQ q L := by
  obtain ⟨s, n, d, _, h2, h3, h4, h5⟩ := h
  rw [← h3]; exact fit_red h2 h4 h5
theorem FitQ.mono {q : Rat} {L M : Nat} (h : FitQ q L) (hl : L ≤ M) : FitQ q M := ⟨h.1.mono (by omega) hl, h.2.mono (by omega) hl⟩

def RetX (w : World) (q : Rat) (L : Nat) (e : Ending) (w' : World) : Prop := ∃ v, e = .returned v ∧ NumX w' v q L ∧ Ext w w'
def RetQ2 (w : World) (q : Rat) (e : Ending) (w' : World) : Prop := ∃ v, e = .returned v ∧ NumQ w' v q ∧ Ext w w'

section
variable {va vb : Value} {a b : Rat} {L M : Nat} {w : World}
theorem intX (x : Int) (w : World) (h0 : -9223372036854775808 ≤ x) (h1 : x ≤ 9223372036854775807) : Calls Try.prog 75 #[.int .i64 x] w (RetX w (x : Rat) 2) := by
  refine (int_any x w h0 h1).mono ?_
  rintro e w' ⟨v, rfl, hv, hX⟩
  refine ⟨v, rfl, ⟨_, _, _, hv, by omega, ratV_int x, ?_, Fit.one (by omega) (by omega)⟩, hX⟩
  unfold Fit
  have : (4294967296 : Int) ^ 2 = 18446744073709551616 := by decide
  omega
theorem reducedX (h : NumX w va a L) (hL : L ≤ 1099511627775) : Calls Try.prog 112 #[va] w (RetQ2 w a) := by
  obtain ⟨s, n, d, h1, h2, h3, h4, h5⟩ := h
  refine (reduced_any va s n d L w h1 h2 h4 h5 hL).mono ?_
  rintro e w' ⟨v, rfl, hv, hX⟩
  refine ⟨v, rfl, ?_, hX⟩
  unfold NumQ
  rw [← h3, (ratV_neg s n d h2).1, (ratV_neg s n d h2).2, (ratV_red s n d h2).2]
  exact hv
theorem negX (h : NumX w va a L) : Calls Try.prog 86 #[va] w (RetX w (-a) L) := by
  obtain ⟨s, n, d, h1, h2, h3, h4, h5⟩ := h
  refine (neg_any va s n d w h1).mono ?_
  rintro e w' ⟨v, rfl, hv, hX⟩
  exact ⟨v, rfl, ⟨_, _, _, hv, h2, by rw [← ratV_opp, h3], h4, h5⟩, hX⟩
theorem divX (ha : NumX w va a L) (hb : NumX w vb b M) (hz : b ≠ 0) (hL : L ≤ 1099511627776) (hM : M ≤ 1099511627776) : Calls Try.prog 76 #[va, vb] w (RetX w (a / b) (L + M)) := by
  obtain ⟨s, n, d, h1, h2, h3, h4, h5⟩ := ha
  obtain ⟨t, m, e, g1, g2, g3, g4, g5⟩ := hb
  have hm : 0 < m := by
    rcases Nat.eq_zero_or_pos m with h | h
    · exfalso; apply hz; rw [← g3]; exact (ratV_zero t m e g2).2 h
    · exact h
  refine (rdiv_any va vb s t n d m e L M w h1 g1 h4 h5 g4 g5 hL hM).mono ?_
  rintro e' w' ⟨v, rfl, hv, hX⟩
  exact ⟨v, rfl, ⟨_, _, _, hv, Nat.mul_pos h2 hm, by rw [← ratV_div h2 hm, h3, g3], h4.mul (by omega) g5, h5.mul (by omega) g4⟩, hX⟩
end
theorem NumX.open {w : World} {v : Value} {q : Rat} {L : Nat} (h : NumX w v q L) : ∃ s A1 l1 c1 A2 l2 c2, v = .agg #[.bool s, .slice A1 l1 c1, .slice A2 l2 c2] := by
  obtain ⟨s, n, d, h1, _⟩ := h
  obtain ⟨A1, l1, c1, A2, l2, c2, hv, _⟩ := h1.open
  exact ⟨s, A1, l1, c1, A2, l2, c2, hv⟩
theorem NumX.boxed {w : World} {v : Value} {q : Rat} {L g : Nat} (h : NumX w v q L) (hg : NoInts w g) (b : Bool) (A1 A2 : Option Addr) (l1 c1 l2 c2 : Nat) :
    NumX (((w.setCell ⟨g, 0, none⟩ (.bool b)).setCell ⟨g, 1, none⟩ (.slice A1 l1 c1)).setCell ⟨g, 2, none⟩ (.slice A2 l2 c2)) v q L := by
  obtain ⟨s, n, d, ⟨vn, vd, hv, h1, h2⟩, h3⟩ := h
  exact ⟨s, n, d, ⟨vn, vd, hv, h1.boxed hg _ _ _ _ _ _ _, h2.boxed hg _ _ _ _ _ _ _⟩, h3⟩
theorem NumQ.boxed {w : World} {v : Value} {q : Rat} {g : Nat} (h : NumQ w v q) (hg : NoInts w g) (b : Bool) (A1 A2 : Option Addr) (l1 c1 l2 c2 : Nat) :
    NumQ (((w.setCell ⟨g, 0, none⟩ (.bool b)).setCell ⟨g, 1, none⟩ (.slice A1 l1 c1)).setCell ⟨g, 2, none⟩ (.slice A2 l2 c2)) v q := by
  obtain ⟨vn, vd, hv, h1, h2⟩ := h
  exact ⟨vn, vd, hv, h1.boxed hg _ _ _ _ _ _ _, h2.boxed hg _ _ _ _ _ _ _⟩

end Go.Proofs.Yteoijnaljkagfaa
namespace Go.Proofs.Yteoijnaljkagfaa
open Go.RowKit

theorem rat_le_div {x a d : Rat} (hd : 0 < d) : x ≤ a / d ↔ x * d ≤ a := by
  rw [← Rat.not_lt, Rat.div_lt_iff hd, Rat.not_lt]
theorem floor_mk (a : Int) (d : Nat) (hd : 0 < d) : (mkRat a d).floor = a / (d : Int) := by
  have hdz : (d : Rat) ≠ 0 := by intro h; have := (Rat.natCast_inj (a := d) (b := 0)).1 h; omega
  have key : ∀ x : Int, x ≤ (mkRat a d).floor ↔ x ≤ a / (d : Int) := by
    intro x
    rw [Rat.le_floor_iff, Int.le_ediv_iff_mul_le (by omega), Rat.mkRat_eq_div]
    have hdp : (0 : Rat) < (d : Rat) := by have := (Rat.natCast_lt_natCast (a := 0) (b := d)).2 hd; simpa using this
    rw [rat_le_div hdp]
    rw [← Rat.intCast_natCast, ← Rat.intCast_mul, Rat.intCast_le_intCast]
  have h1 := (key (mkRat a d).floor).1 (Int.le_refl _)
  have h2 := (key (a / (d : Int))).2 (Int.le_refl _)
  omega
/-- The absolute value of a number rounded down. -/
def flN (s : Bool) (n d : Nat) : Nat := if s = true ∧ n % d ≠ 0 then n / d + 1 else n / d
theorem floor_ratV (s : Bool) (n d : Nat) (hd : 0 < d) : (ratV s n d).floor = sgn s (flN s n d) := by
  unfold ratV
  rw [floor_mk _ _ hd]
  cases s
  · simp [sgn, flN]
  · have hm := Nat.div_add_mod n d
    have hl := Nat.mod_lt n hd
    by_cases h : n % d = 0
    · unfold sgn flN
      rw [if_pos rfl, if_pos rfl, if_neg (fun q => q.2 h)]
      rw [h, Nat.add_zero] at hm
      have : -(n : Int) = d * -((n / d : Nat) : Int) := by rw [← hm]; simp; grind
      rw [this, Int.mul_ediv_cancel_left _ (by omega)]
    · unfold sgn flN
      rw [if_pos rfl, if_pos rfl, if_pos ⟨rfl, h⟩]
      have e : -(n : Int) = ((d : Int) - (n % d : Nat)) + d * -((n / d : Nat) + 1 : Int) := by
        have : (n : Int) = d * (n / d : Nat) + (n % d : Nat) := by exact_mod_cast hm.symm
        rw [this]; grind
      rw [e, Int.add_mul_ediv_left _ _ (by omega), Int.ediv_eq_zero_of_lt (by omega) (by omega)]
      simp
theorem val_drop_le {B : Int} (hB : 1 ≤ B) {xs : List Int} (hd : Dg B xs) (k : Nat) : val B (xs.drop k) ≤ val B xs := by
  rcases Nat.lt_or_ge xs.length k with h | h
  · rw [List.drop_eq_nil_of_le (by omega)]; exact val_nonneg (by omega) hd
  · rw [val_split xs h]
    have h0 := val_nonneg (by omega) (hd.take k)
    have h1 := val_nonneg (by omega) (hd.drop k)
    have hp := pow_pos' (B := B) (by omega) k
    have : 1 * val B (xs.drop k) ≤ B ^ k * val B (xs.drop k) := Int.mul_le_mul_of_nonneg_right (by omega) h1
    omega
theorem ori64_add {x y : Int} (i : Nat) (hx : 0 ≤ x) (hy : 0 ≤ y ∧ y < 2 ^ i) (hd : x % 2 ^ i = 0) (hs : x + y < 9223372036854775808) : bits .or .i64 x y = x + y := by
  obtain ⟨a, rfl⟩ := Int.eq_ofNat_of_zero_le hx
  obtain ⟨b, rfl⟩ := Int.eq_ofNat_of_zero_le hy.1
  have e : ((2 ^ i : Nat) : Int) = 2 ^ i := by simp
  show IntKind.i64.wrap ((BitVec.ofInt 64 (a : Int) ||| BitVec.ofInt 64 (b : Int)).toNat : Int) = _
  have q : ∀ k : Nat, k < 9223372036854775808 → (BitVec.ofInt 64 (k : Int)).toNat = k := fun k hk => by
    rw [BitVec.ofInt_natCast, BitVec.toNat_ofNat]; exact Nat.mod_eq_of_lt (by omega)
  rw [BitVec.toNat_or, q _ (by omega), q _ (by omega), nat_join i a b (by rw [← e] at hd; omega) (by rw [← e] at hy; omega), IntWalk.i64_in _ (by omega)]
  omega


set_option maxRecDepth 100000 in
set_option maxHeartbeats 4000000 in
theorem floor_in (v : Value) (s : Bool) (n d L : Nat) (w : World) (h : NumV w v s n d) (hd : 0 < d) (fn : Fit 4294967296 n L) (hL : L ≤ 1099511627775) (hN : flN s n d ≤ 4611686018427387904) :
    Calls Try.prog 117 #[v] w fun e w' => e = .returned (.tuple #[.int .i64 (ratV s n d).floor, .bool true]) ∧ Ext w w' := by
  obtain ⟨A1, l1, c1, A2, l2, c2, rfl, h1, h2, _, _⟩ := h.open
  have H1 := Lib.hid (h1.ext ((Ext.refl w).alloc (.cells #[.bool s, .slice A1 l1 c1, .slice A2 l2 c2] 96)))
  have H2 := Lib.hid (h2.ext ((Ext.refl w).alloc (.cells #[.bool s, .slice A1 l1 c1, .slice A2 l2 c2] 96)))
  have HFL := Lib.hid (floor_ratV s n d hd)
  obtain ⟨N, hNe⟩ : ∃ N, flN s n d = N := ⟨_, rfl⟩
  rw [hNe] at HFL hN
  have HNe := Lib.hid hNe
  clear h h1 h2 hNe
  go_enter Try.func117, Try.ntmps117
  go_wp2_with fail
  refine (div_any _ _ n d L _ H1.out H2.out hd fn hL).mono ?_
  rintro e w2 ⟨vq, vr, rfl, hq, hr, hX2⟩
  obtain ⟨Q1, q2, q3, rfl, hq, _⟩ := W32.open hq
  obtain ⟨R1, r2, r3, rfl, hr, er⟩ := W32.open hr
  have HQ := Lib.hid hq
  have hB := (Blk.new w 96 #[.bool s, .slice A1 l1 c1, .slice A2 l2 c2]).ext hX2
  have HBA := Lib.hid hB
  obtain ⟨z0, z1, z2, _, _, _⟩ := hB.three
  have HX2 := Lib.hid (((Ext.refl w).alloc _).trans hX2)
  have ER := Lib.hid er
  clear hq hr hX2 er hB
  by_cases hcase : s = true ∧ 0 < r2
  · obtain ⟨rfl, hr0⟩ := hcase
    have hmod : n % d ≠ 0 := fun h => by have := ER.out.2 h; omega
    have HN1 : Hid (n / d + 1 = N) := by have := HNe.out; unfold flN at this; rw [if_pos ⟨rfl, hmod⟩] at this; exact this
    clear hmod
    go_wp2_with fail
    have hXo : Ext w2 (w2.alloc (.cells #[.int .u32 1] 79)) := (Ext.refl w2).alloc _
    refine (add_any _ _ (n / d) 1 (L + 1) _ (HQ.out.ext hXo) (W32.one w2 _) ((fn.le (Nat.div_le_self _ _)).mono (by omega) (by omega)) (Fit.one (by omega) (by omega)) (by omega)).mono ?_
    rintro e w3 ⟨vc, rfl, hc, hX3⟩
    rw [HN1.out] at hc
    obtain ⟨C1, u1, v1, rfl, hc, _⟩ := W32.open hc
    have HCW := Lib.hid hc
    have HXw := Lib.hid (HX2.out.trans (hXo.trans hX3))
    replace HBA := Lib.hid (HBA.out.ext (hXo.trans hX3))
    clear hc hX3 hXo z0 z1 z2
    go_wp2_with fail
    refine (natOf_any 4611686018427387904 _ (by omega) (by omega)).mono ?_
    rintro e w4 ⟨vz, rfl, hz, hX4⟩
    have HZ := Lib.hid hz
    have hB4 := HBA.out.ext hX4
    have HBA4 := Lib.hid hB4
    have HCW4 := Lib.hid (W32.ext HCW.out hX4)
    have HX4 := Lib.hid (HXw.out.trans hX4)
    clear hz hX4 hB4
    go_wp2_with fail
    refine (cmp_any _ _ N 4611686018427387904 _ HCW4.out HZ.out).mono ?_
    obtain ⟨cr, hcr, hcr0⟩ : ∃ cr, cmpI N 4611686018427387904 = cr ∧ cr ≤ 0 := ⟨_, rfl, by unfold cmpI; rw [if_neg (by omega : ¬ 4611686018427387904 < N)]; split <;> omega⟩
    rw [hcr]
    clear hcr
    rintro e w5 ⟨rfl, hX5⟩
    obtain ⟨z0, z1, z2, _, _, _⟩ := (HBA4.out.ext hX5).three
    have HC5 := Lib.hid (W32.ext HCW4.out hX5)
    have HX5 := Lib.hid (HX4.out.trans hX5)
    have hcrb : decide (0 < cr) = false := by simp; omega
    clear hX5
    obtain ⟨C1', u1', v1', xs, hve, hI, hR, hcv, hcm⟩ := HC5.out
    injection hve with h1 h2 h3
    subst h1 h2 h3
    have HI := Lib.hid hI
    have HR := Lib.hid hR
    have HL : Hid (xs.length = u1) := hI.1
    clear hI hR
    go_wp2_with fail
    go_loopg [6, 7] (u1 + 1) (fun g s6 s7 wr => ∃ (k : Nat) (m : Int), g = k + 1 ∧ k ≤ u1 ∧ s7 = .int .i64 ((k : Int) - 1) ∧ s6 = .int .i64 m ∧ 0 ≤ m ∧ m ≤ 4611686018427387904 ∧ Hid (m = val 4294967296 (xs.drop k)) ∧ w5 = wr)
    case atStart => exact ⟨u1, 0, rfl, Nat.le_refl _, rfl, rfl, by omega, by omega, by rw [List.drop_eq_nil_of_le (by rw [HL.out]; exact Nat.le_refl _)]; rfl, rfl⟩
    case round =>
      obtain ⟨k, m, rfl, hk, rfl, rfl, hm0, hm1, hmv, rfl⟩ := hrel
      rcases Nat.eq_zero_or_pos k with h0 | h0
      · subst h0
        rw [show (((0 : Nat) : Int) - 1) = -1 by omega]
        have hmN : Hid (m = (N : Int)) := by
          have := hmv.out
          rw [List.drop_zero, HR.out.2.2] at this
          exact this
        go_wp2
        go_ret2
        refine ⟨?_, HX5.out⟩
        rw [HFL.out, sgn_true, ← hmN.out]
        rfl
      · obtain ⟨i, rfl⟩ : ∃ i, k = i + 1 := ⟨k - 1, by omega⟩
        obtain ⟨b, o, x, rfl, hx, hwf, hc⟩ := HI.out.get (j := i) (by omega)
        obtain ⟨hx0, hx1⟩ := u32_bounds hwf
        have hvd := val_drop (B := 4294967296) hx
        rw [← hmv.out] at hvd
        have hle := val_drop_le (B := 4294967296) (by omega) HR.out.1 i
        rw [HR.out.2.2, hvd] at hle
        have hor : bits .or .i64 (m * 4294967296) x = m * 4294967296 + x := ori64_add 32 (by omega) (by omega) (by omega) (by omega)
        have HVD : Hid (m * 4294967296 + x = val 4294967296 (xs.drop i)) := by show _ = _; rw [hvd]; omega
        have hi1 : (((i + 1 : Nat) : Int) - 1) = (i : Int) := by omega
        have hi2 : (i : Int) < (u1 : Int) := by omega
        have hi0 : (0 : Int) ≤ (i : Int) := by omega
        have hs1 : 0 ≤ m * 4294967296 := by omega
        have hs2 : m * 4294967296 + x ≤ 4611686018427387904 := by omega
        rw [hi1]
        clear hx hwf hvd hle hi1
        go_wp2
        go_roundg (i + 1)
        case rel => exact ⟨i, _, rfl, by omega, by go_num, rfl, by omega, hs2, HVD.out, rfl⟩
        case measure => omega
  · have HN1 : Hid (n / d = N) := by
      have := HNe.out
      unfold flN at this
      rw [if_neg (fun h => hcase ⟨h.1, by rcases Nat.eq_zero_or_pos r2 with h2 | h2; exact absurd (ER.out.1 h2) h.2; exact h2⟩)] at this
      exact this
    have hcs : s = false ∨ (s = true ∧ r2 = 0) := by
      cases s
      · exact .inl rfl
      · exact .inr ⟨rfl, by rcases Nat.eq_zero_or_pos r2 with h | h; exact h; exact absurd ⟨rfl, h⟩ hcase⟩
    have hq := HQ.out
    rw [HN1.out] at hq
    have HCW := Lib.hid hq
    have HXw := Lib.hid HX2.out
    clear hq hcase HQ
    rcases hcs with rfl | ⟨rfl, rfl⟩
    ·
      go_wp2_with fail
      refine (natOf_any 4611686018427387904 _ (by omega) (by omega)).mono ?_
      rintro e w4 ⟨vz, rfl, hz, hX4⟩
      have HZ := Lib.hid hz
      have hB4 := HBA.out.ext hX4
      have HBA4 := Lib.hid hB4
      have HCW4 := Lib.hid (W32.ext HCW.out hX4)
      have HX4 := Lib.hid (HXw.out.trans hX4)
      clear hz hX4 hB4
      go_wp2_with fail
      refine (cmp_any _ _ N 4611686018427387904 _ HCW4.out HZ.out).mono ?_
      obtain ⟨cr, hcr, hcr0⟩ : ∃ cr, cmpI N 4611686018427387904 = cr ∧ cr ≤ 0 := ⟨_, rfl, by unfold cmpI; rw [if_neg (by omega : ¬ 4611686018427387904 < N)]; split <;> omega⟩
      rw [hcr]
      clear hcr
      rintro e w5 ⟨rfl, hX5⟩
      obtain ⟨z0, z1, z2, _, _, _⟩ := (HBA4.out.ext hX5).three
      have HC5 := Lib.hid (W32.ext HCW4.out hX5)
      have HX5 := Lib.hid (HX4.out.trans hX5)
      have hcrb : decide (0 < cr) = false := by simp; omega
      clear hX5
      obtain ⟨C1', q2', v1', xs, hve, hI, hR, hcv, hcm⟩ := HC5.out
      injection hve with h1 h2 h3
      subst h1 h2 h3
      have HI := Lib.hid hI
      have HR := Lib.hid hR
      have HL : Hid (xs.length = q2) := hI.1
      clear hI hR
      go_wp2_with fail
      go_loopg [6, 7] (q2 + 1) (fun g s6 s7 wr => ∃ (k : Nat) (m : Int), g = k + 1 ∧ k ≤ q2 ∧ s7 = .int .i64 ((k : Int) - 1) ∧ s6 = .int .i64 m ∧ 0 ≤ m ∧ m ≤ 4611686018427387904 ∧ Hid (m = val 4294967296 (xs.drop k)) ∧ w5 = wr)
      case atStart => exact ⟨q2, 0, rfl, Nat.le_refl _, rfl, rfl, by omega, by omega, by rw [List.drop_eq_nil_of_le (by rw [HL.out]; exact Nat.le_refl _)]; rfl, rfl⟩
      case round =>
        obtain ⟨k, m, rfl, hk, rfl, rfl, hm0, hm1, hmv, rfl⟩ := hrel
        rcases Nat.eq_zero_or_pos k with h0 | h0
        · subst h0
          rw [show (((0 : Nat) : Int) - 1) = -1 by omega]
          have hmN : Hid (m = (N : Int)) := by
            have := hmv.out
            rw [List.drop_zero, HR.out.2.2] at this
            exact this
          go_wp2
          go_ret2
          refine ⟨?_, HX5.out⟩
          rw [HFL.out, sgn_false, ← hmN.out]
          rfl
        · obtain ⟨i, rfl⟩ : ∃ i, k = i + 1 := ⟨k - 1, by omega⟩
          obtain ⟨b, o, x, rfl, hx, hwf, hc⟩ := HI.out.get (j := i) (by omega)
          obtain ⟨hx0, hx1⟩ := u32_bounds hwf
          have hvd := val_drop (B := 4294967296) hx
          rw [← hmv.out] at hvd
          have hle := val_drop_le (B := 4294967296) (by omega) HR.out.1 i
          rw [HR.out.2.2, hvd] at hle
          have hor : bits .or .i64 (m * 4294967296) x = m * 4294967296 + x := ori64_add 32 (by omega) (by omega) (by omega) (by omega)
          have HVD : Hid (m * 4294967296 + x = val 4294967296 (xs.drop i)) := by show _ = _; rw [hvd]; omega
          have hi1 : (((i + 1 : Nat) : Int) - 1) = (i : Int) := by omega
          have hi2 : (i : Int) < (q2 : Int) := by omega
          have hi0 : (0 : Int) ≤ (i : Int) := by omega
          have hs1 : 0 ≤ m * 4294967296 := by omega
          have hs2 : m * 4294967296 + x ≤ 4611686018427387904 := by omega
          rw [hi1]
          clear hx hwf hvd hle hi1
          go_wp2
          go_roundg (i + 1)
          case rel => exact ⟨i, _, rfl, by omega, by go_num, rfl, by omega, hs2, HVD.out, rfl⟩
          case measure => omega
    ·
      go_wp2_with fail
      refine (natOf_any 4611686018427387904 _ (by omega) (by omega)).mono ?_
      rintro e w4 ⟨vz, rfl, hz, hX4⟩
      have HZ := Lib.hid hz
      have hB4 := HBA.out.ext hX4
      have HBA4 := Lib.hid hB4
      have HCW4 := Lib.hid (W32.ext HCW.out hX4)
      have HX4 := Lib.hid (HXw.out.trans hX4)
      clear hz hX4 hB4
      go_wp2_with fail
      refine (cmp_any _ _ N 4611686018427387904 _ HCW4.out HZ.out).mono ?_
      obtain ⟨cr, hcr, hcr0⟩ : ∃ cr, cmpI N 4611686018427387904 = cr ∧ cr ≤ 0 := ⟨_, rfl, by unfold cmpI; rw [if_neg (by omega : ¬ 4611686018427387904 < N)]; split <;> omega⟩
      rw [hcr]
      clear hcr
      rintro e w5 ⟨rfl, hX5⟩
      obtain ⟨z0, z1, z2, _, _, _⟩ := (HBA4.out.ext hX5).three
      have HC5 := Lib.hid (W32.ext HCW4.out hX5)
      have HX5 := Lib.hid (HX4.out.trans hX5)
      have hcrb : decide (0 < cr) = false := by simp; omega
      clear hX5
      obtain ⟨C1', q2', v1', xs, hve, hI, hR, hcv, hcm⟩ := HC5.out
      injection hve with h1 h2 h3
      subst h1 h2 h3
      have HI := Lib.hid hI
      have HR := Lib.hid hR
      have HL : Hid (xs.length = q2) := hI.1
      clear hI hR
      go_wp2_with fail
      go_loopg [6, 7] (q2 + 1) (fun g s6 s7 wr => ∃ (k : Nat) (m : Int), g = k + 1 ∧ k ≤ q2 ∧ s7 = .int .i64 ((k : Int) - 1) ∧ s6 = .int .i64 m ∧ 0 ≤ m ∧ m ≤ 4611686018427387904 ∧ Hid (m = val 4294967296 (xs.drop k)) ∧ w5 = wr)
      case atStart => exact ⟨q2, 0, rfl, Nat.le_refl _, rfl, rfl, by omega, by omega, by rw [List.drop_eq_nil_of_le (by rw [HL.out]; exact Nat.le_refl _)]; rfl, rfl⟩
      case round =>
        obtain ⟨k, m, rfl, hk, rfl, rfl, hm0, hm1, hmv, rfl⟩ := hrel
        rcases Nat.eq_zero_or_pos k with h0 | h0
        · subst h0
          rw [show (((0 : Nat) : Int) - 1) = -1 by omega]
          have hmN : Hid (m = (N : Int)) := by
            have := hmv.out
            rw [List.drop_zero, HR.out.2.2] at this
            exact this
          go_wp2
          go_ret2
          refine ⟨?_, HX5.out⟩
          rw [HFL.out, sgn_true, ← hmN.out]
          rfl
        · obtain ⟨i, rfl⟩ : ∃ i, k = i + 1 := ⟨k - 1, by omega⟩
          obtain ⟨b, o, x, rfl, hx, hwf, hc⟩ := HI.out.get (j := i) (by omega)
          obtain ⟨hx0, hx1⟩ := u32_bounds hwf
          have hvd := val_drop (B := 4294967296) hx
          rw [← hmv.out] at hvd
          have hle := val_drop_le (B := 4294967296) (by omega) HR.out.1 i
          rw [HR.out.2.2, hvd] at hle
          have hor : bits .or .i64 (m * 4294967296) x = m * 4294967296 + x := ori64_add 32 (by omega) (by omega) (by omega) (by omega)
          have HVD : Hid (m * 4294967296 + x = val 4294967296 (xs.drop i)) := by show _ = _; rw [hvd]; omega
          have hi1 : (((i + 1 : Nat) : Int) - 1) = (i : Int) := by omega
          have hi2 : (i : Int) < (q2 : Int) := by omega
          have hi0 : (0 : Int) ≤ (i : Int) := by omega
          have hs1 : 0 ≤ m * 4294967296 := by omega
          have hs2 : m * 4294967296 + x ≤ 4611686018427387904 := by omega
          rw [hi1]
          clear hx hwf hvd hle hi1
          go_wp2
          go_roundg (i + 1)
          case rel => exact ⟨i, _, rfl, by omega, by go_num, rfl, by omega, hs2, HVD.out, rfl⟩
          case measure => omega
end Go.Proofs.Yteoijnaljkagfaa
namespace Go.Proofs.Yteoijnaljkagfaa
open Go.RowKit

/-- A value that is a number of the interface: a sign and two lists of words. -/
def RatV (w : World) (v : Value) (neg : Bool) (xs ys : List Int) : Prop :=
  ∃ A l c B m k, v = .agg #[.bool neg, .slice A l c, .slice B m k] ∧ Ints .u32 w A l xs ∧ l ≤ c ∧ c ≤ 9223372036854775807 ∧ Ints .u32 w B m ys ∧ m ≤ k ∧ k ≤ 9223372036854775807
theorem RatV.ext {w w' : World} {v : Value} {neg : Bool} {xs ys : List Int} (h : RatV w v neg xs ys) (he : Ext w w') : RatV w' v neg xs ys := by
  obtain ⟨A, l, c, B, m, k, h1, h2, h3, h4, h5, h6⟩ := h
  exact ⟨A, l, c, B, m, k, h1, h2.ext he, h3, h4, h5.ext he, h6⟩
/-- What the words denote. -/
def wN (xs : List Int) : Nat := (val 4294967296 xs).toNat
def wD (ys : List Int) : Nat := if wN ys = 0 then 1 else wN ys
def ratOf (neg : Bool) (xs ys : List Int) : Rat := ratV neg (wN xs) (wD ys)
theorem wD_pos (ys : List Int) : 0 < wD ys := by unfold wD; split <;> omega
theorem wN_val {w : World} {A : Option Addr} {l : Nat} {xs : List Int} (h : Ints .u32 w A l xs) : val 4294967296 xs = (wN xs : Int) := by
  have := val_nonneg (B := 4294967296) (by omega) (dg32 h); unfold wN; omega
theorem norm_len {w : World} {A : Option Addr} {l m : Nat} {xs : List Int} (h : Ints .u32 w A l xs) (hm : m ≤ l) (hN : Nm (xs.take m)) (hv : val 4294967296 (xs.take m) = val 4294967296 xs) (K : Nat) : m ≤ K ↔ Fit 4294967296 (wN xs) K := by
  have hr : Rep 4294967296 (xs.take m) (wN xs) := Rep.of_take (dg32 h) hv hN (wN_val h)
  have hl : (xs.take m).length = m := by rw [List.length_take, h.1]; omega
  constructor
  · intro hk
    have := hr.lt (by omega)
    rw [hl] at this
    have h2 := pow_le (B := 4294967296) (by omega) hk
    unfold Fit; omega
  · intro hf
    have := hf.len (by omega) hr
    omega
theorem norm_nil {w : World} {A : Option Addr} {l m : Nat} {xs : List Int} (h : Ints .u32 w A l xs) (hm : m ≤ l) (hN : Nm (xs.take m)) (hv : val 4294967296 (xs.take m) = val 4294967296 xs) : m = 0 ↔ wN xs = 0 := by
  have hr : Rep 4294967296 (xs.take m) (wN xs) := Rep.of_take (dg32 h) hv hN (wN_val h)
  have hl : (xs.take m).length = m := by rw [List.length_take, h.1]; omega
  rw [hr.pos (by omega), ← List.length_eq_zero_iff, hl]

set_option maxRecDepth 100000 in
set_option maxHeartbeats 2000000 in
theorem of_r4 (g : Nat) (neg : Bool) (A B : Option Addr) (l c m k : Nat) (xs : List Int) (D L : Nat) (w : World) (a0 : w.cell? ⟨g, 0, none⟩ = some (.bool neg)) (a1 : w.cell? ⟨g, 1, none⟩ = some (.slice A l c)) (hI : Ints .u32 w A l xs) (hlc : l ≤ c) (hcm : c ≤ 9223372036854775807) (hd : W32 w (.slice B m k) D) (hD : 0 < D) (fN : Fit 4294967296 (wN xs) L) (fD : Fit 4294967296 D L) (hL : L ≤ 1099511627775) (a : Act) (Q : Exit → Act → World → Prop) (hsize : 19 ≤ a.tmps.size)
    (s1 : a.tmps[1]? = some (.pointer (some ⟨g, 0, none⟩)))
    (s3 : a.tmps[3]? = some (.slice B m k))
    (hend : ∀ (xv0 xv1 xv2 xv3 xv4 xv5 xv6 xv7 : Value) (W : World), (xv0 = .pointer (some ⟨g, 0, none⟩)) → (xv1 = .bool neg) → (xv2 = .pointer (some ⟨g, 1, none⟩)) → (xv3 = .slice A l c) → (W32 W xv4 (wN xs)) → (xv5 = .slice B m k) → (NumV W xv6 neg (wN xs) D) → (NumQ W xv7 (ratV neg (wN xs) D)) → Ext w W → wpList Try.prog (rops Try.f85 4).toArray Q ((rops Try.f85 4).drop 8) ((((((((a.put (some 11) xv0).put (some 12) xv1).put (some 13) xv2).put (some 14) xv3).put (some 15) xv4).put (some 16) xv5).put (some 17) xv6).put (some 18) xv7) W) :
    (Code.region 4 (rops Try.f85 4).toArray true).wp Try.prog Q a w := by
  have hmono : ∀ (W W' : World) (j : Nat) (u : Value), Ext W W' → (fun (i : Nat) (v : Value) (W : World) => match i with
    | 0 => v = .pointer (some ⟨g, 0, none⟩)
    | 1 => v = .bool neg
    | 2 => v = .pointer (some ⟨g, 1, none⟩)
    | 3 => v = .slice A l c
    | 4 => W32 W v (wN xs)
    | 5 => v = .slice B m k
    | 6 => NumV W v neg (wN xs) D
    | 7 => NumQ W v (ratV neg (wN xs) D)
    | _ => True) j u W → (fun (i : Nat) (v : Value) (W : World) => match i with
    | 0 => v = .pointer (some ⟨g, 0, none⟩)
    | 1 => v = .bool neg
    | 2 => v = .pointer (some ⟨g, 1, none⟩)
    | 3 => v = .slice A l c
    | 4 => W32 W v (wN xs)
    | 5 => v = .slice B m k
    | 6 => NumV W v neg (wN xs) D
    | 7 => NumQ W v (ratV neg (wN xs) D)
    | _ => True) j u W' := by
    intro W W' j u hX h
    match j, h with
    | 0, h => exact h
    | 1, h => exact h
    | 2, h => exact h
    | 3, h => exact h
    | 4, h => exact W32.ext h hX
    | 5, h => exact h
    | 6, h => exact NumV.ext h hX
    | 7, h => exact NumQ.ext h hX
    | _ + 8, h => exact h
  have hsz : ∀ d, some d ∈ ([some 11, some 12, some 13, some 14, some 15, some 16, some 17, some 18] : List (Option Tmp)) → d < a.tmps.size := slots_lt (by decide) hsize
  refine wp_region_j 8 [some 11, some 12, some 13, some 14, some 15, some 16, some 17, some 18] [[], [0], [], [2], [3], [], [1, 4, 5], [6]] [[], [], [], [], [], [], [], []] (fun (i : Nat) (v : Value) (W : World) => match i with
    | 0 => v = .pointer (some ⟨g, 0, none⟩)
    | 1 => v = .bool neg
    | 2 => v = .pointer (some ⟨g, 1, none⟩)
    | 3 => v = .slice A l c
    | 4 => W32 W v (wN xs)
    | 5 => v = .slice B m k
    | 6 => NumV W v neg (wN xs) D
    | 7 => NumQ W v (ratV neg (wN xs) D)
    | _ => True) (fun _ W => Ext w W) (by kernel_rfl) (by kernel_rfl) hsz (fun _ _ _ _ h => h) ((Ext.refl w).drew) ?_ ?_
  · clear hend
    simp only [rops, Try.f85, regOf, Option.bind_some, Nat.reduceBEq, if_true, if_false, Bool.false_eq_true, Option.getD_some]
    simp only [List.take_succ_cons, List.take_zero]
    refine ⟨?_, ?_, ?_, ?_, ?_, ?_, ?_, ?_, trivial⟩
    · intro done us W hJ hdep haft hnot b hb hb' K hK Q'
      have e1 := (hb' 1 (by simp)).trans s1
      clear hb hb'
      go_simp
      exact hK _ _ rfl (fun _ _ _ h => h) hJ
    · intro done us W hJ hdep haft hnot b hb hb' K hK Q'
      simp only [List.getD_cons_succ, List.getD_cons_zero, List.mem_cons, List.not_mem_nil, or_false, forall_eq] at hdep
      have e11 := hb 0 11 rfl
      have d0 := hdep
      rw [d0.1] at e11
      clear hb hb' hdep d0
      have q := Ext.cell hJ a0
      go_simp
      exact hK _ _ rfl (fun _ _ _ h => h) hJ
    · intro done us W hJ hdep haft hnot b hb hb' K hK Q'
      have e1 := (hb' 1 (by simp)).trans s1
      clear hb hb'
      go_simp
      exact hK _ _ rfl (fun _ _ _ h => h) hJ
    · intro done us W hJ hdep haft hnot b hb hb' K hK Q'
      simp only [List.getD_cons_succ, List.getD_cons_zero, List.mem_cons, List.not_mem_nil, or_false, forall_eq] at hdep
      have e13 := hb 2 13 rfl
      have d2 := hdep
      rw [d2.1] at e13
      clear hb hb' hdep d2
      have q := Ext.cell hJ a1
      go_simp
      exact hK _ _ rfl (fun _ _ _ h => h) hJ
    · intro done us W hJ hdep haft hnot b hb hb' K hK Q'
      simp only [List.getD_cons_succ, List.getD_cons_zero, List.mem_cons, List.not_mem_nil, or_false, forall_eq] at hdep
      have e14 := hb 3 14 rfl
      have d3 := hdep
      rw [d3.1] at e14
      clear hb hb' hdep d3
      go_simp
      refine (norm_any A l c xs _ (Ints.ext hI hJ) hlc hcm).mono ?_
      rintro e w' ⟨q, hq, hN, hv, rfl, rfl⟩
      exact hK _ _ (RetNorm.natv (N := wN xs) (Ints.ext hI hJ) hq hN hv (wN_val hI) hlc hcm) (fun _ _ _ h => h) hJ
    · intro done us W hJ hdep haft hnot b hb hb' K hK Q'
      have e3 := (hb' 3 (by simp)).trans s3
      clear hb hb'
      go_simp
      exact hK _ _ rfl (fun _ _ _ h => h) hJ
    · intro done us W hJ hdep haft hnot b hb hb' K hK Q'
      simp only [List.getD_cons_succ, List.getD_cons_zero, List.mem_cons, List.not_mem_nil, or_false, forall_eq_or_imp, forall_eq] at hdep
      have e12 := hb 1 12 rfl
      have e15 := hb 4 15 rfl
      have e16 := hb 5 16 rfl
      have d1 := hdep.1
      have d4 := hdep.2.1
      have d5 := hdep.2.2
      rw [d1.1] at e12
      rw [d5.1] at e16
      clear hb hb' hdep d1 d5
      obtain ⟨P1, q1, r1, hv1, g1, _⟩ := W32.open d4.1
      rw [hv1] at e15
      go_simp
      exact hK _ _ ⟨_, _, rfl, g1, W32.ext hd hJ⟩ (fun _ _ _ h => h) hJ
    · intro done us W hJ hdep haft hnot b hb hb' K hK Q'
      simp only [List.getD_cons_succ, List.getD_cons_zero, List.mem_cons, List.not_mem_nil, or_false, forall_eq] at hdep
      have e17 := hb 6 17 rfl
      have d6 := hdep
      clear hb hb' hdep 
      go_simp
      refine (reducedX ⟨_, _, _, d6.1, hD, rfl, fN, fD⟩ hL).mono ?_
      rintro e w' ⟨v, rfl, hv, hX⟩
      exact hK _ _ hv (fun j u _ h => hmono _ _ j u hX h) (Ext.trans hJ hX)
  · intro us W hV hJ
    exact hend (us 0) (us 1) (us 2) (us 3) (us 4) (us 5) (us 6) (us 7) W (hV 0 (by omega)) (hV 1 (by omega)) (hV 2 (by omega)) (hV 3 (by omega)) (hV 4 (by omega)) (hV 5 (by omega)) (hV 6 (by omega)) (hV 7 (by omega)) hJ

set_option maxRecDepth 100000 in
set_option maxHeartbeats 2000000 in
theorem of_any (v : Value) (neg : Bool) (xs ys : List Int) (L : Nat) (w : World) (h : RatV w v neg xs ys) (fN : Fit 4294967296 (wN xs) L) (fD : Fit 4294967296 (wD ys) L) (hL : L ≤ 1099511627775) :
    Calls Try.prog 85 #[v] w (RetQ2 w (ratOf neg xs ys)) := by
  obtain ⟨A, l, c, B, m, k, rfl, hA, hlc, hcm, hB, hmk, hkm⟩ := h
  have hXw : Ext w ((w.alloc (.cells #[.bool neg, .slice A l c, .slice B m k] 33)).alloc (.cells #[.bool false, .slice none 0 0, .slice none 0 0] 96)) := ((Ext.refl w).alloc _).alloc _
  have hBA : Blk ((w.alloc (.cells #[.bool neg, .slice A l c, .slice B m k] 33)).alloc (.cells #[.bool false, .slice none 0 0, .slice none 0 0] 96)) w.heap.size 33 #[.bool neg, .slice A l c, .slice B m k] := (Blk.new w _ _).alloc _
  have hBR : Blk ((w.alloc (.cells #[.bool neg, .slice A l c, .slice B m k] 33)).alloc (.cells #[.bool false, .slice none 0 0, .slice none 0 0] 96)) (w.heap.size + 1) 96 #[.bool false, .slice none 0 0, .slice none 0 0] := by
    have := Blk.new (w.alloc (.cells #[.bool neg, .slice A l c, .slice B m k] 33)) 96 #[.bool false, .slice none 0 0, .slice none 0 0]
    simpa using this
  have HQE : Hid (ratOf neg xs ys = ratV neg (wN xs) (wD ys)) := rfl
  have HIA := Lib.hid (hA.ext hXw)
  have HIB := Lib.hid (hB.ext hXw)
  clear hA hB
  go_enter Try.func85, Try.ntmps85
  go_wp2_with fail
  generalize (w.alloc (.cells #[.bool neg, .slice A l c, .slice B m k] 33)).alloc (.cells #[.bool false, .slice none 0 0, .slice none 0 0] 96) = w1 at hXw hBA hBR HIA HIB ⊢
  have HXw := Lib.hid hXw
  have HBA := Lib.hid hBA
  have HBR := Lib.hid hBR
  obtain ⟨a0, a1, a2, _, _, _⟩ := hBA.three
  clear hXw hBA hBR
  refine (norm_any B m k ys _ HIB.out hmk hkm).mono ?_
  rintro e w' ⟨q, hq, hN, hv, rfl, rfl⟩
  have hnil := norm_nil HIB.out hq hN hv
  have hWB := RetNorm.natv (N := wN ys) (c := k) HIB.out hq hN hv (wN_val HIB.out) hmk hkm
  by_cases hz : wN ys = 0
  · obtain rfl : q = 0 := hnil.2 hz
    have HD1 : Hid (wD ys = 1) := by show _ = _; unfold wD; rw [if_pos hz]
    have HDP : Hid (0 < 1) := Nat.one_pos
    rw [HD1.out] at fD HQE
    clear hnil hWB hz hN hv hq
    go_wp2_with fail
    have hXo : Ext w1 (w1.alloc (.cells #[.int .u32 1] 79)) := (Ext.refl w1).alloc _
    have hD : W32 (w1.alloc (.cells #[.int .u32 1] 79)) (.slice (some ⟨w1.heap.size, 0, none⟩) 1 1) 1 := W32.one w1 _
    replace HIA := Lib.hid (HIA.out.ext hXo)
    replace HBA := Lib.hid (HBA.out.ext hXo)
    replace HBR := Lib.hid (HBR.out.ext hXo)
    replace HXw := Lib.hid (HXw.out.trans hXo)
    obtain ⟨N1, hN1⟩ : ∃ N1, N1 = w1.heap.size := ⟨_, rfl⟩
    rw [← hN1] at hD ⊢
    generalize w1.alloc (.cells #[.int .u32 1] 79) = w2 at *
    obtain ⟨a0, a1, a2, _, _, _⟩ := HBA.out.three
    have HD := Lib.hid hD
    clear hD hXo hN1
    refine of_r4 w.heap.size neg A (some ⟨N1, 0, none⟩) l c 1 1 xs _ L w2 a0 a1 HIA.out hlc hcm HD.out HDP.out fN fD hL _ _ (by simp) rfl rfl ?_
    rintro xv0 xv1 xv2 xv3 xv4 xv5 xv6 xv7 W rfl rfl rfl rfl h4 rfl h6 h7 hXW
    simp only [rops, Try.f85, regOf, Option.bind_some, Nat.reduceBEq, if_true, if_false, Bool.false_eq_true, Option.getD_some, List.drop_succ_cons, List.drop_zero]
    simp only [Act.put, List.setIfInBounds_toArray, List.set_cons_succ, List.set_cons_zero]
    obtain ⟨P1, q1, r1, P2, q2, r2, rfl, g1, g2, _, _⟩ := NumV.open h7
    obtain ⟨y0, y1, y2, f0, f1', f2'⟩ := (HBR.out.ext hXW).three
    have HNB := Lib.hid (NoInts.three (HBR.out.ext hXW))
    have G7 := Lib.hid h7
    have HXW := Lib.hid hXW
    clear h4 h6 h7 hXW a0 a1 a2 g1 g2
    go_wp2
    refine bodyPost_ret (v := .agg #[.bool _, .slice P1 q1 r1, .slice P2 q2 r2]) (by simp [results, Try.results85, go_sem, *]; rfl) rfl ?_
    rw [HQE.out]
    exact ⟨_, rfl, NumQ.boxed G7.out HNB.out _ _ _ _ _ _ _, Ext.boxed (HXw.out.trans HXW.out) (by omega) _ _ _⟩
  · have hq0 : ((q : Int) == 0) = false := by
      have : q ≠ 0 := fun h => hz (hnil.1 h)
      simp; omega
    have HD1 : Hid (wD ys = wN ys) := by show _ = _; unfold wD; rw [if_neg hz]
    have HDP : Hid (0 < wN ys) := by show 0 < wN ys; omega
    rw [HD1.out] at fD HQE
    have HD := Lib.hid hWB
    clear hnil hWB hz hN hv
    go_wp2_with fail
    refine of_r4 w.heap.size neg A B l c q k xs _ L w1 a0 a1 HIA.out hlc hcm HD.out HDP.out fN fD hL _ _ (by simp) rfl rfl ?_
    rintro xv0 xv1 xv2 xv3 xv4 xv5 xv6 xv7 W rfl rfl rfl rfl h4 rfl h6 h7 hXW
    simp only [rops, Try.f85, regOf, Option.bind_some, Nat.reduceBEq, if_true, if_false, Bool.false_eq_true, Option.getD_some, List.drop_succ_cons, List.drop_zero]
    simp only [Act.put, List.setIfInBounds_toArray, List.set_cons_succ, List.set_cons_zero]
    obtain ⟨P1, q1, r1, P2, q2, r2, rfl, g1, g2, _, _⟩ := NumV.open h7
    obtain ⟨y0, y1, y2, f0, f1', f2'⟩ := (HBR.out.ext hXW).three
    have HNB := Lib.hid (NoInts.three (HBR.out.ext hXW))
    have G7 := Lib.hid h7
    have HXW := Lib.hid hXW
    clear h4 h6 h7 hXW a0 a1 a2 g1 g2
    go_wp2
    refine bodyPost_ret (v := .agg #[.bool _, .slice P1 q1 r1, .slice P2 q2 r2]) (by simp [results, Try.results85, go_sem, *]; rfl) rfl ?_
    rw [HQE.out]
    exact ⟨_, rfl, NumQ.boxed G7.out HNB.out _ _ _ _ _ _ _, Ext.boxed (HXw.out.trans HXW.out) (by omega) _ _ _⟩
/-- At most as many words as the interface lets. -/
structure FitW (n : Nat) : Prop where
  fit : Fit 4294967296 n 256
theorem fitW {n m : Nat} (h : m ≤ 256 ↔ Fit 4294967296 n 256) : m ≤ 256 ↔ FitW n := h.trans ⟨fun h => ⟨h⟩, fun h => h.fit⟩


set_option maxRecDepth 100000 in
set_option maxHeartbeats 1000000 in
theorem large_no (v : Value) (neg : Bool) (xs ys : List Int) (w : World) (h : RatV w v neg xs ys) (f1 : FitW (wN xs)) (f2 : FitW (wN ys)) :
    Calls Try.prog 116 #[v] w fun e w' => e = .returned (.bool false) ∧ Ext w w' := by
  obtain ⟨A, l, c, B, m, k, rfl, hA, hlc, hcm, hB, hmk, hkm⟩ := h
  have hXw : Ext w (w.alloc (.cells #[.bool neg, .slice A l c, .slice B m k] 33)) := (Ext.refl w).alloc _
  have HIA := Lib.hid (hA.ext hXw)
  have HIB := Lib.hid (hB.ext hXw)
  have HXw := Lib.hid hXw
  have HF1 := Lib.hid f1
  clear hA hB hXw f1
  have HF2 := Lib.hid f2
  clear f2
  go_enter Try.func116, Try.ntmps116
  go_wp2_with fail
  refine (norm_any A l c xs _ HIA.out hlc hcm).mono ?_
  rintro e w' ⟨q, hq, hN, hv, rfl, rfl⟩
  have hlen : q ≤ 256 ↔ FitW (wN xs) := fitW (norm_len HIA.out hq hN hv 256)
  have hq1 : q ≤ 256 := hlen.2 HF1.out
  clear hlen hN hv
  go_wp2_with fail
  refine (norm_any B m k ys _ HIB.out hmk hkm).mono ?_
  rintro e w' ⟨q2, hq2, hN, hv, rfl, rfl⟩
  have hlen : q2 ≤ 256 ↔ FitW (wN ys) := fitW (norm_len HIB.out hq2 hN hv 256)
  have hq3 : q2 ≤ 256 := hlen.2 HF2.out
  clear hlen hN hv
  go_wp2
  go_ret
  exact ⟨by first | rfl | (simp; done) | (simp; omega), HXw.out⟩


set_option maxRecDepth 100000 in
set_option maxHeartbeats 1000000 in
theorem large_num (v : Value) (neg : Bool) (xs ys : List Int) (w : World) (h : RatV w v neg xs ys) (f1 : ¬ FitW (wN xs)) :
    Calls Try.prog 116 #[v] w fun e w' => e = .returned (.bool true) ∧ Ext w w' := by
  obtain ⟨A, l, c, B, m, k, rfl, hA, hlc, hcm, hB, hmk, hkm⟩ := h
  have hXw : Ext w (w.alloc (.cells #[.bool neg, .slice A l c, .slice B m k] 33)) := (Ext.refl w).alloc _
  have HIA := Lib.hid (hA.ext hXw)
  have HIB := Lib.hid (hB.ext hXw)
  have HXw := Lib.hid hXw
  have HF1 := Lib.hid f1
  clear hA hB hXw f1

  go_enter Try.func116, Try.ntmps116
  go_wp2_with fail
  refine (norm_any A l c xs _ HIA.out hlc hcm).mono ?_
  rintro e w' ⟨q, hq, hN, hv, rfl, rfl⟩
  have hlen : q ≤ 256 ↔ FitW (wN xs) := fitW (norm_len HIA.out hq hN hv 256)
  have hq1 : 256 < q := by
    rcases Nat.lt_or_ge 256 q with h | h
    · exact h
    · exact absurd (hlen.1 h) HF1.out
  clear hlen hN hv
  go_wp2
  go_ret
  exact ⟨by first | rfl | (simp; done) | (simp; omega), HXw.out⟩


set_option maxRecDepth 100000 in
set_option maxHeartbeats 1000000 in
theorem large_den (v : Value) (neg : Bool) (xs ys : List Int) (w : World) (h : RatV w v neg xs ys) (f1 : FitW (wN xs)) (f2 : ¬ FitW (wN ys)) :
    Calls Try.prog 116 #[v] w fun e w' => e = .returned (.bool true) ∧ Ext w w' := by
  obtain ⟨A, l, c, B, m, k, rfl, hA, hlc, hcm, hB, hmk, hkm⟩ := h
  have hXw : Ext w (w.alloc (.cells #[.bool neg, .slice A l c, .slice B m k] 33)) := (Ext.refl w).alloc _
  have HIA := Lib.hid (hA.ext hXw)
  have HIB := Lib.hid (hB.ext hXw)
  have HXw := Lib.hid hXw
  have HF1 := Lib.hid f1
  clear hA hB hXw f1
  have HF2 := Lib.hid f2
  clear f2
  go_enter Try.func116, Try.ntmps116
  go_wp2_with fail
  refine (norm_any A l c xs _ HIA.out hlc hcm).mono ?_
  rintro e w' ⟨q, hq, hN, hv, rfl, rfl⟩
  have hlen : q ≤ 256 ↔ FitW (wN xs) := fitW (norm_len HIA.out hq hN hv 256)
  have hq1 : q ≤ 256 := hlen.2 HF1.out
  clear hlen hN hv
  go_wp2_with fail
  refine (norm_any B m k ys _ HIB.out hmk hkm).mono ?_
  rintro e w' ⟨q2, hq2, hN, hv, rfl, rfl⟩
  have hlen : q2 ≤ 256 ↔ FitW (wN ys) := fitW (norm_len HIB.out hq2 hN hv 256)
  have hq3 : 256 < q2 := by
    rcases Nat.lt_or_ge 256 q2 with h | h
    · exact h
    · exact absurd (hlen.1 h) HF2.out
  clear hlen hN hv
  go_wp2
  go_ret
  exact ⟨by first | rfl | (simp; done) | (simp; omega), HXw.out⟩


/-- Both lists are not too long. -/
def SmallR (xs ys : List Int) : Prop := FitW (wN xs) ∧ FitW (wN ys)
theorem large_yes (v : Value) (neg : Bool) (xs ys : List Int) (w : World) (h : RatV w v neg xs ys) (hs : ¬ SmallR xs ys) :
    Calls Try.prog 116 #[v] w fun e w' => e = .returned (.bool true) ∧ Ext w w' := by
  by_cases h1 : FitW (wN xs)
  · exact large_den v neg xs ys w h h1 fun h2 => hs ⟨h1, h2⟩
  · exact large_num v neg xs ys w h h1
theorem SmallR.den {xs ys : List Int} (h : SmallR xs ys) : FitW (wD ys) := by
  unfold wD
  split
  · exact ⟨Fit.one (by omega) (by omega)⟩
  · exact h.2
end Go.Proofs.Yteoijnaljkagfaa
