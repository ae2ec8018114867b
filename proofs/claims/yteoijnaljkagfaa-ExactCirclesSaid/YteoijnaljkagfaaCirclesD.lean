/- Lemmas of the proof that follows (Circles, part 4): walks of functions by contract, and plain lemmas. Conditions: none. -/
import Derived.Test.YteoijnaljkagfaaCirclesC
namespace Go.Proofs.Yteoijnaljkagfaa
open Go.RowKit
set_option maxRecDepth 100000 in
set_option maxHeartbeats 2000000 in
theorem text_r17 (g l c pi pj : Nat) (x y : Int) (w : World) (hci : w.cell? ⟨g, pi, none⟩ = some (.int .u8 x)) (hcj : w.cell? ⟨g, pj, none⟩ = some (.int .u8 y)) (hfi : w.frozen? ⟨g, pi, none⟩ = false) (hf15 : Hid (w.frozen? ⟨g, pj, none⟩ = false)) (hc15 : Hid ((w.setCell ⟨g, pi, none⟩ (.int .u8 y)).cell? ⟨g, pj, none⟩ = some (.int .u8 y))) (hi0 : (0 : Int) ≤ (pi : Int)) (hj0 : (0 : Int) ≤ (pj : Int)) (hi1 : (pi : Int) < (l : Int)) (hj1 : (pj : Int) < (l : Int)) (a : Act) (Q : Exit → Act → World → Prop) (hsize : 68 ≤ a.tmps.size)
    (s3 : a.tmps[3]? = some (.slice (some ⟨g, 0, none⟩) l c))
    (s6 : a.tmps[6]? = some (.int .i64 (pi : Int)))
    (s7 : a.tmps[7]? = some (.int .i64 (pj : Int)))
    (hend : ∀ (xv0 xv1 xv2 xv3 xv4 xv5 xv6 xv7 xv8 xv9 xv10 xv11 xv12 xv13 xv14 xv15 : Value) (W : World), (xv0 = .slice (some ⟨g, 0, none⟩) l c) → (xv1 = .int .i64 (pi : Int)) → (xv2 = .slice (some ⟨g, 0, none⟩) l c) → (xv3 = .int .i64 (pj : Int)) → (xv4 = .slice (some ⟨g, 0, none⟩) l c) → (xv5 = .int .i64 (pj : Int)) → (xv6 = .pointer (some ⟨g, pj, none⟩)) → (xv7 = .int .u8 y) → (xv8 = .slice (some ⟨g, 0, none⟩) l c) → (xv9 = .int .i64 (pi : Int)) → (xv10 = .pointer (some ⟨g, pi, none⟩)) → (xv11 = .int .u8 x) → (xv12 = .pointer (some ⟨g, pi, none⟩)) → (True) → (xv14 = .pointer (some ⟨g, pj, none⟩)) → (True) → W = ((w.setCell ⟨g, pi, none⟩ (.int .u8 y)).setCell ⟨g, pj, none⟩ (.int .u8 x)).drew → wpList Try.prog (rops Try.f122 17).toArray Q ((rops Try.f122 17).drop 16) ((((((((((((((((a.put (some 54) xv0).put (some 55) xv1).put (some 56) xv2).put (some 57) xv3).put (some 58) xv4).put (some 59) xv5).put (some 60) xv6).put (some 61) xv7).put (some 62) xv8).put (some 63) xv9).put (some 64) xv10).put (some 65) xv11).put (some 66) xv12).put (none) xv13).put (some 67) xv14).put (none) xv15) W) :
    (Code.region 17 (rops Try.f122 17).toArray true).wp Try.prog Q a w := by
  have hsz : ∀ d, some d ∈ ([some 54, some 55, some 56, some 57, some 58, some 59, some 60, some 61, some 62, some 63, some 64, some 65, some 66, none, some 67, none] : List (Option Tmp)) → d < a.tmps.size := slots_lt (by decide) hsize
  refine wp_region_j 16 [some 54, some 55, some 56, some 57, some 58, some 59, some 60, some 61, some 62, some 63, some 64, some 65, some 66, none, some 67, none] [[], [], [], [], [], [], [4, 5], [6], [], [], [8, 9], [10], [0, 1], [7, 12], [2, 3], [11, 13, 14]] [[], [], [], [], [], [], [], [13], [], [], [], [13], [], [15], [], []] (fun i v _ => match i with
    | 0 => v = .slice (some ⟨g, 0, none⟩) l c
    | 1 => v = .int .i64 (pi : Int)
    | 2 => v = .slice (some ⟨g, 0, none⟩) l c
    | 3 => v = .int .i64 (pj : Int)
    | 4 => v = .slice (some ⟨g, 0, none⟩) l c
    | 5 => v = .int .i64 (pj : Int)
    | 6 => v = .pointer (some ⟨g, pj, none⟩)
    | 7 => v = .int .u8 y
    | 8 => v = .slice (some ⟨g, 0, none⟩) l c
    | 9 => v = .int .i64 (pi : Int)
    | 10 => v = .pointer (some ⟨g, pi, none⟩)
    | 11 => v = .int .u8 x
    | 12 => v = .pointer (some ⟨g, pi, none⟩)
    | 13 => True
    | 14 => v = .pointer (some ⟨g, pj, none⟩)
    | 15 => True
    | _ => True) (fun done W => (¬ done 13 → W = w.drew) ∧ (done 13 → ¬ done 15 → W = (w.setCell ⟨g, pi, none⟩ (.int .u8 y)).drew) ∧ (done 15 → W = ((w.setCell ⟨g, pi, none⟩ (.int .u8 y)).setCell ⟨g, pj, none⟩ (.int .u8 x)).drew)) (by kernel_rfl) (by kernel_rfl) hsz (fun p q W h hJ => ⟨fun hn => hJ.1 (fun hp => hn ((h 13).1 hp)), fun hq hn => hJ.2.1 ((h 13).2 hq) (fun hp => hn ((h 15).1 hp)), fun hq => hJ.2.2 ((h 15).2 hq)⟩) ⟨fun _ => rfl, fun h => h.elim, fun h => h.elim⟩ ?_ ?_
  · clear hend
    simp only [rops, Try.f122, regOf, Option.bind_some, Nat.reduceBEq, if_true, if_false, Bool.false_eq_true, Option.getD_some]
    simp only [List.take_succ_cons, List.take_zero]
    refine ⟨?_, ?_, ?_, ?_, ?_, ?_, ?_, ?_, ?_, ?_, ?_, ?_, ?_, ?_, ?_, ?_, trivial⟩
    · intro done us W hJ hdep haft hnot b hb hb' K hK Q'
      have e3 := (hb' 3 (by simp)).trans s3
      clear hb hb'
      go_simp
      exact hK _ _ rfl (fun _ _ _ h => h) (by simpa using hJ)
    · intro done us W hJ hdep haft hnot b hb hb' K hK Q'
      have e6 := (hb' 6 (by simp)).trans s6
      clear hb hb'
      go_simp
      exact hK _ _ rfl (fun _ _ _ h => h) (by simpa using hJ)
    · intro done us W hJ hdep haft hnot b hb hb' K hK Q'
      have e3 := (hb' 3 (by simp)).trans s3
      clear hb hb'
      go_simp
      exact hK _ _ rfl (fun _ _ _ h => h) (by simpa using hJ)
    · intro done us W hJ hdep haft hnot b hb hb' K hK Q'
      have e7 := (hb' 7 (by simp)).trans s7
      clear hb hb'
      go_simp
      exact hK _ _ rfl (fun _ _ _ h => h) (by simpa using hJ)
    · intro done us W hJ hdep haft hnot b hb hb' K hK Q'
      have e3 := (hb' 3 (by simp)).trans s3
      clear hb hb'
      go_simp
      exact hK _ _ rfl (fun _ _ _ h => h) (by simpa using hJ)
    · intro done us W hJ hdep haft hnot b hb hb' K hK Q'
      have e7 := (hb' 7 (by simp)).trans s7
      clear hb hb'
      go_simp
      exact hK _ _ rfl (fun _ _ _ h => h) (by simpa using hJ)
    · intro done us W hJ hdep haft hnot b hb hb' K hK Q'
      simp only [List.getD_cons_succ, List.getD_cons_zero, List.mem_cons, List.not_mem_nil, or_false, forall_eq_or_imp, forall_eq] at hdep
      have e58 := hb 4 58 rfl
      have e59 := hb 5 59 rfl
      have d4 := hdep.1
      have d5 := hdep.2
      rw [d4.1] at e58
      rw [d5.1] at e59
      clear hb hb' hdep d4 d5
      go_simp
      exact hK _ _ rfl (fun _ _ _ h => h) (by simpa using hJ)
    · intro done us W hJ hdep haft hnot b hb hb' K hK Q'
      simp only [List.getD_cons_succ, List.getD_cons_zero, List.mem_cons, List.not_mem_nil, or_false, forall_eq] at hdep
      simp only [List.getD_cons_succ, List.getD_cons_zero, List.mem_cons, List.not_mem_nil, or_false, forall_eq] at haft
      have e60 := hb 6 60 rfl
      have d6 := hdep
      rw [d6.1] at e60
      clear hb hb' hdep d6
      obtain rfl := hJ.1 haft
      go_simp
      exact hK _ _ rfl (fun _ _ _ h => h) (by simpa using hJ)
    · intro done us W hJ hdep haft hnot b hb hb' K hK Q'
      have e3 := (hb' 3 (by simp)).trans s3
      clear hb hb'
      go_simp
      exact hK _ _ rfl (fun _ _ _ h => h) (by simpa using hJ)
    · intro done us W hJ hdep haft hnot b hb hb' K hK Q'
      have e6 := (hb' 6 (by simp)).trans s6
      clear hb hb'
      go_simp
      exact hK _ _ rfl (fun _ _ _ h => h) (by simpa using hJ)
    · intro done us W hJ hdep haft hnot b hb hb' K hK Q'
      simp only [List.getD_cons_succ, List.getD_cons_zero, List.mem_cons, List.not_mem_nil, or_false, forall_eq_or_imp, forall_eq] at hdep
      have e62 := hb 8 62 rfl
      have e63 := hb 9 63 rfl
      have d8 := hdep.1
      have d9 := hdep.2
      rw [d8.1] at e62
      rw [d9.1] at e63
      clear hb hb' hdep d8 d9
      go_simp
      exact hK _ _ rfl (fun _ _ _ h => h) (by simpa using hJ)
    · intro done us W hJ hdep haft hnot b hb hb' K hK Q'
      simp only [List.getD_cons_succ, List.getD_cons_zero, List.mem_cons, List.not_mem_nil, or_false, forall_eq] at hdep
      simp only [List.getD_cons_succ, List.getD_cons_zero, List.mem_cons, List.not_mem_nil, or_false, forall_eq] at haft
      have e64 := hb 10 64 rfl
      have d10 := hdep
      rw [d10.1] at e64
      clear hb hb' hdep d10
      obtain rfl := hJ.1 haft
      go_simp
      exact hK _ _ rfl (fun _ _ _ h => h) (by simpa using hJ)
    · intro done us W hJ hdep haft hnot b hb hb' K hK Q'
      simp only [List.getD_cons_succ, List.getD_cons_zero, List.mem_cons, List.not_mem_nil, or_false, forall_eq_or_imp, forall_eq] at hdep
      have e54 := hb 0 54 rfl
      have e55 := hb 1 55 rfl
      have d0 := hdep.1
      have d1 := hdep.2
      rw [d0.1] at e54
      rw [d1.1] at e55
      clear hb hb' hdep d0 d1
      go_simp
      exact hK _ _ rfl (fun _ _ _ h => h) (by simpa using hJ)
    · intro done us W hJ hdep haft hnot b hb hb' K hK Q'
      simp only [List.getD_cons_succ, List.getD_cons_zero, List.mem_cons, List.not_mem_nil, or_false, forall_eq_or_imp, forall_eq] at hdep
      simp only [List.getD_cons_succ, List.getD_cons_zero, List.mem_cons, List.not_mem_nil, or_false, forall_eq] at haft
      have e61 := hb 7 61 rfl
      have e66 := hb 12 66 rfl
      have d7 := hdep.1
      have d12 := hdep.2
      rw [d7.1] at e61
      rw [d12.1] at e66
      clear hb hb' hdep d7 d12
      obtain rfl := hJ.1 hnot
      go_simp
      exact hK undef _ trivial (fun _ _ _ h => h) ⟨fun h => absurd (Or.inr rfl) h, fun _ _ => rfl, fun h => by rcases h with h | h; exact absurd h haft; cases h⟩
    · intro done us W hJ hdep haft hnot b hb hb' K hK Q'
      simp only [List.getD_cons_succ, List.getD_cons_zero, List.mem_cons, List.not_mem_nil, or_false, forall_eq_or_imp, forall_eq] at hdep
      have e56 := hb 2 56 rfl
      have e57 := hb 3 57 rfl
      have d2 := hdep.1
      have d3 := hdep.2
      rw [d2.1] at e56
      rw [d3.1] at e57
      clear hb hb' hdep d2 d3
      go_simp
      exact hK _ _ rfl (fun _ _ _ h => h) (by simpa using hJ)
    · intro done us W hJ hdep haft hnot b hb hb' K hK Q'
      simp only [List.getD_cons_succ, List.getD_cons_zero, List.mem_cons, List.not_mem_nil, or_false, forall_eq_or_imp, forall_eq] at hdep
      have e65 := hb 11 65 rfl
      have e67 := hb 14 67 rfl
      have d11 := hdep.1
      have d13 := hdep.2.1
      have d14 := hdep.2.2
      rw [d11.1] at e65
      rw [d14.1] at e67
      clear hb hb' hdep d11 d14
      obtain rfl := hJ.2.1 d13.2 hnot
      have hf2 := hf15.out
      have hc2 := hc15.out
      go_simp
      exact hK undef _ trivial (fun _ _ _ h => h) ⟨fun h => absurd (Or.inl d13.2) h, fun _ h => absurd (Or.inr rfl) h, fun _ => rfl⟩
  · intro us W hV hJ
    exact hend (us 0) (us 1) (us 2) (us 3) (us 4) (us 5) (us 6) (us 7) (us 8) (us 9) (us 10) (us 11) (us 12) (us 13) (us 14) (us 15) W (hV 0 (by omega)) (hV 1 (by omega)) (hV 2 (by omega)) (hV 3 (by omega)) (hV 4 (by omega)) (hV 5 (by omega)) (hV 6 (by omega)) (hV 7 (by omega)) (hV 8 (by omega)) (hV 9 (by omega)) (hV 10 (by omega)) (hV 11 (by omega)) (hV 12 (by omega)) (hV 13 (by omega)) (hV 14 (by omega)) (hV 15 (by omega)) (by simpa using hJ)
end Go.Proofs.Yteoijnaljkagfaa
namespace Go.Proofs.Yteoijnaljkagfaa
open Go.RowKit

theorem elB : Elem Try.prog 148 5 1 1 (.int .u8 0) := Elem.mk' (by kernel_rfl) (by kernel_rfl) rfl (by decide)

/-- What text returns: the decimal digits. -/
def RetDec (w : World) (n : Nat) (e : Ending) (w' : World) : Prop := ∃ s, e = .returned (.string (strOfNums s)) ∧ Dec n s ∧ Ext w w'

theorem text_push {wr w1 : World} {o : Obj} {va v v' : Value} {q : Nat} (hW : W32 wr va q) (hS : Sep va v.ownBlock) (hg : (wr.alloc o).grownBy w1 v.ownBlock) (hb : v'.ownBlock = v.ownBlock ∨ v'.ownBlock = some (wr.alloc o).heap.size) : W32 w1 va q ∧ Sep va v'.ownBlock := by
  have h1 := hW.ext ((Ext.refl wr).alloc o)
  refine ⟨NatV.grown h1 hg hS, ?_⟩
  rcases hb with hb | hb
  · rw [hb]; exact hS
  · rw [hb]; exact Sep.new h1 (Nat.le_refl _)
theorem text_own {w1 : World} {base : Nat} {A : Option Addr} {c nd : Nat} {es : List Int} {d : Int} (hl : es.length = nd) (hd : Dg 10 (es ++ [d])) (h : w1.ownsRow base 5 1 (.slice A (nd + 1) c) (nd + 1) ((es.map (48 + ·)).map (Value.int .u8) ++ [.int .u8 (48 + d)])) : OwnS .u8 5 base w1 A (nd + 1) c ((es ++ [d]).map (48 + ·)) := by
  refine ⟨by simpa using h, by simp [hl], fun x hx => ?_⟩
  obtain ⟨y, hy, rfl⟩ := List.mem_map.1 hx
  have := hd y hy
  exact WalkArith.wf_u8 (by omega)
theorem dec_le {es : List Int} {n m : Nat} (hd : Dg 10 es) (h : val 10 es + 10 ^ es.length * (m : Int) = n) : m ≤ n := by
  have h0 := val_nonneg (B := 10) (by omega) hd
  have h1 : (1 : Int) ≤ 10 ^ es.length := Int.pow_pos (by omega)
  have h2 : 1 * (m : Int) ≤ 10 ^ es.length * (m : Int) := Int.mul_le_mul_of_nonneg_right h1 (by omega)
  omega
theorem word_split (m : Nat) : ∃ (q : Nat) (r : Int), Hid (m / (1000000000 : Int).toNat = q) ∧ Hid ((m : Int) % 1000000000 = r) ∧ 0 ≤ r ∧ r < 1000000000 ∧ Hid ((m : Int) = r + 10 ^ 9 * (q : Int)) ∧ (0 < m → q < m) :=
  ⟨_, _, rfl, rfl, by omega, by omega, by show _ = _; rw [show (1000000000 : Int).toNat = 1000000000 from rfl]; omega, by rw [show (1000000000 : Int).toNat = 1000000000 from rfl]; omega⟩
theorem ten_le {g : Nat} {r : Int} (hg : g ≤ 9) (h : r < 10 ^ g) : r < 1000000000 := by
  have := pow_le (B := 10) (a := g) (b := 9) (by omega) hg
  have e : (10 : Int) ^ 9 = 1000000000 := by decide
  omega

set_option maxHeartbeats 2000000 in
theorem text_any (va : Value) (n L : Nat) (w : World) (ha : W32 w va n) (hn : Fit 4294967296 n L) (hL : L ≤ 1000000000) :
    Calls Try.prog 122 #[va] w (RetDec w n) := by
  have HW := Lib.hid ha
  obtain ⟨A, la, ca, xs, rfl, hA, hrx, hca, hcam⟩ := ha
  rcases Nat.eq_zero_or_pos n with h0 | h0
  · subst h0
    obtain rfl := Rep.zero (by omega) hrx
    obtain rfl : la = 0 := by simpa using hA.1.symm
    clear HW hA hrx hn
    go_enter Try.func122, Try.ntmps122
    go_wp2
    go_ret
    exact ⟨[48], rfl, .inl ⟨rfl, rfl⟩, Ext.refl _⟩
  · have hla : 0 < la := by
      rcases Nat.eq_zero_or_pos la with h | h
      · have h1 := hA.1
        rw [h] at h1
        have := (Rep.pos (by omega) hrx).2 (List.eq_nil_of_length_eq_zero h1)
        omega
      · exact h
    have hlb : ((la : Int) == 0) = false := by simp; omega
    have HN := Lib.hid hn
    clear hA hrx hn
    go_enter Try.func122, Try.ntmps122
    go_wp2
    go_loopg [0, 3] n (fun g va vd wr => ∃ (m : Nat) (Aa : Option Addr) (na cq : Nat) (Ad : Option Addr) (nd cd : Nat) (es : List Int), m = g ∧ va = .slice Aa na cq ∧ vd = .slice Ad nd cd ∧ Hid (W32 wr (.slice Aa na cq) m) ∧ Hid (Sep (.slice Aa na cq) (Value.slice Ad nd cd).ownBlock) ∧ Hid (OwnS .u8 5 w.heap.size wr Ad nd cd (es.map (48 + ·))) ∧ Hid (Dg 10 es) ∧ Hid (val 10 es + 10 ^ es.length * (m : Int) = n) ∧ Hid (Ext w wr))
    case atStart => exact ⟨n, A, la, ca, none, 0, 0, [], rfl, rfl, rfl, HW.out, Sep.nil _, ⟨⟨rfl, .inl ⟨rfl, rfl⟩⟩, rfl, by simp⟩, Dg.nil, by simp [val, Hid], Ext.refl _⟩
    case round =>
      obtain ⟨m, Aa, na, cq, Ad, nd, cd, es, rfl, rfl, rfl, HWm, HSep, HO, HD, HV, HX⟩ := hrel
      obtain ⟨A2, n2, c2, zs, hz1, hz2, hz3, hz4, hz5⟩ := HWm.out
      injection hz1 with e1 e2 e3
      subst e1 e2 e3
      have HL : Hid (es.length = nd) := by have := HO.out.len; simpa [Hid] using this
      rcases Nat.eq_zero_or_pos m with hm0 | hm0
      · subst hm0
        obtain rfl := Rep.zero (by omega) hz3
        obtain rfl : na = 0 := by simpa using hz2.1.symm
        have HV' : Hid (val 10 es = (n : Int)) := by have := HV.out; simp at this; exact this
        clear hz2 hz3 hz4 hz5 HV HWm HSep
        go_wp2
        go_loopg [3] nd (fun g v wq => ∃ l, l = g ∧ l ≤ nd ∧ v = .slice Ad l cd ∧ Hid (val 10 (es.take l) = (n : Int)) ∧ wr = wq)
        case atStart => exact ⟨nd, rfl, Nat.le_refl _, rfl, by rw [List.take_of_length_le (by rw [HL.out]; exact Nat.le_refl _)]; exact HV'.out, rfl⟩
        case round =>
          obtain ⟨l, rfl, hl, rfl, HVl, rfl⟩ := hrel
          obtain ⟨k, rfl⟩ : ∃ k, l = k + 1 := by
            rcases l with _ | k
            · have := HVl.out
              simp [val] at this
              omega
            · exact ⟨k, rfl⟩
          obtain ⟨g, x, hAd, hx, hwf, hc⟩ := HO.out.get (j := k) (by omega)
          subst hAd
          obtain ⟨d, hd, hxd⟩ : ∃ d, es[k]? = some d ∧ 48 + d = x := by
            rw [List.getElem?_map] at hx
            rcases he : es[k]? with _ | d
            · rw [he] at hx; cases hx
            · rw [he] at hx; exact ⟨d, rfl, by simpa using hx⟩
          have hd0 := HD.out.get hd
          have HDk := Lib.hid hd
          have hcap := HO.out.cap
          clear hx hwf hd
          by_cases hz : d = 0
          · have hxe : (x == 48) = true := by simp; omega
            have HVk : Hid (val 10 (es.take k) = (n : Int)) := by
              have := HVl.out
              rw [val_take_succ HDk.out, hz] at this
              show _ = _
              omega
            clear hz hxd hd0
            go_wp2
            go_roundg k
            case rel => exact ⟨k, rfl, by omega, rfl, HVk, rfl⟩
            case measure => omega
          · have hxe : (x == 48) = false := by simp; omega
            have HR : Hid (Rep 10 (es.take (k + 1)) n) := ⟨HD.out.take _, Nm.take HDk.out hz, HVl.out⟩
            have hOk := HO.out.front (m := k + 1) hl
            rw [← List.map_take] at hOk
            obtain ⟨zs, hzs⟩ : ∃ zs, es.take (k + 1) = zs := ⟨_, rfl⟩
            rw [hzs] at HR hOk
            have HOk := Lib.hid hOk
            have HZL : Hid (zs.length = k + 1) := by have := hOk.len; simpa [Hid] using this
            clear hz hxd hd0 hOk hzs HDk HVl HV' HO
            go_wp2
            go_loopg [6, 7] (k + 1) (fun g' vi vj wq => ∃ (pi pj : Nat) (ys : List Int), g' = k + 1 - pi ∧ pi + pj = k ∧ pi ≤ pj + 1 ∧ vi = .int .i64 (pi : Int) ∧ vj = .int .i64 (pj : Int) ∧ Hid (OwnS .u8 5 w.heap.size wq (some ⟨g, 0, none⟩) (k + 1) cd ys) ∧ Hid (RevAt (zs.map (48 + ·)) ys pi) ∧ Hid (Ext w wq))
            case atStart => exact ⟨0, k, _, rfl, by omega, by omega, rfl, by go_num, HOk, RevAt.zero _, HX⟩
            case round =>
              obtain ⟨pi, pj, ys, rfl, hij, hij', rfl, rfl, HOy, HRy, HXy⟩ := hrel
              by_cases hlt : pi < pj
              · obtain ⟨g1, x1, hg1, hx1, hwf1, hc1, hf1, hb1, hst1⟩ := HOy.out.store (j := pi) (by omega)
                obtain ⟨g2, y1, hg2, hy1, hwf2, hc2, hf2, hb2, _⟩ := HOy.out.store (j := pj) (by omega)
                injection hg1 with hg1
                injection hg1 with hg1
                injection hg2 with hg2
                injection hg2 with hg2
                subst hg1 hg2
                have hO1 := hst1.out y1 hwf2
                obtain ⟨g3, y3, hg3, hy3, hwf3, hc3, hf3, hb3, hst3⟩ := hO1.store (j := pj) (by omega)
                injection hg3 with hg3
                injection hg3 with hg3
                subst hg3
                have hy13 : y3 = y1 := by
                  rw [List.getElem?_set_ne (by omega), hy1] at hy3
                  injection hy3 with hy3
                  exact hy3.symm
                subst hy13
                have HO3 := Lib.hid (hst3.out x1 hwf1)
                have HR3 := Lib.hid (HRy.out.step (j := pj) (by simp [HZL.out]; omega) hlt hx1 hy1)
                have HC3 := Lib.hid hc3
                have HF3 := Lib.hid hf2
                have hi0 : (0 : Int) ≤ (pi : Int) := by omega
                have hj0 : (0 : Int) ≤ (pj : Int) := by omega
                have hi1 : (pi : Int) < ((k + 1 : Nat) : Int) := by omega
                have hj1 : (pj : Int) < ((k + 1 : Nat) : Int) := by omega
                have hltI : (pi : Int) < (pj : Int) := by omega
                clear hst1 hst3 hO1 hy3 hx1 hy1 hc3 hf3 hf2 hwf1 hwf2 hwf3 hb2 hb3 HRy
                go_wp2_with fail
                refine text_r17 g (k + 1) cd pi pj x1 y3 _ hc1 hc2 hf1 HF3 HC3 hi0 hj0 hi1 hj1 _ _ (by simp) rfl rfl rfl ?_
                rintro _ _ _ _ _ _ _ _ _ _ _ _ _ x13 _ x15 _ rfl rfl rfl rfl rfl rfl rfl rfl rfl rfl rfl rfl rfl _ rfl _ rfl
                simp only [rops, Try.f122, regOf, Option.bind_some, Nat.reduceBEq, if_true, if_false, Bool.false_eq_true, Option.getD_some, List.drop_succ_cons, List.drop_zero]
                simp only [Act.put, List.setIfInBounds_toArray, List.set_cons_succ, List.set_cons_zero]
                go_wp2
                go_roundg (k + 1 - (pi + 1))
                case rel => exact ⟨pi + 1, pj - 1, _, rfl, by omega, by omega, by go_num, by go_num, HO3.out.ext ((Ext.refl _).drew), HR3.out, ((HXy.out.setCell hb1 _).setCell hb1 _).drew⟩
                case measure => omega
              · have hltI : ¬ (pi : Int) < (pj : Int) := by omega
                have hys := HRy.out.done (by simp [HZL.out]; omega)
                have hstr := run_str (P := Try.prog) _ (c := cd) Try.underlying148 Try.underlying5 Try.underlying9 HOy.out.ints
                have HY := Lib.hid hys
                clear hys
                go_wp2
                go_ret
                exact ⟨ys, rfl, .inr ⟨by omega, zs, HR.out, HY.out⟩, HXy.out⟩
      · have hna : 0 < na := by
          rcases Nat.eq_zero_or_pos na with h | h
          · have h1 := hz2.1
            rw [h] at h1
            have := (Rep.pos (by omega) hz3).2 (List.eq_nil_of_length_eq_zero h1)
            omega
          · exact h
        have hlen := dec_len HN.out HD.out HV.out hm0
        rw [HL.out] at hlen
        have hfit := HN.out.le (dec_le HD.out HV.out)
        obtain ⟨q, r, hq, hr, hr0, hr1, hqr, hqm⟩ := word_split m
        have hqm := hqm hm0
        have HF := Lib.hid hfit
        clear hz2 hz3 hfit
        go_wp2_with fail
        refine (word_sep (.slice Aa na cq) m L 1000000000 _ HWm.out HF.out (by omega) (by omega) (by omega)).mono ?_
        rintro e w2 ⟨mq, cq2, rfl, hW2, hX2⟩
        rw [hq.out] at hW2
        rw [hr.out]
        have hS2 : Sep (.slice (some ⟨_, 0, none⟩) mq cq2) (Value.slice Ad nd cd).ownBlock := Sep.fresh (m := mq) (c := cq2) HO.out.own
        obtain ⟨bq, hbq⟩ : ∃ b, wr.heap.size = b := ⟨_, rfl⟩
        rw [hbq] at hS2 hW2 ⊢
        have HS2 := Lib.hid hS2
        have HW2 := Lib.hid hW2
        have HO2 := Lib.hid (HO.out.ext hX2)
        have HX2 := Lib.hid (HX.out.trans hX2)
        have HV2 : Hid (val 10 es + 10 ^ es.length * (r + 10 ^ 9 * (q : Int)) = n) := by have := HV.out; rw [hqr.out] at this; exact this
        clear hW2 hX2 hS2 hq hr hbq HWm HF HO HX HV hqr HSep
        go_wp2
        go_loopg [3, 5, 20] 9 (fun g vd rv iv wr => ∃ (k : Nat) (r : Int) (Ad : Option Addr) (nd' cd : Nat) (es' : List Int), k = g ∧ k ≤ 9 ∧ vd = .slice Ad nd' cd ∧ rv = .int .u32 r ∧ iv = .int .i64 (9 - (k : Int)) ∧ Hid (W32 wr (.slice (some ⟨bq, 0, none⟩) mq cq2) q) ∧ Hid (Sep (.slice (some ⟨bq, 0, none⟩) mq cq2) (Value.slice Ad nd' cd).ownBlock) ∧ Hid (OwnS .u8 5 w.heap.size wr Ad nd' cd (es'.map (48 + ·))) ∧ Hid (Dg 10 es') ∧ 0 ≤ r ∧ Hid (r < 10 ^ k) ∧ Hid (val 10 es' + 10 ^ es'.length * (r + 10 ^ k * (q : Int)) = n) ∧ nd' + k ≤ nd + 9 ∧ Hid (Ext w wr))
        case atStart => exact ⟨9, r, Ad, nd, cd, es, rfl, by omega, rfl, rfl, rfl, HW2.out, HS2.out, HO2.out, HD.out, hr0, by show r < 10 ^ 9; rw [show (10 : Int) ^ 9 = 1000000000 by decide]; exact hr1, HV2.out, by omega, HX2.out⟩
        case round =>
          obtain ⟨k, r, Ad, nd', cd, es', rfl, hk9, rfl, rfl, rfl, HW3, HS3, HO3, HD3, hr0, HR3, HV3, hnd, HX3⟩ := hrel
          have hr1 := ten_le hk9 HR3.out
          have HL3 : Hid (es'.length = nd') := by have := HO3.out.len; simpa [Hid] using this
          rcases Nat.eq_zero_or_pos k with hk0 | hk0
          · subst hk0
            rw [show ((9 : Int) - ((0 : Nat) : Int)) = 9 by omega]
            have HV4 : Hid (val 10 es' + 10 ^ es'.length * (q : Int) = n) := by
              have h1 := HR3.out
              have h2 := HV3.out
              rw [Int.pow_zero] at h1 h2
              rw [show r = 0 by omega, Int.zero_add, Int.one_mul] at h2
              exact h2
            go_wp2
            go_roundg q
            case rel => exact ⟨q, _, mq, cq2, Ad, nd', cd, es', rfl, rfl, rfl, HW3, HS3, HO3, HD3, HV4, HX3⟩
            case measure => omega
          · obtain ⟨i, rfl⟩ : ∃ i, k = i + 1 := ⟨k - 1, by omega⟩
            rw [show ((9 : Int) - ((i + 1 : Nat) : Int)) = 8 - (i : Int) by omega]
            have hi9 : (8 : Int) - (i : Int) < 9 := by omega
            obtain ⟨hD4, hr40, hr41, hV4⟩ := dec_step HD3.out hr0 HR3.out HV3.out
            have HD4 := Lib.hid hD4
            have HR4 := Lib.hid hr41
            have HV4 := Lib.hid hV4
            clear hD4 hr41 hV4
            go_wp2_with (at_builtin; refine wpList_app _ elB rfl _ _ rfl w.heap.size _ _ _ rfl (HO3.out.own.alloc _) _ 1 1 [.int .u8 (48 + r % 10)] rfl rfl (At.new _ [_] _) (by simp [Value.oneCell']) (by omega) (by unfold maxLen; omega) (by have := HX3.out.size; simp; omega) ?_; intro v1 w1 hown1 hgr1 hbl1)
            go_roundg i
            case rel =>
              obtain ⟨A1, c1, rfl⟩ := own_slice hown1
              obtain ⟨hW5, hS5⟩ := text_push HW3.out HS3.out hgr1 hbl1
              exact ⟨i, r / 10, A1, nd' + 1, c1, es' ++ [r % 10], rfl, by omega, rfl, rfl, by go_num, hW5, hS5, text_own HL3.out HD4.out hown1, HD4.out, hr40, HR4.out, HV4.out, by omega, HX3.out.push HO3.out.own hgr1⟩
            case measure => omega
end Go.Proofs.Yteoijnaljkagfaa
namespace Go.Proofs.Yteoijnaljkagfaa
open Go.RowKit

theorem NumV.open {w : World} {v : Value} {s : Bool} {n d : Nat} (h : NumV w v s n d) : ∃ A1 l1 c1 A2 l2 c2, v = .agg #[.bool s, .slice A1 l1 c1, .slice A2 l2 c2] ∧ W32 w (.slice A1 l1 c1) n ∧ W32 w (.slice A2 l2 c2) d ∧ (l1 = 0 ↔ n = 0) ∧ (l2 = 0 ↔ d = 0) := by
  obtain ⟨vn, vd, rfl, h1, h2⟩ := h
  obtain ⟨A1, l1, c1, rfl, g1, e1⟩ := h1.open
  obtain ⟨A2, l2, c2, rfl, g2, e2⟩ := h2.open
  exact ⟨A1, l1, c1, A2, l2, c2, rfl, g1, g2, e1, e2⟩

set_option maxHeartbeats 1000000 in
theorem neg_any (v : Value) (s : Bool) (n d : Nat) (w : World) (h : NumV w v s n d) :
    Calls Try.prog 86 #[v] w (RetR w (nz (!s) n) n d) := by
  obtain ⟨A1, l1, c1, A2, l2, c2, rfl, h1, h2, e1, _⟩ := h.open
  have H1 := Lib.hid h1
  have H2 := Lib.hid h2
  have E1 := Lib.hid e1
  clear h h1 h2 e1
  rcases (by rcases Bool.eq_false_or_eq_true s with h | h <;> rcases Nat.eq_zero_or_pos l1 with g | g <;> simp [h, g] : s = true ∨ (s = false ∧ l1 = 0) ∨ (s = false ∧ 0 < l1)) with hs | ⟨hs, hl⟩ | ⟨hs, hl⟩
  · subst hs
    rw [show nz (!true) n = false from nz_false n]
    go_enter Try.func86, Try.ntmps86
    go_wp2
    refine bodyPost_ret (v := .agg #[.bool false, .slice A1 l1 c1, .slice A2 l2 c2]) (by simp [results, Try.results86, go_sem]) rfl ?_
    exact ⟨_, rfl, ⟨_, _, rfl, H1.out.ext (((Ext.refl w).alloc _).alloc _), H2.out.ext (((Ext.refl w).alloc _).alloc _)⟩, ((Ext.refl w).alloc _).alloc _⟩
  · subst hs hl
    have hn := E1.out.1 rfl
    rw [show nz (!false) n = false by rw [hn]; exact nz_zero _]
    have HN := Lib.hid hn
    clear hn
    go_enter Try.func86, Try.ntmps86
    go_wp2
    refine bodyPost_ret (v := .agg #[.bool false, .slice A1 0 c1, .slice A2 l2 c2]) (by simp [results, Try.results86, go_sem]) rfl ?_
    exact ⟨_, rfl, ⟨_, _, rfl, H1.out.ext (((Ext.refl w).alloc _).alloc _), H2.out.ext (((Ext.refl w).alloc _).alloc _)⟩, ((Ext.refl w).alloc _).alloc _⟩
  · subst hs
    have hn : n ≠ 0 := fun h => by have := E1.out.2 h; omega
    rw [show nz (!false) n = true from nz_pos _ hn]
    clear hn
    go_enter Try.func86, Try.ntmps86
    go_wp2
    refine bodyPost_ret (v := .agg #[.bool true, .slice A1 l1 c1, .slice A2 l2 c2]) (by simp [results, Try.results86, go_sem]) rfl ?_
    exact ⟨_, rfl, ⟨_, _, rfl, H1.out.ext (((Ext.refl w).alloc _).alloc _), H2.out.ext (((Ext.refl w).alloc _).alloc _)⟩, ((Ext.refl w).alloc _).alloc _⟩

set_option maxHeartbeats 1000000 in
theorem sign_any (v : Value) (s : Bool) (n d : Nat) (w : World) (h : NumV w v s n d) (hd : 0 < d) :
    Calls Try.prog 91 #[v] w fun e w' => e = .returned (.int .i64 (sgnQ (ratV s n d))) ∧ Ext w w' := by
  obtain ⟨A1, l1, c1, A2, l2, c2, rfl, h1, h2, e1, _⟩ := h.open
  have E1 := Lib.hid e1
  clear h h1 h2 e1
  rcases (by rcases Bool.eq_false_or_eq_true s with h | h <;> rcases Nat.eq_zero_or_pos l1 with g | g <;> simp [h, g] : l1 = 0 ∨ (s = true ∧ 0 < l1) ∨ (s = false ∧ 0 < l1)) with hl | ⟨hs, hl⟩ | ⟨hs, hl⟩
  · subst hl
    have HN := Lib.hid (E1.out.1 rfl)
    go_enter Try.func91, Try.ntmps91
    go_wp2
    go_ret
    exact ⟨by rw [sgnQ_zero hd HN.out]; rfl, (Ext.refl w).alloc _⟩
  · subst hs
    have HN : Hid (0 < n) := by
      rcases Nat.eq_zero_or_pos n with h | h
      · have := E1.out.2 h; omega
      · exact h
    have hlb : ((l1 : Int) == 0) = false := by simp; omega
    go_enter Try.func91, Try.ntmps91
    go_wp2
    go_ret
    exact ⟨by rw [sgnQ_neg hd HN.out]; rfl, (Ext.refl w).alloc _⟩
  · subst hs
    have HN : Hid (0 < n) := by
      rcases Nat.eq_zero_or_pos n with h | h
      · have := E1.out.2 h; omega
      · exact h
    have hlb : ((l1 : Int) == 0) = false := by simp; omega
    go_enter Try.func91, Try.ntmps91
    go_wp2
    go_ret
    exact ⟨by rw [sgnQ_pos hd HN.out]; rfl, (Ext.refl w).alloc _⟩

set_option maxRecDepth 100000 in
set_option maxHeartbeats 4000000 in
theorem reduced_any (v : Value) (s : Bool) (n d L : Nat) (w : World) (h : NumV w v s n d) (hd : 0 < d) (hn : Fit 4294967296 n L) (hdL : Fit 4294967296 d L) (hL : L ≤ 1099511627775) :
    Calls Try.prog 112 #[v] w (RetR w (nz s n) (n / Nat.gcd n d) (d / Nat.gcd n d)) := by
  obtain ⟨A1, l1, c1, A2, l2, c2, rfl, h1, h2, e1, _⟩ := h.open
  have H1 := Lib.hid h1
  have H2 := Lib.hid h2
  have E1 := Lib.hid e1
  clear h h1 h2 e1
  rcases Nat.eq_zero_or_pos l1 with hl | hl
  · subst hl
    have hn0 := E1.out.1 rfl
    have HS : Hid (nz s n = false ∧ n / Nat.gcd n d = 0 ∧ d / Nat.gcd n d = 1) := ⟨by rw [hn0]; exact nz_zero s, by rw [hn0]; simp, by rw [hn0, Nat.gcd_zero_left]; exact Nat.div_self hd⟩
    clear hn0
    go_enter Try.func112, Try.ntmps112
    go_wp2
    refine bodyPost_ret (v := .agg #[.bool false, .slice none 0 0, .slice (some ⟨w.heap.size + 1 + 1, 0, none⟩) 1 1]) (by simp [results, Try.results112, go_sem]) rfl ?_
    rw [HS.out.1, HS.out.2.1, HS.out.2.2]
    exact ⟨_, rfl, ⟨_, _, rfl, NatV.zero, W32.one' _ (by simp) rfl⟩, (((Ext.refl w).alloc _).alloc _).alloc _⟩
  · have hnp : 0 < n := by
      rcases Nat.eq_zero_or_pos n with h | h
      · have := E1.out.2 h; omega
      · exact h
    have hgp0 : 0 < Nat.gcd n d := Nat.gcd_pos_of_pos_left d hnp
    have HSN : Hid (nz s n = s) := nz_pos s (by omega)
    have hlb : ((l1 : Int) == 0) = false := by simp; omega
    go_enter Try.func112, Try.ntmps112
    go_wp2_with fail
    have hXw : Ext w ((w.alloc (.cells #[.bool s, .slice A1 l1 c1, .slice A2 l2 c2] 96)).alloc (.cells #[.bool false, .slice none 0 0, .slice none 0 0] 96)) := ((Ext.refl w).alloc _).alloc _
    have hBA : Blk ((w.alloc (.cells #[.bool s, .slice A1 l1 c1, .slice A2 l2 c2] 96)).alloc (.cells #[.bool false, .slice none 0 0, .slice none 0 0] 96)) w.heap.size 96 #[.bool s, .slice A1 l1 c1, .slice A2 l2 c2] := (Blk.new w _ _).alloc _
    have hBR : Blk ((w.alloc (.cells #[.bool s, .slice A1 l1 c1, .slice A2 l2 c2] 96)).alloc (.cells #[.bool false, .slice none 0 0, .slice none 0 0] 96)) (w.heap.size + 1) 96 #[.bool false, .slice none 0 0, .slice none 0 0] := by
      have := Blk.new (w.alloc (.cells #[.bool s, .slice A1 l1 c1, .slice A2 l2 c2] 96)) 96 #[.bool false, .slice none 0 0, .slice none 0 0]
      simpa using this
    generalize (w.alloc (.cells #[.bool s, .slice A1 l1 c1, .slice A2 l2 c2] 96)).alloc (.cells #[.bool false, .slice none 0 0, .slice none 0 0] 96) = w1 at hXw hBA hBR ⊢
    have HXw := Lib.hid hXw
    have HBA := Lib.hid hBA
    have HBR := Lib.hid hBR
    replace H1 := Lib.hid (H1.out.ext hXw)
    replace H2 := Lib.hid (H2.out.ext hXw)
    clear hXw hBA hBR
    refine (gcd_any _ _ n d L _ H1.out H2.out hn hdL hL).mono ?_
    rintro e w2 ⟨vg, rfl, hg, hX2⟩
    obtain ⟨g, hge⟩ : ∃ g, Nat.gcd n d = g := ⟨_, rfl⟩
    rw [hge] at hg hgp0
    have hgp := hgp0
    have HGE := Lib.hid hge
    obtain ⟨Ag, lg, cg, xs, rfl, hIg, hRg, hcg, hcgm⟩ := hg
    have hWg : W32 w2 (.slice Ag lg cg) g := ⟨Ag, lg, cg, xs, rfl, hIg, hRg, hcg, hcgm⟩
    obtain ⟨z0, z1, z2, _, _, _⟩ := (HBA.out.ext hX2).three
    have HX2 := Lib.hid hX2
    have HWg := Lib.hid hWg
    by_cases hg1 : g = 1
    · have hxs : xs = [1] := by rw [hg1] at hRg; exact hRg.unique (by omega) (Rep.one (by omega))
      subst hxs
      obtain rfl : lg = 1 := by simpa using hIg.1.symm
      obtain ⟨b, o, y, rfl, hy, _, hcy⟩ := hIg.get (j := 0) (by omega)
      obtain rfl : 1 = y := by simpa using hy
      rw [Nat.add_zero] at hcy
      obtain ⟨y0, y1, y2, f0, f1, f2⟩ := (HBR.out.ext hX2).three
      have HNB := Lib.hid (NoInts.three (HBR.out.ext hX2))
      have HG1 := Lib.hid hg1
      clear hge hIg hRg hWg hX2 hy hg1 hgp hgp0
      go_wp2
      refine bodyPost_ret (v := .agg #[.bool s, .slice A1 l1 c1, .slice A2 l2 c2]) (by simp [results, Try.results112, go_sem, *]) rfl ?_
      refine ⟨_, rfl, ⟨.slice A1 l1 c1, .slice A2 l2 c2, ?_, ?_, ?_⟩, Ext.boxed (HXw.out.trans HX2.out) (Nat.le_succ _) _ _ _⟩
      · rw [HSN.out]
      · rw [HGE.out, HG1.out, Nat.div_one]; exact (H1.out.ext HX2.out).boxed HNB.out _ _ _ _ _ _ _
      · rw [HGE.out, HG1.out, Nat.div_one]; exact (H2.out.ext HX2.out).boxed HNB.out _ _ _ _ _ _ _
    · rw [← hge] at hg1
      have hcase : (lg = 1 ∧ ∃ b o x, Ag = some ⟨b, o, none⟩ ∧ w2.cell? ⟨b, o, none⟩ = some (.int .u32 x) ∧ (x == 1) = false) ∨ ((lg : Int) == 1) = false := by
        by_cases hl1 : lg = 1
        · left
          refine ⟨hl1, ?_⟩
          subst hl1
          obtain ⟨x, rfl, hx, _, _⟩ := one_digit (by omega) hRg hIg.1
          obtain ⟨b, o, y, rfl, hy, _, hcy⟩ := hIg.get (j := 0) (by omega)
          obtain rfl : x = y := by simpa using hy
          rw [Nat.add_zero] at hcy
          refine ⟨b, o, x, rfl, hcy, ?_⟩
          simp only [beq_eq_false_iff_ne, ne_eq]
          intro h1
          apply hg1
          rw [hge]; omega
        · right; simp; omega
      clear hge hIg hRg hWg hX2 hg1 hgp0
      rcases hcase with ⟨rfl, b, o, x, rfl, hcx, hx1⟩ | hlg
      · 
        go_wp2_with fail
        refine (div_any _ _ n g L _ (H1.out.ext HX2.out) (HWg.out) hgp hn hL).mono ?_
        rintro e w3 ⟨q1, r1, rfl, hq1, _, hX3⟩
        obtain ⟨B1, m1, k1, rfl, hq1, _⟩ := hq1.open
        have hX3' := HX2.out.trans hX3
        obtain ⟨z0, z1, z2, _, _, _⟩ := (HBA.out.ext hX3').three
        have HQ1 := Lib.hid hq1
        have HX3 := Lib.hid hX3'
        have HG3 := Lib.hid (W32.ext HWg.out hX3)
        clear hq1 hX3 hX3'
        go_wp2_with fail
        refine (div_any _ _ d g L _ (H2.out.ext HX3.out) HG3.out hgp hdL hL).mono ?_
        rintro e w4 ⟨q2, r2, rfl, hq2, _, hX4⟩
        obtain ⟨B2, m2, k2, rfl, hq2, _⟩ := hq2.open
        have hX4' := HX3.out.trans hX4
        obtain ⟨z0, z1, z2, _, _, _⟩ := (HBA.out.ext hX4').three
        obtain ⟨y0, y1, y2, f0, f1, f2⟩ := (HBR.out.ext hX4').three
        have HQ1b := Lib.hid (HQ1.out.ext hX4)
        have HQ2 := Lib.hid hq2
        have HX4 := Lib.hid hX4'
        have HNB := Lib.hid (NoInts.three (HBR.out.ext hX4'))
        clear hq2 hX4 hX4'
        go_wp2
        refine bodyPost_ret (v := .agg #[.bool s, .slice B1 m1 k1, .slice B2 m2 k2]) (by simp [results, Try.results112, go_sem, *]) rfl ?_
        refine ⟨_, rfl, ⟨.slice B1 m1 k1, .slice B2 m2 k2, ?_, ?_, ?_⟩, Ext.boxed (HXw.out.trans HX4.out) (Nat.le_succ _) _ _ _⟩
        · rw [HSN.out]
        · rw [HGE.out]; exact HQ1b.out.boxed HNB.out _ _ _ _ _ _ _
        · rw [HGE.out]; exact HQ2.out.boxed HNB.out _ _ _ _ _ _ _
      · 
        go_wp2_with fail
        refine (div_any _ _ n g L _ (H1.out.ext HX2.out) (HWg.out) hgp hn hL).mono ?_
        rintro e w3 ⟨q1, r1, rfl, hq1, _, hX3⟩
        obtain ⟨B1, m1, k1, rfl, hq1, _⟩ := hq1.open
        have hX3' := HX2.out.trans hX3
        obtain ⟨z0, z1, z2, _, _, _⟩ := (HBA.out.ext hX3').three
        have HQ1 := Lib.hid hq1
        have HX3 := Lib.hid hX3'
        have HG3 := Lib.hid (W32.ext HWg.out hX3)
        clear hq1 hX3 hX3'
        go_wp2_with fail
        refine (div_any _ _ d g L _ (H2.out.ext HX3.out) HG3.out hgp hdL hL).mono ?_
        rintro e w4 ⟨q2, r2, rfl, hq2, _, hX4⟩
        obtain ⟨B2, m2, k2, rfl, hq2, _⟩ := hq2.open
        have hX4' := HX3.out.trans hX4
        obtain ⟨z0, z1, z2, _, _, _⟩ := (HBA.out.ext hX4').three
        obtain ⟨y0, y1, y2, f0, f1, f2⟩ := (HBR.out.ext hX4').three
        have HQ1b := Lib.hid (HQ1.out.ext hX4)
        have HQ2 := Lib.hid hq2
        have HX4 := Lib.hid hX4'
        have HNB := Lib.hid (NoInts.three (HBR.out.ext hX4'))
        clear hq2 hX4 hX4'
        go_wp2
        refine bodyPost_ret (v := .agg #[.bool s, .slice B1 m1 k1, .slice B2 m2 k2]) (by simp [results, Try.results112, go_sem, *]) rfl ?_
        refine ⟨_, rfl, ⟨.slice B1 m1 k1, .slice B2 m2 k2, ?_, ?_, ?_⟩, Ext.boxed (HXw.out.trans HX4.out) (Nat.le_succ _) _ _ _⟩
        · rw [HSN.out]
        · rw [HGE.out]; exact HQ1b.out.boxed HNB.out _ _ _ _ _ _ _
        · rw [HGE.out]; exact HQ2.out.boxed HNB.out _ _ _ _ _ _ _
end Go.Proofs.Yteoijnaljkagfaa
namespace Go.Proofs.Yteoijnaljkagfaa
open Go.RowKit

set_option maxRecDepth 100000 in
set_option maxHeartbeats 2000000 in
theorem rmul_r1 (ga gb : Nat) (s t : Bool) (A1 A2 B1 B2 : Option Addr) (l1 c1 l2 c2 m1 k1 m2 k2 n d m e L M : Nat) (w : World) (a0 : w.cell? ⟨ga, 0, none⟩ = some (.bool s)) (a1 : w.cell? ⟨ga, 1, none⟩ = some (.slice A1 l1 c1)) (a2 : w.cell? ⟨ga, 2, none⟩ = some (.slice A2 l2 c2)) (b0 : w.cell? ⟨gb, 0, none⟩ = some (.bool t)) (b1 : w.cell? ⟨gb, 1, none⟩ = some (.slice B1 m1 k1)) (b2 : w.cell? ⟨gb, 2, none⟩ = some (.slice B2 m2 k2)) (h1 : W32 w (.slice A1 l1 c1) n) (h2 : W32 w (.slice A2 l2 c2) d) (h3 : W32 w (.slice B1 m1 k1) m) (h4 : W32 w (.slice B2 m2 k2) e) (f1 : Fit 4294967296 n L) (f2 : Fit 4294967296 d L) (f3 : Fit 4294967296 m M) (f4 : Fit 4294967296 e M) (hL : L ≤ 1099511627776) (hM : M ≤ 1099511627776) (a : Act) (Q : Exit → Act → World → Prop) (hsize : 21 ≤ a.tmps.size)
    (s2 : a.tmps[2]? = some (.pointer (some ⟨ga, 0, none⟩)))
    (s3 : a.tmps[3]? = some (.pointer (some ⟨gb, 0, none⟩)))
    (hend : ∀ (x0 x1 x2 x3 x4 x5 x6 x7 x8 x9 x10 x11 x12 x13 x14 x15 : Value) (W : World), (x0 = .pointer (some ⟨ga, 0, none⟩)) → (x1 = .bool s) → (x2 = .pointer (some ⟨gb, 0, none⟩)) → (x3 = .bool t) → (x4 = .bool (s != t)) → (x5 = .pointer (some ⟨ga, 1, none⟩)) → (x6 = .slice A1 l1 c1) → (x7 = .pointer (some ⟨gb, 1, none⟩)) → (x8 = .slice B1 m1 k1) → (W32 W x9 (n * m)) → (x10 = .pointer (some ⟨ga, 2, none⟩)) → (x11 = .slice A2 l2 c2) → (x12 = .pointer (some ⟨gb, 2, none⟩)) → (x13 = .slice B2 m2 k2) → (W32 W x14 (d * e)) → (NumV W x15 (s != t) (n * m) (d * e)) → Ext w W → wpList Try.prog (rops Try.f98 1).toArray Q ((rops Try.f98 1).drop 16) ((((((((((((((((a.put (some 5) x0).put (some 6) x1).put (some 7) x2).put (some 8) x3).put (some 9) x4).put (some 10) x5).put (some 11) x6).put (some 12) x7).put (some 13) x8).put (some 14) x9).put (some 15) x10).put (some 16) x11).put (some 17) x12).put (some 18) x13).put (some 19) x14).put (some 20) x15) W) :
    (Code.region 1 (rops Try.f98 1).toArray true).wp Try.prog Q a w := by
  have hmono : ∀ (W W' : World) (j : Nat) (u : Value), Ext W W' → (fun (i : Nat) (v : Value) (W : World) => match i with
    | 0 => v = .pointer (some ⟨ga, 0, none⟩)
    | 1 => v = .bool s
    | 2 => v = .pointer (some ⟨gb, 0, none⟩)
    | 3 => v = .bool t
    | 4 => v = .bool (s != t)
    | 5 => v = .pointer (some ⟨ga, 1, none⟩)
    | 6 => v = .slice A1 l1 c1
    | 7 => v = .pointer (some ⟨gb, 1, none⟩)
    | 8 => v = .slice B1 m1 k1
    | 9 => W32 W v (n * m)
    | 10 => v = .pointer (some ⟨ga, 2, none⟩)
    | 11 => v = .slice A2 l2 c2
    | 12 => v = .pointer (some ⟨gb, 2, none⟩)
    | 13 => v = .slice B2 m2 k2
    | 14 => W32 W v (d * e)
    | 15 => NumV W v (s != t) (n * m) (d * e)
    | _ => True) j u W → (fun (i : Nat) (v : Value) (W : World) => match i with
    | 0 => v = .pointer (some ⟨ga, 0, none⟩)
    | 1 => v = .bool s
    | 2 => v = .pointer (some ⟨gb, 0, none⟩)
    | 3 => v = .bool t
    | 4 => v = .bool (s != t)
    | 5 => v = .pointer (some ⟨ga, 1, none⟩)
    | 6 => v = .slice A1 l1 c1
    | 7 => v = .pointer (some ⟨gb, 1, none⟩)
    | 8 => v = .slice B1 m1 k1
    | 9 => W32 W v (n * m)
    | 10 => v = .pointer (some ⟨ga, 2, none⟩)
    | 11 => v = .slice A2 l2 c2
    | 12 => v = .pointer (some ⟨gb, 2, none⟩)
    | 13 => v = .slice B2 m2 k2
    | 14 => W32 W v (d * e)
    | 15 => NumV W v (s != t) (n * m) (d * e)
    | _ => True) j u W' := by
    intro W W' j u hX h
    match j, h with
    | 0, h => exact h
    | 1, h => exact h
    | 2, h => exact h
    | 3, h => exact h
    | 4, h => exact h
    | 5, h => exact h
    | 6, h => exact h
    | 7, h => exact h
    | 8, h => exact h
    | 9, h => exact W32.ext h hX
    | 10, h => exact h
    | 11, h => exact h
    | 12, h => exact h
    | 13, h => exact h
    | 14, h => exact W32.ext h hX
    | 15, h => exact NumV.ext h hX
    | _ + 16, h => exact h
  have hsz : ∀ d, some d ∈ ([some 5, some 6, some 7, some 8, some 9, some 10, some 11, some 12, some 13, some 14, some 15, some 16, some 17, some 18, some 19, some 20] : List (Option Tmp)) → d < a.tmps.size := slots_lt (by decide) hsize
  refine wp_region_j 16 [some 5, some 6, some 7, some 8, some 9, some 10, some 11, some 12, some 13, some 14, some 15, some 16, some 17, some 18, some 19, some 20] [[], [0], [], [2], [1, 3], [], [5], [], [7], [6, 8], [], [10], [], [12], [11, 13], [4, 9, 14]] [[], [], [], [], [], [], [], [], [], [], [], [], [], [], [], []] (fun (i : Nat) (v : Value) (W : World) => match i with
    | 0 => v = .pointer (some ⟨ga, 0, none⟩)
    | 1 => v = .bool s
    | 2 => v = .pointer (some ⟨gb, 0, none⟩)
    | 3 => v = .bool t
    | 4 => v = .bool (s != t)
    | 5 => v = .pointer (some ⟨ga, 1, none⟩)
    | 6 => v = .slice A1 l1 c1
    | 7 => v = .pointer (some ⟨gb, 1, none⟩)
    | 8 => v = .slice B1 m1 k1
    | 9 => W32 W v (n * m)
    | 10 => v = .pointer (some ⟨ga, 2, none⟩)
    | 11 => v = .slice A2 l2 c2
    | 12 => v = .pointer (some ⟨gb, 2, none⟩)
    | 13 => v = .slice B2 m2 k2
    | 14 => W32 W v (d * e)
    | 15 => NumV W v (s != t) (n * m) (d * e)
    | _ => True) (fun _ W => Ext w W) (by kernel_rfl) (by kernel_rfl) hsz (fun _ _ _ _ h => h) ((Ext.refl w).drew) ?_ ?_
  · clear hend
    simp only [rops, Try.f98, regOf, Option.bind_some, Nat.reduceBEq, if_true, if_false, Bool.false_eq_true, Option.getD_some]
    simp only [List.take_succ_cons, List.take_zero]
    refine ⟨?_, ?_, ?_, ?_, ?_, ?_, ?_, ?_, ?_, ?_, ?_, ?_, ?_, ?_, ?_, ?_, trivial⟩
    · intro done us W hJ hdep haft hnot b hb hb' K hK Q'
      have e2 := (hb' 2 (by simp)).trans s2
      clear hb hb'
      go_simp
      exact hK _ _ rfl (fun _ _ _ h => h) hJ
    · intro done us W hJ hdep haft hnot b hb hb' K hK Q'
      simp only [List.getD_cons_succ, List.getD_cons_zero, List.mem_cons, List.not_mem_nil, or_false, forall_eq] at hdep
      have e5 := hb 0 5 rfl
      have d0 := hdep
      rw [d0.1] at e5
      clear hb hb' hdep d0
      have q := Ext.cell hJ a0
      go_simp
      exact hK _ _ rfl (fun _ _ _ h => h) hJ
    · intro done us W hJ hdep haft hnot b hb hb' K hK Q'
      have e3 := (hb' 3 (by simp)).trans s3
      clear hb hb'
      go_simp
      exact hK _ _ rfl (fun _ _ _ h => h) hJ
    · intro done us W hJ hdep haft hnot b hb hb' K hK Q'
      simp only [List.getD_cons_succ, List.getD_cons_zero, List.mem_cons, List.not_mem_nil, or_false, forall_eq] at hdep
      have e7 := hb 2 7 rfl
      have d2 := hdep
      rw [d2.1] at e7
      clear hb hb' hdep d2
      have q := Ext.cell hJ b0
      go_simp
      exact hK _ _ rfl (fun _ _ _ h => h) hJ
    · intro done us W hJ hdep haft hnot b hb hb' K hK Q'
      simp only [List.getD_cons_succ, List.getD_cons_zero, List.mem_cons, List.not_mem_nil, or_false, forall_eq_or_imp, forall_eq] at hdep
      have e6 := hb 1 6 rfl
      have e8 := hb 3 8 rfl
      have d1 := hdep.1
      have d3 := hdep.2
      rw [d1.1] at e6
      rw [d3.1] at e8
      clear hb hb' hdep d1 d3
      go_simp
      exact hK _ _ rfl (fun _ _ _ h => h) hJ
    · intro done us W hJ hdep haft hnot b hb hb' K hK Q'
      have e2 := (hb' 2 (by simp)).trans s2
      clear hb hb'
      go_simp
      exact hK _ _ rfl (fun _ _ _ h => h) hJ
    · intro done us W hJ hdep haft hnot b hb hb' K hK Q'
      simp only [List.getD_cons_succ, List.getD_cons_zero, List.mem_cons, List.not_mem_nil, or_false, forall_eq] at hdep
      have e10 := hb 5 10 rfl
      have d5 := hdep
      rw [d5.1] at e10
      clear hb hb' hdep d5
      have q := Ext.cell hJ a1
      go_simp
      exact hK _ _ rfl (fun _ _ _ h => h) hJ
    · intro done us W hJ hdep haft hnot b hb hb' K hK Q'
      have e3 := (hb' 3 (by simp)).trans s3
      clear hb hb'
      go_simp
      exact hK _ _ rfl (fun _ _ _ h => h) hJ
    · intro done us W hJ hdep haft hnot b hb hb' K hK Q'
      simp only [List.getD_cons_succ, List.getD_cons_zero, List.mem_cons, List.not_mem_nil, or_false, forall_eq] at hdep
      have e12 := hb 7 12 rfl
      have d7 := hdep
      rw [d7.1] at e12
      clear hb hb' hdep d7
      have q := Ext.cell hJ b1
      go_simp
      exact hK _ _ rfl (fun _ _ _ h => h) hJ
    · intro done us W hJ hdep haft hnot b hb hb' K hK Q'
      simp only [List.getD_cons_succ, List.getD_cons_zero, List.mem_cons, List.not_mem_nil, or_false, forall_eq_or_imp, forall_eq] at hdep
      have e11 := hb 6 11 rfl
      have e13 := hb 8 13 rfl
      have d6 := hdep.1
      have d8 := hdep.2
      rw [d6.1] at e11
      rw [d8.1] at e13
      clear hb hb' hdep d6 d8
      go_simp
      refine (mul_any _ _ n m L M _ (W32.ext h1 hJ) (W32.ext h3 hJ) f1 f3 hL hM).mono ?_
      rintro e w' ⟨v, rfl, hv, hX⟩
      exact hK _ _ hv (fun j u _ h => hmono _ _ j u hX h) (Ext.trans hJ hX)
    · intro done us W hJ hdep haft hnot b hb hb' K hK Q'
      have e2 := (hb' 2 (by simp)).trans s2
      clear hb hb'
      go_simp
      exact hK _ _ rfl (fun _ _ _ h => h) hJ
    · intro done us W hJ hdep haft hnot b hb hb' K hK Q'
      simp only [List.getD_cons_succ, List.getD_cons_zero, List.mem_cons, List.not_mem_nil, or_false, forall_eq] at hdep
      have e15 := hb 10 15 rfl
      have d10 := hdep
      rw [d10.1] at e15
      clear hb hb' hdep d10
      have q := Ext.cell hJ a2
      go_simp
      exact hK _ _ rfl (fun _ _ _ h => h) hJ
    · intro done us W hJ hdep haft hnot b hb hb' K hK Q'
      have e3 := (hb' 3 (by simp)).trans s3
      clear hb hb'
      go_simp
      exact hK _ _ rfl (fun _ _ _ h => h) hJ
    · intro done us W hJ hdep haft hnot b hb hb' K hK Q'
      simp only [List.getD_cons_succ, List.getD_cons_zero, List.mem_cons, List.not_mem_nil, or_false, forall_eq] at hdep
      have e17 := hb 12 17 rfl
      have d12 := hdep
      rw [d12.1] at e17
      clear hb hb' hdep d12
      have q := Ext.cell hJ b2
      go_simp
      exact hK _ _ rfl (fun _ _ _ h => h) hJ
    · intro done us W hJ hdep haft hnot b hb hb' K hK Q'
      simp only [List.getD_cons_succ, List.getD_cons_zero, List.mem_cons, List.not_mem_nil, or_false, forall_eq_or_imp, forall_eq] at hdep
      have e16 := hb 11 16 rfl
      have e18 := hb 13 18 rfl
      have d11 := hdep.1
      have d13 := hdep.2
      rw [d11.1] at e16
      rw [d13.1] at e18
      clear hb hb' hdep d11 d13
      go_simp
      refine (mul_any _ _ d e L M _ (W32.ext h2 hJ) (W32.ext h4 hJ) f2 f4 hL hM).mono ?_
      rintro e w' ⟨v, rfl, hv, hX⟩
      exact hK _ _ hv (fun j u _ h => hmono _ _ j u hX h) (Ext.trans hJ hX)
    · intro done us W hJ hdep haft hnot b hb hb' K hK Q'
      simp only [List.getD_cons_succ, List.getD_cons_zero, List.mem_cons, List.not_mem_nil, or_false, forall_eq_or_imp, forall_eq] at hdep
      have e9 := hb 4 9 rfl
      have e14 := hb 9 14 rfl
      have e19 := hb 14 19 rfl
      have d4 := hdep.1
      have d9 := hdep.2.1
      have d14 := hdep.2.2
      rw [d4.1] at e9
      clear hb hb' hdep d4
      obtain ⟨P1, q1, r1, hv1, g1, _⟩ := W32.open d9.1
      obtain ⟨P2, q2, r2, hv2, g2, _⟩ := W32.open d14.1
      rw [hv1] at e14
      rw [hv2] at e19
      go_simp
      exact hK _ _ ⟨_, _, rfl, g1, g2⟩ (fun _ _ _ h => h) hJ
  · intro us W hV hJ
    exact hend (us 0) (us 1) (us 2) (us 3) (us 4) (us 5) (us 6) (us 7) (us 8) (us 9) (us 10) (us 11) (us 12) (us 13) (us 14) (us 15) W (hV 0 (by omega)) (hV 1 (by omega)) (hV 2 (by omega)) (hV 3 (by omega)) (hV 4 (by omega)) (hV 5 (by omega)) (hV 6 (by omega)) (hV 7 (by omega)) (hV 8 (by omega)) (hV 9 (by omega)) (hV 10 (by omega)) (hV 11 (by omega)) (hV 12 (by omega)) (hV 13 (by omega)) (hV 14 (by omega)) (hV 15 (by omega)) hJ

set_option maxRecDepth 100000 in
set_option maxHeartbeats 1000000 in
theorem rmul_any (va vb : Value) (s t : Bool) (n d m e L M : Nat) (w : World) (ha : NumV w va s n d) (hb : NumV w vb t m e) (f1 : Fit 4294967296 n L) (f2 : Fit 4294967296 d L) (f3 : Fit 4294967296 m M) (f4 : Fit 4294967296 e M) (hL : L ≤ 1099511627776) (hM : M ≤ 1099511627776) :
    Calls Try.prog 98 #[va, vb] w (RetR w (s != t) (n * m) (d * e)) := by
  obtain ⟨A1, l1, c1, A2, l2, c2, rfl, h1, h2, _, _⟩ := ha.open
  obtain ⟨B1, m1, k1, B2, m2, k2, rfl, h3, h4, _, _⟩ := hb.open
  clear ha hb
  have H1 := Lib.hid h1
  have H2 := Lib.hid h2
  have H3 := Lib.hid h3
  have H4 := Lib.hid h4
  clear h1 h2 h3 h4
  go_enter Try.func98, Try.ntmps98
  go_wp2_with fail
  have hXw : Ext w (((w.alloc (.cells #[.bool s, .slice A1 l1 c1, .slice A2 l2 c2] 96)).alloc (.cells #[.bool t, .slice B1 m1 k1, .slice B2 m2 k2] 96)).alloc (.cells #[.bool false, .slice none 0 0, .slice none 0 0] 96)) := (((Ext.refl w).alloc _).alloc _).alloc _
  have hBA : Blk (((w.alloc (.cells #[.bool s, .slice A1 l1 c1, .slice A2 l2 c2] 96)).alloc (.cells #[.bool t, .slice B1 m1 k1, .slice B2 m2 k2] 96)).alloc (.cells #[.bool false, .slice none 0 0, .slice none 0 0] 96)) w.heap.size 96 #[.bool s, .slice A1 l1 c1, .slice A2 l2 c2] := ((Blk.new w _ _).alloc _).alloc _
  have hBB : Blk (((w.alloc (.cells #[.bool s, .slice A1 l1 c1, .slice A2 l2 c2] 96)).alloc (.cells #[.bool t, .slice B1 m1 k1, .slice B2 m2 k2] 96)).alloc (.cells #[.bool false, .slice none 0 0, .slice none 0 0] 96)) (w.heap.size + 1) 96 #[.bool t, .slice B1 m1 k1, .slice B2 m2 k2] := by
    have := (Blk.new (w.alloc (.cells #[.bool s, .slice A1 l1 c1, .slice A2 l2 c2] 96)) 96 #[.bool t, .slice B1 m1 k1, .slice B2 m2 k2]).alloc (.cells #[.bool false, .slice none 0 0, .slice none 0 0] 96)
    simpa using this
  have hBR : Blk (((w.alloc (.cells #[.bool s, .slice A1 l1 c1, .slice A2 l2 c2] 96)).alloc (.cells #[.bool t, .slice B1 m1 k1, .slice B2 m2 k2] 96)).alloc (.cells #[.bool false, .slice none 0 0, .slice none 0 0] 96)) (w.heap.size + 1 + 1) 96 #[.bool false, .slice none 0 0, .slice none 0 0] := by
    have := Blk.new ((w.alloc (.cells #[.bool s, .slice A1 l1 c1, .slice A2 l2 c2] 96)).alloc (.cells #[.bool t, .slice B1 m1 k1, .slice B2 m2 k2] 96)) 96 #[.bool false, .slice none 0 0, .slice none 0 0]
    simpa using this
  generalize ((w.alloc (.cells #[.bool s, .slice A1 l1 c1, .slice A2 l2 c2] 96)).alloc (.cells #[.bool t, .slice B1 m1 k1, .slice B2 m2 k2] 96)).alloc (.cells #[.bool false, .slice none 0 0, .slice none 0 0] 96) = w1 at hXw hBA hBB hBR ⊢
  obtain ⟨a0, a1, a2, _, _, _⟩ := hBA.three
  obtain ⟨b0, b1, b2, _, _, _⟩ := hBB.three
  have HXw := Lib.hid hXw
  have HBA := Lib.hid hBA
  have HBB := Lib.hid hBB
  have HBR := Lib.hid hBR
  replace H1 := Lib.hid (H1.out.ext hXw)
  replace H2 := Lib.hid (H2.out.ext hXw)
  replace H3 := Lib.hid (H3.out.ext hXw)
  replace H4 := Lib.hid (H4.out.ext hXw)
  clear hXw hBA hBB hBR
  refine rmul_r1 w.heap.size (w.heap.size + 1) s t A1 A2 B1 B2 l1 c1 l2 c2 m1 k1 m2 k2 n d m e L M w1 a0 a1 a2 b0 b1 b2 H1.out H2.out H3.out H4.out f1 f2 f3 f4 hL hM _ _ (by simp) rfl rfl ?_
  rintro x0 x1 x2 x3 x4 x5 x6 x7 x8 x9 x10 x11 x12 x13 x14 x15 W rfl rfl rfl rfl rfl rfl rfl rfl rfl h9 rfl rfl rfl rfl h14 h15 hXW
  simp only [rops, Try.f98, regOf, Option.bind_some, Nat.reduceBEq, if_true, if_false, Bool.false_eq_true, Option.getD_some, List.drop_succ_cons, List.drop_zero]
  simp only [Act.put, List.setIfInBounds_toArray, List.set_cons_succ, List.set_cons_zero]
  obtain ⟨P1, q1, r1, P2, q2, r2, rfl, g1, g2, _, _⟩ := NumV.open h15
  clear h9 h14 h15
  obtain ⟨y0, y1, y2, f0, f1', f2'⟩ := (HBR.out.ext hXW).three
  have HNB := Lib.hid (NoInts.three (HBR.out.ext hXW))
  have G1 := Lib.hid g1
  have G2 := Lib.hid g2
  have HXW := Lib.hid hXW
  clear g1 g2 hXW a0 a1 a2 b0 b1 b2
  go_wp2
  refine bodyPost_ret (v := .agg #[.bool (s != t), .slice P1 q1 r1, .slice P2 q2 r2]) (by simp [results, Try.results98, go_sem, *]) rfl ?_
  exact ⟨_, rfl, ⟨_, _, rfl, G1.out.boxed HNB.out _ _ _ _ _ _ _, G2.out.boxed HNB.out _ _ _ _ _ _ _⟩, Ext.boxed (HXw.out.trans HXW.out) (by omega) _ _ _⟩

set_option maxRecDepth 100000 in
set_option maxHeartbeats 2000000 in
theorem rdiv_r1 (ga gb : Nat) (s t : Bool) (A1 A2 B1 B2 : Option Addr) (l1 c1 l2 c2 m1 k1 m2 k2 n d m e L M : Nat) (w : World) (a0 : w.cell? ⟨ga, 0, none⟩ = some (.bool s)) (a1 : w.cell? ⟨ga, 1, none⟩ = some (.slice A1 l1 c1)) (a2 : w.cell? ⟨ga, 2, none⟩ = some (.slice A2 l2 c2)) (b0 : w.cell? ⟨gb, 0, none⟩ = some (.bool t)) (b1 : w.cell? ⟨gb, 1, none⟩ = some (.slice B1 m1 k1)) (b2 : w.cell? ⟨gb, 2, none⟩ = some (.slice B2 m2 k2)) (h1 : W32 w (.slice A1 l1 c1) n) (h2 : W32 w (.slice A2 l2 c2) d) (h3 : W32 w (.slice B1 m1 k1) m) (h4 : W32 w (.slice B2 m2 k2) e) (f1 : Fit 4294967296 n L) (f2 : Fit 4294967296 d L) (f3 : Fit 4294967296 m M) (f4 : Fit 4294967296 e M) (hL : L ≤ 1099511627776) (hM : M ≤ 1099511627776) (a : Act) (Q : Exit → Act → World → Prop) (hsize : 21 ≤ a.tmps.size)
    (s2 : a.tmps[2]? = some (.pointer (some ⟨ga, 0, none⟩)))
    (s3 : a.tmps[3]? = some (.pointer (some ⟨gb, 0, none⟩)))
    (hend : ∀ (x0 x1 x2 x3 x4 x5 x6 x7 x8 x9 x10 x11 x12 x13 x14 x15 : Value) (W : World), (x0 = .pointer (some ⟨ga, 0, none⟩)) → (x1 = .bool s) → (x2 = .pointer (some ⟨gb, 0, none⟩)) → (x3 = .bool t) → (x4 = .bool (s != t)) → (x5 = .pointer (some ⟨ga, 1, none⟩)) → (x6 = .slice A1 l1 c1) → (x7 = .pointer (some ⟨gb, 2, none⟩)) → (x8 = .slice B2 m2 k2) → (W32 W x9 (n * e)) → (x10 = .pointer (some ⟨ga, 2, none⟩)) → (x11 = .slice A2 l2 c2) → (x12 = .pointer (some ⟨gb, 1, none⟩)) → (x13 = .slice B1 m1 k1) → (W32 W x14 (d * m)) → (NumV W x15 (s != t) (n * e) (d * m)) → Ext w W → wpList Try.prog (rops Try.f76 1).toArray Q ((rops Try.f76 1).drop 16) ((((((((((((((((a.put (some 5) x0).put (some 6) x1).put (some 7) x2).put (some 8) x3).put (some 9) x4).put (some 10) x5).put (some 11) x6).put (some 12) x7).put (some 13) x8).put (some 14) x9).put (some 15) x10).put (some 16) x11).put (some 17) x12).put (some 18) x13).put (some 19) x14).put (some 20) x15) W) :
    (Code.region 1 (rops Try.f76 1).toArray true).wp Try.prog Q a w := by
  have hmono : ∀ (W W' : World) (j : Nat) (u : Value), Ext W W' → (fun (i : Nat) (v : Value) (W : World) => match i with
    | 0 => v = .pointer (some ⟨ga, 0, none⟩)
    | 1 => v = .bool s
    | 2 => v = .pointer (some ⟨gb, 0, none⟩)
    | 3 => v = .bool t
    | 4 => v = .bool (s != t)
    | 5 => v = .pointer (some ⟨ga, 1, none⟩)
    | 6 => v = .slice A1 l1 c1
    | 7 => v = .pointer (some ⟨gb, 2, none⟩)
    | 8 => v = .slice B2 m2 k2
    | 9 => W32 W v (n * e)
    | 10 => v = .pointer (some ⟨ga, 2, none⟩)
    | 11 => v = .slice A2 l2 c2
    | 12 => v = .pointer (some ⟨gb, 1, none⟩)
    | 13 => v = .slice B1 m1 k1
    | 14 => W32 W v (d * m)
    | 15 => NumV W v (s != t) (n * e) (d * m)
    | _ => True) j u W → (fun (i : Nat) (v : Value) (W : World) => match i with
    | 0 => v = .pointer (some ⟨ga, 0, none⟩)
    | 1 => v = .bool s
    | 2 => v = .pointer (some ⟨gb, 0, none⟩)
    | 3 => v = .bool t
    | 4 => v = .bool (s != t)
    | 5 => v = .pointer (some ⟨ga, 1, none⟩)
    | 6 => v = .slice A1 l1 c1
    | 7 => v = .pointer (some ⟨gb, 2, none⟩)
    | 8 => v = .slice B2 m2 k2
    | 9 => W32 W v (n * e)
    | 10 => v = .pointer (some ⟨ga, 2, none⟩)
    | 11 => v = .slice A2 l2 c2
    | 12 => v = .pointer (some ⟨gb, 1, none⟩)
    | 13 => v = .slice B1 m1 k1
    | 14 => W32 W v (d * m)
    | 15 => NumV W v (s != t) (n * e) (d * m)
    | _ => True) j u W' := by
    intro W W' j u hX h
    match j, h with
    | 0, h => exact h
    | 1, h => exact h
    | 2, h => exact h
    | 3, h => exact h
    | 4, h => exact h
    | 5, h => exact h
    | 6, h => exact h
    | 7, h => exact h
    | 8, h => exact h
    | 9, h => exact W32.ext h hX
    | 10, h => exact h
    | 11, h => exact h
    | 12, h => exact h
    | 13, h => exact h
    | 14, h => exact W32.ext h hX
    | 15, h => exact NumV.ext h hX
    | _ + 16, h => exact h
  have hsz : ∀ d, some d ∈ ([some 5, some 6, some 7, some 8, some 9, some 10, some 11, some 12, some 13, some 14, some 15, some 16, some 17, some 18, some 19, some 20] : List (Option Tmp)) → d < a.tmps.size := slots_lt (by decide) hsize
  refine wp_region_j 16 [some 5, some 6, some 7, some 8, some 9, some 10, some 11, some 12, some 13, some 14, some 15, some 16, some 17, some 18, some 19, some 20] [[], [0], [], [2], [1, 3], [], [5], [], [7], [6, 8], [], [10], [], [12], [11, 13], [4, 9, 14]] [[], [], [], [], [], [], [], [], [], [], [], [], [], [], [], []] (fun (i : Nat) (v : Value) (W : World) => match i with
    | 0 => v = .pointer (some ⟨ga, 0, none⟩)
    | 1 => v = .bool s
    | 2 => v = .pointer (some ⟨gb, 0, none⟩)
    | 3 => v = .bool t
    | 4 => v = .bool (s != t)
    | 5 => v = .pointer (some ⟨ga, 1, none⟩)
    | 6 => v = .slice A1 l1 c1
    | 7 => v = .pointer (some ⟨gb, 2, none⟩)
    | 8 => v = .slice B2 m2 k2
    | 9 => W32 W v (n * e)
    | 10 => v = .pointer (some ⟨ga, 2, none⟩)
    | 11 => v = .slice A2 l2 c2
    | 12 => v = .pointer (some ⟨gb, 1, none⟩)
    | 13 => v = .slice B1 m1 k1
    | 14 => W32 W v (d * m)
    | 15 => NumV W v (s != t) (n * e) (d * m)
    | _ => True) (fun _ W => Ext w W) (by kernel_rfl) (by kernel_rfl) hsz (fun _ _ _ _ h => h) ((Ext.refl w).drew) ?_ ?_
  · clear hend
    simp only [rops, Try.f76, regOf, Option.bind_some, Nat.reduceBEq, if_true, if_false, Bool.false_eq_true, Option.getD_some]
    simp only [List.take_succ_cons, List.take_zero]
    refine ⟨?_, ?_, ?_, ?_, ?_, ?_, ?_, ?_, ?_, ?_, ?_, ?_, ?_, ?_, ?_, ?_, trivial⟩
    · intro done us W hJ hdep haft hnot b hb hb' K hK Q'
      have e2 := (hb' 2 (by simp)).trans s2
      clear hb hb'
      go_simp
      exact hK _ _ rfl (fun _ _ _ h => h) hJ
    · intro done us W hJ hdep haft hnot b hb hb' K hK Q'
      simp only [List.getD_cons_succ, List.getD_cons_zero, List.mem_cons, List.not_mem_nil, or_false, forall_eq] at hdep
      have e5 := hb 0 5 rfl
      have d0 := hdep
      rw [d0.1] at e5
      clear hb hb' hdep d0
      have q := Ext.cell hJ a0
      go_simp
      exact hK _ _ rfl (fun _ _ _ h => h) hJ
    · intro done us W hJ hdep haft hnot b hb hb' K hK Q'
      have e3 := (hb' 3 (by simp)).trans s3
      clear hb hb'
      go_simp
      exact hK _ _ rfl (fun _ _ _ h => h) hJ
    · intro done us W hJ hdep haft hnot b hb hb' K hK Q'
      simp only [List.getD_cons_succ, List.getD_cons_zero, List.mem_cons, List.not_mem_nil, or_false, forall_eq] at hdep
      have e7 := hb 2 7 rfl
      have d2 := hdep
      rw [d2.1] at e7
      clear hb hb' hdep d2
      have q := Ext.cell hJ b0
      go_simp
      exact hK _ _ rfl (fun _ _ _ h => h) hJ
    · intro done us W hJ hdep haft hnot b hb hb' K hK Q'
      simp only [List.getD_cons_succ, List.getD_cons_zero, List.mem_cons, List.not_mem_nil, or_false, forall_eq_or_imp, forall_eq] at hdep
      have e6 := hb 1 6 rfl
      have e8 := hb 3 8 rfl
      have d1 := hdep.1
      have d3 := hdep.2
      rw [d1.1] at e6
      rw [d3.1] at e8
      clear hb hb' hdep d1 d3
      go_simp
      exact hK _ _ rfl (fun _ _ _ h => h) hJ
    · intro done us W hJ hdep haft hnot b hb hb' K hK Q'
      have e2 := (hb' 2 (by simp)).trans s2
      clear hb hb'
      go_simp
      exact hK _ _ rfl (fun _ _ _ h => h) hJ
    · intro done us W hJ hdep haft hnot b hb hb' K hK Q'
      simp only [List.getD_cons_succ, List.getD_cons_zero, List.mem_cons, List.not_mem_nil, or_false, forall_eq] at hdep
      have e10 := hb 5 10 rfl
      have d5 := hdep
      rw [d5.1] at e10
      clear hb hb' hdep d5
      have q := Ext.cell hJ a1
      go_simp
      exact hK _ _ rfl (fun _ _ _ h => h) hJ
    · intro done us W hJ hdep haft hnot b hb hb' K hK Q'
      have e3 := (hb' 3 (by simp)).trans s3
      clear hb hb'
      go_simp
      exact hK _ _ rfl (fun _ _ _ h => h) hJ
    · intro done us W hJ hdep haft hnot b hb hb' K hK Q'
      simp only [List.getD_cons_succ, List.getD_cons_zero, List.mem_cons, List.not_mem_nil, or_false, forall_eq] at hdep
      have e12 := hb 7 12 rfl
      have d7 := hdep
      rw [d7.1] at e12
      clear hb hb' hdep d7
      have q := Ext.cell hJ b2
      go_simp
      exact hK _ _ rfl (fun _ _ _ h => h) hJ
    · intro done us W hJ hdep haft hnot b hb hb' K hK Q'
      simp only [List.getD_cons_succ, List.getD_cons_zero, List.mem_cons, List.not_mem_nil, or_false, forall_eq_or_imp, forall_eq] at hdep
      have e11 := hb 6 11 rfl
      have e13 := hb 8 13 rfl
      have d6 := hdep.1
      have d8 := hdep.2
      rw [d6.1] at e11
      rw [d8.1] at e13
      clear hb hb' hdep d6 d8
      go_simp
      refine (mul_any _ _ n e L M _ (W32.ext h1 hJ) (W32.ext h4 hJ) f1 f4 hL hM).mono ?_
      rintro e w' ⟨v, rfl, hv, hX⟩
      exact hK _ _ hv (fun j u _ h => hmono _ _ j u hX h) (Ext.trans hJ hX)
    · intro done us W hJ hdep haft hnot b hb hb' K hK Q'
      have e2 := (hb' 2 (by simp)).trans s2
      clear hb hb'
      go_simp
      exact hK _ _ rfl (fun _ _ _ h => h) hJ
    · intro done us W hJ hdep haft hnot b hb hb' K hK Q'
      simp only [List.getD_cons_succ, List.getD_cons_zero, List.mem_cons, List.not_mem_nil, or_false, forall_eq] at hdep
      have e15 := hb 10 15 rfl
      have d10 := hdep
      rw [d10.1] at e15
      clear hb hb' hdep d10
      have q := Ext.cell hJ a2
      go_simp
      exact hK _ _ rfl (fun _ _ _ h => h) hJ
    · intro done us W hJ hdep haft hnot b hb hb' K hK Q'
      have e3 := (hb' 3 (by simp)).trans s3
      clear hb hb'
      go_simp
      exact hK _ _ rfl (fun _ _ _ h => h) hJ
    · intro done us W hJ hdep haft hnot b hb hb' K hK Q'
      simp only [List.getD_cons_succ, List.getD_cons_zero, List.mem_cons, List.not_mem_nil, or_false, forall_eq] at hdep
      have e17 := hb 12 17 rfl
      have d12 := hdep
      rw [d12.1] at e17
      clear hb hb' hdep d12
      have q := Ext.cell hJ b1
      go_simp
      exact hK _ _ rfl (fun _ _ _ h => h) hJ
    · intro done us W hJ hdep haft hnot b hb hb' K hK Q'
      simp only [List.getD_cons_succ, List.getD_cons_zero, List.mem_cons, List.not_mem_nil, or_false, forall_eq_or_imp, forall_eq] at hdep
      have e16 := hb 11 16 rfl
      have e18 := hb 13 18 rfl
      have d11 := hdep.1
      have d13 := hdep.2
      rw [d11.1] at e16
      rw [d13.1] at e18
      clear hb hb' hdep d11 d13
      go_simp
      refine (mul_any _ _ d m L M _ (W32.ext h2 hJ) (W32.ext h3 hJ) f2 f3 hL hM).mono ?_
      rintro e w' ⟨v, rfl, hv, hX⟩
      exact hK _ _ hv (fun j u _ h => hmono _ _ j u hX h) (Ext.trans hJ hX)
    · intro done us W hJ hdep haft hnot b hb hb' K hK Q'
      simp only [List.getD_cons_succ, List.getD_cons_zero, List.mem_cons, List.not_mem_nil, or_false, forall_eq_or_imp, forall_eq] at hdep
      have e9 := hb 4 9 rfl
      have e14 := hb 9 14 rfl
      have e19 := hb 14 19 rfl
      have d4 := hdep.1
      have d9 := hdep.2.1
      have d14 := hdep.2.2
      rw [d4.1] at e9
      clear hb hb' hdep d4
      obtain ⟨P1, q1, r1, hv1, g1, _⟩ := W32.open d9.1
      obtain ⟨P2, q2, r2, hv2, g2, _⟩ := W32.open d14.1
      rw [hv1] at e14
      rw [hv2] at e19
      go_simp
      exact hK _ _ ⟨_, _, rfl, g1, g2⟩ (fun _ _ _ h => h) hJ
  · intro us W hV hJ
    exact hend (us 0) (us 1) (us 2) (us 3) (us 4) (us 5) (us 6) (us 7) (us 8) (us 9) (us 10) (us 11) (us 12) (us 13) (us 14) (us 15) W (hV 0 (by omega)) (hV 1 (by omega)) (hV 2 (by omega)) (hV 3 (by omega)) (hV 4 (by omega)) (hV 5 (by omega)) (hV 6 (by omega)) (hV 7 (by omega)) (hV 8 (by omega)) (hV 9 (by omega)) (hV 10 (by omega)) (hV 11 (by omega)) (hV 12 (by omega)) (hV 13 (by omega)) (hV 14 (by omega)) (hV 15 (by omega)) hJ

set_option maxRecDepth 100000 in
set_option maxHeartbeats 1000000 in
theorem rdiv_any (va vb : Value) (s t : Bool) (n d m e L M : Nat) (w : World) (ha : NumV w va s n d) (hb : NumV w vb t m e) (f1 : Fit 4294967296 n L) (f2 : Fit 4294967296 d L) (f3 : Fit 4294967296 m M) (f4 : Fit 4294967296 e M) (hL : L ≤ 1099511627776) (hM : M ≤ 1099511627776) :
    Calls Try.prog 76 #[va, vb] w (RetR w (s != t) (n * e) (d * m)) := by
  obtain ⟨A1, l1, c1, A2, l2, c2, rfl, h1, h2, _, _⟩ := ha.open
  obtain ⟨B1, m1, k1, B2, m2, k2, rfl, h3, h4, _, _⟩ := hb.open
  clear ha hb
  have H1 := Lib.hid h1
  have H2 := Lib.hid h2
  have H3 := Lib.hid h3
  have H4 := Lib.hid h4
  clear h1 h2 h3 h4
  go_enter Try.func76, Try.ntmps76
  go_wp2_with fail
  have hXw : Ext w (((w.alloc (.cells #[.bool s, .slice A1 l1 c1, .slice A2 l2 c2] 96)).alloc (.cells #[.bool t, .slice B1 m1 k1, .slice B2 m2 k2] 96)).alloc (.cells #[.bool false, .slice none 0 0, .slice none 0 0] 96)) := (((Ext.refl w).alloc _).alloc _).alloc _
  have hBA : Blk (((w.alloc (.cells #[.bool s, .slice A1 l1 c1, .slice A2 l2 c2] 96)).alloc (.cells #[.bool t, .slice B1 m1 k1, .slice B2 m2 k2] 96)).alloc (.cells #[.bool false, .slice none 0 0, .slice none 0 0] 96)) w.heap.size 96 #[.bool s, .slice A1 l1 c1, .slice A2 l2 c2] := ((Blk.new w _ _).alloc _).alloc _
  have hBB : Blk (((w.alloc (.cells #[.bool s, .slice A1 l1 c1, .slice A2 l2 c2] 96)).alloc (.cells #[.bool t, .slice B1 m1 k1, .slice B2 m2 k2] 96)).alloc (.cells #[.bool false, .slice none 0 0, .slice none 0 0] 96)) (w.heap.size + 1) 96 #[.bool t, .slice B1 m1 k1, .slice B2 m2 k2] := by
    have := (Blk.new (w.alloc (.cells #[.bool s, .slice A1 l1 c1, .slice A2 l2 c2] 96)) 96 #[.bool t, .slice B1 m1 k1, .slice B2 m2 k2]).alloc (.cells #[.bool false, .slice none 0 0, .slice none 0 0] 96)
    simpa using this
  have hBR : Blk (((w.alloc (.cells #[.bool s, .slice A1 l1 c1, .slice A2 l2 c2] 96)).alloc (.cells #[.bool t, .slice B1 m1 k1, .slice B2 m2 k2] 96)).alloc (.cells #[.bool false, .slice none 0 0, .slice none 0 0] 96)) (w.heap.size + 1 + 1) 96 #[.bool false, .slice none 0 0, .slice none 0 0] := by
    have := Blk.new ((w.alloc (.cells #[.bool s, .slice A1 l1 c1, .slice A2 l2 c2] 96)).alloc (.cells #[.bool t, .slice B1 m1 k1, .slice B2 m2 k2] 96)) 96 #[.bool false, .slice none 0 0, .slice none 0 0]
    simpa using this
  generalize ((w.alloc (.cells #[.bool s, .slice A1 l1 c1, .slice A2 l2 c2] 96)).alloc (.cells #[.bool t, .slice B1 m1 k1, .slice B2 m2 k2] 96)).alloc (.cells #[.bool false, .slice none 0 0, .slice none 0 0] 96) = w1 at hXw hBA hBB hBR ⊢
  obtain ⟨a0, a1, a2, _, _, _⟩ := hBA.three
  obtain ⟨b0, b1, b2, _, _, _⟩ := hBB.three
  have HXw := Lib.hid hXw
  have HBA := Lib.hid hBA
  have HBB := Lib.hid hBB
  have HBR := Lib.hid hBR
  replace H1 := Lib.hid (H1.out.ext hXw)
  replace H2 := Lib.hid (H2.out.ext hXw)
  replace H3 := Lib.hid (H3.out.ext hXw)
  replace H4 := Lib.hid (H4.out.ext hXw)
  clear hXw hBA hBB hBR
  refine rdiv_r1 w.heap.size (w.heap.size + 1) s t A1 A2 B1 B2 l1 c1 l2 c2 m1 k1 m2 k2 n d m e L M w1 a0 a1 a2 b0 b1 b2 H1.out H2.out H3.out H4.out f1 f2 f3 f4 hL hM _ _ (by simp) rfl rfl ?_
  rintro x0 x1 x2 x3 x4 x5 x6 x7 x8 x9 x10 x11 x12 x13 x14 x15 W rfl rfl rfl rfl rfl rfl rfl rfl rfl h9 rfl rfl rfl rfl h14 h15 hXW
  simp only [rops, Try.f76, regOf, Option.bind_some, Nat.reduceBEq, if_true, if_false, Bool.false_eq_true, Option.getD_some, List.drop_succ_cons, List.drop_zero]
  simp only [Act.put, List.setIfInBounds_toArray, List.set_cons_succ, List.set_cons_zero]
  obtain ⟨P1, q1, r1, P2, q2, r2, rfl, g1, g2, _, _⟩ := NumV.open h15
  clear h9 h14 h15
  obtain ⟨y0, y1, y2, f0, f1', f2'⟩ := (HBR.out.ext hXW).three
  have HNB := Lib.hid (NoInts.three (HBR.out.ext hXW))
  have G1 := Lib.hid g1
  have G2 := Lib.hid g2
  have HXW := Lib.hid hXW
  clear g1 g2 hXW a0 a1 a2 b0 b1 b2
  go_wp2
  refine bodyPost_ret (v := .agg #[.bool (s != t), .slice P1 q1 r1, .slice P2 q2 r2]) (by simp [results, Try.results76, go_sem, *]) rfl ?_
  exact ⟨_, rfl, ⟨_, _, rfl, G1.out.boxed HNB.out _ _ _ _ _ _ _, G2.out.boxed HNB.out _ _ _ _ _ _ _⟩, Ext.boxed (HXw.out.trans HXW.out) (by omega) _ _ _⟩

end Go.Proofs.Yteoijnaljkagfaa
