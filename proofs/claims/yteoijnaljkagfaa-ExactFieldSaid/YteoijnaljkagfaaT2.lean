/- Law of one region of text (program): two bytes are exchanged, in whatever order. -/
import Derived.Test.YteoijnaljkagfaaT1
import Derived.Test.YteoijnaljkagfaaMono2
namespace Go.Proofs.Yteoijnaljkagfaa
open Go.RowKit
set_option maxRecDepth 100000 in
set_option maxHeartbeats 2000000 in
theorem text_r17 (g l c pi pj : Nat) (x y : Int) (w : World) (hci : w.cell? ⟨g, pi, none⟩ = some (.int .u8 x)) (hcj : w.cell? ⟨g, pj, none⟩ = some (.int .u8 y)) (hfi : w.frozen? ⟨g, pi, none⟩ = false) (hf15 : Hid (w.frozen? ⟨g, pj, none⟩ = false)) (hc15 : Hid ((w.setCell ⟨g, pi, none⟩ (.int .u8 y)).cell? ⟨g, pj, none⟩ = some (.int .u8 y))) (hi0 : (0 : Int) ≤ (pi : Int)) (hj0 : (0 : Int) ≤ (pj : Int)) (hi1 : (pi : Int) < (l : Int)) (hj1 : (pj : Int) < (l : Int)) (a : Act) (Q : Exit → Act → World → Prop) (hsize : 68 ≤ a.tmps.size)
    (s3 : a.tmps[3]? = some (.slice (some ⟨g, 0, none⟩) l c))
    (s6 : a.tmps[6]? = some (.int .i64 (pi : Int)))
    (s7 : a.tmps[7]? = some (.int .i64 (pj : Int)))
    (hend : ∀ (xv0 xv1 xv2 xv3 xv4 xv5 xv6 xv7 xv8 xv9 xv10 xv11 xv12 xv13 xv14 xv15 : Value) (W : World), (xv0 = .slice (some ⟨g, 0, none⟩) l c) → (xv1 = .int .i64 (pi : Int)) → (xv2 = .slice (some ⟨g, 0, none⟩) l c) → (xv3 = .int .i64 (pj : Int)) → (xv4 = .slice (some ⟨g, 0, none⟩) l c) → (xv5 = .int .i64 (pj : Int)) → (xv6 = .pointer (some ⟨g, pj, none⟩)) → (xv7 = .int .u8 y) → (xv8 = .slice (some ⟨g, 0, none⟩) l c) → (xv9 = .int .i64 (pi : Int)) → (xv10 = .pointer (some ⟨g, pi, none⟩)) → (xv11 = .int .u8 x) → (xv12 = .pointer (some ⟨g, pi, none⟩)) → (True) → (xv14 = .pointer (some ⟨g, pj, none⟩)) → (True) → W = ((w.setCell ⟨g, pi, none⟩ (.int .u8 y)).setCell ⟨g, pj, none⟩ (.int .u8 x)).drew → wpList Try.prog (rops Try.f122 17).toArray Q ((rops Try.f122 17).drop 16) ((((((((((((((((a.put (some 54) xv0).put (some 55) xv1).put (some 56) xv2).put (some 57) xv3).put (some 58) xv4).put (some 59) xv5).put (some 60) xv6).put (some 61) xv7).put (some 62) xv8).put (some 63) xv9).put (some 64) xv10).put (some 65) xv11).put (some 66) xv12).put (none) xv13).put (some 67) xv14).put (none) xv15) W) :
    (Code.region 17 (rops Try.f122 17).toArray true).wp Try.prog Q a w := by
  have hsz : ∀ d, some d ∈ ([some 54, some 55, some 56, some 57, some 58, some 59, some 60, some 61, some 62, some 63, some 64, some 65, some 66, none, some 67, none] : List (Option Tmp)) → d < a.tmps.size := slots_lt (by decide) hsize
  refine wp_region_j 16 [some 54, some 55, some 56, some 57, some 58, some 59, some 60, some 61, some 62, some 63, some 64, some 65, some 66, none, some 67, none] [[], [], [], [], [], [], [4, 5], [6], [], [], [8, 9], [10], [0, 1], [7, 12], [2, 3], [11, 13, 14]] [[], [], [], [], [], [], [], [13], [], [], [], [13], [], [15], [], []] (fun i v _ => match i with
    | 0 => v = .slice (some ⟨g, 0, none⟩) l c
    | 1 => v = .int .i64 (pi : Int)
    | 2 => v = .slice (some ⟨g, 0, none⟩) l c
    | 3 => v = .int .i64 (pj : Int)
    | 4 => v = .slice (some ⟨g, 0, none⟩) l c
    | 5 => v = .int .i64 (pj : Int)
    | 6 => v = .pointer (some ⟨g, pj, none⟩)
    | 7 => v = .int .u8 y
    | 8 => v = .slice (some ⟨g, 0, none⟩) l c
    | 9 => v = .int .i64 (pi : Int)
    | 10 => v = .pointer (some ⟨g, pi, none⟩)
    | 11 => v = .int .u8 x
    | 12 => v = .pointer (some ⟨g, pi, none⟩)
    | 13 => True
    | 14 => v = .pointer (some ⟨g, pj, none⟩)
    | 15 => True
    | _ => True) (fun done W => (¬ done 13 → W = w.drew) ∧ (done 13 → ¬ done 15 → W = (w.setCell ⟨g, pi, none⟩ (.int .u8 y)).drew) ∧ (done 15 → W = ((w.setCell ⟨g, pi, none⟩ (.int .u8 y)).setCell ⟨g, pj, none⟩ (.int .u8 x)).drew)) (by kernel_rfl) (by kernel_rfl) hsz (fun p q W h hJ => ⟨fun hn => hJ.1 (fun hp => hn ((h 13).1 hp)), fun hq hn => hJ.2.1 ((h 13).2 hq) (fun hp => hn ((h 15).1 hp)), fun hq => hJ.2.2 ((h 15).2 hq)⟩) ⟨fun _ => rfl, fun h => h.elim, fun h => h.elim⟩ ?_ ?_
  · clear hend
    simp only [rops, Try.f122, regOf, Option.bind_some, Nat.reduceBEq, if_true, if_false, Bool.false_eq_true, Option.getD_some]
    simp only [List.take_succ_cons, List.take_zero]
    refine ⟨?_, ?_, ?_, ?_, ?_, ?_, ?_, ?_, ?_, ?_, ?_, ?_, ?_, ?_, ?_, ?_, trivial⟩
    · intro done us W hJ hdep haft hnot b hb hb' K hK Q'
      have e3 := (hb' 3 (by simp)).trans s3
      clear hb hb'
      go_simp
      exact hK _ _ rfl (fun _ _ _ h => h) (by simpa using hJ)
    · intro done us W hJ hdep haft hnot b hb hb' K hK Q'
      have e6 := (hb' 6 (by simp)).trans s6
      clear hb hb'
      go_simp
      exact hK _ _ rfl (fun _ _ _ h => h) (by simpa using hJ)
    · intro done us W hJ hdep haft hnot b hb hb' K hK Q'
      have e3 := (hb' 3 (by simp)).trans s3
      clear hb hb'
      go_simp
      exact hK _ _ rfl (fun _ _ _ h => h) (by simpa using hJ)
    · intro done us W hJ hdep haft hnot b hb hb' K hK Q'
      have e7 := (hb' 7 (by simp)).trans s7
      clear hb hb'
      go_simp
      exact hK _ _ rfl (fun _ _ _ h => h) (by simpa using hJ)
    · intro done us W hJ hdep haft hnot b hb hb' K hK Q'
      have e3 := (hb' 3 (by simp)).trans s3
      clear hb hb'
      go_simp
      exact hK _ _ rfl (fun _ _ _ h => h) (by simpa using hJ)
    · intro done us W hJ hdep haft hnot b hb hb' K hK Q'
      have e7 := (hb' 7 (by simp)).trans s7
      clear hb hb'
      go_simp
      exact hK _ _ rfl (fun _ _ _ h => h) (by simpa using hJ)
    · intro done us W hJ hdep haft hnot b hb hb' K hK Q'
      simp only [List.getD_cons_succ, List.getD_cons_zero, List.mem_cons, List.not_mem_nil, or_false, forall_eq_or_imp, forall_eq] at hdep
      have e58 := hb 4 58 rfl
      have e59 := hb 5 59 rfl
      have d4 := hdep.1
      have d5 := hdep.2
      rw [d4.1] at e58
      rw [d5.1] at e59
      clear hb hb' hdep d4 d5
      go_simp
      exact hK _ _ rfl (fun _ _ _ h => h) (by simpa using hJ)
    · intro done us W hJ hdep haft hnot b hb hb' K hK Q'
      simp only [List.getD_cons_succ, List.getD_cons_zero, List.mem_cons, List.not_mem_nil, or_false, forall_eq] at hdep
      simp only [List.getD_cons_succ, List.getD_cons_zero, List.mem_cons, List.not_mem_nil, or_false, forall_eq] at haft
      have e60 := hb 6 60 rfl
      have d6 := hdep
      rw [d6.1] at e60
      clear hb hb' hdep d6
      obtain rfl := hJ.1 haft
      go_simp
      exact hK _ _ rfl (fun _ _ _ h => h) (by simpa using hJ)
    · intro done us W hJ hdep haft hnot b hb hb' K hK Q'
      have e3 := (hb' 3 (by simp)).trans s3
      clear hb hb'
      go_simp
      exact hK _ _ rfl (fun _ _ _ h => h) (by simpa using hJ)
    · intro done us W hJ hdep haft hnot b hb hb' K hK Q'
      have e6 := (hb' 6 (by simp)).trans s6
      clear hb hb'
      go_simp
      exact hK _ _ rfl (fun _ _ _ h => h) (by simpa using hJ)
    · intro done us W hJ hdep haft hnot b hb hb' K hK Q'
      simp only [List.getD_cons_succ, List.getD_cons_zero, List.mem_cons, List.not_mem_nil, or_false, forall_eq_or_imp, forall_eq] at hdep
      have e62 := hb 8 62 rfl
      have e63 := hb 9 63 rfl
      have d8 := hdep.1
      have d9 := hdep.2
      rw [d8.1] at e62
      rw [d9.1] at e63
      clear hb hb' hdep d8 d9
      go_simp
      exact hK _ _ rfl (fun _ _ _ h => h) (by simpa using hJ)
    · intro done us W hJ hdep haft hnot b hb hb' K hK Q'
      simp only [List.getD_cons_succ, List.getD_cons_zero, List.mem_cons, List.not_mem_nil, or_false, forall_eq] at hdep
      simp only [List.getD_cons_succ, List.getD_cons_zero, List.mem_cons, List.not_mem_nil, or_false, forall_eq] at haft
      have e64 := hb 10 64 rfl
      have d10 := hdep
      rw [d10.1] at e64
      clear hb hb' hdep d10
      obtain rfl := hJ.1 haft
      go_simp
      exact hK _ _ rfl (fun _ _ _ h => h) (by simpa using hJ)
    · intro done us W hJ hdep haft hnot b hb hb' K hK Q'
      simp only [List.getD_cons_succ, List.getD_cons_zero, List.mem_cons, List.not_mem_nil, or_false, forall_eq_or_imp, forall_eq] at hdep
      have e54 := hb 0 54 rfl
      have e55 := hb 1 55 rfl
      have d0 := hdep.1
      have d1 := hdep.2
      rw [d0.1] at e54
      rw [d1.1] at e55
      clear hb hb' hdep d0 d1
      go_simp
      exact hK _ _ rfl (fun _ _ _ h => h) (by simpa using hJ)
    · intro done us W hJ hdep haft hnot b hb hb' K hK Q'
      simp only [List.getD_cons_succ, List.getD_cons_zero, List.mem_cons, List.not_mem_nil, or_false, forall_eq_or_imp, forall_eq] at hdep
      simp only [List.getD_cons_succ, List.getD_cons_zero, List.mem_cons, List.not_mem_nil, or_false, forall_eq] at haft
      have e61 := hb 7 61 rfl
      have e66 := hb 12 66 rfl
      have d7 := hdep.1
      have d12 := hdep.2
      rw [d7.1] at e61
      rw [d12.1] at e66
      clear hb hb' hdep d7 d12
      obtain rfl := hJ.1 hnot
      go_simp
      exact hK undef _ trivial (fun _ _ _ h => h) ⟨fun h => absurd (Or.inr rfl) h, fun _ _ => rfl, fun h => by rcases h with h | h; exact absurd h haft; cases h⟩
    · intro done us W hJ hdep haft hnot b hb hb' K hK Q'
      simp only [List.getD_cons_succ, List.getD_cons_zero, List.mem_cons, List.not_mem_nil, or_false, forall_eq_or_imp, forall_eq] at hdep
      have e56 := hb 2 56 rfl
      have e57 := hb 3 57 rfl
      have d2 := hdep.1
      have d3 := hdep.2
      rw [d2.1] at e56
      rw [d3.1] at e57
      clear hb hb' hdep d2 d3
      go_simp
      exact hK _ _ rfl (fun _ _ _ h => h) (by simpa using hJ)
    · intro done us W hJ hdep haft hnot b hb hb' K hK Q'
      simp only [List.getD_cons_succ, List.getD_cons_zero, List.mem_cons, List.not_mem_nil, or_false, forall_eq_or_imp, forall_eq] at hdep
      have e65 := hb 11 65 rfl
      have e67 := hb 14 67 rfl
      have d11 := hdep.1
      have d13 := hdep.2.1
      have d14 := hdep.2.2
      rw [d11.1] at e65
      rw [d14.1] at e67
      clear hb hb' hdep d11 d14
      obtain rfl := hJ.2.1 d13.2 hnot
      have hf2 := hf15.out
      have hc2 := hc15.out
      go_simp
      exact hK undef _ trivial (fun _ _ _ h => h) ⟨fun h => absurd (Or.inl d13.2) h, fun _ h => absurd (Or.inr rfl) h, fun _ => rfl⟩
  · intro us W hV hJ
    exact hend (us 0) (us 1) (us 2) (us 3) (us 4) (us 5) (us 6) (us 7) (us 8) (us 9) (us 10) (us 11) (us 12) (us 13) (us 14) (us 15) W (hV 0 (by omega)) (hV 1 (by omega)) (hV 2 (by omega)) (hV 3 (by omega)) (hV 4 (by omega)) (hV 5 (by omega)) (hV 6 (by omega)) (hV 7 (by omega)) (hV 8 (by omega)) (hV 9 (by omega)) (hV 10 (by omega)) (hV 11 (by omega)) (hV 12 (by omega)) (hV 13 (by omega)) (hV 14 (by omega)) (hV 15 (by omega)) (by simpa using hJ)
end Go.Proofs.Yteoijnaljkagfaa
