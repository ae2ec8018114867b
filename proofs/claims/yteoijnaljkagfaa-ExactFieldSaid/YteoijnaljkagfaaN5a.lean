/- Law of one region of quotient (program): adding back one digit, in whatever order. -/
import Derived.Test.YteoijnaljkagfaaN4
import Derived.Test.YteoijnaljkagfaaMono2
namespace Go.Proofs.Yteoijnaljkagfaa
open Go.RowKit
set_option maxRecDepth 100000 in
set_option maxHeartbeats 2000000 in
theorem quotient_r27 (g off gv p cu cv k : Nat) (uk' vk cc : Int) (w : World) (hcu : w.cell? ⟨g, off + k, none⟩ = some (.int .u32 uk')) (hcv : w.cell? ⟨gv, k, none⟩ = some (.int .u32 vk)) (hfu : w.frozen? ⟨g, off + k, none⟩ = false) (huk0 : 0 ≤ uk') (huk1 : uk' ≤ 4294967295) (hvk0 : 0 ≤ vk) (hvk1 : vk ≤ 4294967295) (hcc0 : 0 ≤ cc) (hcc1 : cc ≤ 1) (hk0 : (0 : Int) ≤ (k : Int)) (hk1 : (k : Int) < (p : Int) + 2) (hk2 : (k : Int) < (p : Int) + 3) (a : Act) (Q : Exit → Act → World → Prop) (hsize : 157 ≤ a.tmps.size)
    (s0 : a.tmps[0]? = some (.slice (some ⟨g, off, none⟩) (p + 3) cu))
    (s1 : a.tmps[1]? = some (.slice (some ⟨gv, 0, none⟩) (p + 2) cv))
    (s15 : a.tmps[15]? = some (.int .u32 cc))
    (s16 : a.tmps[16]? = some (.int .i64 (k : Int)))
    (hend : ∀ (x0 x1 x2 x3 x4 x5 x6 x7 x8 x9 x10 x11 x12 x13 x14 x15 x16 : Value) (W : World), (x0 = .slice (some ⟨g, off, none⟩) (p + 3) cu) → (x1 = .int .i64 (k : Int)) → (x2 = .slice (some ⟨g, off, none⟩) (p + 3) cu) → (x3 = .int .i64 (k : Int)) → (x4 = .pointer (some ⟨g, off + k, none⟩)) → (x5 = .int .u32 uk') → (x6 = .slice (some ⟨gv, 0, none⟩) (p + 2) cv) → (x7 = .int .i64 (k : Int)) → (x8 = .pointer (some ⟨gv, k, none⟩)) → (x9 = .int .u32 vk) → (x10 = .int .u32 cc) → (x11 = .tuple #[.int .u32 ((uk' + vk + cc) % 4294967296), .int .u32 ((uk' + vk + cc) / 4294967296)]) → (x12 = .tuple #[.int .u32 ((uk' + vk + cc) % 4294967296), .int .u32 ((uk' + vk + cc) / 4294967296)]) → (x13 = .int .u32 ((uk' + vk + cc) % 4294967296)) → (x14 = .int .u32 ((uk' + vk + cc) / 4294967296)) → (x15 = .pointer (some ⟨g, off + k, none⟩)) → (True) → W = w.drew.setCell ⟨g, off + k, none⟩ (.int .u32 ((uk' + vk + cc) % 4294967296)) → wpList Try.prog (rops Try.f140 27).toArray Q ((rops Try.f140 27).drop 17) (((((((((((((((((a.put (some 142) x0).put (some 143) x1).put (some 144) x2).put (some 145) x3).put (some 146) x4).put (some 147) x5).put (some 148) x6).put (some 149) x7).put (some 150) x8).put (some 151) x9).put (some 152) x10).put (some 153) x11).put (some 141) x12).put (some 154) x13).put (some 155) x14).put (some 156) x15).put (none) x16) W) :
    (Code.region 27 (rops Try.f140 27).toArray true).wp Try.prog Q a w := by
  have hsz : ∀ d, some d ∈ ([some 142, some 143, some 144, some 145, some 146, some 147, some 148, some 149, some 150, some 151, some 152, some 153, some 141, some 154, some 155, some 156, none] : List (Option Tmp)) → d < a.tmps.size := slots_lt (by decide) hsize
  refine wp_region_j 17 [some 142, some 143, some 144, some 145, some 146, some 147, some 148, some 149, some 150, some 151, some 152, some 153, some 141, some 154, some 155, some 156, none] [[], [], [], [], [2, 3], [4], [], [], [6, 7], [8], [], [5, 9, 10], [11], [12], [12], [0, 1], [13, 15]] [[], [], [], [], [], [16], [], [], [], [16], [], [16], [], [], [], [], []] (fun i v _ => match i with
    | 0 => v = .slice (some ⟨g, off, none⟩) (p + 3) cu
    | 1 => v = .int .i64 (k : Int)
    | 2 => v = .slice (some ⟨g, off, none⟩) (p + 3) cu
    | 3 => v = .int .i64 (k : Int)
    | 4 => v = .pointer (some ⟨g, off + k, none⟩)
    | 5 => v = .int .u32 uk'
    | 6 => v = .slice (some ⟨gv, 0, none⟩) (p + 2) cv
    | 7 => v = .int .i64 (k : Int)
    | 8 => v = .pointer (some ⟨gv, k, none⟩)
    | 9 => v = .int .u32 vk
    | 10 => v = .int .u32 cc
    | 11 => v = .tuple #[.int .u32 ((uk' + vk + cc) % 4294967296), .int .u32 ((uk' + vk + cc) / 4294967296)]
    | 12 => v = .tuple #[.int .u32 ((uk' + vk + cc) % 4294967296), .int .u32 ((uk' + vk + cc) / 4294967296)]
    | 13 => v = .int .u32 ((uk' + vk + cc) % 4294967296)
    | 14 => v = .int .u32 ((uk' + vk + cc) / 4294967296)
    | 15 => v = .pointer (some ⟨g, off + k, none⟩)
    | 16 => True
    | _ => True) (fun done W => (¬ done 16 → W = w.drew) ∧ (done 16 → W = w.drew.setCell ⟨g, off + k, none⟩ (.int .u32 ((uk' + vk + cc) % 4294967296)))) (by kernel_rfl) (by kernel_rfl) hsz (fun p q W h hJ => ⟨fun hn => hJ.1 (fun hp => hn ((h 16).1 hp)), fun hq => hJ.2 ((h 16).2 hq)⟩) ⟨fun _ => rfl, fun h => h.elim⟩ ?_ ?_
  · clear hend
    simp only [rops, Try.f140, regOf, Option.bind_some, Nat.reduceBEq, if_true, if_false, Bool.false_eq_true, Option.getD_some]
    simp only [List.take_succ_cons, List.take_zero]
    refine ⟨?_, ?_, ?_, ?_, ?_, ?_, ?_, ?_, ?_, ?_, ?_, ?_, ?_, ?_, ?_, ?_, ?_, trivial⟩
    · intro done us W hJ hdep haft hnot b hb hb' K hK Q'
      have e0 := (hb' 0 (by simp)).trans s0
      clear hb hb'
      go_simp
      exact hK _ _ rfl (fun _ _ _ h => h) (by simpa using hJ)
    · intro done us W hJ hdep haft hnot b hb hb' K hK Q'
      have e16 := (hb' 16 (by simp)).trans s16
      clear hb hb'
      go_simp
      exact hK _ _ rfl (fun _ _ _ h => h) (by simpa using hJ)
    · intro done us W hJ hdep haft hnot b hb hb' K hK Q'
      have e0 := (hb' 0 (by simp)).trans s0
      clear hb hb'
      go_simp
      exact hK _ _ rfl (fun _ _ _ h => h) (by simpa using hJ)
    · intro done us W hJ hdep haft hnot b hb hb' K hK Q'
      have e16 := (hb' 16 (by simp)).trans s16
      clear hb hb'
      go_simp
      exact hK _ _ rfl (fun _ _ _ h => h) (by simpa using hJ)
    · intro done us W hJ hdep haft hnot b hb hb' K hK Q'
      simp only [List.getD_cons_succ, List.getD_cons_zero, List.mem_cons, List.not_mem_nil, or_false, forall_eq_or_imp, forall_eq] at hdep
      have e144 := hb 2 144 rfl
      have e145 := hb 3 145 rfl
      have d2 := hdep.1
      have d3 := hdep.2
      rw [d2.1] at e144
      rw [d3.1] at e145
      clear hb hb' hdep d2 d3
      go_simp
      exact hK _ _ rfl (fun _ _ _ h => h) (by simpa using hJ)
    · intro done us W hJ hdep haft hnot b hb hb' K hK Q'
      simp only [List.getD_cons_succ, List.getD_cons_zero, List.mem_cons, List.not_mem_nil, or_false, forall_eq] at hdep
      simp only [List.getD_cons_succ, List.getD_cons_zero, List.mem_cons, List.not_mem_nil, or_false, forall_eq] at haft
      have e146 := hb 4 146 rfl
      have d4 := hdep
      rw [d4.1] at e146
      clear hb hb' hdep d4
      obtain rfl := hJ.1 haft
      go_simp
      exact hK _ _ rfl (fun _ _ _ h => h) (by simpa using hJ)
    · intro done us W hJ hdep haft hnot b hb hb' K hK Q'
      have e1 := (hb' 1 (by simp)).trans s1
      clear hb hb'
      go_simp
      exact hK _ _ rfl (fun _ _ _ h => h) (by simpa using hJ)
    · intro done us W hJ hdep haft hnot b hb hb' K hK Q'
      have e16 := (hb' 16 (by simp)).trans s16
      clear hb hb'
      go_simp
      exact hK _ _ rfl (fun _ _ _ h => h) (by simpa using hJ)
    · intro done us W hJ hdep haft hnot b hb hb' K hK Q'
      simp only [List.getD_cons_succ, List.getD_cons_zero, List.mem_cons, List.not_mem_nil, or_false, forall_eq_or_imp, forall_eq] at hdep
      have e148 := hb 6 148 rfl
      have e149 := hb 7 149 rfl
      have d6 := hdep.1
      have d7 := hdep.2
      rw [d6.1] at e148
      rw [d7.1] at e149
      clear hb hb' hdep d6 d7
      go_simp
      exact hK _ _ rfl (fun _ _ _ h => h) (by simpa using hJ)
    · intro done us W hJ hdep haft hnot b hb hb' K hK Q'
      simp only [List.getD_cons_succ, List.getD_cons_zero, List.mem_cons, List.not_mem_nil, or_false, forall_eq] at hdep
      simp only [List.getD_cons_succ, List.getD_cons_zero, List.mem_cons, List.not_mem_nil, or_false, forall_eq] at haft
      have e150 := hb 8 150 rfl
      have d8 := hdep
      rw [d8.1] at e150
      clear hb hb' hdep d8
      obtain rfl := hJ.1 haft
      go_simp
      exact hK _ _ rfl (fun _ _ _ h => h) (by simpa using hJ)
    · intro done us W hJ hdep haft hnot b hb hb' K hK Q'
      have e15 := (hb' 15 (by simp)).trans s15
      clear hb hb'
      go_simp
      exact hK _ _ rfl (fun _ _ _ h => h) (by simpa using hJ)
    · intro done us W hJ hdep haft hnot b hb hb' K hK Q'
      simp only [List.getD_cons_succ, List.getD_cons_zero, List.mem_cons, List.not_mem_nil, or_false, forall_eq_or_imp, forall_eq] at hdep
      simp only [List.getD_cons_succ, List.getD_cons_zero, List.mem_cons, List.not_mem_nil, or_false, forall_eq] at haft
      have e147 := hb 5 147 rfl
      have e151 := hb 9 151 rfl
      have e152 := hb 10 152 rfl
      have d5 := hdep.1
      have d9 := hdep.2.1
      have d10 := hdep.2.2
      rw [d5.1] at e147
      rw [d9.1] at e151
      rw [d10.1] at e152
      clear hb hb' hdep d5 d9 d10
      obtain rfl := hJ.1 haft
      go_simp
      refine (add32_any uk' vk cc _ ⟨huk0, huk1⟩ ⟨hvk0, hvk1⟩ ⟨hcc0, hcc1⟩).mono ?_
      rintro e w' ⟨rfl, rfl⟩
      exact hK _ _ rfl (fun _ _ _ h => h) (by simpa using hJ)
    · intro done us W hJ hdep haft hnot b hb hb' K hK Q'
      simp only [List.getD_cons_succ, List.getD_cons_zero, List.mem_cons, List.not_mem_nil, or_false, forall_eq] at hdep
      have e153 := hb 11 153 rfl
      have d11 := hdep
      rw [d11.1] at e153
      clear hb hb' hdep d11
      go_simp
      exact hK _ _ rfl (fun _ _ _ h => h) (by simpa using hJ)
    · intro done us W hJ hdep haft hnot b hb hb' K hK Q'
      simp only [List.getD_cons_succ, List.getD_cons_zero, List.mem_cons, List.not_mem_nil, or_false, forall_eq] at hdep
      have e141 := hb 12 141 rfl
      have d12 := hdep
      rw [d12.1] at e141
      clear hb hb' hdep d12
      go_simp
      exact hK _ _ rfl (fun _ _ _ h => h) (by simpa using hJ)
    · intro done us W hJ hdep haft hnot b hb hb' K hK Q'
      simp only [List.getD_cons_succ, List.getD_cons_zero, List.mem_cons, List.not_mem_nil, or_false, forall_eq] at hdep
      have e141 := hb 12 141 rfl
      have d12 := hdep
      rw [d12.1] at e141
      clear hb hb' hdep d12
      go_simp
      exact hK _ _ rfl (fun _ _ _ h => h) (by simpa using hJ)
    · intro done us W hJ hdep haft hnot b hb hb' K hK Q'
      simp only [List.getD_cons_succ, List.getD_cons_zero, List.mem_cons, List.not_mem_nil, or_false, forall_eq_or_imp, forall_eq] at hdep
      have e142 := hb 0 142 rfl
      have e143 := hb 1 143 rfl
      have d0 := hdep.1
      have d1 := hdep.2
      rw [d0.1] at e142
      rw [d1.1] at e143
      clear hb hb' hdep d0 d1
      go_simp
      exact hK _ _ rfl (fun _ _ _ h => h) (by simpa using hJ)
    · intro done us W hJ hdep haft hnot b hb hb' K hK Q'
      simp only [List.getD_cons_succ, List.getD_cons_zero, List.mem_cons, List.not_mem_nil, or_false, forall_eq_or_imp, forall_eq] at hdep
      have e154 := hb 13 154 rfl
      have e156 := hb 15 156 rfl
      have d13 := hdep.1
      have d15 := hdep.2
      rw [d13.1] at e154
      rw [d15.1] at e156
      clear hb hb' hdep d13 d15
      obtain rfl := hJ.1 hnot
      go_simp
      exact hK undef _ trivial (fun _ _ _ h => h) ⟨fun h => absurd (Or.inr rfl) h, fun _ => rfl⟩
  · intro us W hV hJ
    exact hend (us 0) (us 1) (us 2) (us 3) (us 4) (us 5) (us 6) (us 7) (us 8) (us 9) (us 10) (us 11) (us 12) (us 13) (us 14) (us 15) (us 16) W (hV 0 (by omega)) (hV 1 (by omega)) (hV 2 (by omega)) (hV 3 (by omega)) (hV 4 (by omega)) (hV 5 (by omega)) (hV 6 (by omega)) (hV 7 (by omega)) (hV 8 (by omega)) (hV 9 (by omega)) (hV 10 (by omega)) (hV 11 (by omega)) (hV 12 (by omega)) (hV 13 (by omega)) (hV 14 (by omega)) (hV 15 (by omega)) (hV 16 (by omega)) (by simpa using hJ)
end Go.Proofs.Yteoijnaljkagfaa
