/- Lemmas of the proof that follows (Moves, part 13): walks of functions by contract, and plain lemmas. Conditions: none. -/
import Derived.Test.YtikhlcgnlbinfaaMovesL
namespace Go.Proofs.Ytikhlcgnlbinfaa
open Lib (hid)
open Go.RowKit
set_option maxRecDepth 100000 in
set_option maxHeartbeats 2000000 in
theorem swap_r0 (gt ct mm aa bb nn ga gb ca cb : Nat) (tt : TypeId) (cur : Array Value) (w : World) (hB : Blk w gt tt cur) (ha : cur[aa]? = some (.slice (some ⟨ga, 0, none⟩) nn ca)) (hb : cur[bb]? = some (.slice (some ⟨gb, 0, none⟩) nn cb)) (hbs : bb < cur.size) (_hA1 : aa < mm) (hB1 : bb < mm) (a : Act) (Q : Exit → Act → World → Prop) (hsize : 20 ≤ a.tmps.size)
  (s0 : a.tmps[0]? = some (.slice (some ⟨gt, 0, none⟩) mm ct))
  (s1 : a.tmps[1]? = some (.int .i64 (aa : Int)))
  (s2 : a.tmps[2]? = some (.int .i64 (bb : Int)))
  (hend : ∀ (xv0 xv1 xv2 xv3 xv4 xv5 xv6 xv7 xv8 xv9 xv10 xv11 xv12 xv13 xv14 xv15 : Value) (W : World), (xv0 = .slice (some ⟨gt, 0, none⟩) mm ct) → (xv1 = .int .i64 (aa : Int)) → (xv2 = .slice (some ⟨gt, 0, none⟩) mm ct) → (xv3 = .int .i64 (bb : Int)) → (xv4 = .slice (some ⟨gt, 0, none⟩) mm ct) → (xv5 = .int .i64 (bb : Int)) → (xv6 = .pointer (some ⟨gt, bb, none⟩)) → (xv7 = .slice (some ⟨gb, 0, none⟩) nn cb) → (xv8 = .slice (some ⟨gt, 0, none⟩) mm ct) → (xv9 = .int .i64 (aa : Int)) → (xv10 = .pointer (some ⟨gt, aa, none⟩)) → (xv11 = .slice (some ⟨ga, 0, none⟩) nn ca) → (xv12 = .pointer (some ⟨gt, aa, none⟩)) → (True) → (xv14 = .pointer (some ⟨gt, bb, none⟩)) → (True) → W = ((w.drew.setCell ⟨gt, aa, none⟩ (.slice (some ⟨gb, 0, none⟩) nn cb)).setCell ⟨gt, bb, none⟩ (.slice (some ⟨ga, 0, none⟩) nn ca)) → wpList Try.prog (rops Try.f175 0).toArray Q ((rops Try.f175 0).drop 16) ((((((((((((((((a.put (some 6) xv0).put (some 7) xv1).put (some 8) xv2).put (some 9) xv3).put (some 10) xv4).put (some 11) xv5).put (some 12) xv6).put (some 13) xv7).put (some 14) xv8).put (some 15) xv9).put (some 16) xv10).put (some 17) xv11).put (some 18) xv12).put (none) xv13).put (some 19) xv14).put (none) xv15) W) :
  (Code.region 0 (rops Try.f175 0).toArray true).wp Try.prog Q a w := by
 have hsz : ∀ d, some d ∈ ([some 6, some 7, some 8, some 9, some 10, some 11, some 12, some 13, some 14, some 15, some 16, some 17, some 18, none, some 19, none] : List (Option Tmp)) → d < a.tmps.size := slots_lt (by decide) hsize
 refine wp_region_j 16 [some 6, some 7, some 8, some 9, some 10, some 11, some 12, some 13, some 14, some 15, some 16, some 17, some 18, none, some 19, none] [[], [], [], [], [], [], [4, 5], [6], [], [], [8, 9], [10], [0, 1], [7, 12], [2, 3], [11, 13, 14]] [[], [], [], [], [], [], [], [13, 15], [], [], [], [13, 15], [], [15], [], []] (fun i v _ => match i with
  | 0 => v = .slice (some ⟨gt, 0, none⟩) mm ct
  | 1 => v = .int .i64 (aa : Int)
  | 2 => v = .slice (some ⟨gt, 0, none⟩) mm ct
  | 3 => v = .int .i64 (bb : Int)
  | 4 => v = .slice (some ⟨gt, 0, none⟩) mm ct
  | 5 => v = .int .i64 (bb : Int)
  | 6 => v = .pointer (some ⟨gt, bb, none⟩)
  | 7 => v = .slice (some ⟨gb, 0, none⟩) nn cb
  | 8 => v = .slice (some ⟨gt, 0, none⟩) mm ct
  | 9 => v = .int .i64 (aa : Int)
  | 10 => v = .pointer (some ⟨gt, aa, none⟩)
  | 11 => v = .slice (some ⟨ga, 0, none⟩) nn ca
  | 12 => v = .pointer (some ⟨gt, aa, none⟩)
  | 13 => True
  | 14 => v = .pointer (some ⟨gt, bb, none⟩)
  | 15 => True
  | _ => True) (fun done W => (¬ done 13 → ¬ done 15 → W = w.drew) ∧ (done 13 → ¬ done 15 → W = (w.drew.setCell ⟨gt, aa, none⟩ (.slice (some ⟨gb, 0, none⟩) nn cb))) ∧ (done 15 → W = ((w.drew.setCell ⟨gt, aa, none⟩ (.slice (some ⟨gb, 0, none⟩) nn cb)).setCell ⟨gt, bb, none⟩ (.slice (some ⟨ga, 0, none⟩) nn ca)))) (by kernel_rfl) (by kernel_rfl) hsz (fun p q W h hj => by have e : p = q := funext fun k => propext (h k); subst e; exact hj) ⟨fun _ _ => rfl, fun h => h.elim, fun h => h.elim⟩ ?_ ?_
 ·
  clear hend
  simp only [rops, Try.f175, regOf, Option.bind_some, Nat.reduceBEq, if_true, Option.getD_some]
  simp only [List.take_succ_cons, List.take_zero]
  refine ⟨?_, ?_, ?_, ?_, ?_, ?_, ?_, ?_, ?_, ?_, ?_, ?_, ?_, ?_, ?_, ?_, trivial⟩
  ·
   intro done us W hJ hdep haft hnot b hb hb' K hK Q'
   have e0 := (hb' 0 (by simp)).trans s0
   clear hb hb'
   go_simp
   exact hK _ _ rfl (fun _ _ _ h => h) (by simpa using hJ)
  ·
   intro done us W hJ hdep haft hnot b hb hb' K hK Q'
   have e1 := (hb' 1 (by simp)).trans s1
   clear hb hb'
   go_simp
   exact hK _ _ rfl (fun _ _ _ h => h) (by simpa using hJ)
  ·
   intro done us W hJ hdep haft hnot b hb hb' K hK Q'
   have e0 := (hb' 0 (by simp)).trans s0
   clear hb hb'
   go_simp
   exact hK _ _ rfl (fun _ _ _ h => h) (by simpa using hJ)
  ·
   intro done us W hJ hdep haft hnot b hb hb' K hK Q'
   have e2 := (hb' 2 (by simp)).trans s2
   clear hb hb'
   go_simp
   exact hK _ _ rfl (fun _ _ _ h => h) (by simpa using hJ)
  ·
   intro done us W hJ hdep haft hnot b hb hb' K hK Q'
   have e0 := (hb' 0 (by simp)).trans s0
   clear hb hb'
   go_simp
   exact hK _ _ rfl (fun _ _ _ h => h) (by simpa using hJ)
  ·
   intro done us W hJ hdep haft hnot b hb hb' K hK Q'
   have e2 := (hb' 2 (by simp)).trans s2
   clear hb hb'
   go_simp
   exact hK _ _ rfl (fun _ _ _ h => h) (by simpa using hJ)
  ·
   intro done us W hJ hdep haft hnot b hb hb' K hK Q'
   simp only [List.getD_cons_succ, List.getD_cons_zero, List.mem_cons, List.not_mem_nil, or_false, forall_eq_or_imp, forall_eq] at hdep
   have e10 := hb 4 10 rfl
   have e11 := hb 5 11 rfl
   have d4 := hdep.1
   have d5 := hdep.2
   rw [d4.1] at e10
   rw [d5.1] at e11
   clear hb hb' hdep d4 d5
   go_simp
   exact hK _ _ rfl (fun _ _ _ h => h) (by simpa using hJ)
  ·
   intro done us W hJ hdep haft hnot b hb hb' K hK Q'
   simp only [List.getD_cons_succ, List.getD_cons_zero, List.mem_cons, List.not_mem_nil, or_false, forall_eq] at hdep
   simp only [List.getD_cons_succ, List.getD_cons_zero, List.mem_cons, List.not_mem_nil, or_false, forall_eq_or_imp, forall_eq] at haft
   have e12 := hb 6 12 rfl
   have d6 := hdep
   rw [d6.1] at e12
   clear hb hb' hdep d6
   obtain rfl := hJ.1 haft.1 haft.2
   have q1 := (hB.drew.cell bb).trans hb
   go_simp
   exact hK _ _ rfl (fun _ _ _ h => h) (by simpa using hJ)
  ·
   intro done us W hJ hdep haft hnot b hb hb' K hK Q'
   have e0 := (hb' 0 (by simp)).trans s0
   clear hb hb'
   go_simp
   exact hK _ _ rfl (fun _ _ _ h => h) (by simpa using hJ)
  ·
   intro done us W hJ hdep haft hnot b hb hb' K hK Q'
   have e1 := (hb' 1 (by simp)).trans s1
   clear hb hb'
   go_simp
   exact hK _ _ rfl (fun _ _ _ h => h) (by simpa using hJ)
  ·
   intro done us W hJ hdep haft hnot b hb hb' K hK Q'
   simp only [List.getD_cons_succ, List.getD_cons_zero, List.mem_cons, List.not_mem_nil, or_false, forall_eq_or_imp, forall_eq] at hdep
   have e14 := hb 8 14 rfl
   have e15 := hb 9 15 rfl
   have d8 := hdep.1
   have d9 := hdep.2
   rw [d8.1] at e14
   rw [d9.1] at e15
   clear hb hb' hdep d8 d9
   go_simp
   exact hK _ _ rfl (fun _ _ _ h => h) (by simpa using hJ)
  ·
   intro done us W hJ hdep haft hnot b hb hb' K hK Q'
   simp only [List.getD_cons_succ, List.getD_cons_zero, List.mem_cons, List.not_mem_nil, or_false, forall_eq] at hdep
   simp only [List.getD_cons_succ, List.getD_cons_zero, List.mem_cons, List.not_mem_nil, or_false, forall_eq_or_imp, forall_eq] at haft
   have e16 := hb 10 16 rfl
   have d10 := hdep
   rw [d10.1] at e16
   clear hb hb' hdep d10
   obtain rfl := hJ.1 haft.1 haft.2
   have q1 := (hB.drew.cell aa).trans ha
   go_simp
   exact hK _ _ rfl (fun _ _ _ h => h) (by simpa using hJ)
  ·
   intro done us W hJ hdep haft hnot b hb hb' K hK Q'
   simp only [List.getD_cons_succ, List.getD_cons_zero, List.mem_cons, List.not_mem_nil, or_false, forall_eq_or_imp, forall_eq] at hdep
   have e6 := hb 0 6 rfl
   have e7 := hb 1 7 rfl
   have d0 := hdep.1
   have d1 := hdep.2
   rw [d0.1] at e6
   rw [d1.1] at e7
   clear hb hb' hdep d0 d1
   go_simp
   exact hK _ _ rfl (fun _ _ _ h => h) (by simpa using hJ)
  ·
   intro done us W hJ hdep haft hnot b hb hb' K hK Q'
   simp only [List.getD_cons_succ, List.getD_cons_zero, List.mem_cons, List.not_mem_nil, or_false, forall_eq_or_imp, forall_eq] at hdep
   simp only [List.getD_cons_succ, List.getD_cons_zero, List.mem_cons, List.not_mem_nil, or_false, forall_eq] at haft
   have e13 := hb 7 13 rfl
   have e18 := hb 12 18 rfl
   have d7 := hdep.1
   have d12 := hdep.2
   rw [d7.1] at e13
   rw [d12.1] at e18
   clear hb hb' hdep d7 d12
   obtain rfl := hJ.1 hnot haft
   have q1 := (hB.drew.cell aa).trans ha
   have q2 := hB.drew.free aa
   have hfin := hK undef _ trivial (fun _ _ _ h => h) ⟨fun h => absurd (.inr rfl) h, fun _ _ => rfl, fun h => absurd (h.resolve_right (by decide)) haft⟩
   clear hK hJ
   go_simp
   exact hfin
  ·
   intro done us W hJ hdep haft hnot b hb hb' K hK Q'
   simp only [List.getD_cons_succ, List.getD_cons_zero, List.mem_cons, List.not_mem_nil, or_false, forall_eq_or_imp, forall_eq] at hdep
   have e8 := hb 2 8 rfl
   have e9 := hb 3 9 rfl
   have d2 := hdep.1
   have d3 := hdep.2
   rw [d2.1] at e8
   rw [d3.1] at e9
   clear hb hb' hdep d2 d3
   go_simp
   exact hK _ _ rfl (fun _ _ _ h => h) (by simpa using hJ)
  ·
   intro done us W hJ hdep haft hnot b hb hb' K hK Q'
   simp only [List.getD_cons_succ, List.getD_cons_zero, List.mem_cons, List.not_mem_nil, or_false, forall_eq_or_imp, forall_eq] at hdep
   have e17 := hb 11 17 rfl
   have e19 := hb 14 19 rfl
   have d11 := hdep.1
   have d13 := hdep.2.1
   have d14 := hdep.2.2
   rw [d11.1] at e17
   rw [d14.1] at e19
   clear hb hb' hdep d11 d14
   obtain rfl := hJ.2.1 d13.2 hnot
   have hB1 := hB.set aa (.slice (some ⟨gb, 0, none⟩) nn cb)
   obtain ⟨u, hu⟩ : ∃ u, (cur.setIfInBounds aa (.slice (some ⟨gb, 0, none⟩) nn cb))[bb]? = some u := ⟨_, Array.getElem?_eq_getElem (by simpa using hbs)⟩
   have q1 := (hB1.cell bb).trans hu
   have q2 := hB.free bb
   have hfin := hK undef _ trivial (fun _ _ _ h => h) ⟨fun _ h => absurd (.inr rfl) h, fun _ h => absurd (.inr rfl) h, fun _ => rfl⟩
   clear hK hJ hB1
   go_simp
   exact hfin
 ·
  intro us W hV hJ
  exact hend (us 0) (us 1) (us 2) (us 3) (us 4) (us 5) (us 6) (us 7) (us 8) (us 9) (us 10) (us 11) (us 12) (us 13) (us 14) (us 15) W (hV 0 (by omega)) (hV 1 (by omega)) (hV 2 (by omega)) (hV 3 (by omega)) (hV 4 (by omega)) (hV 5 (by omega)) (hV 6 (by omega)) (hV 7 (by omega)) (hV 8 (by omega)) (hV 9 (by omega)) (hV 10 (by omega)) (hV 11 (by omega)) (hV 12 (by omega)) (hV 13 (by omega)) (hV 14 (by omega)) (hV 15 (by omega)) (by simpa using hJ)
set_option maxRecDepth 100000 in
theorem swap_any (gt ct mm aa bb nn ga gb ca cb : Nat) (tt : TypeId) (cur : Array Value) (w : World) (hB : Blk w gt tt cur) (ha : cur[aa]? = some (.slice (some ⟨ga, 0, none⟩) nn ca)) (hb : cur[bb]? = some (.slice (some ⟨gb, 0, none⟩) nn cb)) (hA1 : aa < mm) (hB1 : bb < mm) :
  Calls Try.prog 175 #[.slice (some ⟨gt, 0, none⟩) mm ct, .int .i64 (aa : Int), .int .i64 (bb : Int)] w (fun e w' => e = .returned (.tuple #[]) ∧ w' = ((w.drew.setCell ⟨gt, aa, none⟩ (.slice (some ⟨gb, 0, none⟩) nn cb)).setCell ⟨gt, bb, none⟩ (.slice (some ⟨ga, 0, none⟩) nn ca))) := by
 have hbs : bb < cur.size := (Array.getElem?_eq_some_iff.1 hb).1
 go_enter Try.func175, Try.ntmps175
 go_upto_region 0 with (fail)
 refine swap_r0 gt ct mm aa bb nn ga gb ca cb tt cur w hB ha hb hbs hA1 hB1 _ _ (by simp) rfl rfl rfl ?_
 rintro xv0 xv1 xv2 xv3 xv4 xv5 xv6 xv7 xv8 xv9 xv10 xv11 xv12 xv13 xv14 xv15 W rfl rfl rfl rfl rfl rfl rfl rfl rfl rfl rfl rfl rfl _ rfl _ rfl
 simp only [rops, Try.f175, regOf, Option.bind_some, Nat.reduceBEq, if_true, Option.getD_some, List.drop_succ_cons, List.drop_zero]
 simp only [Act.put, List.setIfInBounds_toArray, List.set_cons_succ, List.set_cons_zero]
 go_wp2
 go_end0
 exact ⟨rfl, rfl⟩
set_option maxRecDepth 100000 in
set_option maxHeartbeats 2000000 in
theorem clear_r1 (gs gt ct mm aa bb nn ga gb ca cb : Nat) (w : World) (hs : w.cell? ⟨gs, 0, none⟩ = some (.slice (some ⟨gt, 0, none⟩) mm ct)) (ha : w.cell? ⟨gt, aa, none⟩ = some (.slice (some ⟨ga, 0, none⟩) nn ca)) (hb : w.cell? ⟨gt, bb, none⟩ = some (.slice (some ⟨gb, 0, none⟩) nn cb)) (_hA1 : aa < mm) (_hB1 : bb < mm) (a : Act) (Q : Exit → Act → World → Prop) (hsize : 21 ≤ a.tmps.size)
  (s1 : a.tmps[1]? = some (.int .i64 (aa : Int)))
  (s2 : a.tmps[2]? = some (.int .i64 (bb : Int)))
  (s4 : a.tmps[4]? = some (.pointer (some ⟨gs, 0, none⟩)))
  (hend : ∀ (xv0 xv1 xv2 xv3 xv4 xv5 xv6 xv7 xv8 xv9 xv10 xv11 : Value) (W : World), (xv0 = .pointer (some ⟨gs, 0, none⟩)) → (xv1 = .slice (some ⟨gt, 0, none⟩) mm ct) → (xv2 = .int .i64 (aa : Int)) → (xv3 = .pointer (some ⟨gt, aa, none⟩)) → (xv4 = .slice (some ⟨ga, 0, none⟩) nn ca) → (xv5 = .pointer (some ⟨gs, 0, none⟩)) → (xv6 = .slice (some ⟨gt, 0, none⟩) mm ct) → (xv7 = .int .i64 (bb : Int)) → (xv8 = .pointer (some ⟨gt, bb, none⟩)) → (xv9 = .slice (some ⟨gb, 0, none⟩) nn cb) → (xv10 = .slice (some ⟨ga, 0, none⟩) nn ca) → (xv11 = .slice (some ⟨gb, 0, none⟩) nn cb) → Ext w W → wpList Try.prog (rops Try.f177 1).toArray Q ((rops Try.f177 1).drop 12) ((((((((((((a.put (some 11) xv0).put (some 12) xv1).put (some 13) xv2).put (some 14) xv3).put (some 15) xv4).put (some 16) xv5).put (some 17) xv6).put (some 18) xv7).put (some 19) xv8).put (some 20) xv9).put (some 8) xv10).put (some 9) xv11) W) :
  (Code.region 1 (rops Try.f177 1).toArray true).wp Try.prog Q a w := by
 refine wp_region_k 12 [some 11, some 12, some 13, some 14, some 15, some 16, some 17, some 18, some 19, some 20, some 8, some 9] [[], [0], [], [1, 2], [3], [], [5], [], [6, 7], [8], [4], [9]] [eqv (.pointer (some ⟨gs, 0, none⟩)), eqv (.slice (some ⟨gt, 0, none⟩) mm ct), eqv (.int .i64 (aa : Int)), eqv (.pointer (some ⟨gt, aa, none⟩)), eqv (.slice (some ⟨ga, 0, none⟩) nn ca), eqv (.pointer (some ⟨gs, 0, none⟩)), eqv (.slice (some ⟨gt, 0, none⟩) mm ct), eqv (.int .i64 (bb : Int)), eqv (.pointer (some ⟨gt, bb, none⟩)), eqv (.slice (some ⟨gb, 0, none⟩) nn cb), eqv (.slice (some ⟨ga, 0, none⟩) nn ca), eqv (.slice (some ⟨gb, 0, none⟩) nn cb)] (by kernel_rfl) (by kernel_rfl) rfl (by decide) hsize ⟨monC, monC, monC, monC, monC, monC, monC, monC, monC, monC, monC, monC, trivial⟩ ?_ ?_
 ·
  clear hend
  simp only [rops, Try.f177, regOf, Option.bind_some, Nat.reduceBEq, if_true, if_false, Bool.false_eq_true, Option.getD_some]
  simp only [List.take_succ_cons, List.take_zero]
  refine ⟨?_, ?_, ?_, ?_, ?_, ?_, ?_, ?_, ?_, ?_, ?_, ?_, trivial⟩
  ·
   rintro us W hJ _ b hb hbz K hK0 hK Qz
   have e4 := (hbz 4 (by simp)).trans s4
   clear hb hbz
   go_simp
   exact hK0 _ rfl
  ·
   rintro us W hJ d0 b hb hbz K hK0 hK Qz
   have e11 := slotV (hb 0 11 rfl) d0
   clear hb hbz d0
   have q := Ext.cell hJ hs
   go_simp
   exact hK0 _ rfl
  ·
   rintro us W hJ _ b hb hbz K hK0 hK Qz
   have e1 := (hbz 1 (by simp)).trans s1
   clear hb hbz
   go_simp
   exact hK0 _ rfl
  ·
   rintro us W hJ ⟨d1, d2⟩ b hb hbz K hK0 hK Qz
   have e12 := slotV (hb 1 12 rfl) d1
   have e13 := slotV (hb 2 13 rfl) d2
   clear hb hbz d1 d2
   go_simp
   exact hK0 _ rfl
  ·
   rintro us W hJ d3 b hb hbz K hK0 hK Qz
   have e14 := slotV (hb 3 14 rfl) d3
   clear hb hbz d3
   have q := Ext.cell hJ ha
   go_simp
   exact hK0 _ rfl
  ·
   rintro us W hJ _ b hb hbz K hK0 hK Qz
   have e4 := (hbz 4 (by simp)).trans s4
   clear hb hbz
   go_simp
   exact hK0 _ rfl
  ·
   rintro us W hJ d5 b hb hbz K hK0 hK Qz
   have e16 := slotV (hb 5 16 rfl) d5
   clear hb hbz d5
   have q := Ext.cell hJ hs
   go_simp
   exact hK0 _ rfl
  ·
   rintro us W hJ _ b hb hbz K hK0 hK Qz
   have e2 := (hbz 2 (by simp)).trans s2
   clear hb hbz
   go_simp
   exact hK0 _ rfl
  ·
   rintro us W hJ ⟨d6, d7⟩ b hb hbz K hK0 hK Qz
   have e17 := slotV (hb 6 17 rfl) d6
   have e18 := slotV (hb 7 18 rfl) d7
   clear hb hbz d6 d7
   go_simp
   exact hK0 _ rfl
  ·
   rintro us W hJ d8 b hb hbz K hK0 hK Qz
   have e19 := slotV (hb 8 19 rfl) d8
   clear hb hbz d8
   have q := Ext.cell hJ hb
   go_simp
   exact hK0 _ rfl
  ·
   rintro us W hJ d4 b hb hbz K hK0 hK Qz
   have e15 := slotV (hb 4 15 rfl) d4
   clear hb hbz d4
   go_simp
   exact hK0 _ rfl
  ·
   rintro us W hJ d9 b hb hbz K hK0 hK Qz
   have e20 := slotV (hb 9 20 rfl) d9
   clear hb hbz d9
   go_simp
   exact hK0 _ rfl
 ·
  rintro us W ⟨v0, v1, v2, v3, v4, v5, v6, v7, v8, v9, v10, v11, _⟩ hJ
  exact hend _ _ _ _ _ _ _ _ _ _ _ _ W v0 v1 v2 v3 v4 v5 v6 v7 v8 v9 v10 v11 hJ
set_option maxRecDepth 100000 in
set_option maxHeartbeats 2000000 in
theorem clear_r6 (gf nn ga gb ca cb kk L : Nat) (s1 : Bool) (A1 B1 : Option Addr) (l1 c1 m1 k1 : Nat) (s2 : Bool) (A2 B2 : Option Addr) (l2 c2 m2 k2 : Nat) (s3 : Bool) (A3 B3 : Option Addr) (l3 c3 m3 k3 : Nat) (x y q : Rat) (w : World) (x0 : w.cell? ⟨ga, kk * 3, none⟩ = some (.bool s1)) (x1 : w.cell? ⟨ga, kk * 3 + 1, none⟩ = some (.slice A1 l1 c1)) (x2 : w.cell? ⟨ga, kk * 3 + 2, none⟩ = some (.slice B1 m1 k1)) (y0 : w.cell? ⟨gb, kk * 3, none⟩ = some (.bool s2)) (y1 : w.cell? ⟨gb, kk * 3 + 1, none⟩ = some (.slice A2 l2 c2)) (y2 : w.cell? ⟨gb, kk * 3 + 2, none⟩ = some (.slice B2 m2 k2)) (f0 : w.cell? ⟨gf, 0, none⟩ = some (.bool s3)) (f1 : w.cell? ⟨gf, 1, none⟩ = some (.slice A3 l3 c3)) (f2 : w.cell? ⟨gf, 2, none⟩ = some (.slice B3 m3 k3)) (hx : NumX w (.agg #[.bool s1, .slice A1 l1 c1, .slice B1 m1 k1]) x L) (hy : NumX w (.agg #[.bool s2, .slice A2 l2 c2, .slice B2 m2 k2]) y L) (hq : NumX w (.agg #[.bool s3, .slice A3 l3 c3, .slice B3 m3 k3]) q L) (hfit : FitQ (x - q * y) L) (_hk : kk < nn) (_hL : L ≤ 100000) (a : Act) (Q : Exit → Act → World → Prop) (hsize : 47 ≤ a.tmps.size)
  (s7 : a.tmps[7]? = some (.pointer (some ⟨gf, 0, none⟩)))
  (s8 : a.tmps[8]? = some (.slice (some ⟨ga, 0, none⟩) nn ca))
  (s9 : a.tmps[9]? = some (.slice (some ⟨gb, 0, none⟩) nn cb))
  (s10 : a.tmps[10]? = some (.int .i64 (kk : Int)))
  (hend : ∀ (xv0 xv1 xv2 xv3 xv4 xv5 xv6 xv7 xv8 xv9 xv10 xv11 xv12 xv13 xv14 : Value) (W : World), (xv0 = .slice (some ⟨ga, 0, none⟩) nn ca) → (xv1 = .int .i64 (kk : Int)) → (xv2 = .slice (some ⟨ga, 0, none⟩) nn ca) → (xv3 = .int .i64 (kk : Int)) → (xv4 = .pointer (some ⟨ga, kk * 3, none⟩)) → (xv5 = .agg #[.bool s1, .slice A1 l1 c1, .slice B1 m1 k1]) → (xv6 = .agg #[.bool s3, .slice A3 l3 c3, .slice B3 m3 k3]) → (xv7 = .slice (some ⟨gb, 0, none⟩) nn cb) → (xv8 = .int .i64 (kk : Int)) → (xv9 = .pointer (some ⟨gb, kk * 3, none⟩)) → (xv10 = .agg #[.bool s2, .slice A2 l2 c2, .slice B2 m2 k2]) → (NumX W xv11 (q * y) (L + L)) → (NumX W xv12 (x - q * y) (L + (L + L) + 1)) → (NumX W xv13 (x - q * y) (L)) → (xv14 = .pointer (some ⟨ga, kk * 3, none⟩)) → Ext w W → wpList Try.prog (rops Try.f177 6).toArray Q ((rops Try.f177 6).drop 15) (((((((((((((((a.put (some 32) xv0).put (some 33) xv1).put (some 34) xv2).put (some 35) xv3).put (some 36) xv4).put (some 37) xv5).put (some 38) xv6).put (some 39) xv7).put (some 40) xv8).put (some 41) xv9).put (some 42) xv10).put (some 43) xv11).put (some 44) xv12).put (some 45) xv13).put (some 46) xv14) W) :
  (Code.region 6 (rops Try.f177 6).toArray true).wp Try.prog Q a w := by
 refine wp_region_k 15 [some 32, some 33, some 34, some 35, some 36, some 37, some 38, some 39, some 40, some 41, some 42, some 43, some 44, some 45, some 46] [[], [], [], [], [2, 3], [4], [], [], [], [7, 8], [9], [6, 10], [5, 11], [12], [0, 1]] [eqv (.slice (some ⟨ga, 0, none⟩) nn ca), eqv (.int .i64 (kk : Int)), eqv (.slice (some ⟨ga, 0, none⟩) nn ca), eqv (.int .i64 (kk : Int)), eqv (.pointer (some ⟨ga, kk * 3, none⟩)), eqv (.agg #[.bool s1, .slice A1 l1 c1, .slice B1 m1 k1]), eqv (.agg #[.bool s3, .slice A3 l3 c3, .slice B3 m3 k3]), eqv (.slice (some ⟨gb, 0, none⟩) nn cb), eqv (.int .i64 (kk : Int)), eqv (.pointer (some ⟨gb, kk * 3, none⟩)), eqv (.agg #[.bool s2, .slice A2 l2 c2, .slice B2 m2 k2]), fun v W => NumX W v (q * y) (L + L), fun v W => NumX W v (x - q * y) (L + (L + L) + 1), fun v W => NumX W v (x - q * y) (L), eqv (.pointer (some ⟨ga, kk * 3, none⟩))] (by kernel_rfl) (by kernel_rfl) rfl (by decide) hsize ⟨monC, monC, monC, monC, monC, monC, monC, monC, monC, monC, monC, by intro v W W' h hX; exact NumX.ext h hX, by intro v W W' h hX; exact NumX.ext h hX, by intro v W W' h hX; exact NumX.ext h hX, monC, trivial⟩ ?_ ?_
 ·
  clear hend
  simp only [rops, Try.f177, regOf, Option.bind_some, Nat.reduceBEq, if_true, if_false, Bool.false_eq_true, Option.getD_some]
  simp only [List.take_succ_cons, List.take_zero]
  refine ⟨?_, ?_, ?_, ?_, ?_, ?_, ?_, ?_, ?_, ?_, ?_, ?_, ?_, ?_, ?_, trivial⟩
  ·
   rintro us W hJ _ b hb hbz K hK0 hK Qz
   have e8 := (hbz 8 (by simp)).trans s8
   clear hb hbz
   go_simp
   exact hK0 _ rfl
  ·
   rintro us W hJ _ b hb hbz K hK0 hK Qz
   have e10 := (hbz 10 (by simp)).trans s10
   clear hb hbz
   go_simp
   exact hK0 _ rfl
  ·
   rintro us W hJ _ b hb hbz K hK0 hK Qz
   have e8 := (hbz 8 (by simp)).trans s8
   clear hb hbz
   go_simp
   exact hK0 _ rfl
  ·
   rintro us W hJ _ b hb hbz K hK0 hK Qz
   have e10 := (hbz 10 (by simp)).trans s10
   clear hb hbz
   go_simp
   exact hK0 _ rfl
  ·
   rintro us W hJ ⟨d2, d3⟩ b hb hbz K hK0 hK Qz
   have e34 := slotV (hb 2 34 rfl) d2
   have e35 := slotV (hb 3 35 rfl) d3
   clear hb hbz d2 d3
   go_simp
   exact hK0 _ rfl
  ·
   rintro us W hJ d4 b hb hbz K hK0 hK Qz
   have e36 := slotV (hb 4 36 rfl) d4
   clear hb hbz d4
   have z0 := Ext.cell hJ x0
   have z1 := Ext.cell hJ x1
   have z2 := Ext.cell hJ x2
   go_simp
   exact hK0 _ rfl
  ·
   rintro us W hJ _ b hb hbz K hK0 hK Qz
   have e7 := (hbz 7 (by simp)).trans s7
   clear hb hbz
   have z0 := Ext.cell hJ f0
   have z1 := Ext.cell hJ f1
   have z2 := Ext.cell hJ f2
   go_simp
   exact hK0 _ rfl
  ·
   rintro us W hJ _ b hb hbz K hK0 hK Qz
   have e9 := (hbz 9 (by simp)).trans s9
   clear hb hbz
   go_simp
   exact hK0 _ rfl
  ·
   rintro us W hJ _ b hb hbz K hK0 hK Qz
   have e10 := (hbz 10 (by simp)).trans s10
   clear hb hbz
   go_simp
   exact hK0 _ rfl
  ·
   rintro us W hJ ⟨d7, d8⟩ b hb hbz K hK0 hK Qz
   have e39 := slotV (hb 7 39 rfl) d7
   have e40 := slotV (hb 8 40 rfl) d8
   clear hb hbz d7 d8
   go_simp
   exact hK0 _ rfl
  ·
   rintro us W hJ d9 b hb hbz K hK0 hK Qz
   have e41 := slotV (hb 9 41 rfl) d9
   clear hb hbz d9
   have z0 := Ext.cell hJ y0
   have z1 := Ext.cell hJ y1
   have z2 := Ext.cell hJ y2
   go_simp
   exact hK0 _ rfl
  ·
   rintro us W hJ ⟨d6, d10⟩ b hb hbz K hK0 hK Qz
   have e38 := slotV (hb 6 38 rfl) d6
   have e42 := slotV (hb 10 42 rfl) d10
   clear hb hbz d6 d10
   go_simp
   refine (mulX (hq.ext hJ) (hy.ext hJ) (by omega) (by omega)).mono ?_
   rintro e w' ⟨v, rfl, hv, hX⟩
   exact hK _ _ hv hX
  ·
   rintro us W hJ ⟨d5, d11⟩ b hb hbz K hK0 hK Qz
   have e37 := slotV (hb 5 37 rfl) d5
   have e43 := hb 11 43 rfl
   clear hb hbz d5
   go_simp
   refine (subX (hx.ext hJ) d11 (by omega)).mono ?_
   rintro e w' ⟨v, rfl, hv, hX⟩
   exact hK _ _ hv hX
  ·
   rintro us W hJ d12 b hb hbz K hK0 hK Qz
   have e44 := hb 12 44 rfl
   clear hb hbz
   go_simp
   refine (reducedX d12 (by omega)).mono ?_
   rintro e w' ⟨v, rfl, hv, hX⟩
   exact hK _ _ (hv.numx hfit) hX
  ·
   rintro us W hJ ⟨d0, d1⟩ b hb hbz K hK0 hK Qz
   have e32 := slotV (hb 0 32 rfl) d0
   have e33 := slotV (hb 1 33 rfl) d1
   clear hb hbz d0 d1
   go_simp
   exact hK0 _ rfl
 ·
  rintro us W ⟨v0, v1, v2, v3, v4, v5, v6, v7, v8, v9, v10, v11, v12, v13, v14, _⟩ hJ
  exact hend _ _ _ _ _ _ _ _ _ _ _ _ _ _ _ W v0 v1 v2 v3 v4 v5 v6 v7 v8 v9 v10 v11 v12 v13 v14 hJ
theorem boxedX {w : World} {v : Value} {q : Rat} {L g : Nat} (h : NumX w v q L) (hN : NoInts w g) (p : Nat) (b : Bool) (A1 A2 : Option Addr) (l1 c1 l2 c2 : Nat) : NumX (((w.setCell ⟨g, p, none⟩ (.bool b)).setCell ⟨g, p + 1, none⟩ (.slice A1 l1 c1)).setCell ⟨g, p + 2, none⟩ (.slice A2 l2 c2)) v q L :=
 NumX.keepsNI h ((((Keeps.refl [g] w).setCell (.inl (by simp)) _).setCell (.inl (by simp)) _).setCell (.inl (by simp)) _) fun q hq => by simp at hq; subst hq; exact hN
set_option maxRecDepth 100000 in
set_option maxHeartbeats 8000000 in
theorem clear_v (L base gt ct mm nn aa bb ga gb ca cb : Nat) (vs : List Value) (T : Nat → Nat → Rat) (s3 : Bool) (A3 B3 : Option Addr) (l3 c3 m3 k3 : Nat) (q : Rat) (w : World) (hT : TabG 3 (Tri fun w v q => NumX w v q L) 217 226 base w gt ct mm nn vs T) (hA1 : aa < mm) (hB1 : bb < mm) (_hab : aa ≠ bb) (hva : vs[aa]? = some (.slice (some ⟨ga, 0, none⟩) nn ca)) (hvb : vs[bb]? = some (.slice (some ⟨gb, 0, none⟩) nn cb)) (hq : NumX w (.agg #[.bool s3, .slice A3 l3 c3, .slice B3 m3 k3]) q L) (hfit : ∀ b, b < nn → FitQ (T aa b - q * T bb b) L) (hL : L ≤ 100000) (_hnn : nn ≤ 1000) (_hbase : base ≤ w.heap.size) :
  Calls Try.prog 177 #[.agg #[.slice (some ⟨gt, 0, none⟩) mm ct], .int .i64 (aa : Int), .int .i64 (bb : Int), .agg #[.bool s3, .slice A3 l3 c3, .slice B3 m3 k3]] w (fun e w' => e = .returned (.tuple #[]) ∧ Keeps [ga] w w' ∧ TabG 3 (Tri fun w v q => NumX w v q L) 217 226 base w' gt ct mm nn vs (fun a b => if a = aa then T aa b - q * T bb b else T a b)) := by
 have hlow : ga < w.heap.size ∧ gt < w.heap.size ∧ ga ≠ gt := by
  obtain ⟨v, r, h1, ho, _⟩ := hT.tbl.row hA1
  rw [hva] at h1
  injection h1 with h1
  subst h1
  refine ⟨(rowLow ho (by simp [Value.ownBlock])).2, hT.low.2, ?_⟩
  rintro rfl
  rcases own_ne ho hT.out (by decide) with q | q
  ·
   simp [Value.ownBlock] at q
  ·
   exact q rfl
 obtain ⟨hga, hgt, hgg⟩ := hlow
 have ha := own_cell hT.out hva
 have hb := own_cell hT.out hvb
 have HTB := hid hT
 have HQ := hid hq
 have HFIT := hid hfit
 have HVA := hid hva
 have HVB := hid hvb
 have hAQ := hid ha
 have hBQ := hid hb
 clear hT hq hfit hva hvb ha hb
 have hXe : Ext w ((w.alloc (.cells #[.slice (some ⟨gt, 0, none⟩) mm ct] 201)).alloc (.cells #[.bool s3, .slice A3 l3 c3, .slice B3 m3 k3] 217)) := (((Ext.refl w).alloc _).alloc _)
 have kS : Blk ((w.alloc (.cells #[.slice (some ⟨gt, 0, none⟩) mm ct] 201)).alloc (.cells #[.bool s3, .slice A3 l3 c3, .slice B3 m3 k3] 217)) w.heap.size 201 #[.slice (some ⟨gt, 0, none⟩) mm ct] := Blk.alloc (Blk.at_ (by simp)) _
 have kF : Blk ((w.alloc (.cells #[.slice (some ⟨gt, 0, none⟩) mm ct] 201)).alloc (.cells #[.bool s3, .slice A3 l3 c3, .slice B3 m3 k3] 217)) (w.heap.size + 1) 217 #[.bool s3, .slice A3 l3 c3, .slice B3 m3 k3] := Blk.at_ (by simp)
 go_enter Try.func177, Try.ntmps177
 go_upto_region 1 with (fail)
 generalize ((w.alloc (.cells #[.slice (some ⟨gt, 0, none⟩) mm ct] 201)).alloc (.cells #[.bool s3, .slice A3 l3 c3, .slice B3 m3 k3] 217)) = w1 at hXe kS kF ⊢
 have HX := hid hXe
 clear hXe
 have KS := hid kS
 clear kS
 have KF := hid kF
 clear kF
 go_wp2_with fail
 refine clear_r1 w.heap.size gt ct mm aa bb nn ga gb ca cb w1 (KS.out.cell 0) (HX.out.cell hAQ.out) (HX.out.cell hBQ.out) hA1 hB1 _ _ (by simp) rfl rfl rfl ?_
 rintro xv0 xv1 xv2 xv3 xv4 xv5 xv6 xv7 xv8 xv9 xv10 xv11 w2 rfl rfl rfl rfl rfl rfl rfl rfl rfl rfl rfl rfl hXW
 simp only [rops, Try.f177, regOf, Option.bind_some, Nat.reduceBEq, if_true, if_false, Bool.false_eq_true, Option.getD_some, List.drop_succ_cons, List.drop_zero]
 simp only [Act.put, List.setIfInBounds_toArray, List.set_cons_succ, List.set_cons_zero]
 replace HX := hid (HX.out.trans hXW)
 replace KS := hid (KS.out.ext hXW)
 replace KF := hid (KF.out.ext hXW)
 clear hXW
 clear hAQ hBQ
 replace HTB := hid (HTB.out.ext (kindNum L) HX.out)
 replace HQ := hid (HQ.out.ext HX.out)
 have HK := hid (Keeps.of_ext HX.out [ga])
 have HSZ := HX.out.size
 clear HX KS
 go_wp2_with fail
 have HT0 : Hid (TabG 3 (Tri fun w v q => NumX w v q L) 217 226 base w2 gt ct mm nn vs (fun a b => if a = aa ∧ b < 0 then T aa b - q * T bb b else T a b)) := hid (HTB.out.congr fun i j _ _ => by rw [if_neg (by omega)])
 clear HTB
 go_loopg [23] nn (fun f iv wr => ∃ k : Nat, f = nn - k ∧ k ≤ nn ∧ iv = .int .i64 (k : Int) ∧ Hid (TabG 3 (Tri fun w v q => NumX w v q L) 217 226 base wr gt ct mm nn vs (fun a b => if a = aa ∧ b < k then T aa b - q * T bb b else T a b)) ∧ Hid (Keeps [ga] w wr) ∧ Hid (NumX wr (.agg #[.bool s3, .slice A3 l3 c3, .slice B3 m3 k3]) q L) ∧ Hid (Blk wr (w.heap.size + 1) 217 #[.bool s3, .slice A3 l3 c3, .slice B3 m3 k3]))
 case atStart => exact ⟨0, rfl, by omega, rfl, HT0, HK, HQ, KF⟩
 case round =>
  clear HT0 HK HQ KF HSZ
  obtain ⟨k, rfl, hk, rfl, HT, HK, HQ, KF⟩ := hrel
  by_cases hlt : k < nn
  ·
   have q1 : decide (k < nn) = true := decide_eq_true hlt
   obtain ⟨v, r, hv, ho, hr⟩ := HT.out.tbl.row hB1
   rw [HVB.out] at hv
   injection hv with hv
   subst hv
   obtain ⟨s2, A2, l2, c2, B2, m2, k2, y0, y1, y2, hy⟩ := hr.three hlt
   replace y0 := own_cell ho y0
   replace y1 := own_cell ho y1
   replace y2 := own_cell ho y2
   have Hy := hid hy
   clear hr hy
   clear ho
   obtain ⟨v, r, hv, ho, hr⟩ := HT.out.tbl.row hA1
   rw [HVA.out] at hv
   injection hv with hv
   subst hv
   obtain ⟨s1, A1, l1, c1, B1, m1, k1, x0, x1, x2, hx⟩ := hr.three hlt
   replace x0 := own_cell ho x0
   replace x1 := own_cell ho x1
   replace x2 := own_cell ho x2
   have Hx := hid hx
   clear hr hx
   have HOA := hid ho
   clear ho
   rw [if_neg (by omega)] at Hy
   rw [if_neg (by omega)] at Hx
   have hX0 := hid x0
   have hX1 := hid x1
   have hX2 := hid x2
   have hY0 := hid y0
   have hY1 := hid y1
   have hY2 := hid y2
   clear x0 x1 x2
   obtain ⟨tx, htx⟩ : ∃ tx, T bb k = tx := ⟨_, rfl⟩
   obtain ⟨ux, hux⟩ : ∃ ux, T aa k = ux := ⟨_, rfl⟩
   have hf := HFIT.out k hlt
   rw [htx, hux] at hf
   rw [htx] at Hy
   rw [hux] at Hx
   have HFK := hid hf
   have HTX := hid htx
   have HUX := hid hux
   clear htx hux hf
   obtain ⟨sg, hsg⟩ : ∃ sg, sgnQ tx = sg := ⟨_, rfl⟩
   have HSG := hid hsg
   clear hsg
   go_wp2_with fail
   refine (signX Hy.out).mono ?_
   rw [HSG.out]
   rintro e w2 ⟨rfl, hX⟩
   clear y0 y1 y2
   replace HT := hid (HT.out.ext (kindNum L) hX)
   replace HK := hid (HK.out.trans (Keeps.of_ext hX [ga]))
   replace HQ := hid (HQ.out.ext hX)
   replace KF := hid (KF.out.ext hX)
   replace Hx := hid (Hx.out.ext hX)
   replace Hy := hid (Hy.out.ext hX)
   replace HOA := hid (World.ownsRow.ext' HOA.out hX)
   replace hX0 := hid (hX.cell hX0.out)
   replace hX1 := hid (hX.cell hX1.out)
   replace hX2 := hid (hX.cell hX2.out)
   replace hY0 := hid (hX.cell hY0.out)
   replace hY1 := hid (hX.cell hY1.out)
   replace hY2 := hid (hX.cell hY2.out)
   clear hX
   by_cases hs0 : sg = 0
   ·
    subst hs0
    have HZ : Hid (tx = 0) := hid (by rcases sgnQ_cases tx with ⟨_, h⟩ | ⟨h, _⟩ | ⟨_, h⟩; (have := HSG.out; omega); exact h; (have := HSG.out; omega))
    clear HFK HOA Hx Hy hX0 hX1 hX2 hY0 hY1 hY2
    go_wp2
    go_roundg (nn - (k + 1))
    case rel =>
     refine ⟨k + 1, rfl, by omega, by go_num, hid (HT.out.congr fun i j _ _ => ?_), HK, HQ, KF⟩
     by_cases hij : i = aa ∧ j = k
     ·
      obtain ⟨rfl, rfl⟩ := hij
      rw [if_neg (by omega), if_pos (by omega), HTX.out, HZ.out]
      grind
     ·
      by_cases h2 : i = aa ∧ j < k
      ·
       rw [if_pos h2, if_pos (by omega)]
      ·
       rw [if_neg h2, if_neg (by omega)]
    case measure => omega
   ·
    have g0 : (sg != 0) = true := by simpa using hs0
    clear HSG
    go_upto_region 6 with (fail)
    refine clear_r6 (w.heap.size + 1) nn ga gb ca cb k L s1 A1 B1 l1 c1 m1 k1 s2 A2 B2 l2 c2 m2 k2 s3 A3 B3 l3 c3 m3 k3 ux tx q w2 hX0.out hX1.out hX2.out hY0.out hY1.out hY2.out (KF.out.cell 0) (KF.out.cell 1) (KF.out.cell 2) Hx.out Hy.out HQ.out HFK.out hlt hL _ _ (by simp) rfl rfl rfl rfl ?_
    rintro xv0 xv1 xv2 xv3 xv4 xv5 xv6 xv7 xv8 xv9 xv10 xv11 xv12 xv13 xv14 W rfl rfl rfl rfl rfl rfl rfl rfl rfl rfl rfl _ _ hv rfl hX
    simp only [rops, Try.f177, regOf, Option.bind_some, Nat.reduceBEq, if_true, if_false, Bool.false_eq_true, Option.getD_some, List.drop_succ_cons, List.drop_zero]
    simp only [Act.put, List.setIfInBounds_toArray, List.set_cons_succ, List.set_cons_zero]
    clear hX0 hX1 hX2 hY0 hY1 hY2 Hx Hy
    replace HT := hid (HT.out.ext (kindNum L) hX)
    replace HK := hid (HK.out.trans (Keeps.of_ext hX [ga]))
    replace HQ := hid (HQ.out.ext hX)
    replace KF := hid (KF.out.ext hX)
    replace HOA := hid (World.ownsRow.ext' HOA.out hX)
    clear hX
    obtain ⟨s4, A4, l4, c4, B4, m4, k4, rfl⟩ := NumX.open hv
    have HN := hid hv
    clear hv
    have HNI : Hid (NoInts W ga) := hid (by
     rcases HT.out.ni with h | h
     ·
      omega
     ·
      exact h.1 _ (List.mem_of_getElem? HVA.out) ga (by simp [Value.ownBlock]))
    have hlr := HOA.out.1
    obtain ⟨u0, hu0⟩ : ∃ u, r[k * 3]? = some u := ⟨_, List.getElem?_eq_getElem (by omega)⟩
    obtain ⟨u1, hu1⟩ : ∃ u, r[k * 3 + 1]? = some u := ⟨_, List.getElem?_eq_getElem (by omega)⟩
    obtain ⟨u2, hu2⟩ : ∃ u, r[k * 3 + 2]? = some u := ⟨_, List.getElem?_eq_getElem (by omega)⟩
    have x0 := own_cell HOA.out hu0
    have x1 := own_cell HOA.out hu1
    have x2 := own_cell HOA.out hu2
    have f0 := own_free HOA.out (k * 3)
    have f1 := own_free HOA.out (k * 3 + 1)
    have f2 := own_free HOA.out (k * 3 + 2)
    clear hu0 hu1 hu2 hlr
    have hput := HT.out.put3 (kindNum L) hA1 hlt HVA.out hgg (x := ux - q * tx) (hx := boxedX HN.out HNI.out (k * 3) s4 A4 B4 l4 c4 m4 k4)
    have HP := hid hput
    clear hput
    go_wp2
    go_roundg (nn - (k + 1))
    case rel =>
     refine ⟨k + 1, rfl, by omega, by go_num, hid (HP.out.1.congr fun i j _ _ => ?_), hid (HK.out.trans HP.out.2), hid (boxedX HQ.out HNI.out (k * 3) s4 A4 B4 l4 c4 m4 k4), hid (((KF.out.far (by simp only; omega) _).far (by simp only; omega) _).far (by simp only; omega) _)⟩
     by_cases hij : i = aa ∧ j = k
     ·
      obtain ⟨rfl, rfl⟩ := hij
      rw [if_pos ⟨rfl, rfl⟩, if_pos (by omega), HTX.out, HUX.out]
     ·
      rw [if_neg hij]
      by_cases h2 : i = aa ∧ j < k
      ·
       rw [if_pos h2, if_pos (by omega)]
      ·
       rw [if_neg h2, if_neg (by omega)]
    case measure => omega
  ·
   obtain rfl : k = nn := by omega
   go_wp2
   go_end0
   refine ⟨rfl, HK.out, HT.out.congr fun i j _ hj => ?_⟩
   by_cases h2 : i = aa
   ·
    rw [if_pos ⟨h2, hj⟩, if_pos h2]
   ·
    rw [if_neg (by omega), if_neg h2]
theorem findR_intro {T : Tab} {j f i k : Nat} (h1 : i ≤ k) (_h2 : k < i + f) (h3 : T k j ≠ 0) (h4 : ∀ m, i ≤ m → m < k → T m j = 0) : findR T j f i = some k := by
 induction f generalizing i with
 | zero => omega
 | succ f ih =>
  unfold findR
  rcases Nat.eq_or_lt_of_le h1 with rfl | h
  ·
   rw [if_neg h3]
  ·
   rw [if_pos (h4 i (Nat.le_refl _) h)]
   exact ih h (by omega) fun m hm hk => h4 m (by omega) hk
theorem findR_nil {T : Tab} {j f i : Nat} (h : ∀ m, i ≤ m → m < i + f → T m j = 0) : findR T j f i = none := by
 induction f generalizing i with
 | zero => rfl
 | succ f ih =>
  unfold findR
  rw [if_pos (h i (Nat.le_refl _) (by omega))]
  exact ih fun m hm hk => h m (by omega) (by omega)
theorem redG_top (n : Nat) (T : Tab) (j : Nat) : (redG n T j).top ≤ j := by
 induction j with
 | zero => exact Nat.le_refl _
 | succ j ih =>
  show (stepG n j (redG n T j)).top ≤ j + 1
  unfold stepG
  split
  ·
   simp only; omega
  ·
   simp only; omega
/-- The row of a pivot as the program tells it. -/
def pivI : Option (Option Nat) → Int
 | some (some t) => (t : Int)
 | _ => -1
theorem sgn_zero {q : Rat} {z : Int} (_h : sgnQ q = z) : z = 0 ↔ q = 0 := by
 rcases sgnQ_cases q with ⟨a, b⟩ | ⟨a, b⟩ | ⟨a, b⟩
 ·
  constructor
  ·
   omega
  ·
   intro e; subst e; exact absurd a (by decide)
 ·
  exact ⟨fun _ => a, fun _ => by omega⟩
 ·
  constructor
  ·
   omega
  ·
   intro e; subst e; exact absurd a (by decide)
theorem row_idx {w : World} {base g size n c : Nat} {e : TypeId} {xs : List Value} (h : w.ownsRow base e size (.slice (some ⟨g, 0, none⟩) n c) n xs) : ∃ cur, Blk w g e cur ∧ ∀ (i : Nat) (u : Value), xs[i]? = some u → cur[i]? = some u := by
 obtain ⟨cur, hB, _, _, _, _, h4⟩ := rowCells h
 refine ⟨cur, hB, fun i u hu => ?_⟩
 rw [← h4, List.getElem?_take] at hu
 split at hu
 ·
  simpa using hu
 ·
  cases hu
set_option maxRecDepth 100000 in
set_option maxHeartbeats 2000000 in
theorem reduce_r17 (gf cl ga ca kk L : Nat) (s1 : Bool) (A1 B1 : Option Addr) (l1 c1 m1 k1 : Nat) (s3 : Bool) (A3 B3 : Option Addr) (l3 c3 m3 k3 : Nat) (x q : Rat) (w : World) (x0 : w.cell? ⟨ga, kk * 3, none⟩ = some (.bool s1)) (x1 : w.cell? ⟨ga, kk * 3 + 1, none⟩ = some (.slice A1 l1 c1)) (x2 : w.cell? ⟨ga, kk * 3 + 2, none⟩ = some (.slice B1 m1 k1)) (f0 : w.cell? ⟨gf, 0, none⟩ = some (.bool s3)) (f1 : w.cell? ⟨gf, 1, none⟩ = some (.slice A3 l3 c3)) (f2 : w.cell? ⟨gf, 2, none⟩ = some (.slice B3 m3 k3)) (hx : NumX w (.agg #[.bool s1, .slice A1 l1 c1, .slice B1 m1 k1]) x L) (hq : NumX w (.agg #[.bool s3, .slice A3 l3 c3, .slice B3 m3 k3]) q L) (hqz : q ≠ 0) (hfit : FitQ (x / q) L) (_hk : kk < cl) (_hL : L ≤ 100000) (a : Act) (Q : Exit → Act → World → Prop) (hsize : 76 ≤ a.tmps.size)
  (s9 : a.tmps[9]? = some (.slice (some ⟨ga, 0, none⟩) cl ca))
  (s10 : a.tmps[10]? = some (.pointer (some ⟨gf, 0, none⟩)))
  (s11 : a.tmps[11]? = some (.int .i64 (kk : Int)))
  (hend : ∀ (xv0 xv1 xv2 xv3 xv4 xv5 xv6 xv7 xv8 xv9 : Value) (W : World), (xv0 = .slice (some ⟨ga, 0, none⟩) cl ca) → (xv1 = .int .i64 (kk : Int)) → (xv2 = .slice (some ⟨ga, 0, none⟩) cl ca) → (xv3 = .int .i64 (kk : Int)) → (xv4 = .pointer (some ⟨ga, kk * 3, none⟩)) → (xv5 = .agg #[.bool s1, .slice A1 l1 c1, .slice B1 m1 k1]) → (xv6 = .agg #[.bool s3, .slice A3 l3 c3, .slice B3 m3 k3]) → (NumX W xv7 (x / q) (L + L)) → (NumX W xv8 (x / q) (L)) → (xv9 = .pointer (some ⟨ga, kk * 3, none⟩)) → Ext w W → wpList Try.prog (rops Try.f120 17).toArray Q ((rops Try.f120 17).drop 10) ((((((((((a.put (some 66) xv0).put (some 67) xv1).put (some 68) xv2).put (some 69) xv3).put (some 70) xv4).put (some 71) xv5).put (some 72) xv6).put (some 73) xv7).put (some 74) xv8).put (some 75) xv9) W) :
  (Code.region 17 (rops Try.f120 17).toArray true).wp Try.prog Q a w := by
 refine wp_region_k 10 [some 66, some 67, some 68, some 69, some 70, some 71, some 72, some 73, some 74, some 75] [[], [], [], [], [2, 3], [4], [], [5, 6], [7], [0, 1]] [eqv (.slice (some ⟨ga, 0, none⟩) cl ca), eqv (.int .i64 (kk : Int)), eqv (.slice (some ⟨ga, 0, none⟩) cl ca), eqv (.int .i64 (kk : Int)), eqv (.pointer (some ⟨ga, kk * 3, none⟩)), eqv (.agg #[.bool s1, .slice A1 l1 c1, .slice B1 m1 k1]), eqv (.agg #[.bool s3, .slice A3 l3 c3, .slice B3 m3 k3]), fun v W => NumX W v (x / q) (L + L), fun v W => NumX W v (x / q) (L), eqv (.pointer (some ⟨ga, kk * 3, none⟩))] (by kernel_rfl) (by kernel_rfl) rfl (by decide) hsize ⟨monC, monC, monC, monC, monC, monC, monC, by intro v W W' h hX; exact NumX.ext h hX, by intro v W W' h hX; exact NumX.ext h hX, monC, trivial⟩ ?_ ?_
 ·
  clear hend
  simp only [rops, Try.f120, regOf, Option.bind_some, Nat.reduceBEq, if_true, if_false, Bool.false_eq_true, Option.getD_some]
  simp only [List.take_succ_cons, List.take_zero]
  refine ⟨?_, ?_, ?_, ?_, ?_, ?_, ?_, ?_, ?_, ?_, trivial⟩
  ·
   rintro us W hJ _ b hb hbz K hK0 hK Qz
   have e9 := (hbz 9 (by simp)).trans s9
   clear hb hbz
   go_simp
   exact hK0 _ rfl
  ·
   rintro us W hJ _ b hb hbz K hK0 hK Qz
   have e11 := (hbz 11 (by simp)).trans s11
   clear hb hbz
   go_simp
   exact hK0 _ rfl
  ·
   rintro us W hJ _ b hb hbz K hK0 hK Qz
   have e9 := (hbz 9 (by simp)).trans s9
   clear hb hbz
   go_simp
   exact hK0 _ rfl
  ·
   rintro us W hJ _ b hb hbz K hK0 hK Qz
   have e11 := (hbz 11 (by simp)).trans s11
   clear hb hbz
   go_simp
   exact hK0 _ rfl
  ·
   rintro us W hJ ⟨d2, d3⟩ b hb hbz K hK0 hK Qz
   have e68 := slotV (hb 2 68 rfl) d2
   have e69 := slotV (hb 3 69 rfl) d3
   clear hb hbz d2 d3
   go_simp
   exact hK0 _ rfl
  ·
   rintro us W hJ d4 b hb hbz K hK0 hK Qz
   have e70 := slotV (hb 4 70 rfl) d4
   clear hb hbz d4
   have z0 := Ext.cell hJ x0
   have z1 := Ext.cell hJ x1
   have z2 := Ext.cell hJ x2
   go_simp
   exact hK0 _ rfl
  ·
   rintro us W hJ _ b hb hbz K hK0 hK Qz
   have e10 := (hbz 10 (by simp)).trans s10
   clear hb hbz
   have z0 := Ext.cell hJ f0
   have z1 := Ext.cell hJ f1
   have z2 := Ext.cell hJ f2
   go_simp
   exact hK0 _ rfl
  ·
   rintro us W hJ ⟨d5, d6⟩ b hb hbz K hK0 hK Qz
   have e71 := slotV (hb 5 71 rfl) d5
   have e72 := slotV (hb 6 72 rfl) d6
   clear hb hbz d5 d6
   go_simp
   refine (divX (hx.ext hJ) (hq.ext hJ) hqz (by omega) (by omega)).mono ?_
   rintro e w' ⟨v, rfl, hv, hX⟩
   exact hK _ _ hv hX
  ·
   rintro us W hJ d7 b hb hbz K hK0 hK Qz
   have e73 := hb 7 73 rfl
   clear hb hbz
   go_simp
   refine (reducedX d7 (by omega)).mono ?_
   rintro e w' ⟨v, rfl, hv, hX⟩
   exact hK _ _ (hv.numx hfit) hX
  ·
   rintro us W hJ ⟨d0, d1⟩ b hb hbz K hK0 hK Qz
   have e66 := slotV (hb 0 66 rfl) d0
   have e67 := slotV (hb 1 67 rfl) d1
   clear hb hbz d0 d1
   go_simp
   exact hK0 _ rfl
 ·
  rintro us W ⟨v0, v1, v2, v3, v4, v5, v6, v7, v8, v9, _⟩ hJ
  exact hend _ _ _ _ _ _ _ _ _ _ W v0 v1 v2 v3 v4 v5 v6 v7 v8 v9 hJ
set_option maxRecDepth 100000 in
set_option maxHeartbeats 2000000 in
theorem reduce_r23 (gs gt ct nn cl ga ca aa tt jj : Nat) (s1 : Bool) (A1 B1 : Option Addr) (l1 c1 m1 k1 : Nat) (w : World) (hs : w.cell? ⟨gs, 0, none⟩ = some (.slice (some ⟨gt, 0, none⟩) nn ct)) (ha : w.cell? ⟨gt, aa, none⟩ = some (.slice (some ⟨ga, 0, none⟩) cl ca)) (x0 : w.cell? ⟨ga, jj * 3, none⟩ = some (.bool s1)) (x1 : w.cell? ⟨ga, jj * 3 + 1, none⟩ = some (.slice A1 l1 c1)) (x2 : w.cell? ⟨ga, jj * 3 + 2, none⟩ = some (.slice B1 m1 k1)) (_hA1 : aa < nn) (_hj : jj < cl) (a : Act) (Q : Exit → Act → World → Prop) (hsize : 109 ≤ a.tmps.size)
  (s2 : a.tmps[2]? = some (.pointer (some ⟨gs, 0, none⟩)))
  (s6 : a.tmps[6]? = some (.int .i64 (tt : Int)))
  (s7 : a.tmps[7]? = some (.int .i64 (jj : Int)))
  (s12 : a.tmps[12]? = some (.int .i64 (aa : Int)))
  (hend : ∀ (xv0 xv1 xv2 xv3 xv4 xv5 xv6 xv7 xv8 xv9 xv10 : Value) (W : World), (xv0 = .agg #[.slice (some ⟨gt, 0, none⟩) nn ct]) → (xv1 = .int .i64 (aa : Int)) → (xv2 = .int .i64 (tt : Int)) → (xv3 = .pointer (some ⟨gs, 0, none⟩)) → (xv4 = .slice (some ⟨gt, 0, none⟩) nn ct) → (xv5 = .int .i64 (aa : Int)) → (xv6 = .pointer (some ⟨gt, aa, none⟩)) → (xv7 = .slice (some ⟨ga, 0, none⟩) cl ca) → (xv8 = .int .i64 (jj : Int)) → (xv9 = .pointer (some ⟨ga, jj * 3, none⟩)) → (xv10 = .agg #[.bool s1, .slice A1 l1 c1, .slice B1 m1 k1]) → Ext w W → wpList Try.prog (rops Try.f120 23).toArray Q ((rops Try.f120 23).drop 11) (((((((((((a.put (some 98) xv0).put (some 99) xv1).put (some 100) xv2).put (some 101) xv3).put (some 102) xv4).put (some 103) xv5).put (some 104) xv6).put (some 105) xv7).put (some 106) xv8).put (some 107) xv9).put (some 108) xv10) W) :
  (Code.region 23 (rops Try.f120 23).toArray true).wp Try.prog Q a w := by
 refine wp_region_k 11 [some 98, some 99, some 100, some 101, some 102, some 103, some 104, some 105, some 106, some 107, some 108] [[], [], [], [], [3], [], [4, 5], [6], [], [7, 8], [9]] [eqv (.agg #[.slice (some ⟨gt, 0, none⟩) nn ct]), eqv (.int .i64 (aa : Int)), eqv (.int .i64 (tt : Int)), eqv (.pointer (some ⟨gs, 0, none⟩)), eqv (.slice (some ⟨gt, 0, none⟩) nn ct), eqv (.int .i64 (aa : Int)), eqv (.pointer (some ⟨gt, aa, none⟩)), eqv (.slice (some ⟨ga, 0, none⟩) cl ca), eqv (.int .i64 (jj : Int)), eqv (.pointer (some ⟨ga, jj * 3, none⟩)), eqv (.agg #[.bool s1, .slice A1 l1 c1, .slice B1 m1 k1])] (by kernel_rfl) (by kernel_rfl) rfl (by decide) hsize ⟨monC, monC, monC, monC, monC, monC, monC, monC, monC, monC, monC, trivial⟩ ?_ ?_
 ·
  clear hend
  simp only [rops, Try.f120, regOf, Option.bind_some, Nat.reduceBEq, if_true, if_false, Bool.false_eq_true, Option.getD_some]
  simp only [List.take_succ_cons, List.take_zero]
  refine ⟨?_, ?_, ?_, ?_, ?_, ?_, ?_, ?_, ?_, ?_, ?_, trivial⟩
  ·
   rintro us W hJ _ b hb hbz K hK0 hK Qz
   have e2 := (hbz 2 (by simp)).trans s2
   clear hb hbz
   have q := Ext.cell hJ hs
   go_simp
   exact hK0 _ rfl
  ·
   rintro us W hJ _ b hb hbz K hK0 hK Qz
   have e12 := (hbz 12 (by simp)).trans s12
   clear hb hbz
   go_simp
   exact hK0 _ rfl
  ·
   rintro us W hJ _ b hb hbz K hK0 hK Qz
   have e6 := (hbz 6 (by simp)).trans s6
   clear hb hbz
   go_simp
   exact hK0 _ rfl
  ·
   rintro us W hJ _ b hb hbz K hK0 hK Qz
   have e2 := (hbz 2 (by simp)).trans s2
   clear hb hbz
   go_simp
   exact hK0 _ rfl
  ·
   rintro us W hJ d3 b hb hbz K hK0 hK Qz
   have e101 := slotV (hb 3 101 rfl) d3
   clear hb hbz d3
   have q := Ext.cell hJ hs
   go_simp
   exact hK0 _ rfl
  ·
   rintro us W hJ _ b hb hbz K hK0 hK Qz
   have e12 := (hbz 12 (by simp)).trans s12
   clear hb hbz
   go_simp
   exact hK0 _ rfl
  ·
   rintro us W hJ ⟨d4, d5⟩ b hb hbz K hK0 hK Qz
   have e102 := slotV (hb 4 102 rfl) d4
   have e103 := slotV (hb 5 103 rfl) d5
   clear hb hbz d4 d5
   go_simp
   exact hK0 _ rfl
  ·
   rintro us W hJ d6 b hb hbz K hK0 hK Qz
   have e104 := slotV (hb 6 104 rfl) d6
   clear hb hbz d6
   have q := Ext.cell hJ ha
   go_simp
   exact hK0 _ rfl
  ·
   rintro us W hJ _ b hb hbz K hK0 hK Qz
   have e7 := (hbz 7 (by simp)).trans s7
   clear hb hbz
   go_simp
   exact hK0 _ rfl
  ·
   rintro us W hJ ⟨d7, d8⟩ b hb hbz K hK0 hK Qz
   have e105 := slotV (hb 7 105 rfl) d7
   have e106 := slotV (hb 8 106 rfl) d8
   clear hb hbz d7 d8
   go_simp
   exact hK0 _ rfl
  ·
   rintro us W hJ d9 b hb hbz K hK0 hK Qz
   have e107 := slotV (hb 9 107 rfl) d9
   clear hb hbz d9
   have z0 := Ext.cell hJ x0
   have z1 := Ext.cell hJ x1
   have z2 := Ext.cell hJ x2
   go_simp
   exact hK0 _ rfl
 ·
  rintro us W ⟨v0, v1, v2, v3, v4, v5, v6, v7, v8, v9, v10, _⟩ hJ
  exact hend _ _ _ _ _ _ _ _ _ _ _ W v0 v1 v2 v3 v4 v5 v6 v7 v8 v9 v10 hJ
set_option maxRecDepth 100000 in
set_option maxHeartbeats 32000000 in
theorem reduce_v (L base gt ct nn : Nat) (vs0 : List Value) (T0 : Tab) (w : World) (hT : TabG 3 (Tri fun w v q => NumX w v q L) 217 226 base w gt ct nn (nn + 1) vs0 T0) (_hn : nn ≤ 100) (hfit : ∀ j, j ≤ nn → ∀ i, i < nn → ∀ c, c ≤ nn → FitQ ((redG nn T0 j).tab i c) L) (hL : L ≤ 100000) (_hbase : base ≤ w.heap.size) :
  Calls Try.prog 120 #[.agg #[.slice (some ⟨gt, 0, none⟩) nn ct], .int .i64 (nn : Int)] w (fun e w' => ∃ gp, e = .returned (.slice (some ⟨gp, 0, none⟩) nn nn) ∧ w.heap.size ≤ gp ∧ (∃ us, w'.ownsRow w.heap.size 3 1 (.slice (some ⟨gp, 0, none⟩) nn nn) nn us ∧ NumK 1 Uno w' us nn (fun j => pivI ((redG nn T0 nn).piv[j]?))) ∧ (∃ vs, (∀ v ∈ vs, v ∈ vs0) ∧ TabG 3 (Tri fun w v q => NumX w v q L) 217 226 base w' gt ct nn (nn + 1) vs (redG nn T0 nn).tab) ∧ Keeps (tabL gt vs0) w w') := by
 have hgt := hT.low.2
 have HLOW := hid hT.tabL_low
 have HIN := hid (inL_tab gt vs0)
 have HT0 := hid hT
 have HFIT := hid hfit
 clear hT hfit
 have hXe : Ext w (w.alloc (.cells #[.slice (some ⟨gt, 0, none⟩) nn ct] 201)) := (Ext.refl w).alloc _
 have kS : Blk (w.alloc (.cells #[.slice (some ⟨gt, 0, none⟩) nn ct] 201)) w.heap.size 201 #[.slice (some ⟨gt, 0, none⟩) nn ct] := Blk.new w _ _
 go_enter Try.func120, Try.ntmps120
 go_upto_region 1 with (fail)
 generalize w.alloc (.cells #[.slice (some ⟨gt, 0, none⟩) nn ct] 201) = w1 at hXe kS ⊢
 have hs1 := hXe.size
 have hs2 := kS.lt
 go_wp2_with (at_make; refine wpList_mk w1 elI rfl rfl _ _ rfl w.heap.size _ _ _ _ nn nn rfl rfl (by omega) (by omega) (Nat.le_refl _) (by omega) (by unfold maxLen; omega) hs1 ?_; intro w2 hown hext hsz)
 have hgp : w.heap.size < w1.heap.size := hs2
 generalize w1.heap.size = gp at hown hgp ⊢
 have HK := hid (Keeps.of_ext (hXe.trans hext) (tabL gt vs0))
 have KS := hid (kS.ext hext)
 have HT := hid (HT0.out.ext (kindNum L) (hXe.trans hext))
 have HPO := hid hown
 clear hXe kS hs1 hs2 hext hsz hown HT0
 have HPN : Hid (NumK 1 Uno w2 (List.replicate nn (.int .i64 0)) nn (fun u => if u < 0 then pivI ((redG nn T0 0).piv[u]?) else 0)) := hid (by
  refine (NumK.new 1 Uno w2 _ nn (by simp) rfl rfl (x := 0) (fun i hi => ?_)).congr (fun j _ => by rw [if_neg (by omega)])
  rw [List.getElem?_replicate, if_pos (by omega), Nat.mod_one]
  rfl)
 go_loopg [16, 6] nn (fun f iv tv wr => ∃ (j : Nat) (vs us : List Value), f = nn - j ∧ j ≤ nn ∧ iv = .int .i64 (j : Int) ∧ tv = .int .i64 ((redG nn T0 j).top : Int) ∧ Hid (TabG 3 (Tri fun w v q => NumX w v q L) 217 226 base wr gt ct nn (nn + 1) vs (redG nn T0 j).tab) ∧ Hid (∀ v ∈ vs, v ∈ vs0) ∧ Hid (wr.ownsRow w.heap.size 3 1 (.slice (some ⟨gp, 0, none⟩) nn nn) nn us) ∧ Hid (NumK 1 Uno wr us nn (fun u => if u < j then pivI ((redG nn T0 j).piv[u]?) else 0)) ∧ Hid (Blk wr w.heap.size 201 #[.slice (some ⟨gt, 0, none⟩) nn ct]) ∧ Hid (Keeps (tabL gt vs0) w wr))
 case atStart => exact ⟨0, vs0, _, rfl, Nat.zero_le _, rfl, rfl, HT, hid (fun v h => h), HPO, HPN, KS, HK⟩
 case round =>
  clear HT HPO HPN KS HK
  obtain ⟨j, vs, us, rfl, hj, rfl, rfl, HT, HSUB, HPO, HPN, KS, HK⟩ := hrel
  by_cases hlt : j < nn
  ·
   have q1 : decide (j < nn) = true := decide_eq_true hlt
   have HSTEP : Hid (redG nn T0 (j + 1) = stepG nn j (redG nn T0 j)) := hid rfl
   have htp := redG_top nn T0 j
   have hpl := redG_plen nn T0 j
   have hf1 := HFIT.out (j + 1) hlt
   rw [HSTEP.out] at hf1
   generalize hsg : redG nn T0 j = sj at *
   have HFIT1 := hid hf1
   clear hf1 hsg
   obtain ⟨tb, tp, pv, la, co⟩ := sj
   simp only at htp hpl
   replace HT : Hid (TabG 3 (Tri fun w v q => NumX w v q L) 217 226 base wr gt ct nn (nn + 1) vs tb) := HT
   replace HPN : Hid (NumK 1 Uno wr us nn (fun u => if u < j then pivI (pv[u]?) else 0)) := HPN
   have HPL := hid hpl
   clear hpl
   have hpc := own_cell HPO.out (HPN.out.one hlt)
   have hpf := own_free HPO.out j
   go_upto_region 7 with (fail)
   clear hpc hpf
   have HNK := hid (noKind_row HPO.out (fun x hx => by rw [HPN.out.map] at hx; obtain ⟨z, _, rfl⟩ := List.mem_map.1 hx; exact ⟨_, rfl⟩))
   have hk1 : Keeps [gp] wr (wr.setCell ⟨gp, j, none⟩ (.int .i64 (-1))) := (Keeps.refl [gp] wr).setCell (.inl (by simp)) _
   have hgpn : ∀ g ∈ tabL gt vs0, g ≠ gp := fun g hg => by have := HLOW.out g hg; omega
   have HGPN := hid hgpn
   replace HT := hid (HT.out.keeps32 hk1 (fun g hg => by simp at hg; subst hg; exact HNK.out) (fun g hg => by
    simp at hg
    subst hg
    exact ⟨fun e => HGPN.out gt HIN.out.1 e.symm, fun v hv e => HGPN.out g ((HIN.out.2 v (HSUB.out v hv)) g e) rfl⟩))
   replace HPO := hid (rowPut (i := j) (u := .int .i64 (-1)) HPO.out)
   replace HPN := hid ((HPN.out.put1 hlt (-1)).any (wr.setCell ⟨gp, j, none⟩ (.int .i64 (-1))))
   replace KS := hid (KS.out.far (by simp only; omega) (.int .i64 (-1)) (p := ⟨gp, j, none⟩))
   replace HK := hid (HK.out.setCell (p := ⟨gp, j, none⟩) (.inr (by simp only; omega)) (.int .i64 (-1)))
   clear hk1 hgpn HNK
   generalize wr.setCell ⟨gp, j, none⟩ (.int .i64 (-1)) = wa at HT HPO HPN KS HK ⊢
   go_wp2_with fail
   go_loopg [8] (nn - tp) (fun f av wq => ∃ k : Nat, f = nn - k ∧ tp ≤ k ∧ k ≤ nn ∧ av = .int .i64 (k : Int) ∧ Hid (∀ r, tp ≤ r → r < k → tb r j = 0) ∧ Hid (Ext wa wq))
   case atStart => exact ⟨tp, rfl, Nat.le_refl _, by omega, rfl, hid (fun r h1 h2 => by omega), hid (Ext.refl _)⟩
   case round =>
    obtain ⟨k, rfl, hk1, hk2, rfl, HZ, HXQ⟩ := hrel
    replace HT := hid (HT.out.ext (kindNum L) HXQ.out)
    replace HPO := hid (World.ownsRow.ext' HPO.out HXQ.out)
    replace HPN := hid (HPN.out.any wr)
    replace KS := hid (KS.out.ext HXQ.out)
    replace HK := hid (HK.out.trans (Keeps.of_ext HXQ.out _))
    have s0c := KS.out.cell 0
    simp only [List.getElem?_toArray, List.getElem?_cons_zero] at s0c
    by_cases hkn : k < nn
    ·
     have q2 : decide (k < nn) = true := decide_eq_true hkn
     have g46 : ((k : Int) == (nn : Int)) = false := by simp; omega
     obtain ⟨gb, cb, rb, tcb, hvb, hob, hrb, hb1, hb2, hbt, hb3, hb4⟩ := HT.out.row (by decide) (Nat.succ_pos _) hkn
     obtain ⟨s1, A1, l1, c1, B1, m1, k1, x0, x1, x2, hx⟩ := hrb.three (show j < nn + 1 by omega)
     replace x0 := own_cell hob x0
     replace x1 := own_cell hob x1
     replace x2 := own_cell hob x2
     have Hx := hid hx
     clear hx
     obtain ⟨tx, htx⟩ : ∃ tx, tb k j = tx := ⟨_, rfl⟩
     rw [htx] at Hx
     obtain ⟨sg, hsg⟩ : ∃ sg, sgnQ tx = sg := ⟨_, rfl⟩
     have HSG := hid (sgn_zero hsg)
     have HTX := hid htx
     have HVB := hid hvb
     have hjn : j < nn + 1 := by omega
     clear htx hvb hob hrb
     go_wp2_with fail
     refine (signX Hx.out).mono ?_
     rw [hsg]
     rintro e w3 ⟨rfl, hX⟩
     clear x0 x1 x2 hsg s0c tcb Hx
     replace HXQ := hid (HXQ.out.trans hX)
     replace HT := hid (HT.out.ext (kindNum L) hX)
     replace HPO := hid (World.ownsRow.ext' HPO.out hX)
     replace KS := hid (KS.out.ext hX)
     replace HK := hid (HK.out.trans (Keeps.of_ext hX _))
     clear hX
     by_cases hs0 : sg = 0
     ·
      subst hs0
      go_wp2
      go_roundg (nn - (k + 1))
      case rel =>
       refine ⟨k + 1, rfl, by omega, by omega, by go_num, hid (fun r h1 h2 => ?_), HXQ⟩
       rcases Nat.lt_or_ge r k with h3 | h3
       ·
        exact HZ.out r h1 h3
       ·
        obtain rfl : r = k := by omega
        rw [HTX.out]; exact HSG.out.1 (by simp)
      case measure => omega
     ·
      have g0 : (sg == 0) = false := by simpa using hs0
      have HLD : Hid (tx ≠ 0) := hid (fun h => hs0 (HSG.out.2 h))
      have HF : Hid (findR tb j (nn - tp) tp = some k) := hid (findR_intro hk1 (by omega) (by rw [HTX.out]; exact HLD.out) HZ.out)
      have HST := hid (stepG_some (s := ⟨tb, tp, pv, la, co⟩) (n := nn) (j := j) HF.out)
      clear HSG HZ HF HXQ
      obtain ⟨ga, ca, ra, tca, hva, hoa, hra, ha1, ha2, hat, ha3, ha4⟩ := HT.out.row (by decide) (Nat.succ_pos _) (show tp < nn by omega)
      obtain ⟨cur, hcur, hci⟩ := row_idx HT.out.out
      have hc1 := hci _ _ hva
      have hc2 := hci _ _ HVB.out
      have HVA := hid hva
      have hHC := hid hcur
      have hC1 := hid hc1
      have hC2 := hid hc2
      clear hva hoa hra tca hcur hci hc1 hc2
      have s0c := KS.out.cell 0
      simp only [List.getElem?_toArray, List.getElem?_cons_zero] at s0c
      have htpn : tp < nn := by omega
      go_wp2_with fail
      refine (swap_any gt ct nn tp k (nn + 1) ga gb ca cb 226 cur w3 hHC.out hC1.out hC2.out htpn hkn).mono ?_
      rintro e w4 ⟨rfl, hw4⟩
      have hsw := (HT.out.ext (kindNum L) (Ext.refl w3).drew).swap (kindNum L) (by decide) htpn hkn HVA.out HVB.out (noInt_slice _ _ _) (noInt_slice _ _ _)
      rw [← hw4] at hsw
      have hks : Keeps [gt] w3 w4 := (Keeps.of_ext (Ext.refl w3).drew [gt]).trans hsw.2
      replace HT : Hid (TabG 3 (Tri fun w v q => NumX w v q L) 217 226 base w4 gt ct nn (nn + 1) ((vs.set tp (.slice (some ⟨gb, 0, none⟩) (nn + 1) cb)).set k (.slice (some ⟨ga, 0, none⟩) (nn + 1) ca)) (swapR tb tp k)) := hid (hsw.1.congr (fun i c _ _ => by
       unfold swapR
       by_cases e1 : i = k
       ·
        by_cases e2 : i = tp
        ·
         rw [if_pos e1, if_pos e2, ← e1, ← e2]
        ·
         rw [if_pos e1, if_neg e2, if_pos e1]
       ·
        rw [if_neg e1]
        by_cases e2 : i = tp
        ·
         rw [if_pos e2, if_pos e2]
        ·
         rw [if_neg e2, if_neg e2, if_neg e1]))
      have hvs1 : ∀ v ∈ (vs.set tp (.slice (some ⟨gb, 0, none⟩) (nn + 1) cb)).set k (.slice (some ⟨ga, 0, none⟩) (nn + 1) ca), v ∈ vs0 := fun v hv => by
       rcases List.mem_or_eq_of_mem_set hv with hv | rfl
       ·
        rcases List.mem_or_eq_of_mem_set hv with hv | rfl
        ·
         exact HSUB.out v hv
        ·
         exact HSUB.out _ (List.mem_of_getElem? HVB.out)
       ·
        exact HSUB.out _ (List.mem_of_getElem? HVA.out)
      clear HSUB HVA HVB hHC hC1 hC2 s0c hsw hw4 ha1 ha2 hat ha3 ha4 hb1 hb2 hbt hb3 hb4
      generalize (vs.set tp (.slice (some ⟨gb, 0, none⟩) (nn + 1) cb)).set k (.slice (some ⟨ga, 0, none⟩) (nn + 1) ca) = vs at HT hvs1
      have HSUB := hid hvs1
      clear hvs1
      replace HPO := hid (ownsRow_keeps HPO.out hks (fun g hg hl => by simp [Value.ownBlock] at hg; simp at hl; omega))
      replace KS := hid (KS.out.keeps hks (by simp; omega))
      replace HK := hid (HK.out.trans (hks.mono (fun g hg _ => by simp at hg; subst hg; exact HIN.out.1)))
      clear hks
      have HSW : Hid (∀ c, swapR tb tp k tp c = tb k c) := hid (fun c => by unfold swapR; rw [if_pos rfl])
      obtain ⟨gr, cr, rr, hcr, hvr, hor, hrr, hr1, hr2, hrt, hr3, hr4⟩ := HT.out.row (by decide) (Nat.succ_pos _) htpn
      obtain ⟨s1, A1, l1, c1, B1, m1, k1, x0, x1, x2, hx⟩ := hrr.three hjn
      replace x0 := own_cell hor x0
      replace x1 := own_cell hor x1
      replace x2 := own_cell hor x2
      have Hx := hid hx
      clear hx
      rw [HSW.out, HTX.out] at Hx
      have HVR := hid hvr
      have hgrl : gr < w.heap.size := (HLOW.out gr (HIN.out.2 _ (HSUB.out _ (List.mem_of_getElem? hvr)) gr (by simp [Value.ownBlock]))).2
      clear hvr hor hrr
      have s0c := KS.out.cell 0
      simp only [List.getElem?_toArray, List.getElem?_cons_zero] at s0c
      go_upto_region 14 with (fail)
      have hGP : gp < w4.heap.size := (rowLow HPO.out (g := gp) (by simp [Value.ownBlock])).2
      have hXa : Ext w4 (w4.alloc (.cells #[.bool s1, .slice A1 l1 c1, .slice B1 m1 k1] 217)) := (Ext.refl _).alloc _
      have kD := Blk.new w4 217 #[.bool s1, .slice A1 l1 c1, .slice B1 m1 k1]
      replace HT := hid (HT.out.ext (kindNum L) hXa)
      replace HPO := hid (World.ownsRow.ext' HPO.out hXa)
      replace KS := hid (KS.out.ext hXa)
      replace HK := hid (HK.out.trans (Keeps.of_ext hXa _))
      have HLX := hid (Hx.out.ext hXa)
      have hgd : w.heap.size ≤ w4.heap.size := by omega
      clear hXa x0 x1 x2 Hx s0c hcr
      generalize w4.alloc (.cells #[.bool s1, .slice A1 l1 c1, .slice B1 m1 k1] 217) = w5 at kD HT HPO KS HK HLX ⊢
      generalize w4.heap.size = gd at kD hgd hGP ⊢
      have KD := hid kD
      clear kD
      go_wp2_with fail
      go_loopg [63] (nn + 1) (fun f iv wr => ∃ q : Nat, f = nn + 1 - q ∧ q ≤ nn + 1 ∧ iv = .int .i64 (q : Int) ∧ Hid (TabG 3 (Tri fun w v q => NumX w v q L) 217 226 base wr gt ct nn (nn + 1) vs (fun i c => if i = tp ∧ c < q then swapR tb tp k tp c / tx else swapR tb tp k i c)) ∧ Hid (NumX wr (.agg #[.bool s1, .slice A1 l1 c1, .slice B1 m1 k1]) tx L) ∧ Hid (Blk wr gd 217 #[.bool s1, .slice A1 l1 c1, .slice B1 m1 k1]) ∧ Hid (Keeps (tabL gt vs0) w5 wr))
      case atStart => exact ⟨0, by omega, by omega, rfl, hid (HT.out.congr (fun i c _ _ => by rw [if_neg (by omega)])), HLX, KD, hid (Keeps.refl _ _)⟩
      case round =>
       clear HT HLX KD
       obtain ⟨q, rfl, hq, rfl, HT, HLX, KD, HK5⟩ := hrel
       by_cases hql : q < nn + 1
       ·
        have q3 : decide (q < nn + 1) = true := decide_eq_true hql
        obtain ⟨v, rr, hv, hor, hrr⟩ := HT.out.tbl.row htpn
        rw [HVR.out] at hv
        injection hv with hv
        subst hv
        obtain ⟨s2, A2, l2, c2, B2, m2, k2, x0, x1, x2, hx⟩ := hrr.three hql
        replace x0 := own_cell hor x0
        replace x1 := own_cell hor x1
        replace x2 := own_cell hor x2
        have Hx := hid hx
        clear hx
        rw [if_neg (by omega)] at Hx
        have HFQ : Hid (FitQ (swapR tb tp k tp q / tx) L) := hid (by
         have := HFIT1.out tp htpn q (by omega)
         rw [HST.out] at this
         simp only [clearR, normR, if_true, HTX.out] at this
         exact this)
        have HOR := hid hor
        clear hrr hor
        go_upto_region 17 with (fail)
        refine reduce_r17 gd (nn + 1) gr cr q L s2 A2 B2 l2 c2 m2 k2 s1 A1 B1 l1 c1 m1 k1 _ tx wr x0 x1 x2 (KD.out.cell 0) (KD.out.cell 1) (KD.out.cell 2) Hx.out HLX.out HLD.out HFQ.out hql hL _ _ (by simp) rfl rfl rfl ?_
        rintro xv0 xv1 xv2 xv3 xv4 xv5 xv6 xv7 xv8 xv9 W rfl rfl rfl rfl rfl rfl rfl _ hv rfl hX
        simp only [rops, Try.f120, regOf, Option.bind_some, Nat.reduceBEq, if_true, if_false, Bool.false_eq_true, Option.getD_some, List.drop_succ_cons, List.drop_zero]
        simp only [Act.put, List.setIfInBounds_toArray, List.set_cons_succ, List.set_cons_zero]
        clear x0 x1 x2 Hx
        replace HT := hid (HT.out.ext (kindNum L) hX)
        replace HK5 := hid (HK5.out.trans (Keeps.of_ext hX _))
        replace HLX := hid (HLX.out.ext hX)
        replace KD := hid (KD.out.ext hX)
        replace HOR := hid (World.ownsRow.ext' HOR.out hX)
        clear hX
        obtain ⟨s4, A4, l4, c4, B4, m4, k4, rfl⟩ := NumX.open hv
        have HN := hid hv
        clear hv
        have HNI : Hid (NoInts W gr) := hid (by
         rcases HT.out.ni with h | h
         ·
          omega
         ·
          exact h.1 _ (List.mem_of_getElem? HVR.out) gr (by simp [Value.ownBlock]))
        have hlr := HOR.out.1
        obtain ⟨u0, hu0⟩ : ∃ u, rr[q * 3]? = some u := ⟨_, List.getElem?_eq_getElem (by omega)⟩
        obtain ⟨u1, hu1⟩ : ∃ u, rr[q * 3 + 1]? = some u := ⟨_, List.getElem?_eq_getElem (by omega)⟩
        obtain ⟨u2, hu2⟩ : ∃ u, rr[q * 3 + 2]? = some u := ⟨_, List.getElem?_eq_getElem (by omega)⟩
        have x0 := own_cell HOR.out hu0
        have x1 := own_cell HOR.out hu1
        have x2 := own_cell HOR.out hu2
        have f0 := own_free HOR.out (q * 3)
        have f1 := own_free HOR.out (q * 3 + 1)
        have f2 := own_free HOR.out (q * 3 + 2)
        clear hu0 hu1 hu2 hlr
        have HP := hid (HT.out.put3 (kindNum L) htpn hql HVR.out hrt (hx := boxedX HN.out HNI.out (q * 3) s4 A4 B4 l4 c4 m4 k4))
        go_wp2
        go_roundg (nn + 1 - (q + 1))
        case rel =>
         refine ⟨q + 1, rfl, by omega, by go_num, hid (HP.out.1.congr (fun i c _ _ => ?_)), hid (boxedX HLX.out HNI.out (q * 3) s4 A4 B4 l4 c4 m4 k4), hid (((KD.out.far (by simp only; omega) _).far (by simp only; omega) _).far (by simp only; omega) _), hid (HK5.out.trans (HP.out.2.mono (fun g hg _ => by simp at hg; subst hg; exact HIN.out.2 _ (HSUB.out _ (List.mem_of_getElem? HVR.out)) g (by simp [Value.ownBlock]))))⟩
         by_cases hij : i = tp ∧ c = q
         ·
          obtain ⟨rfl, rfl⟩ := hij
          rw [if_pos ⟨rfl, rfl⟩, if_pos (by omega)]
         ·
          rw [if_neg hij]
          by_cases h2 : i = tp ∧ c < q
          ·
           rw [if_pos h2, if_pos (by omega)]
          ·
           rw [if_neg h2, if_neg (by omega)]
        case measure => omega
       ·
        obtain rfl : q = nn + 1 := by omega
        have hnf : ∀ i c, i < nn → c < nn + 1 → (fun i c => if i = tp ∧ c < nn + 1 then swapR tb tp k tp c / tx else swapR tb tp k i c) i c = normR (swapR tb tp k) tp tx i c := fun i c _ hc => by
         show (if i = tp ∧ c < nn + 1 then swapR tb tp k tp c / tx else swapR tb tp k i c) = _
         unfold normR
         by_cases e : i = tp
         ·
          rw [if_pos ⟨e, hc⟩, if_pos e]
         ·
          rw [if_neg (by omega), if_neg e]
        replace HT : Hid (TabG 3 (Tri fun w v q => NumX w v q L) 217 226 base wr gt ct nn (nn + 1) vs (normR (swapR tb tp k) tp tx)) := hid (HT.out.congr hnf)
        clear hnf
        replace HPO := hid (ownsRow_keeps HPO.out HK5.out (fun g hg hl => by simp [Value.ownBlock] at hg; subst hg; exact HGPN.out _ hl rfl))
        replace HK := hid (HK.out.trans HK5.out)
        replace KS := hid (KS.out.keeps HK5.out (fun hl => by have := HLOW.out _ hl; omega))
        clear HLX KD HK5 q1
        have HFC : Hid (∀ i, i < nn → ∀ c, c < nn + 1 → i ≠ tp → FitQ (normR (swapR tb tp k) tp tx i c - normR (swapR tb tp k) tp tx i j * normR (swapR tb tp k) tp tx tp c) L) := hid (fun i hi c hc hne => by
         have := HFIT1.out i hi c (by omega)
         rw [HST.out] at this
         simp only [clearR, if_neg hne, HTX.out] at this
         exact this)
        have HSTT : Hid (stepG nn j ⟨tb, tp, pv, la, co⟩ = ⟨clearR (normR (swapR tb tp k) tp tx) tp j, tp + 1, pv ++ [some tp], la * tx, co ++ [j]⟩) := hid (by rw [HST.out]; simp only [HTX.out])
        clear HFIT1 HST HTX HSW HLD
        generalize normR (swapR tb tp k) tp tx = NT at HT HFC HSTT
        have s0c := KS.out.cell 0
        simp only [List.getElem?_toArray, List.getElem?_cons_zero] at s0c
        go_wp2_with fail
        clear s0c
        go_loopg [80] nn (fun f iv wz => ∃ q : Nat, f = nn - q ∧ q ≤ nn ∧ iv = .int .i64 (q : Int) ∧ Hid (TabG 3 (Tri fun w v q => NumX w v q L) 217 226 base wz gt ct nn (nn + 1) vs (fun i c => if i < q ∧ i ≠ tp then NT i c - NT i j * NT tp c else NT i c)) ∧ Hid (Keeps (tabL gt vs0) wr wz))
        case atStart => exact ⟨0, by omega, by omega, rfl, hid (HT.out.congr (fun i c _ _ => by rw [if_neg (by omega)])), hid (Keeps.refl _ _)⟩
        case round =>
         clear HT
         obtain ⟨q, rfl, hq, rfl, HT, HK6⟩ := hrel
         have kS := KS.out.keeps HK6.out (fun hl => by have := HLOW.out _ hl; omega)
         have s0c := kS.cell 0
         simp only [List.getElem?_toArray, List.getElem?_cons_zero] at s0c
         have KSZ := hid kS
         clear kS
         by_cases hql : q < nn
         ·
          have q3 : decide (q < nn) = true := decide_eq_true hql
          by_cases hqt : q = tp
          ·
           subst hqt
           have g85 : ((q : Int) != (q : Int)) = false := by simp
           go_wp2
           go_roundg (nn - (q + 1))
           case rel =>
            refine ⟨q + 1, rfl, by omega, by go_num, hid (HT.out.congr (fun i c _ _ => ?_)), HK6⟩
            by_cases h2 : i < q ∧ i ≠ q
            ·
             rw [if_pos h2, if_pos (by omega)]
            ·
             rw [if_neg h2, if_neg (by omega)]
           case measure => omega
          ·
           have g85 : ((q : Int) != (tp : Int)) = true := by simp; omega
           obtain ⟨ga, ca, ra, tca, hva, hoa, hra, ha1, ha2, hat, ha3, ha4⟩ := HT.out.row (by decide) (Nat.succ_pos _) hql
           obtain ⟨s5, A5, l5, c5, B5, m5, k5, x0, x1, x2, hx⟩ := hra.three hjn
           replace x0 := own_cell hoa x0
           replace x1 := own_cell hoa x1
           replace x2 := own_cell hoa x2
           have Hx := hid hx
           clear hx
           rw [if_neg (by omega)] at Hx
           obtain ⟨tq, htq⟩ : ∃ tq, NT q j = tq := ⟨_, rfl⟩
           rw [htq] at Hx
           obtain ⟨sg2, hsg⟩ : ∃ sg, sgnQ tq = sg := ⟨_, rfl⟩
           have HSG := hid (sgn_zero hsg)
           have HTQ := hid htq
           have HVA := hid hva
           have hX0 := hid x0
           have hX1 := hid x1
           have hX2 := hid x2
           have hTCA := hid tca
           clear htq hva hoa hra ha1 ha2 hat ha3 ha4
           go_wp2_with fail
           refine (signX Hx.out).mono ?_
           rw [hsg]
           rintro e w7 ⟨rfl, hX⟩
           clear x0 x1 x2 hsg s0c tca
           replace HT := hid (HT.out.ext (kindNum L) hX)
           replace HK6 := hid (HK6.out.trans (Keeps.of_ext hX _))
           replace KSZ := hid (KSZ.out.ext hX)
           replace Hx := hid (Hx.out.ext hX)
           replace hX0 := hid (hX.cell hX0.out)
           replace hX1 := hid (hX.cell hX1.out)
           replace hX2 := hid (hX.cell hX2.out)
           replace hTCA := hid (hX.cell hTCA.out)
           clear hX
           by_cases hs2 : sg2 = 0
           ·
            subst hs2
            have HZ2 : Hid (NT q j = 0) := hid (by rw [HTQ.out]; exact HSG.out.1 (by simp))
            go_wp2
            go_roundg (nn - (q + 1))
            case rel =>
             refine ⟨q + 1, rfl, by omega, by go_num, hid (HT.out.congr (fun i c _ _ => ?_)), HK6⟩
             by_cases h2 : i < q ∧ i ≠ tp
             ·
              rw [if_pos h2, if_pos (by omega)]
             ·
              rw [if_neg h2]
              by_cases h3 : i = q
              ·
               subst h3
               rw [if_pos (by omega), HZ2.out]
               grind
              ·
               rw [if_neg (by omega)]
            case measure => omega
           ·
            have g96 : (sg2 != 0) = true := by simpa using hs2
            go_upto_region 23 with (fail)
            refine reduce_r23 w.heap.size gt ct nn (nn + 1) ga ca q tp j s5 A5 B5 l5 c5 m5 k5 w7 (KSZ.out.cell 0) hTCA.out hX0.out hX1.out hX2.out hql hjn _ _ (by simp) rfl rfl rfl rfl ?_
            rintro xv0 xv1 xv2 xv3 xv4 xv5 xv6 xv7 xv8 xv9 xv10 W rfl rfl rfl rfl rfl rfl rfl rfl rfl rfl rfl hX
            simp only [rops, Try.f120, regOf, Option.bind_some, Nat.reduceBEq, if_true, if_false, Bool.false_eq_true, Option.getD_some, List.drop_succ_cons, List.drop_zero]
            simp only [Act.put, List.setIfInBounds_toArray, List.set_cons_succ, List.set_cons_zero]
            replace HT := hid (HT.out.ext (kindNum L) hX)
            replace HK6 := hid (HK6.out.trans (Keeps.of_ext hX _))
            replace Hx := hid (Hx.out.ext hX)
            clear hX hX0 hX1 hX2 hTCA KSZ
            have hsz6 := HK6.out.size
            have hszw := HK.out.size
            have hfc : ∀ c, c < nn + 1 → FitQ ((fun i c => if i < q ∧ i ≠ tp then NT i c - NT i j * NT tp c else NT i c) q c - tq * (fun i c => if i < q ∧ i ≠ tp then NT i c - NT i j * NT tp c else NT i c) tp c) L := fun c hc => by
             simp only
             rw [if_neg (by omega), if_neg (by omega), ← HTQ.out]
             exact HFC.out q hql c hc hqt
            have HFCQ := hid hfc
            clear hfc
            go_wp2_with fail
            refine (clear_v L base gt ct nn (nn + 1) q tp ga gr ca cr vs _ s5 A5 B5 l5 c5 m5 k5 tq _ HT.out hql htpn hqt HVA.out HVR.out Hx.out HFCQ.out hL (by omega) (by omega)).mono ?_
            rintro e w8 ⟨rfl, hkc, hTc⟩
            replace HK6 := hid (HK6.out.trans (hkc.mono (fun g hg _ => by simp at hg; subst hg; exact HIN.out.2 _ (HSUB.out _ (List.mem_of_getElem? HVA.out)) g (by simp [Value.ownBlock]))))
            replace HT := hid hTc
            clear hkc hTc Hx HFCQ
            go_wp2
            go_roundg (nn - (q + 1))
            case rel =>
             refine ⟨q + 1, rfl, by omega, by go_num, hid (HT.out.congr (fun i c _ _ => ?_)), HK6⟩
             by_cases h3 : i = q
             ·
              subst h3
              rw [if_pos rfl, if_neg (show ¬ (i < i ∧ i ≠ tp) by omega), if_neg (show ¬ (tp < i ∧ tp ≠ tp) by omega), if_pos (show i < i + 1 ∧ i ≠ tp by omega), HTQ.out]
             ·
              rw [if_neg h3]
              by_cases h2 : i < q ∧ i ≠ tp
              ·
               rw [if_pos h2, if_pos (by omega)]
              ·
               rw [if_neg h2, if_neg (by omega)]
            case measure => omega
         ·
          obtain rfl : q = nn := by omega
          replace HPO := hid (ownsRow_keeps HPO.out HK6.out (fun g hg hl => by simp [Value.ownBlock] at hg; subst hg; exact HGPN.out _ hl rfl))
          replace HK := hid (HK.out.trans HK6.out)
          replace HPN := hid (HPN.out.any wr)
          replace HT : Hid (TabG 3 (Tri fun w v q => NumX w v q L) 217 226 base wr gt ct q (q + 1) vs (clearR NT tp j)) := hid (HT.out.congr (fun i c hi _ => by
           unfold clearR
           by_cases e : i = tp
           ·
            rw [if_neg (by omega), if_pos e, e]
           ·
            rw [if_pos ⟨hi, e⟩, if_neg e]))
          have hpc := own_cell HPO.out (HPN.out.one hlt)
          have hpf := own_free HPO.out j
          have HNK := hid (noKind_row HPO.out (fun x hx => by rw [HPN.out.map] at hx; obtain ⟨z, _, rfl⟩ := List.mem_map.1 hx; exact ⟨_, rfl⟩))
          have HKG : Hid (Keeps [gp] wr (wr.setCell ⟨gp, j, none⟩ (.int .i64 (tp : Int)))) := hid ((Keeps.refl [gp] wr).setCell (.inl (by simp)) _)
          go_wp2
          go_roundg (q - (j + 1))
          case rel =>
           refine ⟨j + 1, vs, _, rfl, by omega, by go_num, by rw [HSTEP.out, HSTT.out]; go_num, hid ?_, HSUB, hid (rowPut (i := j) (u := .int .i64 (tp : Int)) HPO.out), hid ?_, hid (KSZ.out.far (by simp only; omega) _), hid (HK.out.setCell (.inr (by simp only; omega)) _)⟩
           ·
            rw [HSTEP.out, HSTT.out]
            exact HT.out.keeps32 HKG.out (fun g hg => by simp at hg; subst hg; exact HNK.out) (fun g hg => by
             simp at hg
             subst hg
             exact ⟨fun e => HGPN.out gt HIN.out.1 e.symm, fun v hv e => HGPN.out g ((HIN.out.2 v (HSUB.out v hv)) g e) rfl⟩)
           ·
            rw [HSTEP.out, HSTT.out]
            refine ((HPN.out.put1 hlt (tp : Int)).any _).congr (fun u _ => ?_)
            simp only
            by_cases e : u = j
            ·
             subst e
             rw [if_pos rfl, if_pos (by omega), List.getElem?_append_right (by rw [HPL.out]; omega), HPL.out, Nat.sub_self]
             rfl
            ·
             rw [if_neg e, if_neg e]
             by_cases h2 : u < j
             ·
              rw [if_pos h2, if_pos (by omega), List.getElem?_append_left (by rw [HPL.out]; exact h2)]
             ·
              rw [if_neg h2, if_neg (by omega)]
          case measure => omega
    ·
     obtain rfl : k = nn := by omega
     have g46 : ((k : Int) == (k : Int)) = true := by simp
     have HF : Hid (findR tb j (k - tp) tp = none) := hid (findR_nil (fun m h1 h2 => HZ.out m h1 (by omega)))
     have HST := hid (stepG_none (s := ⟨tb, tp, pv, la, co⟩) (n := k) (j := j) HF.out)
     go_wp2
     go_roundg (k - (j + 1))
     case rel =>
      refine ⟨j + 1, vs, _, rfl, by omega, by go_num, by rw [HSTEP.out, HST.out], hid (by rw [HSTEP.out, HST.out]; exact HT.out), HSUB, HPO, hid ?_, KS, HK⟩
      rw [HSTEP.out, HST.out]
      refine HPN.out.congr (fun u _ => ?_)
      simp only
      by_cases e : u = j
      ·
       subst e
       rw [if_pos rfl, if_pos (by omega), List.getElem?_append_right (by rw [HPL.out]; omega), HPL.out, Nat.sub_self]
       rfl
      ·
       rw [if_neg e]
       by_cases h2 : u < j
       ·
        rw [if_pos h2, if_pos (by omega), List.getElem?_append_left (by rw [HPL.out]; exact h2)]
       ·
        rw [if_neg h2, if_neg (by omega)]
     case measure => omega
  ·
   obtain rfl : j = nn := by omega
   have q1 : decide (j < j) = false := by simp
   go_wp2
   go_ret
   exact ⟨gp, rfl, by omega, ⟨us, HPO.out, HPN.out.congr (fun u hu => by rw [if_pos hu])⟩, ⟨vs, HSUB.out, HT.out⟩, HK.out⟩

/-- Number or not yet: the three cells. -/
def TriO (P : World → Value → Rat → Prop) (w : World) (cs : List Value) (o : Option Rat) : Prop := ∃ s A l c B m k, cs = [.bool s, .slice A l c, .slice B m k] ∧ ∀ q, o = some q → P w (.agg #[.bool s, .slice A l c, .slice B m k]) q
/-- A relation that stores into blocks without integers leave as it is. -/
def Stays (P : World → Value → Rat → Prop) : Prop := ∀ w w' L v q, P w v q → Keeps L w w' → (∀ g ∈ L, NoInts w g) → P w' v q
theorem staysNum (K : Nat) : Stays fun w v q => NumX w v q K := fun _ _ _ _ _ h hk hN => h.keepsNI hk hN
theorem RatV.keepsNI {w w' : World} {v : Value} {neg : Bool} {xs ys : List Int} {L : List Nat} (h : RatV w v neg xs ys) (hk : Keeps L w w') (hN : ∀ g ∈ L, NoInts w g) : RatV w' v neg xs ys := by
 unfold RatV at h ⊢
 obtain ⟨A, l, c, B, m, k, h0, h1, h2, h3, h4, h5, h6⟩ := h
 exact ⟨A, l, c, B, m, k, h0, h1.keepsNI hk hN, h2, h3, h4.keepsNI hk hN, h5, h6⟩
theorem staysC : Stays RatC := fun _ _ _ _ _ h hk hN => by
 obtain ⟨xs, ys, h1, h2, h3⟩ := h
 exact ⟨xs, ys, h1.keepsNI hk hN, h2, h3⟩
theorem kindO {P : World → Value → Rat → Prop} (h : Stays P) : KindK 3 (TriO P) :=
 ⟨fun w cs x hc => by obtain ⟨s, A, l, c, B, m, k, rfl, _⟩ := hc; rfl,
  fun w w' L cs x hc hk hN => by obtain ⟨s, A, l, c, B, m, k, e, hp⟩ := hc; exact ⟨s, A, l, c, B, m, k, e, fun q hq => h _ _ _ _ _ (hp q hq) hk hN⟩, fun e => by omega⟩
/-- N numbers in a row of one's own, of n elements with 'size' cells each. -/
structure RowN (P : World → Value → Rat → Prop) (te : TypeId) (size base : Nat) (w : World) (g n c N : Nat) (f : Nat → Option Rat) : Prop where
 fit : N * 3 = n * size
 row : ∃ us, w.ownsRow base te size (.slice (some ⟨g, 0, none⟩) n c) n us ∧ NumK 3 (TriO P) w us N f
 ni : NoInts w g
section
variable {P : World → Value → Rat → Prop} {te : TypeId} {size base : Nat} {w w' : World} {g n c N : Nat} {f h : Nat → Option Rat}
theorem RowN.keeps (hP : Stays P) (k : RowN P te size base w g n c N f) {L : List Nat} (he : Keeps L w w') (hN : ∀ q ∈ L, NoInts w q) (hg : g ∉ L) : RowN P te size base w' g n c N f := by
 obtain ⟨hf, ⟨us, h1, h2⟩, hn⟩ := k
 obtain ⟨t, cs, h3, h4⟩ := hn
 exact ⟨hf, ⟨us, ownsRow_keeps h1 he (fun q hq => by simp [Value.ownBlock] at hq; subst hq; exact hg), h2.keep (kindO hP) he hN⟩, ⟨t, cs, (he.block g h3.lt hg).trans h3, h4⟩⟩
theorem RowN.ext (hP : Stays P) (k : RowN P te size base w g n c N f) (he : Ext w w') : RowN P te size base w' g n c N f := k.keeps hP (.of_ext he []) (fun g hg => by simp at hg) (by simp)
theorem RowN.congr (k : RowN P te size base w g n c N f) (e : ∀ j, j < N → f j = h j) : RowN P te size base w g n c N h := by
 obtain ⟨hf, ⟨us, h1, h2⟩, hn⟩ := k
 exact ⟨hf, ⟨us, h1, h2.congr e⟩, hn⟩
theorem RowN.free (k : RowN P te size base w g n c N f) (i : Nat) : w.frozen? ⟨g, i, none⟩ = false := by
 obtain ⟨hf, ⟨us, h1, h2⟩, hn⟩ := k
 exact own_free h1 i
/-- The cells of number j, at p = 3 j. -/
theorem RowN.cells (k : RowN P te size base w g n c N f) {j p : Nat} (hj : j < N) (hp : p = j * 3) : ∃ s A l c B m k, w.cell? ⟨g, p, none⟩ = some (.bool s) ∧ w.cell? ⟨g, p + 1, none⟩ = some (.slice A l c) ∧ w.cell? ⟨g, p + 2, none⟩ = some (.slice B m k) ∧ ∀ q, f j = some q → P w (.agg #[.bool s, .slice A l c, .slice B m k]) q := by
 subst hp
 obtain ⟨hf, ⟨us, h1, h2⟩, hn⟩ := k
 obtain ⟨cs, c1, ⟨s, A, l, c, B, m, k, rfl, h3⟩, h4⟩ := h2.2 j hj
 exact ⟨s, A, l, c, B, m, k, own_cell h1 (by have := h4 0 (by omega); simpa using this), own_cell h1 (by have := h4 1 (by omega); simpa using this), own_cell h1 (by have := h4 2 (by omega); simpa using this), h3⟩
/-- A number is stored at place j. -/
theorem RowN.put (hP : Stays P) (k : RowN P te size base w g n c N f) {j p : Nat} (hj : j < N) (hp : p = j * 3) {s : Bool} {A B : Option Addr} {l c1 l2 c2 : Nat} {x : Rat} (hx : P w (.agg #[.bool s, .slice A l c1, .slice B l2 c2]) x) :
  RowN P te size base (((w.setCell ⟨g, p, none⟩ (.bool s)).setCell ⟨g, p + 1, none⟩ (.slice A l c1)).setCell ⟨g, p + 2, none⟩ (.slice B l2 c2)) g n c N (fun i => if i = j then some x else f i) := by
 subst hp
 obtain ⟨hf, ⟨us, h1, h2⟩, hn⟩ := k
 have hkp : Keeps [g] w (((w.setCell ⟨g, j * 3, none⟩ (.bool s)).setCell ⟨g, j * 3 + 1, none⟩ (.slice A l c1)).setCell ⟨g, j * 3 + 2, none⟩ (.slice B l2 c2)) := (((Keeps.refl [g] w).setCell (.inl (by simp)) _).setCell (.inl (by simp)) _).setCell (.inl (by simp)) _
 have hN : ∀ q ∈ [g], NoInts w q := fun q hq => by simp at hq; subst hq; exact hn
 have hb : j * 3 + 3 ≤ us.length := by rw [h2.1]; omega
 obtain ⟨e1, e2, e3⟩ := set_three us (j * 3) (.bool s) (.slice A l c1) (.slice B l2 c2) hb
 exact ⟨hf, ⟨_, rowPut (rowPut (rowPut h1)), (h2.keep (kindO hP) hkp hN).put hj rfl ⟨_, _, _, _, _, _, _, rfl, fun q hq => by injection hq with hq; subst hq; exact hP _ _ _ _ _ hx hkp hN⟩ e1 e2 e3⟩, ((hn.set _ (noInt_bool s)).set _ (noInt_slice A l c1)).set _ (noInt_slice B l2 c2)⟩
/-- The row of zero values that 'make' gives. -/
theorem RowN.zero {z : Value} {us : List Value} (_hz : z.cells.size = size) (ho : w.ownsRow base te size (.slice (some ⟨g, 0, none⟩) n n) n us) (h1 : ∀ i, i < n * size → us[i]? = z.cells[i % size]?) (h2 : ∀ u ∈ us, u ∈ z.cells) (hn : ∀ u ∈ z.cells, NoInt u) (hd : 3 ∣ size) (h3 : ∀ i, i < size → z.cells[i]? = (#[.bool false, .slice none 0 0, .slice none 0 0] : Array Value)[i % 3]?) (hf : N * 3 = n * size) : RowN P te size base w g n n N (fun _ => none) := by
 refine ⟨hf, ⟨us, ho, NumK.new 3 (TriO P) w us N (by rw [hf]; exact ho.1) (cs := [.bool false, .slice none 0 0, .slice none 0 0]) rfl ⟨_, _, _, _, _, _, _, rfl, fun q hq => by cases hq⟩ fun i hi => ?_⟩, ?_⟩
 ·
  rw [hf] at hi
  have hs : 0 < size := by
   rcases Nat.eq_zero_or_pos size with h | h
   ·
    subst h; omega
   ·
    exact h
  rw [h1 i hi, h3 _ (Nat.mod_lt _ hs), Nat.mod_mod_of_dvd _ hd]
  rcases (show i % 3 = 0 ∨ i % 3 = 1 ∨ i % 3 = 2 by omega) with e | e | e <;> rw [e] <;> rfl
 ·
  obtain ⟨cur, hB, _, _, _, h5, h6⟩ := rowCells ho
  refine ⟨te, cur, hB, fun u hu => hn u (h2 u ?_)⟩
  rw [← h6, List.take_of_length_le (by simp [h5])]
  simpa using hu
theorem ShP.keeps {Q : World → Value → Rat → Prop} (hQ : Stays Q) {v v' : World} {o S : Nat} {u : Nat → Rat} {L : List Nat} (h : ShP Q v g o S u) (he : Keeps L v v') (hN : ∀ q ∈ L, NoInts v q) (hg : g ∉ L) : ShP Q v' g o S u := fun s k hs hk => by
 obtain ⟨sg, A, l, c, B, m, n, h0, h1, h2, h3⟩ := h s k hs hk
 have cell : ∀ i x, v.cell? ⟨g, i, none⟩ = some x → v'.cell? ⟨g, i, none⟩ = some x := fun i x hx => by
  rw [← hx]
  exact World.cell?_of_block (w := v) (he.block g (World.block_lt_of_cell? v _ hx) hg)
 exact ⟨sg, A, l, c, B, m, n, cell _ _ h0, cell _ _ h1, cell _ _ h2, hQ _ _ _ _ _ h3 he hN⟩
theorem ShP.imp2 {Q R : World → Value → Rat → Prop} {v : World} {o S : Nat} {u : Nat → Rat} (h : ShP Q v g o S u) (hi : ∀ j x, j < 3 * S → Q v x (u j) → R v x (u j)) : ShP R v g o S u := fun s k hs hk => by
 obtain ⟨sg, A, l, c, B, m, n, h0, h1, h2, h3⟩ := h s k hs hk
 exact ⟨sg, A, l, c, B, m, n, h0, h1, h2, hi _ _ (by omega) h3⟩
theorem ShP.low {Q : World → Value → Rat → Prop} {v : World} {o S : Nat} {u : Nat → Rat} (h : ShP Q v g o S u) (hS : 0 < S) : g < v.heap.size := by
 obtain ⟨sg, A, l, c, B, m, n, h0, _⟩ := h 0 0 hS (by omega)
 exact World.block_lt_of_cell? v _ h0
theorem RowN.shp (k : RowN P te 9 base w g n c (3 * n) f) {u : Nat → Rat} (hu : ∀ j, j < 3 * n → f j = some (u j)) : ShP P w g 0 n u := fun s q hs hq => by
 obtain ⟨sg, A, l, c', B, m, k', h0, h1, h2, h3⟩ := k.cells (j := 3 * s + q) (p := 0 + s * 9 + q * 3) (by omega) (by omega)
 exact ⟨sg, A, l, c', B, m, k', h0, h1, h2, h3 _ (hu _ (by omega))⟩
end
end Go.Proofs.Ytikhlcgnlbinfaa
namespace Go.Proofs.Ytikhlcgnlbinfaa
open Lib (hid)
theorem over_of {l : Rat} {z y : Int} {Z : Nat} {t : Rat} (hl : l = (z : Rat)) (_hz : z ≠ 0) (h : l * t = (y : Rat)) (hy : y.natAbs ≤ Z) : OverD z.natAbs Z t := by
 by_cases e : 0 ≤ z
 ·
  refine ⟨y, ?_, hy⟩
  have : ((z.natAbs : Nat) : Rat) = (z : Rat) := by
   have : ((z.natAbs : Int) : Rat) = (z : Rat) := by rw [Int.natAbs_of_nonneg e]
   exact this
  rw [this, ← h, hl]
  grind
 ·
  refine ⟨-y, ?_, by omega⟩
  have : ((z.natAbs : Nat) : Rat) = -(z : Rat) := by
   have : ((z.natAbs : Int) : Rat) = -(z : Rat) := by
    rw [show (z.natAbs : Int) = -z by omega, Rat.intCast_neg]
   exact this
  rw [this, Rat.intCast_neg, ← h, hl]
  grind
theorem big_bound {n k : Nat} (_hn : n ≤ 24) (_hk : k ≤ 64) : ((n + 1) * (27487790694400000 * k + 1)) ^ (n + 1) ≤ BB 52 := by
 have e1 : (n + 1) * (27487790694400000 * k + 1) ≤ 25 * (27487790694400000 * 64 + 1) := Nat.mul_le_mul (by omega) (by omega)
 refine Nat.le_trans (Nat.pow_le_pow_left e1 _) (Nat.le_trans (Nat.pow_le_pow_right (by decide) (show n + 1 ≤ 25 by omega)) ?_)
 unfold BB
 decide
theorem redG_over {S : Int} {ms : List Mt} (h : ∀ m ∈ ms, VM S m) (hl : ms.length ≤ 64) {n : Nat} (hn : n ≤ 24) (j : Nat) (hj : j ≤ n) : ∃ P : Nat, 0 < P ∧ P ≤ BB 52 ∧ ∀ i, i < n → ∀ c, c ≤ n → OverD P (BB 52) ((redG n (tabM ms n) j).tab i c) := by
 obtain ⟨Mp, hs⟩ := Stage.run (tab_int h n) j hj
 obtain ⟨⟨z, hz, hb⟩, ht⟩ := hs.ints
 have hB := big_bound hn hl
 have hz0 : z ≠ 0 := fun e => hs.nz (by rw [hz, e]; rfl)
 refine ⟨z.natAbs, by omega, by omega, fun i hi c hc => ?_⟩
 obtain ⟨y, hy, hyb⟩ := ht i hi c hc
 exact over_of hz hz0 hy (by omega)
theorem BB_lt {a b : Nat} (_h : a < b) : BB a < BB b := by
 have : BB b = BB a * BB (b - a) := by rw [← BB_add]; congr 1; omega
 have h1 := BB_pos a
 have h2 : BB 1 ≤ BB (b - a) := BB_le (by omega)
 rw [BB_one] at h2
 have h3 : BB a * 2 ≤ BB a * BB (b - a) := Nat.mul_le_mul_left _ (by omega)
 omega
theorem fitBB {n a : Nat} (_h : n ≤ BB a) : Fit 4294967296 n (a + 1) := by
 unfold Fit
 have h1 := BB_lt (show a < a + 1 by omega)
 have h2 : (n : Int) < ((BB (a + 1) : Nat) : Int) := by omega
 have h3 : ((BB (a + 1) : Nat) : Int) = (4294967296 : Int) ^ (a + 1) := by unfold BB; rw [Int.natCast_pow]; rfl
 rw [h3] at h2
 exact h2
theorem OverD.fit {P a b : Nat} {q : Rat} (h : OverD P (BB a) q) (hP : 0 < P) (_hb : P ≤ BB b) : FitQ q (max a b + 1) := by
 obtain ⟨h1, h2⟩ := h.low hP
 have ha : BB a ≤ BB (max a b) := BB_le (by omega)
 have hb' : BB b ≤ BB (max a b) := BB_le (by omega)
 exact ⟨fitBB (by omega), fitBB (by omega)⟩
theorem redG_fit {S : Int} {ms : List Mt} (h : ∀ m ∈ ms, VM S m) (hl : ms.length ≤ 64) {n : Nat} (hn : n ≤ 24) (j : Nat) (hj : j ≤ n) (i : Nat) (hi : i < n) (c : Nat) (hc : c ≤ n) : FitQ ((redG n (tabM ms n) j).tab i c) 53 := by
 obtain ⟨P, h1, h2, h3⟩ := redG_over h hl hn j hj
 have := (h3 i hi c hc).fit h1 h2
 exact this
end Go.Proofs.Ytikhlcgnlbinfaa
