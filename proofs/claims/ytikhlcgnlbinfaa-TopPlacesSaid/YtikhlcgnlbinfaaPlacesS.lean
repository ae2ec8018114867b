/- Lemmas of the proof that follows (Places, part 19): walks of functions by contract, and plain lemmas. Conditions: none. -/
import Derived.Test.YtikhlcgnlbinfaaPlacesR
set_option maxRecDepth 100000
set_option maxHeartbeats 40000000
namespace Go.Proofs.Ytikhlcgnlbinfaa
open Lib (hid)
open Go.RowKit
theorem iG : ∀ (ys : List Sy) (s : Sy), eY (ys ++ [s]) = eY ys ++ [.int .i64 s.sc, .int .i64 s.na, .int .i64 s.er]
 | [], _ => rfl
 | y :: ys, s => by
  show _ :: _ :: _ :: eY (ys ++ [s]) = _;rw [iG ys s]; rfl
theorem oD (gt ct mm jj kk : Nat) (xs ys : Int) (bb : Bool) (w : World) (hx0 : w.cell? ⟨gt, jj * 3, none⟩ = some (.int .i64 xs)) (hy0 : w.cell? ⟨gt, kk * 3, none⟩ = some (.int .i64 ys)) (_hw : IntKind.i64.wrap ((jj : Int) - 1) = (kk : Int)) (_hA2 : (jj : Int) < (mm : Int)) (_hB2 : (kk : Int) < (mm : Int)) (q1 : decide (0 < jj) = true) (_q2 : decide ((0 : Int) < (jj : Int)) = true) (_hbb : decide (xs < ys) = bb) : aS Try.prog Try.f23 13 16 51 w [35, 36, 37, 38, 39, 40, 41, 42, 43, 44, 45, 46, 47, 48, 49, 50] [.c (.int .i64 (jj : Int)), .c (.bool true), .c (.bool true), .c (.slice (some ⟨gt, 0, none⟩) mm ct), .c (.int .i64 (jj : Int)), .c (.pointer (some ⟨gt, jj * 3, none⟩)), .c (.pointer (some ⟨gt, jj * 3, none⟩)), .c (.int .i64 (xs)), .c (.slice (some ⟨gt, 0, none⟩) mm ct), .c (.int .i64 (jj : Int)), .c (.int .i64 (kk : Int)), .c (.pointer (some ⟨gt, kk * 3, none⟩)), .c (.pointer (some ⟨gt, kk * 3, none⟩)), .c (.int .i64 (ys)), .c (.bool bb), .c (.bool bb)] [(4, .slice (some ⟨gt, 0, none⟩) mm ct), (8, .int .i64 (jj : Int))] := by
 refine aT [[], [0], [1], [2], [2], [2, 3, 4], [2, 5], [2, 6], [2], [2], [2, 9], [2, 8, 10], [2, 11], [2, 12], [2, 7, 13], [2, 14]] (by kernel_rfl) (by kernel_rfl) rfl trivial ?_;simp only [ae, Try.f23, ab, Option.bind_some, Nat.reduceBEq, if_true, if_false, Bool.false_eq_true, Option.getD_some];simp only [List.take_succ_cons, List.take_zero]
 repeat' first | refine ⟨?_, ?_⟩ | fail
 all_goals first | (intro us W b hJ K hK0 hK Qz; simp only [aO, ay, aB, List.getD_cons_succ, List.getD_cons_zero]) | exact True.intro
 all_goals try (intros; have q0 := Ext.cell hJ hx0; have q1 := Ext.cell hJ hy0; go_simp; exact hK0 _ rfl)
theorem mL (gt ct mm : Nat) (w : World)  : aS Try.prog Try.f23 13 16 51 w [35, 36, 37, 38, 39, 40, 41, 42, 43, 44, 45, 46, 47, 48, 49, 50] [.c (.int .i64 (0)), .c (.bool false), .c (.bool false), .c (undef), .c (undef), .c (undef), .c (undef), .c (undef), .c (undef), .c (undef), .c (undef), .c (undef), .c (undef), .c (undef), .c (undef), .c (.bool false)] [(4, .slice (some ⟨gt, 0, none⟩) mm ct), (8, .int .i64 (0))] := by
 refine aT [[], [0], [1], [2], [2], [2, 3, 4], [2, 5], [2, 6], [2], [2], [2, 9], [2, 8, 10], [2, 11], [2, 12], [2, 7, 13], [2, 14]] (by kernel_rfl) (by kernel_rfl) rfl trivial ?_;simp only [ae, Try.f23, ab, Option.bind_some, Nat.reduceBEq, if_true, if_false, Bool.false_eq_true, Option.getD_some];simp only [List.take_succ_cons, List.take_zero]
 repeat' first | refine ⟨?_, ?_⟩ | fail
 all_goals first | (intro us W b hJ K hK0 hK Qz; simp only [aO, ay, aB, List.getD_cons_succ, List.getD_cons_zero]) | exact True.intro
 all_goals try (intros; go_simp; exact hK0 _ rfl)
theorem oE (gt ct mm jj kk : Nat) (tt : TypeId) (cur : Array Value) (x y : Sy) (w : World) (hB : Blk w gt tt cur) (hx0 : cur[jj * 3]? = some (.int .i64 x.sc)) (hx1 : cur[jj * 3 + 1]? = some (.int .i64 x.na)) (hx2 : cur[jj * 3 + 2]? = some (.int .i64 x.er)) (hy0 : cur[kk * 3]? = some (.int .i64 y.sc)) (hy1 : cur[kk * 3 + 1]? = some (.int .i64 y.na)) (hy2 : cur[kk * 3 + 2]? = some (.int .i64 y.er)) (_hjk : kk < jj) (_hw : IntKind.i64.wrap ((jj : Int) - 1) = (kk : Int)) (_hA1 : jj < mm) (hB1 : kk < mm) (_hA2 : (jj : Int) < (mm : Int)) (hB2 : (kk : Int) < (mm : Int)) (a : Act) (Q : Exit -> Act -> World -> Prop) (hsize : 69 <= a.tmps.size)
  (s4 : a.tmps[4]? = some (.slice (some ⟨gt, 0, none⟩) mm ct))
  (s8 : a.tmps[8]? = some (.int .i64 (jj : Int)))
  (hend : ∀ (xv0 xv1 xv2 xv3 xv4 xv5 xv6 xv7 xv8 xv9 xv10 xv11 xv12 xv13 xv14 xv15 xv16 xv17 : Value) (W : World), (xv0 = .slice (some ⟨gt, 0, none⟩) mm ct) -> (xv1 = .int .i64 (jj : Int)) -> (xv2 = .slice (some ⟨gt, 0, none⟩) mm ct) -> (xv3 = .int .i64 (jj : Int)) -> (xv4 = .int .i64 (kk : Int)) -> (xv5 = .slice (some ⟨gt, 0, none⟩) mm ct) -> (xv6 = .int .i64 (jj : Int)) -> (xv7 = .int .i64 (kk : Int)) -> (xv8 = .pointer (some ⟨gt, kk * 3, none⟩)) -> (xv9 = .agg #[.int .i64 (y.sc), .int .i64 (y.na), .int .i64 (y.er)]) -> (xv10 = .slice (some ⟨gt, 0, none⟩) mm ct) -> (xv11 = .int .i64 (jj : Int)) -> (xv12 = .pointer (some ⟨gt, jj * 3, none⟩)) -> (xv13 = .agg #[.int .i64 (x.sc), .int .i64 (x.na), .int .i64 (x.er)]) -> (xv14 = .pointer (some ⟨gt, jj * 3, none⟩)) -> (True) -> (xv16 = .pointer (some ⟨gt, kk * 3, none⟩)) -> (True) -> W = (((((((w.setCell ⟨gt, jj * 3, none⟩ (.int .i64 y.sc)).setCell ⟨gt, jj * 3 + 1, none⟩ (.int .i64 y.na)).setCell ⟨gt, jj * 3 + 2, none⟩ (.int .i64 y.er)).setCell ⟨gt, kk * 3, none⟩ (.int .i64 x.sc)).setCell ⟨gt, kk * 3 + 1, none⟩ (.int .i64 x.na)).setCell ⟨gt, kk * 3 + 2, none⟩ (.int .i64 x.er))).drew -> wpList Try.prog (ae Try.f23 15).toArray Q ((ae Try.f23 15).drop 18) ((((((((((((((((((a.put (some 53) xv0).put (some 54) xv1).put (some 55) xv2).put (some 56) xv3).put (some 57) xv4).put (some 58) xv5).put (some 59) xv6).put (some 60) xv7).put (some 61) xv8).put (some 62) xv9).put (some 63) xv10).put (some 64) xv11).put (some 65) xv12).put (some 66) xv13).put (some 67) xv14).put (none) xv15).put (some 68) xv16).put (none) xv17) W) :
  (Code.region 15 (ae Try.f23 15).toArray true).wp Try.prog Q a w := by
 have hsz : ∀ d, some d ∈ ([some 53, some 54, some 55, some 56, some 57, some 58, some 59, some 60, some 61, some 62, some 63, some 64, some 65, some 66, some 67, none, some 68, none] : List (Option Tmp)) -> d < a.tmps.size := aI (by decide) hsize
 refine aJ 18 [some 53, some 54, some 55, some 56, some 57, some 58, some 59, some 60, some 61, some 62, some 63, some 64, some 65, some 66, some 67, none, some 68, none] [[], [], [], [], [3], [], [], [6], [5, 7], [8], [], [], [10, 11], [12], [0, 1], [9, 14], [2, 4], [13, 15, 16]] [[], [], [], [], [], [], [], [], [], [15, 17], [], [], [], [15, 17], [], [17], [], []] (fun i v _ => match i with
  | 0 => v = .slice (some ⟨gt, 0, none⟩) mm ct
  | 1 => v = .int .i64 (jj : Int)
  | 2 => v = .slice (some ⟨gt, 0, none⟩) mm ct
  | 3 => v = .int .i64 (jj : Int)
  | 4 => v = .int .i64 (kk : Int)
  | 5 => v = .slice (some ⟨gt, 0, none⟩) mm ct
  | 6 => v = .int .i64 (jj : Int)
  | 7 => v = .int .i64 (kk : Int)
  | 8 => v = .pointer (some ⟨gt, kk * 3, none⟩)
  | 9 => v = .agg #[.int .i64 (y.sc), .int .i64 (y.na), .int .i64 (y.er)]
  | 10 => v = .slice (some ⟨gt, 0, none⟩) mm ct
  | 11 => v = .int .i64 (jj : Int)
  | 12 => v = .pointer (some ⟨gt, jj * 3, none⟩)
  | 13 => v = .agg #[.int .i64 (x.sc), .int .i64 (x.na), .int .i64 (x.er)]
  | 14 => v = .pointer (some ⟨gt, jj * 3, none⟩)
  | 15 => True
  | 16 => v = .pointer (some ⟨gt, kk * 3, none⟩)
  | 17 => True
  | _ => True) (fun done W => (¬ done 15 -> ¬ done 17 -> W = w.drew) /\ (done 15 -> ¬ done 17 -> W = ((((w.setCell ⟨gt, jj * 3, none⟩ (.int .i64 y.sc)).setCell ⟨gt, jj * 3 + 1, none⟩ (.int .i64 y.na)).setCell ⟨gt, jj * 3 + 2, none⟩ (.int .i64 y.er))).drew) /\ (done 17 -> W = (((((((w.setCell ⟨gt, jj * 3, none⟩ (.int .i64 y.sc)).setCell ⟨gt, jj * 3 + 1, none⟩ (.int .i64 y.na)).setCell ⟨gt, jj * 3 + 2, none⟩ (.int .i64 y.er)).setCell ⟨gt, kk * 3, none⟩ (.int .i64 x.sc)).setCell ⟨gt, kk * 3 + 1, none⟩ (.int .i64 x.na)).setCell ⟨gt, kk * 3 + 2, none⟩ (.int .i64 x.er))).drew)) (by kernel_rfl) (by kernel_rfl) hsz (fun p q W h hj => by have e : p = q := funext fun k => propext (h k); subst e; exact hj) ⟨fun _ _ => rfl, fun h => h.elim, fun h => h.elim⟩ ?_ ?_
 .
  clear hend;simp only [ae, Try.f23, ab, Option.bind_some, Nat.reduceBEq, if_true, if_false, Bool.false_eq_true, Option.getD_some];simp only [List.take_succ_cons, List.take_zero];refine ⟨?_, ?_, ?_, ?_, ?_, ?_, ?_, ?_, ?_, ?_, ?_, ?_, ?_, ?_, ?_, ?_, ?_, ?_, trivial⟩
  .
   intro done us W hJ hdep haft hnot b hb hb' K hK Q';have e4 := (hb' 4 (by simp)).trans s4;clear hb hb';go_simp;exact hK _ _ rfl (fun _ _ _ h => h) (by simpa using hJ)
  .
   intro done us W hJ hdep haft hnot b hb hb' K hK Q';have e8 := (hb' 8 (by simp)).trans s8;clear hb hb';go_simp;exact hK _ _ rfl (fun _ _ _ h => h) (by simpa using hJ)
  .
   intro done us W hJ hdep haft hnot b hb hb' K hK Q';have e4 := (hb' 4 (by simp)).trans s4;clear hb hb';go_simp;exact hK _ _ rfl (fun _ _ _ h => h) (by simpa using hJ)
  .
   intro done us W hJ hdep haft hnot b hb hb' K hK Q';have e8 := (hb' 8 (by simp)).trans s8;clear hb hb';go_simp;exact hK _ _ rfl (fun _ _ _ h => h) (by simpa using hJ)
  .
   intro done us W hJ hdep haft hnot b hb hb' K hK Q';simp only [List.getD_cons_succ, List.getD_cons_zero, List.mem_cons, List.not_mem_nil, or_false, forall_eq] at hdep;have e56 := hb 3 56 rfl;have d3 := hdep;rw [d3.1] at e56;clear hb hb' hdep d3;go_simp;exact hK _ _ rfl (fun _ _ _ h => h) (by simpa using hJ)
  .
   intro done us W hJ hdep haft hnot b hb hb' K hK Q';have e4 := (hb' 4 (by simp)).trans s4;clear hb hb';go_simp;exact hK _ _ rfl (fun _ _ _ h => h) (by simpa using hJ)
  .
   intro done us W hJ hdep haft hnot b hb hb' K hK Q';have e8 := (hb' 8 (by simp)).trans s8;clear hb hb';go_simp;exact hK _ _ rfl (fun _ _ _ h => h) (by simpa using hJ)
  .
   intro done us W hJ hdep haft hnot b hb hb' K hK Q';simp only [List.getD_cons_succ, List.getD_cons_zero, List.mem_cons, List.not_mem_nil, or_false, forall_eq] at hdep;have e59 := hb 6 59 rfl;have d6 := hdep;rw [d6.1] at e59;clear hb hb' hdep d6;go_simp;exact hK _ _ rfl (fun _ _ _ h => h) (by simpa using hJ)
  .
   intro done us W hJ hdep haft hnot b hb hb' K hK Q';simp only [List.getD_cons_succ, List.getD_cons_zero, List.mem_cons, List.not_mem_nil, or_false, forall_eq_or_imp, forall_eq] at hdep;have e58 := hb 5 58 rfl;have e60 := hb 7 60 rfl;have d5 := hdep.1;have d7 := hdep.2;rw [d5.1] at e58;rw [d7.1] at e60;clear hb hb' hdep d5 d7;go_simp;exact hK _ _ rfl (fun _ _ _ h => h) (by simpa using hJ)
  .
   intro done us W hJ hdep haft hnot b hb hb' K hK Q';simp only [List.getD_cons_succ, List.getD_cons_zero, List.mem_cons, List.not_mem_nil, or_false, forall_eq] at hdep;simp only [List.getD_cons_succ, List.getD_cons_zero, List.mem_cons, List.not_mem_nil, or_false, forall_eq_or_imp, forall_eq] at haft;have e61 := hb 8 61 rfl;have d8 := hdep;rw [d8.1] at e61;clear hb hb' hdep d8;obtain rfl := hJ.1 haft.1 haft.2;have q0 := (hB.drew.cell (kk * 3)).trans hy0;have q1 := (hB.drew.cell (kk * 3 + 1)).trans hy1;have q2 := (hB.drew.cell (kk * 3 + 2)).trans hy2;go_simp;exact hK _ _ rfl (fun _ _ _ h => h) (by simpa using hJ)
  .
   intro done us W hJ hdep haft hnot b hb hb' K hK Q';have e4 := (hb' 4 (by simp)).trans s4;clear hb hb';go_simp;exact hK _ _ rfl (fun _ _ _ h => h) (by simpa using hJ)
  .
   intro done us W hJ hdep haft hnot b hb hb' K hK Q';have e8 := (hb' 8 (by simp)).trans s8;clear hb hb';go_simp;exact hK _ _ rfl (fun _ _ _ h => h) (by simpa using hJ)
  .
   intro done us W hJ hdep haft hnot b hb hb' K hK Q';simp only [List.getD_cons_succ, List.getD_cons_zero, List.mem_cons, List.not_mem_nil, or_false, forall_eq_or_imp, forall_eq] at hdep;have e63 := hb 10 63 rfl;have e64 := hb 11 64 rfl;have d10 := hdep.1;have d11 := hdep.2;rw [d10.1] at e63;rw [d11.1] at e64;clear hb hb' hdep d10 d11;go_simp;exact hK _ _ rfl (fun _ _ _ h => h) (by simpa using hJ)
  .
   intro done us W hJ hdep haft hnot b hb hb' K hK Q';simp only [List.getD_cons_succ, List.getD_cons_zero, List.mem_cons, List.not_mem_nil, or_false, forall_eq] at hdep;simp only [List.getD_cons_succ, List.getD_cons_zero, List.mem_cons, List.not_mem_nil, or_false, forall_eq_or_imp, forall_eq] at haft;have e65 := hb 12 65 rfl;have d12 := hdep;rw [d12.1] at e65;clear hb hb' hdep d12;obtain rfl := hJ.1 haft.1 haft.2;have q0 := (hB.drew.cell (jj * 3)).trans hx0;have q1 := (hB.drew.cell (jj * 3 + 1)).trans hx1;have q2 := (hB.drew.cell (jj * 3 + 2)).trans hx2;go_simp;exact hK _ _ rfl (fun _ _ _ h => h) (by simpa using hJ)
  .
   intro done us W hJ hdep haft hnot b hb hb' K hK Q';simp only [List.getD_cons_succ, List.getD_cons_zero, List.mem_cons, List.not_mem_nil, or_false, forall_eq_or_imp, forall_eq] at hdep;have e53 := hb 0 53 rfl;have e54 := hb 1 54 rfl;have d0 := hdep.1;have d1 := hdep.2;rw [d0.1] at e53;rw [d1.1] at e54;clear hb hb' hdep d0 d1;go_simp;exact hK _ _ rfl (fun _ _ _ h => h) (by simpa using hJ)
  .
   intro done us W hJ hdep haft hnot b hb hb' K hK Q';simp only [List.getD_cons_succ, List.getD_cons_zero, List.mem_cons, List.not_mem_nil, or_false, forall_eq_or_imp, forall_eq] at hdep;simp only [List.getD_cons_succ, List.getD_cons_zero, List.mem_cons, List.not_mem_nil, or_false, forall_eq_or_imp, forall_eq] at haft;have e62 := hb 9 62 rfl;have e67 := hb 14 67 rfl;have d9 := hdep.1;have d14 := hdep.2;rw [d9.1] at e62;rw [d14.1] at e67;clear hb hb' hdep d9 d14;obtain rfl := hJ.1 hnot haft;have q0 := (hB.drew.cell (jj * 3)).trans hx0;have f0 := hB.drew.free (jj * 3);have r0 := (hB.cell (jj * 3)).trans hx0;have g0 := hB.free (jj * 3);have q1 := (hB.drew.cell (jj * 3 + 1)).trans hx1;have f1 := hB.drew.free (jj * 3 + 1);have r1 := (hB.cell (jj * 3 + 1)).trans hx1;have g1 := hB.free (jj * 3 + 1);have q2 := (hB.drew.cell (jj * 3 + 2)).trans hx2;have f2 := hB.drew.free (jj * 3 + 2);have r2 := (hB.cell (jj * 3 + 2)).trans hx2;have g2 := hB.free (jj * 3 + 2);have hfin := hK undef _ trivial (fun _ _ _ h => h) ⟨fun h => absurd (.inr rfl) h, fun _ _ => rfl, fun h => absurd (h.resolve_right (by decide)) haft⟩;clear hK hJ;go_simp;exact hfin
  .
   intro done us W hJ hdep haft hnot b hb hb' K hK Q';simp only [List.getD_cons_succ, List.getD_cons_zero, List.mem_cons, List.not_mem_nil, or_false, forall_eq_or_imp, forall_eq] at hdep;have e55 := hb 2 55 rfl;have e57 := hb 4 57 rfl;have d2 := hdep.1;have d4 := hdep.2;rw [d2.1] at e55;rw [d4.1] at e57;clear hb hb' hdep d2 d4;go_simp;exact hK _ _ rfl (fun _ _ _ h => h) (by simpa using hJ)
  .
   intro done us W hJ hdep haft hnot b hb hb' K hK Q';simp only [List.getD_cons_succ, List.getD_cons_zero, List.mem_cons, List.not_mem_nil, or_false, forall_eq_or_imp, forall_eq] at hdep;have e66 := hb 13 66 rfl;have e68 := hb 16 68 rfl;have d13 := hdep.1;have d15 := hdep.2.1;have d16 := hdep.2.2;rw [d13.1] at e66;rw [d16.1] at e68;clear hb hb' hdep d13 d16;obtain rfl := hJ.2.1 d15.2 hnot;have hB2 := ((hB.set (jj * 3) (.int .i64 y.sc)).set (jj * 3 + 1) (.int .i64 y.na)).set (jj * 3 + 2) (.int .i64 y.er);have hB1 := ((hB.drew.set (jj * 3) (.int .i64 y.sc)).set (jj * 3 + 1) (.int .i64 y.na)).set (jj * 3 + 2) (.int .i64 y.er);have q0 := (hB1.cell (kk * 3)).trans ((al (by omega)).trans hy0);have f0 := hB1.free (kk * 3);have r0 := (hB2.cell (kk * 3)).trans ((al (by omega)).trans hy0);have g0 := hB2.free (kk * 3);have q1 := (hB1.cell (kk * 3 + 1)).trans ((al (by omega)).trans hy1);have f1 := hB1.free (kk * 3 + 1);have r1 := (hB2.cell (kk * 3 + 1)).trans ((al (by omega)).trans hy1);have g1 := hB2.free (kk * 3 + 1);have q2 := (hB1.cell (kk * 3 + 2)).trans ((al (by omega)).trans hy2);have f2 := hB1.free (kk * 3 + 2);have r2 := (hB2.cell (kk * 3 + 2)).trans ((al (by omega)).trans hy2);have g2 := hB2.free (kk * 3 + 2);have hfin := hK undef _ trivial (fun _ _ _ h => h) ⟨fun _ h => absurd (.inr rfl) h, fun _ h => absurd (.inr rfl) h, fun _ => rfl⟩;clear hK hJ hB1 hB2;go_simp;exact hfin
 .
  intro us W hV hJ;exact hend (us 0) (us 1) (us 2) (us 3) (us 4) (us 5) (us 6) (us 7) (us 8) (us 9) (us 10) (us 11) (us 12) (us 13) (us 14) (us 15) (us 16) (us 17) W (hV 0 (by omega)) (hV 1 (by omega)) (hV 2 (by omega)) (hV 3 (by omega)) (hV 4 (by omega)) (hV 5 (by omega)) (hV 6 (by omega)) (hV 7 (by omega)) (hV 8 (by omega)) (hV 9 (by omega)) (hV 10 (by omega)) (hV 11 (by omega)) (hV 12 (by omega)) (hV 13 (by omega)) (hV 14 (by omega)) (hV 15 (by omega)) (hV 16 (by omega)) (hV 17 (by omega)) (hJ.2.2 (show 17 < 18 by decide))
theorem oF (gs : Nat) (sc na er n1 sl sh : Int) (w : World) (_h1 : IntKind.i64.wrap (na - sc) = n1) (_h2 : IntKind.i64.wrap (n1 - er) = sl) (_h3 : IntKind.i64.wrap (n1 + er) = sh) (c0 : w.cell? ⟨gs, 0, none⟩ = some (.int .i64 sc)) (c1 : w.cell? ⟨gs, 1, none⟩ = some (.int .i64 na)) (c2 : w.cell? ⟨gs, 2, none⟩ = some (.int .i64 er)) : aS Try.prog Try.f23 21 18 92 w [76, 77, 78, 79, 80, 81, 82, 83, 84, 85, 86, 87, 88, 89, 90, 91, 12, 13] [.c (.pointer (some ⟨gs, 1, none⟩)), .c (.int .i64 (na)), .c (.pointer (some ⟨gs, 0, none⟩)), .c (.int .i64 (sc)), .c (.int .i64 (n1)), .c (.pointer (some ⟨gs, 2, none⟩)), .c (.int .i64 (er)), .c (.int .i64 (sl)), .c (.pointer (some ⟨gs, 1, none⟩)), .c (.int .i64 (na)), .c (.pointer (some ⟨gs, 0, none⟩)), .c (.int .i64 (sc)), .c (.int .i64 (n1)), .c (.pointer (some ⟨gs, 2, none⟩)), .c (.int .i64 (er)), .c (.int .i64 (sh)), .c (.int .i64 (sl)), .c (.int .i64 (sh))] [(11, .pointer (some ⟨gs, 0, none⟩))] := by
 refine aT [[], [0], [], [2], [1, 3], [], [5], [4, 6], [], [8], [], [10], [9, 11], [], [13], [12, 14], [7], [15]] (by kernel_rfl) (by kernel_rfl) rfl trivial ?_;simp only [ae, Try.f23, ab, Option.bind_some, Nat.reduceBEq, if_true, if_false, Bool.false_eq_true, Option.getD_some];simp only [List.take_succ_cons, List.take_zero]
 repeat' first | refine ⟨?_, ?_⟩ | fail
 all_goals first | (intro us W b hJ K hK0 hK Qz; simp only [aO, ay, aB, List.getD_cons_succ, List.getD_cons_zero]) | exact True.intro
 all_goals try (intros; have q0 := Ext.cell hJ c1; have q1 := Ext.cell hJ c0; have q2 := Ext.cell hJ c2; go_simp; exact hK0 _ rfl)
theorem mM (sl sh : Int) (w : World)  : aS Try.prog Try.f23 23 23 117 w [94, 95, 96, 97, 98, 99, 100, 101, 102, 103, 104, 105, 106, 107, 108, 109, 110, 111, 112, 113, 114, 115, 116] [.c (.int .i64 (0)), .c (.bool false), .c (.bool false), .c (undef), .c (undef), .c (undef), .c (undef), .c (undef), .c (undef), .c (undef), .c (undef), .c (undef), .c (undef), .c (undef), .c (undef), .c (undef), .c (undef), .c (undef), .c (undef), .c (undef), .c (undef), .c (undef), .c (.bool false)] [(9, .slice none 0 0), (12, .int .i64 (sl)), (13, .int .i64 (sh)), (14, .int .i64 (0))] := by
 refine aT [[], [0], [1], [2], [2], [2], [2, 5], [2, 4, 6], [2, 7], [2, 8], [2, 9], [2, 3, 10], [2], [2], [2], [2, 14], [2, 13, 15], [2, 16], [2, 17], [2, 18], [2, 12, 19], [2, 11, 20], [2, 21]] (by kernel_rfl) (by kernel_rfl) rfl trivial ?_;simp only [ae, Try.f23, ab, Option.bind_some, Nat.reduceBEq, if_true, if_false, Bool.false_eq_true, Option.getD_some];simp only [List.take_succ_cons, List.take_zero]
 repeat' first | refine ⟨?_, ?_⟩ | fail
 all_goals first | (intro us W b hJ K hK0 hK Qz; simp only [aO, ay, aB, List.getD_cons_succ, List.getD_cons_zero]) | exact True.intro
 all_goals try (intros; go_simp; exact hK0 _ rfl)
theorem oG (gq cq : Nat) (sl sh lo hi mx mn : Int) (w : World) (_hmx : (if sl < lo then lo else sl) = mx) (_hmn : (if hi < sh then hi else sh) = mn) (_hle : decide (mx <= mn) = true) (c1 : w.cell? ⟨gq, 1, none⟩ = some (.int .i64 lo)) (c2 : w.cell? ⟨gq, 2, none⟩ = some (.int .i64 hi)) : aS Try.prog Try.f23 23 23 117 w [94, 95, 96, 97, 98, 99, 100, 101, 102, 103, 104, 105, 106, 107, 108, 109, 110, 111, 112, 113, 114, 115, 116] [.c (.int .i64 (1)), .c (.bool true), .c (.bool true), .c (.int .i64 (sl)), .c (.slice (some ⟨gq, 0, none⟩) 1 cq), .c (.int .i64 (1)), .c (.int .i64 (0)), .c (.pointer (some ⟨gq, 0, none⟩)), .c (.pointer (some ⟨gq, 1, none⟩)), .c (.pointer (some ⟨gq, 1, none⟩)), .c (.int .i64 (lo)), .c (.int .i64 (mx)), .c (.int .i64 (sh)), .c (.slice (some ⟨gq, 0, none⟩) 1 cq), .c (.int .i64 (1)), .c (.int .i64 (0)), .c (.pointer (some ⟨gq, 0, none⟩)), .c (.pointer (some ⟨gq, 1, none⟩)), .c (.pointer (some ⟨gq, 2, none⟩)), .c (.int .i64 (hi)), .c (.int .i64 (mn)), .c (.bool true), .c (.bool true)] [(9, .slice (some ⟨gq, 0, none⟩) 1 cq), (12, .int .i64 (sl)), (13, .int .i64 (sh)), (14, .int .i64 (1))] := by
 have hm1 : max sl lo = mx := by rw [<- _hmx]; split <;> omega
 have hm2 : min sh hi = mn := by rw [<- _hmn]; split <;> omega
 refine aT [[], [0], [1], [2], [2], [2], [2, 5], [2, 4, 6], [2, 7], [2, 8], [2, 9], [2, 3, 10], [2], [2], [2], [2, 14], [2, 13, 15], [2, 16], [2, 17], [2, 18], [2, 12, 19], [2, 11, 20], [2, 21]] (by kernel_rfl) (by kernel_rfl) rfl trivial ?_;simp only [ae, Try.f23, ab, Option.bind_some, Nat.reduceBEq, if_true, if_false, Bool.false_eq_true, Option.getD_some];simp only [List.take_succ_cons, List.take_zero]
 repeat' first | refine ⟨?_, ?_⟩ | fail
 all_goals first | (intro us W b hJ K hK0 hK Qz; simp only [aO, ay, aB, List.getD_cons_succ, List.getD_cons_zero]) | exact True.intro
 all_goals try (intros; have q0 := Ext.cell hJ c1; have q1 := Ext.cell hJ c2; go_simp; exact hK0 _ rfl)
theorem oH (gq cq : Nat) (sl sh lo hi mx mn : Int) (w : World) (_hmx : (if sl < lo then lo else sl) = mx) (_hmn : (if hi < sh then hi else sh) = mn) (_hle : decide (mx <= mn) = true) (c1 : w.cell? ⟨gq, 1, none⟩ = some (.int .i64 lo)) (c2 : w.cell? ⟨gq, 2, none⟩ = some (.int .i64 hi)) : aS Try.prog Try.f23 24 24 141 w [117, 118, 119, 120, 121, 122, 123, 124, 125, 126, 127, 128, 129, 130, 131, 132, 133, 134, 135, 136, 137, 138, 139, 140] [.c (.slice (some ⟨gq, 0, none⟩) 1 cq), .c (.int .i64 (1)), .c (.int .i64 (0)), .c (.int .i64 (sl)), .c (.slice (some ⟨gq, 0, none⟩) 1 cq), .c (.int .i64 (1)), .c (.int .i64 (0)), .c (.pointer (some ⟨gq, 0, none⟩)), .c (.pointer (some ⟨gq, 1, none⟩)), .c (.pointer (some ⟨gq, 1, none⟩)), .c (.int .i64 (lo)), .c (.int .i64 (mx)), .c (.int .i64 (sh)), .c (.slice (some ⟨gq, 0, none⟩) 1 cq), .c (.int .i64 (1)), .c (.int .i64 (0)), .c (.pointer (some ⟨gq, 0, none⟩)), .c (.pointer (some ⟨gq, 1, none⟩)), .c (.pointer (some ⟨gq, 2, none⟩)), .c (.int .i64 (hi)), .c (.int .i64 (mn)), .c (.agg #[.int .i64 mx, .int .i64 mn]), .c (.pointer (some ⟨gq, 0, none⟩)), .c (.pointer (some ⟨gq, 1, none⟩))] [(9, .slice (some ⟨gq, 0, none⟩) 1 cq), (12, .int .i64 (sl)), (13, .int .i64 (sh)), (14, .int .i64 (1))] := by
 have hm1 : max sl lo = mx := by rw [<- _hmx]; split <;> omega
 have hm2 : min sh hi = mn := by rw [<- _hmn]; split <;> omega
 refine aT [[], [], [1], [], [], [], [5], [4, 6], [7], [8], [9], [3, 10], [], [], [], [14], [13, 15], [16], [17], [18], [12, 19], [11, 20], [0, 2], [22]] (by kernel_rfl) (by kernel_rfl) rfl trivial ?_;simp only [ae, Try.f23, ab, Option.bind_some, Nat.reduceBEq, if_true, if_false, Bool.false_eq_true, Option.getD_some];simp only [List.take_succ_cons, List.take_zero]
 repeat' first | refine ⟨?_, ?_⟩ | fail
 all_goals first | (intro us W b hJ K hK0 hK Qz; simp only [aO, ay, aB, List.getD_cons_succ, List.getD_cons_zero]) | exact True.intro
 all_goals try (intros; have q0 := Ext.cell hJ c1; have q1 := Ext.cell hJ c2; go_simp; exact hK0 _ rfl)
theorem dY (g o n c : Nat) (off : Int) (xs : List Sy) (w : World) (hA : At w (some ⟨g, o, none⟩) (eY xs)) (hl : xs.length = n) (h1 : 1 <= n) (_hn : n <= 20) (hv : ∀ s ∈ xs, s.Ok off) :
  Calls Try.prog 23 #[.slice (some ⟨g, o, none⟩) n c] w (lZ xs w) := by
 have HA := hid hA;have HV := hid hv;have HL := hid hl;have HX := hid (Ext.refl w);clear hA hv hl;go_enter Try.func23, Try.ntmps23
 go_wp2_with fail
 go_loopg [17, 4] n (fun fu iv lv wr => ∃ (k : Nat) (Al : Option Addr) (cl : Nat), fu = n - k /\ k <= n /\ iv = .int .i64 (k : Int) /\ lv = .slice Al k cl /\ Hid (wr.ownsRow w.heap.size 170 3 (.slice Al k cl) k (eY (xs.take k))) /\ Hid (Ext w wr))
 case atStart => exact ⟨0, none, 0, rfl, by omega, rfl, rfl, hid ⟨rfl, .inl ⟨rfl, rfl⟩⟩, HX⟩
 case round =>
  clear HX;obtain ⟨k, Al, cl, rfl, hk, rfl, rfl, HO, HX⟩ := hrel
  by_cases hlt : k < n
  .
   have q1 := xD (k < n) hlt;have q1b := xD ((k : Int) < (n : Int)) (by omega);obtain ⟨s, hs⟩ : ∃ s, xs[k]? = some s := ⟨_, List.getElem?_eq_getElem (by rw [HL.out]; exact hlt)⟩;have HS := hid (HV.out s (List.mem_of_getElem? hs));have HT := hid (cf hs);obtain ⟨x0, x1, x2⟩ := (HA.out.ext HX.out).sy hs;clear hs
   go_upto_region 5 with (fail)
   obtain ⟨hXa, KS⟩ := xB1 wr 170 #[.int .i64 s.sc, .int .i64 s.na, .int .i64 s.er];replace HX := xT HX hXa;replace HO := hid (World.ownsRow.ext' HO.out hXa);clear hXa x0 x1 x2;generalize wr.heap.size = gm at KS |-;generalize wr.alloc _ = w2 at KS HX HO |-;obtain ⟨b0, b1, b2⟩ := KS.out.c3
   go_wp2_with fail
   refine (fC s.sc s.na s.er _).mono ?_;rw [HS.out.valid];rintro e w3 ⟨rfl, hX⟩;replace HX := xT HX hX;replace HO := hid (World.ownsRow.ext' HO.out hX);replace KS := xE KS hX;clear hX b0 b1 b2;obtain ⟨b0, b1, b2⟩ := KS.out.c3;clear q1 q1b
   go_wp2_with (at_builtin; refine ap _ pL rfl _ _ rfl w.heap.size (.slice Al k cl) k (eY (xs.take k)) rfl (HO.out.alloc _) _ 1 1 [.int .i64 s.sc, .int .i64 s.na, .int .i64 s.er] rfl rfl (At.newT _ _ _ rfl) (by simp [Value.oneCell']) (by omega) (by unfold maxLen; omega) (by have := HX.out.size; simp; omega) ?_; intro v8 w8 hown8 hgr8 _; have HG8 := hid hgr8; have HO8 := hid hown8; clear hgr8 hown8)
   have hX2 : Ext w w8 := Ext.push HX.out HO.out HG8.out;have hown := HO8.out;rw [<- iG, <- HT.out] at hown;clear HX HO HO8 HG8 b0 b1 b2 KS;have HX := hid hX2;clear hX2;obtain ⟨A8, c8, rfl⟩ := bi hown;have HO := hid hown;clear hown;go_wp2;go_roundg (n - (k + 1))
   case rel => exact ⟨k + 1, A8, c8, rfl, by omega, by go_num, rfl, HO, HX⟩
   case measure => omega
  .
   obtain rfl : k = n := by omega
   have q1 : decide (k < k) = false := by simp
   have q1b : decide ((k : Int) < (k : Int)) = false := by simp
   have hown := HO.out;rw [List.take_of_length_le (by rw [HL.out]; exact Nat.le_refl _)] at hown;obtain ⟨gt, ct, he, hg3, hS, hc1, hc2⟩ := SyR.of_own hown h1;injection he with he1 he2 he3;subst he1 he3;have HS := hid hS;clear hS HO hown
   go_wp2_with fail
   clear q1 q1b hlt hk
   go_loopg [31] k (fun fu iv wr => ∃ i : Nat, fu = k - i /\ i <= k /\ iv = .int .i64 (i : Int) /\ Hid (SyR wr gt k xs) /\ Hid (Ext w wr))
   case atStart => exact ⟨0, rfl, by omega, rfl, HS, HX⟩
   case round =>
    clear HX HS;obtain ⟨i, rfl, hi, rfl, HS, HX⟩ := hrel
    by_cases hlt : i < k
    .
     have q1 := xD (i < k) hlt;have q1b := xD ((i : Int) < (k : Int)) (by omega)
     go_wp2_with fail
     go_loopg [8] i (fun fu jv wq => ∃ j : Nat, j = fu /\ j <= i /\ jv = .int .i64 (j : Int) /\ Hid (SyR wq gt k xs) /\ Hid (Ext w wq))
     case atStart => exact ⟨i, rfl, by omega, rfl, HS, HX⟩
     case round =>
      clear HS HX;obtain ⟨j, rfl, hj, rfl, HS, HX⟩ := hrel;obtain ⟨wq, rfl⟩ : ∃ x : World, x = wr := ⟨_, rfl⟩
      by_cases hja : 0 < j
      .
       have q3 := xD (0 < j) hja;have q4 := xD ((0 : Int) < (j : Int)) (by omega);obtain ⟨kk, hkk⟩ : ∃ kk, j = kk + 1 := ⟨j - 1, by omega⟩;have hw : IntKind.i64.wrap ((j : Int) - 1) = (kk : Int) := by rw [show (j : Int) - 1 = (kk : Int) by omega]; exact IntWalk.i64_in _ (by omega)
       obtain ⟨cur, ys, hB, hC, hyl, hm⟩ := HS.out;obtain ⟨x, hx⟩ : ∃ x, ys[j]? = some x := ⟨_, List.getElem?_eq_getElem (by omega)⟩;obtain ⟨y, hy⟩ : ∃ y, ys[kk]? = some y := ⟨_, List.getElem?_eq_getElem (by omega)⟩;obtain ⟨x0, x1, x2⟩ := hC _ _ hx;obtain ⟨y0, y1, y2⟩ := hC _ _ hy;obtain ⟨bb, hbb⟩ : ∃ bb, decide (x.sc < y.sc) = bb := ⟨_, rfl⟩;have hjn : j < k := by omega
       have hkn : kk < k := by omega
       have HJ := hid hkk;clear hkk
       go_upto_region 13 with (fail)
       refine oD gt cl k j kk x.sc y.sc bb wq ((hB.cell _).trans x0) ((hB.cell _).trans y0) hw (by omega) (by omega) q3 q4 hbb _ _ (by simp) ⟨rfl, rfl, trivial⟩ ?_;rintro w2 hX;simp only [EndK, ae, Try.f23, ab, Option.bind_some, Nat.reduceBEq, if_true, if_false, Bool.false_eq_true, Option.getD_some, List.drop_succ_cons, List.drop_zero];simp only [Act.put, List.setIfInBounds_toArray, List.set_cons_succ, List.set_cons_zero];replace hB := hB.ext hX;replace HX := xT HX hX;clear hX HS;have HS2 : Hid (SyR w2 gt k xs) := hid ⟨cur, ys, hB, hC, hyl, hm⟩;clear hbb
       by_cases hbt : bb = true
       .
        subst hbt
        go_upto_region 15 with (fail)
        refine oE gt cl k j kk _ cur x y w2 hB x0 x1 x2 y0 y1 y2 (by have := HJ.out; omega) hw hjn hkn (by omega) (by omega) _ _ (by simp) rfl rfl ?_;rintro xv0 xv1 xv2 xv3 xv4 xv5 xv6 xv7 xv8 xv9 xv10 xv11 xv12 xv13 xv14 xv15 xv16 xv17 w3 rfl rfl rfl rfl rfl rfl rfl rfl rfl rfl rfl rfl rfl rfl rfl _ rfl _ hW;simp only [ae, Try.f23, ab, Option.bind_some, Nat.reduceBEq, if_true, if_false, Bool.false_eq_true, Option.getD_some, List.drop_succ_cons, List.drop_zero];simp only [Act.put, List.setIfInBounds_toArray, List.set_cons_succ, List.set_cons_zero];have hxx : ys[kk + 1]? = some x := by rw [<- HJ.out]; exact hx
        have hS3 : SyR w3 gt k xs := by
         rw [hW];have hB3 := (((((hB.set (j * 3) (.int .i64 y.sc)).set (j * 3 + 1) (.int .i64 y.na)).set (j * 3 + 2) (.int .i64 y.er)).set (kk * 3) (.int .i64 x.sc)).set (kk * 3 + 1) (.int .i64 x.na)).set (kk * 3 + 2) (.int .i64 x.er);refine ⟨_, oL ys kk x y, hB3.drew, ?_, by unfold oL; rw [List.length_set, List.length_set]; exact hyl, fun s => (jp hxx hy s).trans (hm s)⟩;have := hC.swap hxx hy;rw [<- HJ.out] at this;exact this
        have hK3 : Ext w w3 := by
         rw [hW];exact ((((((HX.out.setCell hg3 _).setCell hg3 _).setCell hg3 _).setCell hg3 _).setCell hg3 _).setCell hg3 _).drew
        clear hW HS2 HX;have HS := hid hS3;have HX := hid hK3;clear hS3 hK3 hC hyl hm hx hy hxx x0 x1 x2 y0 y1 y2;have hlt2 : kk < j := by have := HJ.out; omega
        go_wp2;go_roundg kk
        case rel => exact ⟨kk, rfl, by omega, rfl, HS, HX⟩
        case measure => omega
       .
        obtain rfl : bb = false := by simpa using hbt
        clear hbt hB hC hyl hm hx hy x0 x1 x2 y0 y1 y2;have HS := hid HS2.out;clear HS2;go_wp2;go_roundg (k - (i + 1))
        case rel => exact ⟨i + 1, rfl, by omega, by go_num, HS, HX⟩
        case measure => omega
      .
       obtain rfl : j = 0 := by omega
       go_upto_region 13 with (fail)
       refine mL gt cl k wq _ _ (by simp) ⟨rfl, rfl, trivial⟩ ?_;rintro w2 hX;simp only [EndK, ae, Try.f23, ab, Option.bind_some, Nat.reduceBEq, if_true, if_false, Bool.false_eq_true, Option.getD_some, List.drop_succ_cons, List.drop_zero];simp only [Act.put, List.setIfInBounds_toArray, List.set_cons_succ, List.set_cons_zero];replace HS := hid (HS.out.ext hX);replace HX := xT HX hX;clear hX;go_wp2;go_roundg (k - (i + 1))
       case rel => exact ⟨i + 1, rfl, by omega, by go_num, HS, HX⟩
       case measure => omega
    .
     obtain rfl : i = k := by omega
     have q1 : decide (i < i) = false := by simp
     have q1b : decide ((i : Int) < (i : Int)) = false := by simp
     obtain ⟨wl, rfl⟩ : ∃ x : World, x = wr := ⟨_, rfl⟩;obtain ⟨cur, ys, hB, hC, hyl, hm⟩ := HS.out;have HB := hid hB;have HC := hid hC;have HYL := hid hyl;have HM := hid hm;clear hB hC hyl hm HS
     go_wp2_with fail
     clear q1 q1b hlt hi
     go_loopg [72, 9] i (fun fu iv ov wr => ∃ j : Nat, fu = i - j /\ j <= i /\ iv = .int .i64 (j : Int) /\ Hid (CkSt ys wl j ov wr) /\ Hid (Ext wl wr))
     case atStart => exact ⟨0, rfl, by omega, rfl, hid ⟨fun _ => rfl, fun h => absurd rfl h⟩, hid (Ext.refl _)⟩
     case round =>
      obtain ⟨j, rfl, hj, rfl, HQ, HXL⟩ := hrel
      by_cases hlt : j < i
      .
       have q1 := xD (j < i) hlt;have q1b := xD ((j : Int) < (i : Int)) (by omega);obtain ⟨s, hs⟩ : ∃ s, ys[j]? = some s := ⟨_, List.getElem?_eq_getElem (by rw [HYL.out]; exact hlt)⟩;have HO := hid (HV.out s ((HM.out s).1 (List.mem_of_getElem? hs)));have HT := hid (cf hs);obtain ⟨s0, s1, s2⟩ := HC.out j s hs;have hbb := HB.out.ext HXL.out;have x0 := (hbb.cell _).trans s0;have x1 := (hbb.cell _).trans s1;have x2 := (hbb.cell _).trans s2;clear s0 s1 s2 hbb hs
       go_upto_region 21 with (fail)
       obtain ⟨hXa, KS⟩ := xB1 wr 170 #[.int .i64 s.sc, .int .i64 s.na, .int .i64 s.er];replace HXL := xT HXL hXa;replace HQ := hid (HQ.out.ext hXa);clear hXa x0 x1 x2;generalize wr.heap.size = gs at KS |-;generalize wr.alloc _ = w2 at KS HXL HQ |-;obtain ⟨n1, hn1⟩ : ∃ x, s.na - s.sc = x := ⟨_, rfl⟩;obtain ⟨sl, hsl⟩ : ∃ x, n1 - s.er = x := ⟨_, rfl⟩;obtain ⟨sh, hsh⟩ : ∃ x, n1 + s.er = x := ⟨_, rfl⟩;have o1 := HO.out.sc;have o2 := HO.out.na;have o3 := HO.out.er;have v1 : IntKind.i64.wrap (s.na - s.sc) = n1 := by rw [hn1]; exact IntWalk.i64_in _ (by omega)
       have v2 : IntKind.i64.wrap (n1 - s.er) = sl := by rw [hsl]; exact IntWalk.i64_in _ (by omega)
       have v3 : IntKind.i64.wrap (n1 + s.er) = sh := by rw [hsh]; exact IntWalk.i64_in _ (by omega)
       have HSL : Hid (s.lo = sl) := hid (by unfold Sy.lo; rw [hn1, hsl]);have HSH : Hid (s.hi = sh) := hid (by unfold Sy.hi; rw [hn1, hsh]);have hb1 : sl <= off := by rw [<- HSL.out]; exact HO.out.lo
       have hb2 : off <= sh := by rw [<- HSH.out]; exact HO.out.hi
       have hfr := HO.out.sc;clear hn1 hsl hsh o1 o2 o3;refine oF gs s.sc s.na s.er n1 sl sh w2 v1 v2 v3 (KS.out.cell 0) (KS.out.cell 1) (KS.out.cell 2) _ _ (by simp) ⟨rfl, trivial⟩ ?_;rintro w3 hX;simp only [EndK, ae, Try.f23, ab, Option.bind_some, Nat.reduceBEq, if_true, if_false, Bool.false_eq_true, Option.getD_some, List.drop_succ_cons, List.drop_zero];simp only [Act.put, List.setIfInBounds_toArray, List.set_cons_succ, List.set_cons_zero];replace HXL := xT HXL hX;replace HQ := hid (HQ.out.ext hX);replace KS := xE KS hX;clear hX v1 v2 v3
       by_cases hj0 : j = 0
       .
        obtain rfl := HQ.out.1 hj0;have HJ := hid hj0;clear hj0
        go_upto_region 23 with (fail)
        refine mM sl sh w3 _ _ (by simp) ⟨rfl, rfl, rfl, rfl, trivial⟩ ?_;rintro w4 hX;simp only [EndK, ae, Try.f23, ab, Option.bind_some, Nat.reduceBEq, if_true, if_false, Bool.false_eq_true, Option.getD_some, List.drop_succ_cons, List.drop_zero];simp only [Act.put, List.setIfInBounds_toArray, List.set_cons_succ, List.set_cons_zero];replace HXL := xT HXL hX;replace KS := xE KS hX;clear hX;have b0 := KS.out.c1
        go_wp2_with (at_builtin; refine ap _ pN rfl _ _ rfl wl.heap.size (.slice none 0 0) 0 [] rfl ⟨rfl, .inl ⟨rfl, rfl⟩⟩ _ 1 1 [.int .i64 s.sc, .int .i64 sl, .int .i64 sh] rfl rfl (At.newT _ _ _ rfl) (by simp [Value.oneCell']) (by omega) (by unfold maxLen; omega) (by have := HXL.out.size; simp; omega) ?_; intro v8 w8 hown8 hgr8 _; have HG8 := hid hgr8; have HO8 := hid hown8; clear hgr8 hown8)
        obtain ⟨gq, cq, rfl, hgq, hck, hc1, hc2⟩ := Clk.of_own HO8.out;have hX2 : Ext wl w8 := (HXL.out.alloc _).grown HG8.out (fun k hk => by simp [Value.ownBlock] at hk);clear HXL HG8 HO8 HQ KS b0;have HXL := hid hX2
        have hwin : Win (ys.take (j + 1)) sl sh := by
         rw [HT.out, HJ.out, List.take_zero, List.nil_append, <- HSL.out, <- HSH.out];exact Win.one s
        have HQ : Hid (CkSt ys wl (j + 1) (.slice (some ⟨gq, 0, none⟩) 1 cq) w8) := hid ⟨fun h => absurd h (by omega), fun _ => ⟨gq, cq, s.sc, sl, sh, rfl, hgq, hck, hfr.1, hwin, hc1, hc2⟩⟩;clear hX2 hck hwin;go_wp2;go_roundg (i - (j + 1))
        case rel => exact ⟨j + 1, rfl, by omega, by go_num, HQ, HXL⟩
        case measure => omega
       .
        obtain ⟨gq, cq, fr, lo, hi2, rfl, hgq, hck, hf0, hwin, hc1, hc2⟩ := HQ.out.2 hj0;clear HQ;have HCK := hid hck;have HW := hid hwin;have hwb := hwin.bounds (off := off) (fun s hs => HV.out s ((HM.out s).1 (List.mem_of_mem_take hs)));clear hck hwin;obtain ⟨mx, hmx⟩ : ∃ x, (if sl < lo then lo else sl) = x := ⟨_, rfl⟩;obtain ⟨mn, hmn⟩ : ∃ x, (if hi2 < sh then hi2 else sh) = x := ⟨_, rfl⟩;have em : max lo sl = mx := by rw [<- hmx]; split <;> omega
        have en : min hi2 sh = mn := by rw [<- hmn]; split <;> omega
        have q3 := xD (mx <= mn) (by omega)
        have HW2 : Hid (Win (ys.take (j + 1)) mx mn) := hid (by
         rw [HT.out, <- em, <- en, <- HSL.out, <- HSH.out];exact HW.out.step s)
        clear em en hwb hb1 hb2 KS
        go_upto_region 23 with (fail)
        refine oG gq cq sl sh lo hi2 mx mn w3 hmx hmn q3 HCK.out.cells.2.1 HCK.out.cells.2.2.1 _ _ (by simp) ⟨rfl, rfl, rfl, rfl, trivial⟩ ?_;rintro w4 hX;simp only [EndK, ae, Try.f23, ab, Option.bind_some, Nat.reduceBEq, if_true, if_false, Bool.false_eq_true, Option.getD_some, List.drop_succ_cons, List.drop_zero];simp only [Act.put, List.setIfInBounds_toArray, List.set_cons_succ, List.set_cons_zero];replace HXL := xT HXL hX;replace HCK := hid (HCK.out.ext hX);clear hX
        go_upto_region 24 with (fail)
        refine oH gq cq sl sh lo hi2 mx mn w4 hmx hmn q3 HCK.out.cells.2.1 HCK.out.cells.2.2.1 _ _ (by simp) ⟨rfl, rfl, rfl, rfl, trivial⟩ ?_;rintro w6 hX;simp only [EndK, ae, Try.f23, ab, Option.bind_some, Nat.reduceBEq, if_true, if_false, Bool.false_eq_true, Option.getD_some, List.drop_succ_cons, List.drop_zero];simp only [Act.put, List.setIfInBounds_toArray, List.set_cons_succ, List.set_cons_zero];replace HXL := xT HXL hX;replace HCK := hid (HCK.out.ext hX);clear hX hmx hmn;obtain ⟨c0, c1, c2, f1, f2⟩ := HCK.out.cells
        go_upto_region 26 with (fail)
        have hck := HCK.out.put mx mn;have hX2 : Ext wl ((w6.setCell ⟨gq, 1, none⟩ (.int .i64 mx)).setCell ⟨gq, 2, none⟩ (.int .i64 mn)) := (HXL.out.setCell hgq _).setCell hgq _;generalize (w6.setCell _ _).setCell _ _ = w7 at hck hX2 |-;clear HXL HCK c0 c1 c2 f1 f2;have HXL := hid hX2;have HQ : Hid (CkSt ys wl (j + 1) (.slice (some ⟨gq, 0, none⟩) 1 cq) w7) := hid ⟨fun h => absurd h (by omega), fun _ => ⟨gq, cq, fr, mx, mn, rfl, hgq, hck, hf0, HW2.out, hc1, hc2⟩⟩;clear hX2 hck;go_wp2;go_roundg (i - (j + 1))
        case rel => exact ⟨j + 1, rfl, by omega, by go_num, HQ, HXL⟩
        case measure => omega
      .
       obtain rfl : j = i := by omega
       have q1 : decide (j < j) = false := by simp
       have q1b : decide ((j : Int) < (j : Int)) = false := by simp
       obtain ⟨gq, cq, fr, lo, hi2, rfl, hgq, hck, hf0, hwin, hc1, hc2⟩ := HQ.out.2 (by omega);rw [List.take_of_length_le (by rw [HYL.out]; exact Nat.le_refl _)] at hwin;have HR := hid (And.intro hck (hwin.mem HM.out));clear HQ hck hwin;go_wp2
       go_ret2
       exact ⟨gq, cq, fr, lo, hi2, rfl, HR.out.1, hf0, HR.out.2, hc1, hc2, HX.out.trans HXL.out⟩
theorem pA (x : Int) : 0 <= IntKind.u64.wrap x := by simp [IntKind.wrap, IntKind.signed, IntKind.bits]; omega
theorem pB {w : World} {g : Nat} {T : TypeId} {f : Nat -> Int} (h : Blk w g T #[.int .i64 (f 0), .int .i64 (f 1), .int .i64 (f 2), .int .i64 (f 3), .int .i64 (f 4), .int .i64 (f 5)]) {k : Nat} (hk : k < 3) : w.cell? ⟨g, k * 2, none⟩ = some (.int .i64 (f (2 * k))) /\ w.cell? ⟨g, k * 2 + 1, none⟩ = some (.int .i64 (f (2 * k + 1))) := by
 match k, hk with
 | 0, _ => exact ⟨h.cell 0, h.cell 1⟩
 | 1, _ => exact ⟨h.cell 2, h.cell 3⟩
 | 2, _ => exact ⟨h.cell 4, h.cell 5⟩
theorem eX (fa fb : Fx) (rg rs ra rr o0 o1 ac of sc r0 r1 far : Int) (bq : Nat -> Int) (SA : Option Addr) (n c : Nat) (xs : List Sy) (w : World) (hS : SyAt w SA n xs) (hn : n <= 9223372036854775807) (hof : -9223372036854775808 <= of /\ of <= 9223372036854775807) (_hac : -9223372036854775808 <= ac /\ ac <= 9223372036854775807) (_ho0 : -9223372036854775808 <= o0 /\ o0 <= 9223372036854775807) (_ho1 : -9223372036854775808 <= o1 /\ o1 <= 9223372036854775807) (hr0 : -9223372036854775808 <= r0 /\ r0 <= 9223372036854775807) (hr1 : -9223372036854775808 <= r1 /\ r1 <= 9223372036854775807) (_hfar : -9223372036854775808 <= far /\ far <= 9223372036854775807) (hbq : ∀ k, k < 4 -> -9223372036854775808 <= bq k /\ bq k <= 9223372036854775807) :
  Calls Try.prog 3 #[.agg #[.int .i64 (fa.t), .int .i64 (fa.p 0), .int .i64 (fa.p 1), .int .i64 (fa.p 2), .int .i64 (fa.e), .int .i64 (fa.q 0), .int .i64 (fa.q 1), .int .i64 (fa.q 2), .int .i64 (fa.q 3), .int .i64 (fa.k), .int .i64 (fb.t), .int .i64 (fb.p 0), .int .i64 (fb.p 1), .int .i64 (fb.p 2), .int .i64 (fb.e), .int .i64 (fb.q 0), .int .i64 (fb.q 1), .int .i64 (fb.q 2), .int .i64 (fb.q 3), .int .i64 (fb.k), .int .i64 (rg), .int .i64 (rs), .int .i64 (ra), .int .i64 (rr), .int .i64 (o0), .int .i64 (o1), .int .i64 (ac), .slice SA n c, .int .i64 (of), .int .i64 (sc), .int .i64 (bq 0), .int .i64 (bq 1), .int .i64 (bq 2), .int .i64 (bq 3), .int .i64 (r0), .int .i64 (r1), .int .i64 (far)]] w (fun e w' => e = .returned (.bool true) /\ Ext w w') := by
 have U33 : Try.prog.underlying 33 = some _ := Try.underlying33;have I33 : (Try.prog.info? 33).map (·.size) = some 37 := by kernel_rfl
 have HS := hid hS;have HX0 := hid ((Ext.refl w).alloc (.cells #[.int .i64 (fa.t), .int .i64 (fa.p 0), .int .i64 (fa.p 1), .int .i64 (fa.p 2), .int .i64 (fa.e), .int .i64 (fa.q 0), .int .i64 (fa.q 1), .int .i64 (fa.q 2), .int .i64 (fa.q 3), .int .i64 (fa.k), .int .i64 (fb.t), .int .i64 (fb.p 0), .int .i64 (fb.p 1), .int .i64 (fb.p 2), .int .i64 (fb.e), .int .i64 (fb.q 0), .int .i64 (fb.q 1), .int .i64 (fb.q 2), .int .i64 (fb.q 3), .int .i64 (fb.k), .int .i64 (rg), .int .i64 (rs), .int .i64 (ra), .int .i64 (rr), .int .i64 (o0), .int .i64 (o1), .int .i64 (ac), .slice SA n c, .int .i64 (of), .int .i64 (sc), .int .i64 (bq 0), .int .i64 (bq 1), .int .i64 (bq 2), .int .i64 (bq 3), .int .i64 (r0), .int .i64 (r1), .int .i64 (far)] 33));have KT0 := hid (Blk.new w 33 #[.int .i64 (fa.t), .int .i64 (fa.p 0), .int .i64 (fa.p 1), .int .i64 (fa.p 2), .int .i64 (fa.e), .int .i64 (fa.q 0), .int .i64 (fa.q 1), .int .i64 (fa.q 2), .int .i64 (fa.q 3), .int .i64 (fa.k), .int .i64 (fb.t), .int .i64 (fb.p 0), .int .i64 (fb.p 1), .int .i64 (fb.p 2), .int .i64 (fb.e), .int .i64 (fb.q 0), .int .i64 (fb.q 1), .int .i64 (fb.q 2), .int .i64 (fb.q 3), .int .i64 (fb.k), .int .i64 (rg), .int .i64 (rs), .int .i64 (ra), .int .i64 (rr), .int .i64 (o0), .int .i64 (o1), .int .i64 (ac), .slice SA n c, .int .i64 (of), .int .i64 (sc), .int .i64 (bq 0), .int .i64 (bq 1), .int .i64 (bq 2), .int .i64 (bq 3), .int .i64 (r0), .int .i64 (r1), .int .i64 (far)]);have HBQ := hid hbq;clear hS hbq;go_enter Try.func3, Try.ntmps3
 go_upto_region 1 with (fail)
 replace HS := hid (HS.out.ext HX0.out);generalize w.heap.size = gt at KT0 |-;generalize w.alloc _ = w1 at HX0 KT0 HS |-;have HX := hid HX0.out;have KT := hid KT0.out;clear HX0 KT0
 go_wp2_with (go_loud (refine wpList_load_mid rfl 33 (.tmp 1) rfl gt 0 rfl [.int .i64 (fa.t), .int .i64 (fa.p 0), .int .i64 (fa.p 1), .int .i64 (fa.p 2), .int .i64 (fa.e), .int .i64 (fa.q 0), .int .i64 (fa.q 1), .int .i64 (fa.q 2), .int .i64 (fa.q 3), .int .i64 (fa.k), .int .i64 (fb.t), .int .i64 (fb.p 0), .int .i64 (fb.p 1), .int .i64 (fb.p 2), .int .i64 (fb.e), .int .i64 (fb.q 0), .int .i64 (fb.q 1), .int .i64 (fb.q 2), .int .i64 (fb.q 3), .int .i64 (fb.k), .int .i64 (rg), .int .i64 (rs), .int .i64 (ra), .int .i64 (rr), .int .i64 (o0), .int .i64 (o1), .int .i64 (ac), .slice SA n c, .int .i64 (of), .int .i64 (sc), .int .i64 (bq 0), .int .i64 (bq 1), .int .i64 (bq 2), .int .i64 (bq 3), .int .i64 (r0), .int .i64 (r1), .int .i64 (far)] _ (fun j v hv => by rw [Nat.zero_add]; exact (KT.out.cell j).trans (by rw [List.getElem?_toArray]; exact hv)) U33 rfl I33 ?_))
 refine (ko fa fb rg rs ra rr o0 o1 ac of sc r0 r1 far bq SA n c xs _ HS.out hn hof).mono ?_;rintro e w2 ⟨hres, hX⟩;replace HX := xT HX hX;replace KT := xE KT hX;replace HS := hid (HS.out.ext hX);clear hX
 rcases hres with ⟨x, rfl⟩ | ⟨hR, rfl⟩
 .
  go_wp2_with fail
  refine (bO _).mono ?_;rintro e w90 ⟨rfl, hX⟩;replace HX := xT HX hX;clear hX;go_wp2;go_ret;exact ⟨rfl, HX.out⟩
 obtain ⟨hva, hvb, hvr, d1, d2, n1, n2, hsy, hs0, hx0, hx1⟩ := hR;have hG : GoodF rg rs ra rr fa fb := ⟨hvr, hva, hvb, d1, d2⟩;obtain ⟨hg, hs, ha, hr⟩ := hG.rules;have hta := Fx.t_range hva;have htb := Fx.t_range hvb;obtain ⟨hlen, hA0⟩ := HS.out;obtain ⟨g, o, rfl, hA⟩ := hA0 (by omega);have HG := hid hG;have HSY := hid hsy;have HA := hid hA;obtain ⟨s1, hs1⟩ : ∃ s, s ∈ xs := ⟨_, List.getElem_mem (show 0 < xs.length by omega)⟩
 have hofb : -1125899907000000 <= of /\ of <= 1125899907000000 := by
  obtain ⟨b1, b2, b3, b4, b5⟩ := hsy s1 hs1;omega
 clear hva hvb hvr hsy hA hA0 HS hs1 hG;obtain ⟨xx, hxx⟩ : ∃ x, sc + of - fa.t = x := ⟨_, rfl⟩;obtain ⟨dd, hdd⟩ : ∃ x, fb.t - fa.t = x := ⟨_, rfl⟩;obtain ⟨aa, haa⟩ : ∃ x, Int.tmod ac (ra + 1) = x := ⟨_, rfl⟩;have hab := eW (x := ac) ha.1;rw [haa] at hab;rw [hxx];have y1 : IntKind.i64.wrap (fb.t - fa.t) = dd := by rw [hdd]; exact IntWalk.i64_in _ (by omega)
 have y2 := IntWalk.i64_in (ra + 1) (by omega)
 have y3 : ((ra + 1) == 0) = false := by
  have : ra + 1 ≠ 0 := by omega
  simpa using this
 have y4 : ra + 1 ≠ 0 := by omega
 have y5 : IntKind.i64.wrap aa = aa := IntWalk.i64_in _ (by omega);obtain ⟨t0, t1, t2, t3, t4, t5, t6, t7, t8, t9, t10, t11, t12, t13, t14, t15, t16, t17, t18, t19⟩ := KT.out.c20;have t22 := KT.out.q 22 rfl;have t26 := KT.out.q 26 rfl
 go_upto_region 7 with (fail)
 clear y1 y2 y3 y4 y5 t0 t1 t2 t3 t4 t5 t6 t7 t8 t9 t10 t11 t12 t13 t14 t15 t16 t17 t18 t19 t22 t26;obtain ⟨wq, rfl⟩ : ∃ x : World, x = w2 := ⟨_, rfl⟩;obtain ⟨hXa, kF, kP, kK⟩ := xA3 wq 25 #[.int .i64 (fa.t), .int .i64 (fa.p 0), .int .i64 (fa.p 1), .int .i64 (fa.p 2), .int .i64 (fa.e), .int .i64 (fa.q 0), .int .i64 (fa.q 1), .int .i64 (fa.q 2), .int .i64 (fa.q 3), .int .i64 (fa.k), .int .i64 (fb.t), .int .i64 (fb.p 0), .int .i64 (fb.p 1), .int .i64 (fb.p 2), .int .i64 (fb.e), .int .i64 (fb.q 0), .int .i64 (fb.q 1), .int .i64 (fb.q 2), .int .i64 (fb.q 3), .int .i64 (fb.k)] 37 #[.slice (some ⟨wq.heap.size, 0, none⟩) 2 2] 40 #[.slice (some ⟨wq.heap.size + 1, 0, none⟩) 1 1]
 replace HX := xT HX hXa;replace KT := xE KT hXa;replace HA := hid (HA.out.ext hXa);clear hXa;generalize ((wq.alloc _).alloc _).alloc _ = w3 at kF kP kK HX KT HA |-;generalize wq.heap.size = gf at kF kP kK |-;have HT : Hid (TrkM w3 (gf + 1) gf fa fb) := hid ⟨kP, kF⟩;have KK := hid kK;clear kF kP kK;have t27 := KT.out.q 27 rfl
 go_wp2_with fail
 refine (gY g o n c of xs _ HA.out hlen (by omega) (by omega) HSY.out).mono ?_;rintro e w4 ⟨g8, c8, fr, lo, hi, rfl, hC, hfr, hW, hc1, hc2, hX⟩;replace HX := xT HX hX;replace KT := xE KT hX;replace HA := hid (HA.out.ext hX);replace HT := hid (HT.out.ext hX);replace KK := xE KK hX;clear hX t27;obtain ⟨wl, wh, wb1, wb2⟩ := hW.bounds HSY.out;have HC := hid hC;have HW := hid hW;clear hC hW hc1 hc2;have t29 := KT.out.q 29 rfl
 go_wp2_with fail
 refine (mG g8 c8 fr lo hi sc _ HC.out hfr (by omega) wb1 wb2 hs0.1 hs0.2).mono ?_;rintro e w5 ⟨he, hX⟩;replace HX := xT HX hX;replace KT := xE KT hX;replace HA := hid (HA.out.ext hX);replace HT := hid (HT.out.ext hX);replace KK := xE KK hX;clear hX HC hfr t29;have HNX : Hid (∀ w, Calls Try.prog 23 #[.slice (some ⟨g, o, none⟩) n c] w (lZ xs w) -> True) := hid (fun _ _ => trivial);clear HNX
 by_cases hnb : gB sc lo hi = true
 rotate_left
 .
  have HV : Hid (k5 sc lo hi = .tuple #[.agg #[.int .i64 0, .int .i64 0], .int .i64 3]) := hid (if_neg hnb);rw [HV.out] at he;subst he
  go_upto_region 9 with (fail)
  obtain ⟨hXa, KS⟩ := xB1 w5 31 #[.int .i64 (0), .int .i64 (0)];replace HX := xT HX hXa;replace KT := xE KT hXa;replace HA := hid (HA.out.ext hXa);replace HT := hid (HT.out.ext hXa);replace KK := xE KK hXa;clear hXa;generalize w5.heap.size = gs at KS |-;generalize w5.alloc _ = w6 at KS HX KT HA HT KK |-;have t27 := KT.out.q 27 rfl
  go_wp2_with fail
  refine (dY g o n c of xs _ HA.out hlen (by omega) (by omega) HSY.out).mono ?_;rintro e w7 ⟨g9, c9, fr2, lo2, hi2, rfl, hC, hfr, hW2, hc1, hc2, hX⟩;replace HX := xT HX hX;replace KT := xE KT hX;replace HA := hid (HA.out.ext hX);replace HT := hid (HT.out.ext hX);replace KK := xE KK hX;replace KS := xE KS hX;clear hX t27 hc1 hc2;obtain ⟨hl2, hh2⟩ : lo = lo2 /\ hi = hi2 := HW.out.same hW2 (fun s => Iff.rfl);rw [<- hl2, <- hh2] at hC;have HC := hid hC;clear hC hW2 hl2 hh2;have t29 := KT.out.q 29 rfl
  go_wp2_with fail
  refine (iF g9 c9 fr2 lo hi sc _ HC.out hfr (by omega) wb1 wb2 hs0.1 hs0.2).mono ?_;rw [HV.out];rintro e w8 ⟨rfl, hX⟩;replace HX := xT HX hX;replace KT := xE KT hX;replace HA := hid (HA.out.ext hX);replace HT := hid (HT.out.ext hX);replace KK := xE KK hX;replace KS := xE KS hX;clear hX HC hfr t29
  go_upto_region 13 with (fail)
  obtain ⟨hXa, KS2⟩ := xB1 w8 31 #[.int .i64 (0), .int .i64 (0)];replace HX := xT HX hXa;replace KT := xE KT hXa;replace HA := hid (HA.out.ext hXa);replace HT := hid (HT.out.ext hXa);replace KK := xE KK hXa;replace KS := xE KS hXa;clear hXa;generalize w8.heap.size = gs2 at KS2 |-;generalize w8.alloc _ = w9 at KS2 HX KT HA HT KK KS |-;skip
  go_wp2_with fail
  refine (bO _).mono ?_;rintro e w90 ⟨rfl, hX⟩;replace HX := xT HX hX;clear hX;go_wp2;go_ret;exact ⟨rfl, HX.out⟩
 obtain ⟨tl, htl⟩ : ∃ x, sc + lo = x := ⟨_, rfl⟩;obtain ⟨th, hth⟩ : ∃ x, sc + hi = x := ⟨_, rfl⟩;have HV : Hid (k5 sc lo hi = .tuple #[.agg #[.int .i64 tl, .int .i64 th], .int .i64 0]) := hid (by rw [<- htl, <- hth]; exact if_pos hnb)
 have hnr : 0 <= tl /\ th <= 1125899906842624 := by
  unfold gB at hnb;rw [decide_eq_true_eq] at hnb;omega
 rw [HV.out] at he;subst he;clear hnb
 go_upto_region 9 with (fail)
 obtain ⟨hXa, KS⟩ := xB1 w5 31 #[.int .i64 (tl), .int .i64 (th)];replace HX := xT HX hXa;replace KT := xE KT hXa;replace HA := hid (HA.out.ext hXa);replace HT := hid (HT.out.ext hXa);replace KK := xE KK hXa;clear hXa;generalize w5.heap.size = gs at KS |-;generalize w5.alloc _ = w6 at KS HX KT HA HT KK |-;skip;have t27 := KT.out.q 27 rfl
 go_wp2_with fail
 refine (dY g o n c of xs _ HA.out hlen (by omega) (by omega) HSY.out).mono ?_;rintro e w7 ⟨g9, c9, fr2, lo2, hi2, rfl, hC, hfr, hW2, hc1, hc2, hX⟩;replace HX := xT HX hX;replace KT := xE KT hX;replace HA := hid (HA.out.ext hX);replace HT := hid (HT.out.ext hX);replace KK := xE KK hX;replace KS := xE KS hX;clear hX t27 hc1 hc2;obtain ⟨hl2, hh2⟩ : lo = lo2 /\ hi = hi2 := HW.out.same hW2 (fun s => Iff.rfl);rw [<- hl2, <- hh2] at hC;have HC := hid hC;clear hC hW2 hl2 hh2;have t29 := KT.out.q 29 rfl
 go_wp2_with fail
 refine (iF g9 c9 fr2 lo hi sc _ HC.out hfr (by omega) wb1 wb2 hs0.1 hs0.2).mono ?_;rw [HV.out];rintro e w8 ⟨rfl, hX⟩;replace HX := xT HX hX;replace KT := xE KT hX;replace HA := hid (HA.out.ext hX);replace HT := hid (HT.out.ext hX);replace KK := xE KK hX;replace KS := xE KS hX;clear hX HC hfr t29 HV HW
 go_upto_region 13 with (fail)
 obtain ⟨hXa, KS2⟩ := xB1 w8 31 #[.int .i64 (tl), .int .i64 (th)];replace HX := xT HX hXa;replace KT := xE KT hXa;replace HA := hid (HA.out.ext hXa);replace HT := hid (HT.out.ext hXa);replace KK := xE KK hXa;replace KS := xE KS hXa;clear hXa;generalize w8.heap.size = gs2 at KS2 |-;generalize w8.alloc _ = w9 at KS2 HX KT HA HT KK KS |-;skip;obtain ⟨TT, hTT⟩ : ∃ x, sc + of = x := ⟨_, rfl⟩;have y1 : IntKind.i64.wrap (sc + of) = TT := by rw [hTT]; exact IntWalk.i64_in _ (by omega)
 have y2 := xF (TT < tl) (by omega);have y3 := xF (th < TT) (by omega);have hTb : tl <= TT /\ TT <= th := by omega
 obtain rfl : xx = TT - fa.t := by omega
 by_cases hin : fa.t <= tl /\ th <= fb.t
 rotate_left
 .
  have t20 := KT.out.q 20 rfl;have t21 := KT.out.q 21 rfl;have t22 := KT.out.q 22 rfl;have t23 := KT.out.q 23 rfl;have t28 := KT.out.q 28 rfl;have t29 := KT.out.q 29 rfl;obtain ⟨s0, s1⟩ := KS.out.c2;have k0 := KK.out.c1
  go_wp2_with fail
  refine (mH (gf + 1) gf fa fb rg rs ra rr tl th _ HG.out HT.out hnr.1 (by omega) hnr.2 hin).mono ?_;rintro e w10 ⟨rfl, hX⟩;replace HX := xT HX hX;replace KT := xE KT hX;replace HT := hid (HT.out.ext hX);replace KK := xE KK hX;replace KS := xE KS hX;clear hX t20 t21 t22 t23 t28 t29 s0 s1 k0
  go_upto_region 18 with (fail)
  obtain ⟨hXa, KPo⟩ := xB1 w10 49 #[.int .i64 (0), .int .i64 (0), .int .i64 (0), .int .i64 (0), .int .i64 (0), .int .i64 (0), .int .i64 (0), .int .i64 (0), .int .i64 (0), .int .i64 (0), .int .i64 (0)];replace HX := xT HX hXa;replace KT := xE KT hXa;replace HT := hid (HT.out.ext hXa);replace KK := xE KK hXa;replace KS := xE KS hXa;clear hXa;generalize w10.heap.size = gpo at KPo |-;generalize w10.alloc _ = w11 at KPo HX KT HT KK KS |-;skip;have t20 := KT.out.q 20 rfl;have t21 := KT.out.q 21 rfl;have t22 := KT.out.q 22 rfl;have t23 := KT.out.q 23 rfl;obtain ⟨s0, s1⟩ := KS.out.c2;have k0 := KK.out.c1
  go_wp2_with fail
  refine (mI (gf + 1) gf fa fb rg rs ra rr tl th _ HG.out HT.out hnr.1 (by omega) hnr.2 hin).mono ?_;rintro e w12 ⟨f, rfl, hX⟩;replace HX := xT HX hX;replace KT := xE KT hX;replace HT := hid (HT.out.ext hX);replace KK := xE KK hX;replace KS := xE KS hX;replace KPo := xE KPo hX;clear hX t20 t21 t22 t23 s0 s1 k0
  go_upto_region 19 with (fail)
  obtain ⟨hXa, KPr⟩ := xB1 w12 49 #[.int .i64 (f 0), .int .i64 (f 1), .int .i64 (f 2), .int .i64 (f 3), .int .i64 (f 4), .int .i64 (f 5), .int .i64 (f 6), .int .i64 (f 7), .int .i64 (f 8), .int .i64 (f 9), .int .i64 (f 10)];replace HX := xT HX hXa;replace KT := xE KT hXa;replace HT := hid (HT.out.ext hXa);replace KK := xE KK hXa;replace KS := xE KS hXa;replace KPo := xE KPo hXa;clear hXa;generalize w12.heap.size = gpr at KPr |-;generalize w12.alloc _ = w13 at KPr HX KT HT KK KS KPo |-;skip
  go_wp2_with fail
  refine (bO _).mono ?_;rintro e w90 ⟨rfl, hX⟩;replace HX := xT HX hX;clear hX;go_wp2;go_ret;exact ⟨rfl, HX.out⟩
 obtain ⟨pl, hpl⟩ : ∃ f, iD rs ra fa fb tl th = f := ⟨_, rfl⟩;obtain ⟨ph, hph⟩ : ∃ f, iE rs ra fa fb tl th = f := ⟨_, rfl⟩;obtain ⟨qn, hqn⟩ : ∃ f, pS fa fb tl = f := ⟨_, rfl⟩;obtain ⟨k0, hk0⟩ : ∃ f, pT rr fa fb tl th = f := ⟨_, rfl⟩;have HP : Hid (df pl ph qn k0) := hid (by rw [<- hpl, <- hph, <- hqn, <- hk0]; exact pU HG.out hin.1 (by omega) hin.2);have HPV : Hid (dZ (iD rs ra fa fb tl th) (iE rs ra fa fb tl th) (pS fa fb tl) (pT rr fa fb tl th) = .agg #[.int .i64 (pl 0), .int .i64 (ph 0), .int .i64 (pl 1), .int .i64 (ph 1), .int .i64 (pl 2), .int .i64 (ph 2), .int .i64 (qn 0), .int .i64 (qn 1), .int .i64 (qn 2), .int .i64 (qn 3), .int .i64 k0]) := hid (by rw [hpl, hph, hqn, hk0]; rfl);have HPL := hid hpl;have HPH := hid hph;clear hpl hph hqn hk0;have t20 := KT.out.q 20 rfl;have t21 := KT.out.q 21 rfl;have t22 := KT.out.q 22 rfl;have t23 := KT.out.q 23 rfl;have t28 := KT.out.q 28 rfl;have t29 := KT.out.q 29 rfl;obtain ⟨s0, s1⟩ := KS.out.c2;have k0_ := KK.out.c1
 go_wp2_with fail
 refine (k6 (gf + 1) gf fa fb rg rs ra rr tl th _ HG.out HT.out hnr.1 (by omega) hnr.2 hin.1 hin.2).mono ?_;rw [HPV.out];rintro e w10 ⟨rfl, hX⟩;replace HX := xT HX hX;replace KT := xE KT hX;replace HT := hid (HT.out.ext hX);replace KK := xE KK hX;replace KS := xE KS hX;clear hX t20 t21 t22 t23 t28 t29 s0 s1 k0_ HPV y1 y2 y3
 go_upto_region 18 with (fail)
 obtain ⟨hXa, KPo⟩ := xB1 w10 49 #[.int .i64 (pl 0), .int .i64 (ph 0), .int .i64 (pl 1), .int .i64 (ph 1), .int .i64 (pl 2), .int .i64 (ph 2), .int .i64 (qn 0), .int .i64 (qn 1), .int .i64 (qn 2), .int .i64 (qn 3), .int .i64 k0];replace HX := xT HX hXa;replace KT := xE KT hXa;replace HT := hid (HT.out.ext hXa);replace KK := xE KK hXa;replace KS := xE KS hXa;clear hXa;generalize w10.heap.size = gpo at KPo |-;generalize w10.alloc _ = w11 at KPo HX KT HT KK KS |-;skip;have t20 := KT.out.q 20 rfl;have t21 := KT.out.q 21 rfl;have t22 := KT.out.q 22 rfl;have t23 := KT.out.q 23 rfl;obtain ⟨s0, s1⟩ := KS.out.c2;have k0_ := KK.out.c1
 go_wp2_with fail
 refine (gw (gf + 1) gf fa fb rg rs ra rr tl th _ HG.out HT.out hnr.1 (by omega) hnr.2 hin.1 hin.2).mono ?_;rintro e w12 ⟨fz, rfl, hX⟩;replace HX := xT HX hX;replace KT := xE KT hX;replace HT := hid (HT.out.ext hX);replace KK := xE KK hX;replace KS := xE KS hX;replace KPo := xE KPo hX;clear hX t20 t21 t22 t23 s0 s1 k0_
 go_upto_region 19 with (fail)
 obtain ⟨hXa, KPr⟩ := xB1 w12 49 #[.int .i64 (fz 0), .int .i64 (fz 1), .int .i64 (fz 2), .int .i64 (fz 3), .int .i64 (fz 4), .int .i64 (fz 5), .int .i64 (fz 6), .int .i64 (fz 7), .int .i64 (fz 8), .int .i64 (fz 9), .int .i64 (fz 10)];replace HX := xT HX hXa;replace KT := xE KT hXa;replace HT := hid (HT.out.ext hXa);replace KK := xE KK hXa;replace KS := xE KS hXa;replace KPo := xE KPo hXa;clear hXa;generalize w12.heap.size = gpr at KPr |-;generalize w12.alloc _ = w13 at KPr HX KT HT KK KS KPo |-;skip;clear KPr KK KS HT;obtain ⟨cc, hcc⟩ : ∃ x, bW (fM pl qn bq k0 r0 r1) (fN ph qn bq k0 r0 r1) bq r0 r1 = x := ⟨_, rfl⟩;have HCC := hid hcc;clear hcc;obtain ⟨b0, b1, b2, b3, b4, b5, b6, b7, b8, b9, b10⟩ := KPo.out.c11;have t30 := KT.out.q 30 rfl;have t31 := KT.out.q 31 rfl;have t32 := KT.out.q 32 rfl;have t33 := KT.out.q 33 rfl;have t34 := KT.out.q 34 rfl;have t35 := KT.out.q 35 rfl
 go_wp2_with fail
 refine (mJ pl ph qn bq k0 r0 r1 _ HP.out HBQ.out hr0 hr1).mono ?_;rw [HCC.out];rintro e w14 ⟨⟨f, rfl, hf0⟩, hX⟩;replace HX := xT HX hX;replace KT := xE KT hX;replace KPo := xE KPo hX;clear hX b0 b1 b2 b3 b4 b5 b6 b7 b8 b9 b10 t30 t31 t32 t33 t34 t35;have HF0 := hid hf0;clear hf0
 go_upto_region 22 with (fail)
 obtain ⟨hXa, KBx⟩ := xB1 w14 54 #[.int .i64 (f 0), .int .i64 (f 1), .int .i64 (f 2), .int .i64 (f 3), .int .i64 (f 4), .int .i64 (f 5)];replace HX := xT HX hXa;replace KT := xE KT hXa;replace KPo := xE KPo hXa;clear hXa;generalize w14.heap.size = gbx at KBx |-;generalize w14.alloc _ = w15 at KBx HX KT KPo |-;skip;obtain ⟨b0, b1, b2, b3, b4, b5, b6, b7, b8, b9, b10⟩ := KPo.out.c11;have t30 := KT.out.q 30 rfl;have t31 := KT.out.q 31 rfl;have t32 := KT.out.q 32 rfl;have t33 := KT.out.q 33 rfl;have t34 := KT.out.q 34 rfl;have t35 := KT.out.q 35 rfl
 go_wp2_with fail
 refine (mK pl ph qn bq k0 r0 r1 _ HP.out).mono ?_;rw [HCC.out];rintro e w16 ⟨⟨f2, rfl⟩, hX⟩;replace HX := xT HX hX;replace KT := xE KT hX;replace KPo := xE KPo hX;replace KBx := xE KBx hX;clear hX b0 b1 b2 b3 b4 b5 b6 b7 b8 b9 b10 t30 t31 t32 t33 t34 t35
 go_upto_region 23 with (fail)
 obtain ⟨hXa, KB2⟩ := xB1 w16 54 #[.int .i64 (f2 0), .int .i64 (f2 1), .int .i64 (f2 2), .int .i64 (f2 3), .int .i64 (f2 4), .int .i64 (f2 5)];replace HX := xT HX hXa;replace KT := xE KT hXa;replace KPo := xE KPo hXa;replace KBx := xE KBx hXa;clear hXa;generalize w16.heap.size = gb2 at KB2 |-;generalize w16.alloc _ = w17 at KB2 HX KT KPo KBx |-;skip;clear KB2
 by_cases hc0 : cc = 0
 rotate_left
 .
  have y1 := xF (cc = 0) hc0;have y2 : (cc == 0) = false := by simpa using hc0
  have y3 : decide (cc = cc) = true := by simp
  have y4 : (cc == cc) = true := by simp
  go_wp2_with fail
  refine (bO _).mono ?_;rintro e w90 ⟨rfl, hX⟩;replace HX := xT HX hX;clear hX;go_wp2;go_ret;exact ⟨rfl, HX.out⟩
 subst hc0;obtain ⟨hrg, htr, hax⟩ := k8 HCC.out;have HAXS := hid hax;clear hax;have hfv := HF0.out rfl;have HFV := hid hfv;clear HF0 hfv HCC;obtain ⟨hr01, hr02, hr03⟩ := dv.1 hrg;clear hrg;obtain ⟨-, -, -, -, -, -, b6, b7, b8, b9⟩ := KPo.out.c10;have t30 := KT.out.q 30 rfl;have t31 := KT.out.q 31 rfl;have t32 := KT.out.q 32 rfl;have t33 := KT.out.q 33 rfl
 go_wp2_with fail
 refine (iq qn bq _ HP.out.q htr).mono ?_;rintro e w18 ⟨rfl, hX⟩;replace HX := xT HX hX;replace KT := xE KT hX;replace KPo := xE KPo hX;replace KBx := xE KBx hX;clear hX b6 b7 b8 b9 t30 t31 t32 t33
 go_upto_region 26 with (fail)
 obtain ⟨hXa, KQ4⟩ := xB1 w18 23 #[.int .i64 (ah qn bq 0), .int .i64 (ah qn bq 1), .int .i64 (ah qn bq 2), .int .i64 (ah qn bq 3)];replace HX := xT HX hXa;replace KT := xE KT hXa;replace KPo := xE KPo hXa;replace KBx := xE KBx hXa;clear hXa;generalize w18.heap.size = gq4 at KQ4 |-;generalize w18.alloc _ = w19 at KQ4 HX KT KPo KBx |-;skip;obtain ⟨b0, b1, b2, b3⟩ := KQ4.out.c4
 go_wp2_with fail
 obtain ⟨kf, hkf⟩ : ∃ f, dL (ah qn bq) = f := ⟨_, rfl⟩;obtain ⟨nn, hnn⟩ : ∃ f, dA (ah qn bq) = f := ⟨_, rfl⟩;have hT4 := mB HP.out.q htr;have HBM := hid (fun w => iu (ah qn bq) w hT4);rw [hkf, hnn] at HBM
 have hnr2 : 1 <= nn /\ nn <= 64000000000000 := by
  rw [<- hnn];exact ⟨cL hT4, jc (cT HP.out.q htr)⟩
 have HKB : Hid (∀ i, -nn <= kf i /\ kf i <= nn) := hid (by rw [<- hkf, <- hnn]; exact jb _);have HBL : Hid (fM pl qn bq k0 r0 r1 = cM pl kf nn r0 r1 (aj (k0 * r1) 1000000)) := hid (by unfold fM; rw [hkf, hnn]);have HBH : Hid (fN ph qn bq k0 r0 r1 = cN ph kf nn r0 r1 (aj (k0 * r1) 1000000)) := hid (by unfold fN; rw [hkf, hnn]);clear hkf hnn hT4;refine (HBM.out _).mono ?_;rintro e w20 ⟨rfl, hX⟩;replace HX := xT HX hX;replace KT := xE KT hX;replace KBx := xE KBx hX;replace KQ4 := xE KQ4 hX;clear hX b0 b1 b2 b3 HBM KQ4
 go_upto_region 27 with (fail)
 obtain ⟨hXa, KKf⟩ := xB1 w20 22 #[.int .i64 (kf 0), .int .i64 (kf 1), .int .i64 (kf 2)];replace HX := xT HX hXa;replace KT := xE KT hXa;replace KBx := xE KBx hXa;clear hXa;generalize w20.heap.size = gkf at KKf |-;generalize w20.alloc _ = w21 at KKf HX KT KBx |-;skip;obtain ⟨rd, hrd⟩ : ∃ x, r1 - r0 = x := ⟨_, rfl⟩;obtain ⟨fu, hfu⟩ : ∃ x, IntKind.u64.wrap far = x := ⟨_, rfl⟩;obtain ⟨m, hm⟩ : ∃ x, fu.tmod 17 = x := ⟨_, rfl⟩;have hfu0 : 0 <= fu := by rw [<- hfu]; exact pA far
 have hm2 : 0 <= m /\ m <= 16 := by
  have a1 := Int.tmod_nonneg 17 hfu0;have a2 := Int.tmod_lt_of_pos fu (show (0 : Int) < 17 by omega);omega
 have y1 : IntKind.i64.wrap (r1 - r0) = rd := by rw [hrd]; exact IntWalk.i64_in _ (by omega)
 have y3 : IntKind.u64.wrap m = m := IntWalk.u64_in _ (by omega);have y4 : IntKind.i64.wrap m = m := IntWalk.i64_in _ (by omega);have zT := KT.out.lt;have zB := KBx.out.lt;have zK := KKf.out.lt;have zw := HX.out.size;refine nS gt r0 r1 rd far fu m _ hr0 (by omega) y1 hfu hm hm2 y3 y4 (KT.out.cell 34) (KT.out.cell 35) (KT.out.cell 36) _ _ (by simp) rfl ?_;rintro xv0 xv1 xv2 xv3 xv4 xv5 xv6 xv7 xv8 xv9 xv10 xv11 xv12 xv13 xv14 xv15 xv16 xv17 xv18 xv19 xv20 xv21 xv22 w22 rfl rfl rfl _ rfl rfl rfl rfl rfl rfl rfl _ rfl rfl rfl rfl rfl _ _ _ _ hfq ⟨g27, rfl, hg27, hZ⟩ hX;simp only [ae, Try.f3, ab, Option.bind_some, Nat.reduceBEq, if_true, if_false, Bool.false_eq_true, Option.getD_some, List.drop_succ_cons, List.drop_zero];simp only [Act.put, List.setIfInBounds_toArray, List.set_cons_succ, List.set_cons_zero];clear y1 y3 y4 hfu hm hfu0;replace HX := xT HX hX;replace KT := xE KT hX;replace KBx := xE KBx hX;replace KKf := xE KKf hX;clear hX;have HZ := hid hZ;have HQ0 := hid hfq;obtain ⟨s7, A7, l7, c7, B7, m7, k7, rfl⟩ := HQ0.out.open;clear hZ hfq;have hgz : w.heap.size <= g27 := by omega
 have hne7 : gt ≠ g27 /\ gbx ≠ g27 /\ gkf ≠ g27 := by omega
 clear zT zB zK zw hg27;obtain ⟨z0, z1, z2⟩ := HZ.out.c3;have zf0 := HZ.out.free 0;have zf1 := HZ.out.free 1;have zf2 := HZ.out.free 2
 go_upto_region 28 with (fail)
 clear z0 z1 z2 zf0 zf1 zf2;have hX2 : Ext w (((w22.setCell ⟨g27, 0, none⟩ (.bool s7)).setCell ⟨g27, 1, none⟩ (.slice A7 l7 c7)).setCell ⟨g27, 2, none⟩ (.slice B7 m7 k7)) := ((HX.out.setCell hgz _).setCell hgz _).setCell hgz _;have hKT := (((KT.out.far (p := ⟨g27, 0, none⟩) (by simp only; omega) (.bool s7)).far (p := ⟨g27, 1, none⟩) (by simp only; omega) (.slice A7 l7 c7)).far (p := ⟨g27, 2, none⟩) (by simp only; omega) (.slice B7 m7 k7));have hKBx := (((KBx.out.far (p := ⟨g27, 0, none⟩) (by simp only; omega) (.bool s7)).far (p := ⟨g27, 1, none⟩) (by simp only; omega) (.slice A7 l7 c7)).far (p := ⟨g27, 2, none⟩) (by simp only; omega) (.slice B7 m7 k7));have hKKf := (((KKf.out.far (p := ⟨g27, 0, none⟩) (by simp only; omega) (.bool s7)).far (p := ⟨g27, 1, none⟩) (by simp only; omega) (.slice A7 l7 c7)).far (p := ⟨g27, 2, none⟩) (by simp only; omega) (.slice B7 m7 k7));have hB := ((HZ.out.set 0 (.bool s7)).set 1 (.slice A7 l7 c7)).set 2 (.slice B7 m7 k7);replace hB : Blk (((w22.setCell ⟨g27, 0, none⟩ (.bool s7)).setCell ⟨g27, 1, none⟩ (.slice A7 l7 c7)).setCell ⟨g27, 2, none⟩ (.slice B7 m7 k7)) g27 65 #[.bool s7, .slice A7 l7 c7, .slice B7 m7 k7] := hB;have hQ : QFt (((w22.setCell ⟨g27, 0, none⟩ (.bool s7)).setCell ⟨g27, 1, none⟩ (.slice A7 l7 c7)).setCell ⟨g27, 2, none⟩ (.slice B7 m7 k7)) (.agg #[.bool s7, .slice A7 l7 c7, .slice B7 m7 k7]) ((r0 : Rat) + (rd : Rat) * (m : Rat) / ((16 : Int) : Rat)) (4 + (4 + 4 + 4) + 1) := ⟨HQ0.out.1.past (NoInts.three HZ.out), HQ0.out.2⟩;generalize (((w22.setCell _ _).setCell _ _).setCell _ _) = w23 at hX2 hKT hKBx hKKf hB hQ |-;clear HX KT KBx KKf HZ HQ0;have HX := hid hX2;clear hX2;have KT := hid hKT;clear hKT;have KBx := hid hKBx;clear hKBx;have KKf := hid hKKf;clear hKKf;have KF7 := hid hB;have HFQ := hid hQ;clear hQ hgz hne7;obtain ⟨b0, b1, b2, b3, b4, b5⟩ := KBx.out.c6
 go_wp2_with fail
 clear b0 b1 b2 b3 b4 b5;obtain ⟨hXa, K6⟩ := xB1 w23 31 #[.int .i64 (f 0), .int .i64 (f 1), .int .i64 (f 2), .int .i64 (f 3), .int .i64 (f 4), .int .i64 (f 5)];replace HX := xT HX hXa;replace KT := xE KT hXa;replace KBx := xE KBx hXa;replace KKf := xE KKf hXa;replace KF7 := xE KF7 hXa;replace HFQ := hid (HFQ.out.ext hXa);clear hXa;generalize w23.heap.size = g6 at K6 |-;generalize w23.alloc _ = w24 at K6 HX KT KBx KKf KF7 HFQ |-;clear KBx
 go_loopg [218] 3 (fun fu iv W => ∃ k : Nat, fu = 3 - k /\ k <= 3 /\ iv = .int .i64 (k : Int) /\ Hid (Blk W gt 33 #[.int .i64 (fa.t), .int .i64 (fa.p 0), .int .i64 (fa.p 1), .int .i64 (fa.p 2), .int .i64 (fa.e), .int .i64 (fa.q 0), .int .i64 (fa.q 1), .int .i64 (fa.q 2), .int .i64 (fa.q 3), .int .i64 (fa.k), .int .i64 (fb.t), .int .i64 (fb.p 0), .int .i64 (fb.p 1), .int .i64 (fb.p 2), .int .i64 (fb.e), .int .i64 (fb.q 0), .int .i64 (fb.q 1), .int .i64 (fb.q 2), .int .i64 (fb.q 3), .int .i64 (fb.k), .int .i64 (rg), .int .i64 (rs), .int .i64 (ra), .int .i64 (rr), .int .i64 (o0), .int .i64 (o1), .int .i64 (ac), .slice (some ⟨g, o, none⟩) n c, .int .i64 (of), .int .i64 (sc), .int .i64 (bq 0), .int .i64 (bq 1), .int .i64 (bq 2), .int .i64 (bq 3), .int .i64 (r0), .int .i64 (r1), .int .i64 (far)]) /\ Hid (Blk W gkf 22 #[.int .i64 (kf 0), .int .i64 (kf 1), .int .i64 (kf 2)]) /\ Hid (Blk W g27 65 #[.bool s7, .slice A7 l7 c7, .slice B7 m7 k7]) /\ Hid (QFt W (.agg #[.bool s7, .slice A7 l7 c7, .slice B7 m7 k7]) ((r0 : Rat) + (rd : Rat) * (m : Rat) / ((16 : Int) : Rat)) 17) /\ Hid (Blk W g6 31 #[.int .i64 (f 0), .int .i64 (f 1), .int .i64 (f 2), .int .i64 (f 3), .int .i64 (f 4), .int .i64 (f 5)]) /\ Hid (Ext w W))
 case atStart => exact ⟨0, rfl, by omega, rfl, KT, KKf, KF7, HFQ, K6, HX⟩
 case round =>
  clear HX KT KKf KF7 HFQ K6;obtain ⟨k, rfl, hk, rfl, KT, KKf, KF7, HFQ, K6, HX⟩ := hrel
  by_cases hlt : k < 3
  .
   have q1 := xD (k < 3) hlt;have q1b := xD ((k : Int) < (3 : Int)) (by omega);obtain ⟨e0, e1⟩ := pB K6.out hlt;obtain ⟨xl, hxl⟩ : ∃ x, f (2 * k) = x := ⟨_, rfl⟩;obtain ⟨xh, hxh⟩ : ∃ x, f (2 * k + 1) = x := ⟨_, rfl⟩;rw [hxl] at e0;rw [hxh] at e1;obtain ⟨v0, v1⟩ := HFV.out k hlt;rw [hxl] at v0;rw [hxh] at v1;clear hxl hxh;have e0' : wr.cell? ⟨g6, 0 + k * 2, none⟩ = some (.int .i64 xl) := by rw [Nat.zero_add]; exact e0
   have e1' : wr.cell? ⟨g6, 0 + k * 2 + 1, none⟩ = some (.int .i64 xh) := by rw [Nat.zero_add]; exact e1
   have V0 := hid v0;have V1 := hid v1;clear v0 v1
   go_upto_region 31 with (fail)
   obtain ⟨hXa, KM⟩ := xB1 wr 31 #[.int .i64 (xl), .int .i64 (xh)];replace HX := xT HX hXa;replace KT := xE KT hXa;replace KKf := xE KKf hXa;replace KF7 := xE KF7 hXa;replace HFQ := hid (HFQ.out.ext hXa);replace K6 := xE K6 hXa;clear hXa;generalize wr.heap.size = gm at KM |-;generalize wr.alloc _ = w25 at KM HX KT KKf KF7 HFQ K6 |-;skip;clear e0 e1 e0' e1'
   have c0 : w25.cell? ⟨gt, 1 + k, none⟩ = some (.int .i64 (fa.p k)) := by
    rcases (show k = 0 \/ k = 1 \/ k = 2 by omega) with rfl | rfl | rfl
    .
     exact KT.out.cell 1
    .
     exact KT.out.cell 2
    .
     exact KT.out.cell 3
   have c1 : w25.cell? ⟨gt, 11 + k, none⟩ = some (.int .i64 (fb.p k)) := by
    rcases (show k = 0 \/ k = 1 \/ k = 2 by omega) with rfl | rfl | rfl
    .
     exact KT.out.cell 11
    .
     exact KT.out.cell 12
    .
     exact KT.out.cell 13
   have pa := Fx.p_range HG.out.oa hlt;have pb := Fx.p_range HG.out.ob hlt;have ea := Fx.e_range HG.out.oa;have eb := Fx.e_range HG.out.ob;have ra1 := eW (x := o0) ea.1;have rb1 := eW (x := o1) eb.1;obtain ⟨ta, hta⟩ : ∃ x, Int.tmod o0 (fa.e + 1) = x := ⟨_, rfl⟩;obtain ⟨tb, htb⟩ : ∃ x, Int.tmod o1 (fb.e + 1) = x := ⟨_, rfl⟩;rw [hta] at ra1;rw [htb] at rb1
   have z1 : ((fa.e + 1) == 0) = false := by
    have : fa.e + 1 ≠ 0 := by omega
    simpa using this
   have z2 : ((fb.e + 1) == 0) = false := by
    have : fb.e + 1 ≠ 0 := by omega
    simpa using this
   refine nT gt k (fa.p k) (fb.p k) o0 o1 fa.e fb.e (fa.e + 1) (fb.e + 1) ta tb (fa.p k + ta) (fb.p k + tb) _ (by omega) (IntWalk.i64_in _ (by omega)) z1 (by omega) hta (IntWalk.i64_in _ (by omega)) (IntWalk.i64_in _ (by omega)) (IntWalk.i64_in _ (by omega)) z2 (by omega) htb (IntWalk.i64_in _ (by omega)) (IntWalk.i64_in _ (by omega)) c0 c1 (KT.out.cell 24) (KT.out.cell 25) (KT.out.cell 4) (KT.out.cell 14) _ _ (by simp) ⟨rfl, rfl, trivial⟩ ?_;rintro w26 hX;simp only [EndK, ae, Try.f3, ab, Option.bind_some, Nat.reduceBEq, if_true, if_false, Bool.false_eq_true, Option.getD_some, List.drop_succ_cons, List.drop_zero];simp only [Act.put, List.setIfInBounds_toArray, List.set_cons_succ, List.set_cons_zero];clear hta htb z1 z2 c0 c1;replace HX := xT HX hX;replace KT := xE KT hX;replace KKf := xE KKf hX;replace KF7 := xE KF7 hX;replace HFQ := hid (HFQ.out.ext hX);replace K6 := xE K6 hX;replace KM := xE KM hX;clear hX;obtain ⟨pp, hpp⟩ : ∃ x, fa.p k + ta = x := ⟨_, rfl⟩;obtain ⟨qq, hqq⟩ : ∃ x, fb.p k + tb = x := ⟨_, rfl⟩;rw [hpp, hqq];have hpB : fa.p k - fa.e <= pp /\ pp <= fa.p k + fa.e := by omega
   have hqB : fb.p k - fb.e <= qq /\ qq <= fb.p k + fb.e := by omega
   clear hpp hqq ra1 rb1;have t21 := KT.out.q 21 rfl
   go_wp2_with fail
   refine (mw pp qq aa dd rs _ (by omega) (by omega) (by omega) (by omega) (by omega)).mono ?_;rintro e w27 ⟨b, rfl, HSL, hX⟩;replace HX := xT HX hX;replace KT := xE KT hX;replace KKf := xE KKf hX;replace KF7 := xE KF7 hX;replace HFQ := hid (HFQ.out.ext hX);replace K6 := xE K6 hX;replace KM := xE KM hX;clear hX t21
   by_cases hbb : b = true
   rotate_left
   .
    obtain rfl : b = false := by simpa using hbb
    go_wp2_with fail
    refine (bO _).mono ?_;rintro e w90 ⟨rfl, hX⟩;replace HX := xT HX hX;clear hX;go_wp2;go_ret;exact ⟨rfl, HX.out⟩
   subst hbb;have hkr := HKB.out k;obtain ⟨kv, hkv⟩ : ∃ x, kf k = x := ⟨_, rfl⟩;have c9 := mA KKf.out hlt;rw [hkv] at c9 hkr;have HKV := hid hkv;clear hkv;have zT := KT.out.lt;have zM := KM.out.lt;have z6 := K6.out.lt;have zK := KKf.out.lt;have zF := KF7.out.lt;have zw := HX.out.size
   go_upto_region 34 with (fail)
   refine nU g27 gkf k pp qq aa dd (TT - fa.t) kv nn _ s7 A7 B7 l7 c7 m7 k7 _ (by omega) (by omega) (by omega) (by omega) (by omega) (by omega) (by omega) hnr2.1 (by omega) HFQ.out (KF7.out.cell 0) (KF7.out.cell 1) (KF7.out.cell 2) c9 _ _ (by simp) rfl rfl rfl rfl rfl rfl rfl rfl rfl ?_;rintro xv0 xv1 xv2 xv3 xv4 xv5 xv6 xv7 xv8 xv9 xv10 xv11 xv12 xv13 xv14 xv15 xv16 w28 rfl rfl rfl rfl rfl _ rfl rfl rfl rfl _ _ rfl _ _ hat ⟨g32, rfl, hg32, hZ⟩ hX;simp only [ae, Try.f3, ab, Option.bind_some, Nat.reduceBEq, if_true, if_false, Bool.false_eq_true, Option.getD_some, List.drop_succ_cons, List.drop_zero];simp only [Act.put, List.setIfInBounds_toArray, List.set_cons_succ, List.set_cons_zero];clear c9;replace HX := xT HX hX;replace KT := xE KT hX;replace KKf := xE KKf hX;replace KF7 := xE KF7 hX;replace HFQ := hid (HFQ.out.ext hX);replace K6 := xE K6 hX;replace KM := xE KM hX;clear hX;have HZ := hid hZ;have HQ0 := hid hat;obtain ⟨s9, A9, l9, c9, B9, m9, k9, rfl⟩ := HQ0.out.open;clear hZ hat;have hgz : w.heap.size <= g32 := by omega
   have hne9 : gt ≠ g32 /\ gm ≠ g32 /\ g6 ≠ g32 /\ gkf ≠ g32 /\ g27 ≠ g32 := by omega
   clear zT zM z6 zK zF zw hg32;obtain ⟨z0, z1, z2⟩ := HZ.out.c3;have zf0 := HZ.out.free 0;have zf1 := HZ.out.free 1;have zf2 := HZ.out.free 2
   go_upto_region 35 with (fail)
   clear z0 z1 z2 zf0 zf1 zf2;have hX2 : Ext w (((w28.setCell ⟨g32, 0, none⟩ (.bool s9)).setCell ⟨g32, 1, none⟩ (.slice A9 l9 c9)).setCell ⟨g32, 2, none⟩ (.slice B9 m9 k9)) := ((HX.out.setCell hgz _).setCell hgz _).setCell hgz _;have hKT := (((KT.out.far (p := ⟨g32, 0, none⟩) (by simp only; omega) (.bool s9)).far (p := ⟨g32, 1, none⟩) (by simp only; omega) (.slice A9 l9 c9)).far (p := ⟨g32, 2, none⟩) (by simp only; omega) (.slice B9 m9 k9));have hKKf := (((KKf.out.far (p := ⟨g32, 0, none⟩) (by simp only; omega) (.bool s9)).far (p := ⟨g32, 1, none⟩) (by simp only; omega) (.slice A9 l9 c9)).far (p := ⟨g32, 2, none⟩) (by simp only; omega) (.slice B9 m9 k9));have hKF7 := (((KF7.out.far (p := ⟨g32, 0, none⟩) (by simp only; omega) (.bool s9)).far (p := ⟨g32, 1, none⟩) (by simp only; omega) (.slice A9 l9 c9)).far (p := ⟨g32, 2, none⟩) (by simp only; omega) (.slice B9 m9 k9));have hK6 := (((K6.out.far (p := ⟨g32, 0, none⟩) (by simp only; omega) (.bool s9)).far (p := ⟨g32, 1, none⟩) (by simp only; omega) (.slice A9 l9 c9)).far (p := ⟨g32, 2, none⟩) (by simp only; omega) (.slice B9 m9 k9));have hKM := (((KM.out.far (p := ⟨g32, 0, none⟩) (by simp only; omega) (.bool s9)).far (p := ⟨g32, 1, none⟩) (by simp only; omega) (.slice A9 l9 c9)).far (p := ⟨g32, 2, none⟩) (by simp only; omega) (.slice B9 m9 k9));have hB := ((HZ.out.set 0 (.bool s9)).set 1 (.slice A9 l9 c9)).set 2 (.slice B9 m9 k9);replace hB : Blk (((w28.setCell ⟨g32, 0, none⟩ (.bool s9)).setCell ⟨g32, 1, none⟩ (.slice A9 l9 c9)).setCell ⟨g32, 2, none⟩ (.slice B9 m9 k9)) g32 65 #[.bool s9, .slice A9 l9 c9, .slice B9 m9 k9] := hB;have hQ : QFt (((w28.setCell ⟨g32, 0, none⟩ (.bool s9)).setCell ⟨g32, 1, none⟩ (.slice A9 l9 c9)).setCell ⟨g32, 2, none⟩ (.slice B9 m9 k9)) (.agg #[.bool s9, .slice A9 l9 c9, .slice B9 m9 k9]) (br pp qq aa dd (TT - fa.t) + ((r0 : Rat) + (rd : Rat) * (m : Rat) / ((16 : Int) : Rat)) * (kv : Rat) / (nn : Rat)) (100 + (17 + 4 + 4) + 1) := ⟨HQ0.out.1.past (NoInts.three HZ.out), HQ0.out.2⟩;have hHFQ : QFt (((w28.setCell ⟨g32, 0, none⟩ (.bool s9)).setCell ⟨g32, 1, none⟩ (.slice A9 l9 c9)).setCell ⟨g32, 2, none⟩ (.slice B9 m9 k9)) _ _ _ := ⟨HFQ.out.1.past' (NoInts.three HZ.out), HFQ.out.2⟩;generalize (((w28.setCell _ _).setCell _ _).setCell _ _) = w29 at hX2 hKT hKKf hKF7 hK6 hKM hHFQ hB hQ |-;clear HX KT KKf KF7 K6 KM HZ HQ0 HFQ;have HX := hid hX2;clear hX2;have KT := hid hKT;clear hKT;have KKf := hid hKKf;clear hKKf;have KF7 := hid hKF7;clear hKF7;have K6 := hid hK6;clear hK6;have KM := hid hKM;clear hKM;have HFQ := hid hHFQ;clear hHFQ;have KAT := hid hB;have HAT := hid hQ;clear hQ hgz hne9;have hlaw := mF (T := TT) (p := pp) (q := qq) (ac := aa) (i := k) (kf := kf) (n := nn) (r0 := r0) (r1 := r1) (m := m) (wd := aj (k0 * r1) 1000000) HG.out hin.1 (by omega) hin.2 hTb.1 hTb.2 hpB hqB hab (by rw [hdd]; first | exact HSL.out trivial | exact HSL.out rfl | exact HSL.out) hnr2.1 (by omega) hm2 (pz (Int.mul_nonneg HP.out.k.1 (by omega)) (by omega));rw [HPL.out, HPH.out, hdd, HKV.out] at hlaw
   have hf1 : fd r0 r1 m = (r0 : Rat) + (rd : Rat) * (m : Rat) / ((16 : Int) : Rat) := by unfold fd; rw [hrd]
   rw [hf1] at hlaw;have hl0 : xl = cM pl kf nn r0 r1 (aj (k0 * r1) 1000000) k := by rw [V0.out, HBL.out]
   have hl1 : xh = cN ph kf nn r0 r1 (aj (k0 * r1) 1000000) k := by rw [V1.out, HBH.out]
   rw [<- hl0, <- hl1] at hlaw;clear hl0 hl1 hf1;have hxr := au.1 (HAXS.out k hlt);have hxl2 := hxr _ (List.mem_cons_self);have hxh2 := hxr _ (List.mem_cons_of_mem _ List.mem_cons_self);rw [<- V0.out] at hxl2;rw [<- V1.out] at hxh2;clear hxr;replace hxl2 : -9223372036854775808 <= xl /\ xl <= 9223372036854775807 := by omega
   replace hxh2 : -9223372036854775808 <= xh /\ xh <= 9223372036854775807 := by omega
   obtain ⟨g1, hg1⟩ : ∃ x, aU (br pp qq aa dd (TT - fa.t) + ((r0 : Rat) + (rd : Rat) * (m : Rat) / ((16 : Int) : Rat)) * (kv : Rat) / (nn : Rat) - (xl : Rat)) = x := ⟨_, rfl⟩;obtain ⟨g2, hg2⟩ : ∃ x, aU (br pp qq aa dd (TT - fa.t) + ((r0 : Rat) + (rd : Rat) * (m : Rat) / ((16 : Int) : Rat)) * (kv : Rat) / (nn : Rat) - (xh : Rat)) = x := ⟨_, rfl⟩;have k1 := xF (g1 < 0) (by rw [<- hg1, ip]; exact Rat.not_lt.2 hlaw.1);have k2 := xF (0 < g2) (by have := dX.2 hlaw.2; rw [hg2] at this; omega);clear hlaw;refine nV g32 gm xl xh g1 g2 _ s9 A9 B9 l9 c9 m9 k9 _ hxl2 hxh2 HAT.out hg1 hg2 k1 k2 (KAT.out.cell 0) (KAT.out.cell 1) (KAT.out.cell 2) (KM.out.cell 0) (KM.out.cell 1) _ _ (by simp) ⟨rfl, rfl, trivial⟩ ?_;rintro w30 hX xv3 _ xv10 _;simp only [EndK, ae, Try.f3, ab, Option.bind_some, Nat.reduceBEq, if_true, if_false, Bool.false_eq_true, Option.getD_some, List.drop_succ_cons, List.drop_zero];simp only [Act.put, List.setIfInBounds_toArray, List.set_cons_succ, List.set_cons_zero];replace HX := xT HX hX;replace KT := xE KT hX;replace KKf := xE KKf hX;replace KF7 := xE KF7 hX;replace HFQ := hid (HFQ.out.ext hX);replace K6 := xE K6 hX;clear hX KM KAT HAT hg1 hg2 k1 k2 V0 V1 HSL HKV;go_wp2;go_roundg (3 - (k + 1))
   case rel => exact ⟨k + 1, rfl, by omega, by go_num, KT, KKf, KF7, HFQ, K6, HX⟩
   case measure => omega
  .
   obtain rfl : k = 3 := by omega
   have h4 : decide ((3 : Int) < (3 : Int)) = false := by decide
   go_wp2_with fail
   refine (bO _).mono ?_;rintro e w90 ⟨rfl, hX⟩;replace HX := xT HX hX;clear hX;go_wp2;go_ret;exact ⟨rfl, HX.out⟩
end Go.Proofs.Ytikhlcgnlbinfaa
