/- Lemmas of the proof that follows (Solves, part 14): walks of functions by contract, and plain lemmas. Conditions: none. -/
import Derived.Test.YtikhlcgnlbinfaaSolvesM
set_option maxRecDepth 100000
set_option maxHeartbeats 32000000
namespace Go.Proofs.Ytikhlcgnlbinfaa
open Lib (hid)
open Go.RowKit
theorem sF : Elem Try.prog 239 63 2 32 (.agg #[.bool false, .slice none 0 0]) := Elem.mk' (by kernel_rfl) (by kernel_rfl) rfl (by decide)
theorem sz : Elem Try.prog 206 239 1 24 (.slice none 0 0) := Elem.mk' (by kernel_rfl) (by kernel_rfl) rfl (by decide)
theorem sG : ∀ u ∈ (Value.agg #[.bool false, .slice none 0 0]).cells, bC u := by
 intro u hu;simp [Value.cells] at hu
 rcases hu with rfl | rfl
 .
  exact ak _
 .
  exact ag _ _ _
/-- An integer of the reference in a block of its own, its limbs away from X. -/
def NB (X : Option Nat) (w : World) (g : Nat) (z : Int) : Prop := ∃ s A l c, Blk w g 63 #[.bool s, .slice A l c] /\ IntA X w (.agg #[.bool s, .slice A l c]) z
theorem NB.ext {X : Option Nat} {w w' : World} {g : Nat} {z : Int} (h : NB X w g z) (he : Ext w w') : NB X w' g z := by
 obtain ⟨s, A, l, c, h1, h2⟩ := h;exact ⟨s, A, l, c, h1.ext he, h2.ext he⟩
theorem NB.keepsNI {X : Option Nat} {w w' : World} {g : Nat} {z : Int} {L : List Nat} (h : NB X w g z) (hk : Keeps L w w') (hN : ∀ g ∈ L, NoInts w g) (hg : g ∉ L) : NB X w' g z := by
 obtain ⟨s, A, l, c, h1, h2⟩ := h;exact ⟨s, A, l, c, h1.keeps hk hg, h2.keepsNI hk hN⟩
theorem NB.grown {X X' : Option Nat} {w w' : World} {g : Nat} {z : Int} (h : NB X w g z) (hg : w.grownBy w' X) (hX : X' = X \/ X' = some w.heap.size) (hne : X ≠ some g) : NB X' w' g z := by
 obtain ⟨s, A, l, c, h1, h2⟩ := h;exact ⟨s, A, l, c, h1.grown hg (fun e => hne e.symm), h2.grown hg hX⟩
theorem NB.lt {X : Option Nat} {w : World} {g : Nat} {z : Int} (h : NB X w g z) : g < w.heap.size := by
 obtain ⟨s, A, l, c, h1, h2⟩ := h;exact h1.lt
/-- Such a block gets another integer. -/
theorem NB.put {X : Option Nat} {w : World} {g : Nat} {z y : Int} (h : NB X w g z) {s : Bool} {A : Option Addr} {l c : Nat} (hy : IntA X w (.agg #[.bool s, .slice A l c]) y) : NB X ((w.setCell ⟨g, 0, none⟩ (.bool s)).setCell ⟨g, 1, none⟩ (.slice A l c)) g y /\ Keeps [g] w ((w.setCell ⟨g, 0, none⟩ (.bool s)).setCell ⟨g, 1, none⟩ (.slice A l c)) /\ NoInts w g := by
 obtain ⟨s', A', l', c', h1, h2⟩ := h;have hk : Keeps [g] w ((w.setCell ⟨g, 0, none⟩ (.bool s)).setCell ⟨g, 1, none⟩ (.slice A l c)) := ((Keeps.refl [g] w).setCell (.inl (by simp)) _).setCell (.inl (by simp)) _;have hN := NoInts.two h1;exact ⟨⟨s, A, l, c, by simpa using (h1.set 0 (.bool s)).set 1 (.slice A l c), hy.keepsNI hk (fun q hq => by simp at hq; subst hq; exact hN)⟩, hk, hN⟩
/-- The columns of the pivots. -/
def ColR (base : Nat) (w : World) (v : Value) (l : List Nat) : Prop := w.ownsRow base 3 1 v l.length (l.map fun j : Nat => .int .i64 (j : Int))
theorem ColR.ext {base : Nat} {w w' : World} {v : Value} {l : List Nat} (h : ColR base w v l) (he : Ext w w') : ColR base w' v l := World.ownsRow.ext' h he
theorem qK (gm ct nn aa bb ga gb ca cb : Nat) (tt : TypeId) (cur : Array Value) (w : World) (hB : Blk w gm tt cur) (ha : cur[aa]? = some (.slice (some ⟨ga, 0, none⟩) (nn + 1) ca)) (hb : cur[bb]? = some (.slice (some ⟨gb, 0, none⟩) (nn + 1) cb)) (hbs : bb < cur.size) (_hA1 : aa < nn) (hB1 : bb < nn) (a : Act) (Q : Exit -> Act -> World -> Prop) (hsize : 102 <= a.tmps.size)
  (s8 : a.tmps[8]? = some (.slice (some ⟨gm, 0, none⟩) nn ct))
  (s15 : a.tmps[15]? = some (.int .i64 (aa : Int)))
  (s16 : a.tmps[16]? = some (.int .i64 (bb : Int)))
  (hend : ∀ (xv0 xv1 xv2 xv3 xv4 xv5 xv6 xv7 xv8 xv9 xv10 xv11 xv12 xv13 xv14 xv15 : Value) (W : World), (xv0 = .slice (some ⟨gm, 0, none⟩) nn ct) -> (xv1 = .int .i64 (aa : Int)) -> (xv2 = .slice (some ⟨gm, 0, none⟩) nn ct) -> (xv3 = .int .i64 (bb : Int)) -> (xv4 = .slice (some ⟨gm, 0, none⟩) nn ct) -> (xv5 = .int .i64 (bb : Int)) -> (xv6 = .pointer (some ⟨gm, bb, none⟩)) -> (xv7 = .slice (some ⟨gb, 0, none⟩) (nn + 1) cb) -> (xv8 = .slice (some ⟨gm, 0, none⟩) nn ct) -> (xv9 = .int .i64 (aa : Int)) -> (xv10 = .pointer (some ⟨gm, aa, none⟩)) -> (xv11 = .slice (some ⟨ga, 0, none⟩) (nn + 1) ca) -> (xv12 = .pointer (some ⟨gm, aa, none⟩)) -> (True) -> (xv14 = .pointer (some ⟨gm, bb, none⟩)) -> (True) -> W = ((w.drew.setCell ⟨gm, aa, none⟩ (.slice (some ⟨gb, 0, none⟩) (nn + 1) cb)).setCell ⟨gm, bb, none⟩ (.slice (some ⟨ga, 0, none⟩) (nn + 1) ca)) -> wpList Try.prog (ae Try.f123 23).toArray Q ((ae Try.f123 23).drop 16) ((((((((((((((((a.put (some 88) xv0).put (some 89) xv1).put (some 90) xv2).put (some 91) xv3).put (some 92) xv4).put (some 93) xv5).put (some 94) xv6).put (some 95) xv7).put (some 96) xv8).put (some 97) xv9).put (some 98) xv10).put (some 99) xv11).put (some 100) xv12).put (none) xv13).put (some 101) xv14).put (none) xv15) W) :
  (Code.region 23 (ae Try.f123 23).toArray true).wp Try.prog Q a w := by
 have hsz : ∀ d, some d ∈ ([some 88, some 89, some 90, some 91, some 92, some 93, some 94, some 95, some 96, some 97, some 98, some 99, some 100, none, some 101, none] : List (Option Tmp)) -> d < a.tmps.size := cC (by decide) hsize
 refine bA 16 [some 88, some 89, some 90, some 91, some 92, some 93, some 94, some 95, some 96, some 97, some 98, some 99, some 100, none, some 101, none] [[], [], [], [], [], [], [4, 5], [6], [], [], [8, 9], [10], [0, 1], [7, 12], [2, 3], [11, 13, 14]] [[], [], [], [], [], [], [], [13, 15], [], [], [], [13, 15], [], [15], [], []] (fun i v _ => match i with
  | 0 => v = .slice (some ⟨gm, 0, none⟩) nn ct
  | 1 => v = .int .i64 (aa : Int)
  | 2 => v = .slice (some ⟨gm, 0, none⟩) nn ct
  | 3 => v = .int .i64 (bb : Int)
  | 4 => v = .slice (some ⟨gm, 0, none⟩) nn ct
  | 5 => v = .int .i64 (bb : Int)
  | 6 => v = .pointer (some ⟨gm, bb, none⟩)
  | 7 => v = .slice (some ⟨gb, 0, none⟩) (nn + 1) cb
  | 8 => v = .slice (some ⟨gm, 0, none⟩) nn ct
  | 9 => v = .int .i64 (aa : Int)
  | 10 => v = .pointer (some ⟨gm, aa, none⟩)
  | 11 => v = .slice (some ⟨ga, 0, none⟩) (nn + 1) ca
  | 12 => v = .pointer (some ⟨gm, aa, none⟩)
  | 13 => True
  | 14 => v = .pointer (some ⟨gm, bb, none⟩)
  | 15 => True
  | _ => True) (fun done W => (¬ done 13 -> ¬ done 15 -> W = w.drew) /\ (done 13 -> ¬ done 15 -> W = (w.drew.setCell ⟨gm, aa, none⟩ (.slice (some ⟨gb, 0, none⟩) (nn + 1) cb))) /\ (done 15 -> W = ((w.drew.setCell ⟨gm, aa, none⟩ (.slice (some ⟨gb, 0, none⟩) (nn + 1) cb)).setCell ⟨gm, bb, none⟩ (.slice (some ⟨ga, 0, none⟩) (nn + 1) ca)))) (by kernel_rfl) (by kernel_rfl) hsz (fun p q W h hj => by have e : p = q := funext fun k => propext (h k); subst e; exact hj) ⟨fun _ _ => rfl, fun h => h.elim, fun h => h.elim⟩ ?_ ?_
 .
  clear hend;simp only [ae, Try.f123, ab, Option.bind_some, Nat.reduceBEq, if_true, if_false, Bool.false_eq_true, Option.getD_some];simp only [List.take_succ_cons, List.take_zero];refine ⟨?_, ?_, ?_, ?_, ?_, ?_, ?_, ?_, ?_, ?_, ?_, ?_, ?_, ?_, ?_, ?_, trivial⟩
  .
   intro done us W hJ hdep haft hnot b hb hb' K hK Q';have e8 := (hb' 8 (by simp)).trans s8;clear hb hb';go_simp;exact hK _ _ rfl (fun _ _ _ h => h) (by simpa using hJ)
  .
   intro done us W hJ hdep haft hnot b hb hb' K hK Q';have e15 := (hb' 15 (by simp)).trans s15;clear hb hb';go_simp;exact hK _ _ rfl (fun _ _ _ h => h) (by simpa using hJ)
  .
   intro done us W hJ hdep haft hnot b hb hb' K hK Q';have e8 := (hb' 8 (by simp)).trans s8;clear hb hb';go_simp;exact hK _ _ rfl (fun _ _ _ h => h) (by simpa using hJ)
  .
   intro done us W hJ hdep haft hnot b hb hb' K hK Q';have e16 := (hb' 16 (by simp)).trans s16;clear hb hb';go_simp;exact hK _ _ rfl (fun _ _ _ h => h) (by simpa using hJ)
  .
   intro done us W hJ hdep haft hnot b hb hb' K hK Q';have e8 := (hb' 8 (by simp)).trans s8;clear hb hb';go_simp;exact hK _ _ rfl (fun _ _ _ h => h) (by simpa using hJ)
  .
   intro done us W hJ hdep haft hnot b hb hb' K hK Q';have e16 := (hb' 16 (by simp)).trans s16;clear hb hb';go_simp;exact hK _ _ rfl (fun _ _ _ h => h) (by simpa using hJ)
  .
   intro done us W hJ hdep haft hnot b hb hb' K hK Q';simp only [List.getD_cons_succ, List.getD_cons_zero, List.mem_cons, List.not_mem_nil, or_false, forall_eq_or_imp, forall_eq] at hdep;have e92 := hb 4 92 rfl;have e93 := hb 5 93 rfl;have d4 := hdep.1;have d5 := hdep.2;rw [d4.1] at e92;rw [d5.1] at e93;clear hb hb' hdep d4 d5;go_simp;exact hK _ _ rfl (fun _ _ _ h => h) (by simpa using hJ)
  .
   intro done us W hJ hdep haft hnot b hb hb' K hK Q';simp only [List.getD_cons_succ, List.getD_cons_zero, List.mem_cons, List.not_mem_nil, or_false, forall_eq] at hdep;simp only [List.getD_cons_succ, List.getD_cons_zero, List.mem_cons, List.not_mem_nil, or_false, forall_eq_or_imp, forall_eq] at haft;have e94 := hb 6 94 rfl;have d6 := hdep;rw [d6.1] at e94;clear hb hb' hdep d6;obtain rfl := hJ.1 haft.1 haft.2;have q1 := (hB.drew.cell bb).trans hb;go_simp;exact hK _ _ rfl (fun _ _ _ h => h) (by simpa using hJ)
  .
   intro done us W hJ hdep haft hnot b hb hb' K hK Q';have e8 := (hb' 8 (by simp)).trans s8;clear hb hb';go_simp;exact hK _ _ rfl (fun _ _ _ h => h) (by simpa using hJ)
  .
   intro done us W hJ hdep haft hnot b hb hb' K hK Q';have e15 := (hb' 15 (by simp)).trans s15;clear hb hb';go_simp;exact hK _ _ rfl (fun _ _ _ h => h) (by simpa using hJ)
  .
   intro done us W hJ hdep haft hnot b hb hb' K hK Q';simp only [List.getD_cons_succ, List.getD_cons_zero, List.mem_cons, List.not_mem_nil, or_false, forall_eq_or_imp, forall_eq] at hdep;have e96 := hb 8 96 rfl;have e97 := hb 9 97 rfl;have d8 := hdep.1;have d9 := hdep.2;rw [d8.1] at e96;rw [d9.1] at e97;clear hb hb' hdep d8 d9;go_simp;exact hK _ _ rfl (fun _ _ _ h => h) (by simpa using hJ)
  .
   intro done us W hJ hdep haft hnot b hb hb' K hK Q';simp only [List.getD_cons_succ, List.getD_cons_zero, List.mem_cons, List.not_mem_nil, or_false, forall_eq] at hdep;simp only [List.getD_cons_succ, List.getD_cons_zero, List.mem_cons, List.not_mem_nil, or_false, forall_eq_or_imp, forall_eq] at haft;have e98 := hb 10 98 rfl;have d10 := hdep;rw [d10.1] at e98;clear hb hb' hdep d10;obtain rfl := hJ.1 haft.1 haft.2;have q1 := (hB.drew.cell aa).trans ha;go_simp;exact hK _ _ rfl (fun _ _ _ h => h) (by simpa using hJ)
  .
   intro done us W hJ hdep haft hnot b hb hb' K hK Q';simp only [List.getD_cons_succ, List.getD_cons_zero, List.mem_cons, List.not_mem_nil, or_false, forall_eq_or_imp, forall_eq] at hdep;have e88 := hb 0 88 rfl;have e89 := hb 1 89 rfl;have d0 := hdep.1;have d1 := hdep.2;rw [d0.1] at e88;rw [d1.1] at e89;clear hb hb' hdep d0 d1;go_simp;exact hK _ _ rfl (fun _ _ _ h => h) (by simpa using hJ)
  .
   intro done us W hJ hdep haft hnot b hb hb' K hK Q';simp only [List.getD_cons_succ, List.getD_cons_zero, List.mem_cons, List.not_mem_nil, or_false, forall_eq_or_imp, forall_eq] at hdep;simp only [List.getD_cons_succ, List.getD_cons_zero, List.mem_cons, List.not_mem_nil, or_false, forall_eq_or_imp, forall_eq] at haft;have e95 := hb 7 95 rfl;have e100 := hb 12 100 rfl;have d7 := hdep.1;have d12 := hdep.2;rw [d7.1] at e95;rw [d12.1] at e100;clear hb hb' hdep d7 d12;obtain rfl := hJ.1 hnot haft;have q1 := (hB.drew.cell aa).trans ha;have q2 := hB.drew.free aa;have hfin := hK undef _ trivial (fun _ _ _ h => h) ⟨fun h => absurd (.inr rfl) h, fun _ _ => rfl, fun h => absurd (h.resolve_right (by decide)) haft⟩;clear hK hJ;go_simp;exact hfin
  .
   intro done us W hJ hdep haft hnot b hb hb' K hK Q';simp only [List.getD_cons_succ, List.getD_cons_zero, List.mem_cons, List.not_mem_nil, or_false, forall_eq_or_imp, forall_eq] at hdep;have e90 := hb 2 90 rfl;have e91 := hb 3 91 rfl;have d2 := hdep.1;have d3 := hdep.2;rw [d2.1] at e90;rw [d3.1] at e91;clear hb hb' hdep d2 d3;go_simp;exact hK _ _ rfl (fun _ _ _ h => h) (by simpa using hJ)
  .
   intro done us W hJ hdep haft hnot b hb hb' K hK Q';simp only [List.getD_cons_succ, List.getD_cons_zero, List.mem_cons, List.not_mem_nil, or_false, forall_eq_or_imp, forall_eq] at hdep;have e99 := hb 11 99 rfl;have e101 := hb 14 101 rfl;have d11 := hdep.1;have d13 := hdep.2.1;have d14 := hdep.2.2;rw [d11.1] at e99;rw [d14.1] at e101;clear hb hb' hdep d11 d14;obtain rfl := hJ.2.1 d13.2 hnot;have hB1 := hB.set aa (.slice (some ⟨gb, 0, none⟩) (nn + 1) cb);obtain ⟨u, hu⟩ : ∃ u, (cur.setIfInBounds aa (.slice (some ⟨gb, 0, none⟩) (nn + 1) cb))[bb]? = some u := ⟨_, Array.getElem?_eq_getElem (by simpa using hbs)⟩;have q1 := (hB1.cell bb).trans hu;have q2 := hB.free bb;have hfin := hK undef _ trivial (fun _ _ _ h => h) ⟨fun _ h => absurd (.inr rfl) h, fun _ h => absurd (.inr rfl) h, fun _ => rfl⟩;clear hK hJ hB1;go_simp;exact hfin
 .
  intro us W hV hJ;exact hend (us 0) (us 1) (us 2) (us 3) (us 4) (us 5) (us 6) (us 7) (us 8) (us 9) (us 10) (us 11) (us 12) (us 13) (us 14) (us 15) W (hV 0 (by omega)) (hV 1 (by omega)) (hV 2 (by omega)) (hV 3 (by omega)) (hV 4 (by omega)) (hV 5 (by omega)) (hV 6 (by omega)) (hV 7 (by omega)) (hV 8 (by omega)) (hV 9 (by omega)) (hV 10 (by omega)) (hV 11 (by omega)) (hV 12 (by omega)) (hV 13 (by omega)) (hV 14 (by omega)) (hV 15 (by omega)) (by simpa using hJ)
theorem qL (gm ct nn rr gr cr kk aa ga ca gp gf gl : Nat) (xz pz yz fz lz nz : Int) (X : Option Nat) (sx : Bool) (Ax : Option Addr) (lx cx : Nat) (sp : Bool) (Ap : Option Addr) (lp cp : Nat) (sy : Bool) (Ay : Option Addr) (ly cy : Nat) (sf : Bool) (Af : Option Addr) (lf cf : Nat) (sl : Bool) (Al : Option Addr) (ll cl : Nat) (w : World) (hr : w.cell? ⟨gm, rr, none⟩ = some (.slice (some ⟨gr, 0, none⟩) (nn + 1) cr)) (ha : w.cell? ⟨gm, aa, none⟩ = some (.slice (some ⟨ga, 0, none⟩) (nn + 1) ca)) (x0 : w.cell? ⟨gr, kk * 2, none⟩ = some (.bool sx)) (x1 : w.cell? ⟨gr, kk * 2 + 1, none⟩ = some (.slice Ax lx cx)) (p0 : w.cell? ⟨gp, 0, none⟩ = some (.bool sp)) (p1 : w.cell? ⟨gp, 1, none⟩ = some (.slice Ap lp cp)) (y0 : w.cell? ⟨ga, kk * 2, none⟩ = some (.bool sy)) (y1 : w.cell? ⟨ga, kk * 2 + 1, none⟩ = some (.slice Ay ly cy)) (f0 : w.cell? ⟨gf, 0, none⟩ = some (.bool sf)) (f1 : w.cell? ⟨gf, 1, none⟩ = some (.slice Af lf cf)) (l0 : w.cell? ⟨gl, 0, none⟩ = some (.bool sl)) (l1 : w.cell? ⟨gl, 1, none⟩ = some (.slice Al ll cl)) (_hrn : rr < nn) (_han : aa < nn) (_hkn : kk < nn + 1) (_hkn2 : (kk : Int) < (nn : Int) + 1) (hx : IntA X w (.agg #[.bool sx, .slice Ax lx cx]) xz) (hp : IntA X w (.agg #[.bool sp, .slice Ap lp cp]) pz) (hy : IntA X w (.agg #[.bool sy, .slice Ay ly cy]) yz) (hf : IntA X w (.agg #[.bool sf, .slice Af lf cf]) fz) (hl : IntA X w (.agg #[.bool sl, .slice Al ll cl]) lz) (fx : Fit 65536 xz.natAbs 106) (fp : Fit 65536 pz.natAbs 106) (fy : Fit 65536 yz.natAbs 106) (ff : Fit 65536 fz.natAbs 106) (hl0 : lz ≠ 0) (heq : xz * pz + -(yz * fz) = lz * nz) (hXg : ∀ g, X = some g -> g < w.heap.size) : aF Try.prog Try.f123 33 28 157 w [129, 130, 131, 132, 133, 134, 135, 136, 137, 138, 139, 140, 141, 142, 143, 144, 145, 146, 147, 148, 149, 150, 151, 152, 153, 154, 155, 156] [.c (.slice (some ⟨gm, 0, none⟩) nn ct), .c (.int .i64 (rr : Int)), .c (.pointer (some ⟨gm, rr, none⟩)), .c (.slice (some ⟨gr, 0, none⟩) (nn + 1) cr), .c (.int .i64 (kk : Int)), .c (.slice (some ⟨gm, 0, none⟩) nn ct), .c (.int .i64 (rr : Int)), .c (.pointer (some ⟨gm, rr, none⟩)), .c (.slice (some ⟨gr, 0, none⟩) (nn + 1) cr), .c (.int .i64 (kk : Int)), .c (.pointer (some ⟨gr, kk * 2, none⟩)), .c (.agg #[.bool sx, .slice Ax lx cx]), .c (.agg #[.bool sp, .slice Ap lp cp]), .p fun v W => IntZ W v (xz * pz), .c (.slice (some ⟨gm, 0, none⟩) nn ct), .c (.int .i64 (aa : Int)), .c (.pointer (some ⟨gm, aa, none⟩)), .c (.slice (some ⟨ga, 0, none⟩) (nn + 1) ca), .c (.int .i64 (kk : Int)), .c (.pointer (some ⟨ga, kk * 2, none⟩)), .c (.agg #[.bool sy, .slice Ay ly cy]), .c (.agg #[.bool sf, .slice Af lf cf]), .p fun v W => IntZ W v (yz * fz), .p fun v W => IntZ W v (-(yz * fz)), .p fun v W => IntZ W v (xz * pz + -(yz * fz)), .c (.agg #[.bool sl, .slice Al ll cl]), .p fun v W => IntA X W v (nz), .c (.pointer (some ⟨gr, kk * 2, none⟩))] [(8, .slice (some ⟨gm, 0, none⟩) nn ct), (12, .pointer (some ⟨gl, 0, none⟩)), (15, .int .i64 (aa : Int)), (17, .pointer (some ⟨gp, 0, none⟩)), (18, .int .i64 (rr : Int)), (19, .pointer (some ⟨gf, 0, none⟩)), (20, .int .i64 (kk : Int))] := by
 refine aJ [[], [], [0, 1], [2], [], [], [], [5, 6], [7], [], [8, 9], [10], [], [11, 12], [], [], [14, 15], [16], [], [17, 18], [19], [], [20, 21], [22], [13, 23], [], [24, 25], [3, 4]] (by kernel_rfl) (by kernel_rfl) rfl ⟨by intro v W W' h hX; exact IntZ.ext h hX, by intro v W W' h hX; exact IntZ.ext h hX, by intro v W W' h hX; exact IntZ.ext h hX, by intro v W W' h hX; exact IntZ.ext h hX, by intro v W W' h hX; exact IntA.ext h hX, trivial⟩ ?_;simp only [ae, Try.f123, ab, Option.bind_some, Nat.reduceBEq, if_true, if_false, Bool.false_eq_true, Option.getD_some];simp only [List.take_succ_cons, List.take_zero]
 repeat' first | refine ⟨?_, ?_⟩ | fail
 all_goals first | (intro us W b hJ K hK0 hK Qz; simp only [aC, al, am, List.getD_cons_succ, List.getD_cons_zero]) | exact True.intro
 all_goals try (intros; have q0 := Ext.cell hJ hr; have q1 := Ext.cell hJ x0; have q2 := Ext.cell hJ x1; have q3 := Ext.cell hJ p0; have q4 := Ext.cell hJ p1; have q5 := Ext.cell hJ ha; have q6 := Ext.cell hJ y0; have q7 := Ext.cell hJ y1; have q8 := Ext.cell hJ f0; have q9 := Ext.cell hJ f1; have q10 := Ext.cell hJ l0; have q11 := Ext.cell hJ l1; go_simp; exact hK0 _ rfl)
 .
  intro e140 e141 e8 e12 e15 e17 e18 e19 e20;go_simp;refine (dj _ _ xz pz 106 106 W (hx.int.ext hJ) (hp.int.ext hJ) fx fp (by omega) (by omega)).mono ?_;rintro e w' ⟨v, rfl, hv, hX⟩;exact hK _ _ hv hX
 .
  intro e149 e150 e8 e12 e15 e17 e18 e19 e20;go_simp;refine (dj _ _ yz fz 106 106 W (hy.int.ext hJ) (hf.int.ext hJ) fy ff (by omega) (by omega)).mono ?_;rintro e w' ⟨v, rfl, hv, hX⟩;exact hK _ _ hv hX
 .
  intro e151 d22 e8 e12 e15 e17 e18 e19 e20;go_simp;refine (dK _ (yz * fz) W d22).mono ?_;rintro e w' ⟨v, rfl, hv, hX⟩;exact hK _ _ hv hX
 .
  intro e142 d13 e152 d23 e8 e12 e15 e17 e18 e19 e20;go_simp;refine (io _ _ (xz * pz) (-(yz * fz)) 212 W d13 d23 (bJ fx fp (by omega)) (by rw [Int.natAbs_neg]; exact bJ fy ff (by omega)) (by omega)).mono ?_;rintro e w' ⟨v, rfl, hv, hX⟩;exact hK _ _ hv hX
 .
  intro e153 d24 e154 e8 e12 e15 e17 e18 e19 e20;go_simp;refine (jV _ _ (xz * pz + -(yz * fz)) lz nz 213 X W d24 (hl.int.ext hJ) (ip (bJ fx fp (by omega)) (by rw [Int.natAbs_neg]; exact bJ fy ff (by omega)) (by omega) (a := 212)) (by omega) hl0 heq (fun g hg => Nat.lt_of_lt_of_le (hXg g hg) hJ.size)).mono ?_;rintro e w' ⟨v, rfl, hv, hX⟩;exact hK _ _ hv hX
theorem qM (gm ct nn gl gz : Nat) (cv : Value) (sl : Bool) (Al : Option Addr) (ll cl : Nat) (w : World) (kl : Blk w gl 63 #[.bool sl, .slice Al ll cl]) (kz : Blk w gz 63 #[.bool false, .slice none 0 0]) (a : Act) (Q : Exit -> Act -> World -> Prop) (hsize : 165 <= a.tmps.size)
  (s4 : a.tmps[4]? = some (.pointer (some ⟨gz, 0, none⟩)))
  (s8 : a.tmps[8]? = some (.slice (some ⟨gm, 0, none⟩) nn ct))
  (s12 : a.tmps[12]? = some (.pointer (some ⟨gl, 0, none⟩)))
  (s13 : a.tmps[13]? = some (cv))
  (hend : ∀ (xv0 xv1 xv2 xv3 xv4 xv5 : Value) (W : World), (xv0 = .slice (some ⟨gm, 0, none⟩) nn ct) -> (xv1 = cv) -> (xv2 = .agg #[.bool sl, .slice Al ll cl]) -> (xv3 = .slice (some ⟨gm, 0, none⟩) nn ct) -> (xv4 = cv) -> (True) -> W = ((w.drew.setCell ⟨gz, 0, none⟩ (.bool sl)).setCell ⟨gz, 1, none⟩ (.slice Al ll cl)) -> wpList Try.prog (ae Try.f123 36).toArray Q ((ae Try.f123 36).drop 6) ((((((a.put (some 162) xv0).put (some 163) xv1).put (some 164) xv2).put (some 2) xv3).put (some 3) xv4).put (none) xv5) W) :
  (Code.region 36 (ae Try.f123 36).toArray true).wp Try.prog Q a w := by
 have hsz : ∀ d, some d ∈ ([some 162, some 163, some 164, some 2, some 3, none] : List (Option Tmp)) -> d < a.tmps.size := cC (by decide) hsize
 refine bA 6 [some 162, some 163, some 164, some 2, some 3, none] [[], [], [], [0], [1], [2]] [[], [], [5], [], [], []] (fun i v _ => match i with
  | 0 => v = .slice (some ⟨gm, 0, none⟩) nn ct
  | 1 => v = cv
  | 2 => v = .agg #[.bool sl, .slice Al ll cl]
  | 3 => v = .slice (some ⟨gm, 0, none⟩) nn ct
  | 4 => v = cv
  | 5 => True
  | _ => True) (fun done W => (¬ done 5 -> W = w.drew) /\ (done 5 -> W = ((w.drew.setCell ⟨gz, 0, none⟩ (.bool sl)).setCell ⟨gz, 1, none⟩ (.slice Al ll cl)))) (by kernel_rfl) (by kernel_rfl) hsz (fun p q W h hj => by have e : p = q := funext fun k => propext (h k); subst e; exact hj) ⟨fun _ => rfl, fun h => h.elim⟩ ?_ ?_
 .
  clear hend;simp only [ae, Try.f123, ab, Option.bind_some, Nat.reduceBEq, if_true, if_false, Bool.false_eq_true, Option.getD_some];simp only [List.take_succ_cons, List.take_zero];refine ⟨?_, ?_, ?_, ?_, ?_, ?_, trivial⟩
  .
   intro done us W hJ hdep haft hnot b hb hb' K hK Q';have e8 := (hb' 8 (by simp)).trans s8;clear hb hb';go_simp;exact hK _ _ rfl (fun _ _ _ h => h) (by simpa using hJ)
  .
   intro done us W hJ hdep haft hnot b hb hb' K hK Q';have e13 := (hb' 13 (by simp)).trans s13;clear hb hb';go_simp;exact hK _ _ rfl (fun _ _ _ h => h) (by simpa using hJ)
  .
   intro done us W hJ hdep haft hnot b hb hb' K hK Q';simp only [List.getD_cons_succ, List.getD_cons_zero, List.mem_cons, List.not_mem_nil, or_false, forall_eq_or_imp, forall_eq] at haft;have e12 := (hb' 12 (by simp)).trans s12;clear hb hb';obtain rfl := hJ.1 haft;have q0 := (kl.drew.cell 0);have q1 := (kl.drew.cell 1);simp only [List.getElem?_toArray, List.getElem?_cons_zero, List.getElem?_cons_succ] at q0 q1;go_simp;exact hK _ _ rfl (fun _ _ _ h => h) (by simpa using hJ)
  .
   intro done us W hJ hdep haft hnot b hb hb' K hK Q';simp only [List.getD_cons_succ, List.getD_cons_zero, List.mem_cons, List.not_mem_nil, or_false, forall_eq] at hdep;have e162 := hb 0 162 rfl;have d0 := hdep;rw [d0.1] at e162;clear hb hb' hdep d0;go_simp;exact hK _ _ rfl (fun _ _ _ h => h) (by simpa using hJ)
  .
   intro done us W hJ hdep haft hnot b hb hb' K hK Q';simp only [List.getD_cons_succ, List.getD_cons_zero, List.mem_cons, List.not_mem_nil, or_false, forall_eq] at hdep;have e163 := hb 1 163 rfl;have d1 := hdep;rw [d1.1] at e163;clear hb hb' hdep d1;go_simp;exact hK _ _ rfl (fun _ _ _ h => h) (by simpa using hJ)
  .
   intro done us W hJ hdep haft hnot b hb hb' K hK Q';simp only [List.getD_cons_succ, List.getD_cons_zero, List.mem_cons, List.not_mem_nil, or_false, forall_eq] at hdep;have e4 := (hb' 4 (by simp)).trans s4;have e164 := hb 2 164 rfl;have d2 := hdep;rw [d2.1] at e164;clear hb hb' hdep d2;obtain rfl := hJ.1 hnot;have q0 := kz.drew.cell 0;have q1 := kz.drew.cell 1;have f0 := kz.drew.free 0;have f1 := kz.drew.free 1;have q2 := kz.cell 0;have q3 := kz.cell 1;have f2 := kz.free 0;have f3 := kz.free 1;simp only [List.getElem?_toArray, List.getElem?_cons_zero, List.getElem?_cons_succ] at q0 q1 q2 q3;have hfin := hK undef _ trivial (fun _ _ _ h => h) ⟨fun h => absurd (.inr rfl) h, fun _ => rfl⟩;clear hK hJ;go_simp;exact hfin
 .
  intro us W hV hJ;exact hend (us 0) (us 1) (us 2) (us 3) (us 4) (us 5) W (hV 0 (by omega)) (hV 1 (by omega)) (hV 2 (by omega)) (hV 3 (by omega)) (hV 4 (by omega)) (hV 5 (by omega)) (by simpa using hJ)
theorem oP (S nn : Nat) (A : Option Addr) (n c : Nat) (ms : List Mt) (w : World) (h : MsAt w A n ms) (hv : VP S ms) (hN : nn = 3 * S) :
  Calls Try.prog 123 #[.agg #[.int .i64 (S : Int), .slice A n c]] w (fun e w' => ∃ gm ct vs cv sl Al ll cl, e = .returned (.tuple #[.slice (some ⟨gm, 0, none⟩) nn ct, cv, .agg #[.bool sl, .slice Al ll cl]]) /\ TabG 2 o4 63 239 w.heap.size w' gm ct nn (nn + 1) vs (zR ms nn nn) /\ ColR w.heap.size w' cv (kR ms nn nn) /\ IntZ w' (.agg #[.bool sl, .slice Al ll cl]) (lR ms nn nn) /\ Ext w w') := by
 have hS1 : 1 <= S := by have := hv.1; omega
 have hS8 : S <= 8 := by have := hv.2.1; omega
 have hNb : nn <= 24 := by omega
 have hN0 : 0 < nn := by omega
 have hbd : ∀ i j, (-9223372036854775808 <= cJ ms i j /\ cJ ms i j <= 9223372036854775807) /\ (-9223372036854775808 <= cK ms i /\ cK ms i <= 9223372036854775807) := fun i j => by
  have h1 := dv hv.2.2.2 i j;have h2 := dw hv.2.2.2 i;have := hv.2.2.1;omega
 have HBD := hid hbd;have H := hid h;have HV := hid hv;have HNN := hid hN;clear h hv hN hbd;have hXe : Ext w ((w.alloc (.cells #[.int .i64 (S : Int), .slice A n c] 76)).alloc (.cells #[.bool false, .slice none 0 0] 63)) := ((Ext.refl w).alloc _).alloc _;have kP : Blk ((w.alloc (.cells #[.int .i64 (S : Int), .slice A n c] 76)).alloc (.cells #[.bool false, .slice none 0 0] 63)) w.heap.size 76 #[.int .i64 (S : Int), .slice A n c] := Blk.alloc (Blk.new w _ _) _;have kR' : Blk ((w.alloc (.cells #[.int .i64 (S : Int), .slice A n c] 76)).alloc (.cells #[.bool false, .slice none 0 0] 63)) (w.heap.size + 1) 63 #[.bool false, .slice none 0 0] := Blk.at_ (by simp);go_enter Try.func123, Try.ntmps123
 go_upto_region 1 with (fail)
 generalize (w.alloc _).alloc _ = w1 at hXe kP kR' |-;have HX := hid hXe;have HR := hid kR';have p0 := kP.cell 0;have p1 := kP.cell 1;simp only [List.getElem?_toArray, List.getElem?_cons_zero, List.getElem?_cons_succ] at p0 p1;clear hXe kR'
 go_wp2_with fail
 refine (jW S nn A n c ms _ (H.out.ext HX.out) HV.out HNN.out).mono ?_;rintro e w2 ⟨gt, gr, vsl, rfl, hT, hr, hgr, hful, hX⟩;have hrs := HR.out.lt;have hs12 := hX.size;replace HX := hid (HX.out.trans hX);replace HR := hid (HR.out.ext hX);have HE := hid hT;have HER := hid hr;clear hX kP p0 p1 hT hr hgr hful
 go_wp2_with fail
 go_loopg [9, 8] nn (fun f iv mv wr => ∃ (k : Nat) (vs : List Value), f = nn - k /\ k <= nn /\ iv = .int .i64 (k : Int) /\ Hid (wr.ownsRow w2.heap.size 239 1 mv k vs) /\ Hid (RowNI wr mv) /\ Hid (Tbl 2 o4 63 w2.heap.size wr k (nn + 1) vs (zR ms nn 0)) /\ Hid (TblNI wr vs) /\ Hid (Ext w2 wr))
 case atStart => exact ⟨0, [], by omega, by omega, rfl, hid (World.ownsRow_nil _ _ _ _), hid (RowNI.nil _), hid (Tbl.nil _ _ _ _ _ _ _), hid (fun v hv => by simp at hv), hid (Ext.refl _)⟩
 case round =>
  obtain ⟨k, vs, rfl, hk, rfl, HOW, HON, HT, HTN, HX3⟩ := hrel;obtain ⟨Ao, co, rfl⟩ := ar HOW.out
  by_cases hlt : k < nn
  .
   have q1 : decide (k < nn) = true := decide_eq_true hlt;have q1b : decide ((k : Int) < (nn : Int)) = true := decide_eq_true (by omega);obtain ⟨ga, ca, ra, tca, hva, hoa, hra, ha1, ha2, hat, ha3, ha4⟩ := (HE.out.ext bX HX3.out).row (by decide) hN0 hlt;have xr := (HER.out.ext HX3.out).cell hlt;have HOA := hid hoa;have HRA := hid hra;have HTCA := hid tca;have HXR := hid xr;clear hva hoa hra hat tca xr;have hws := HX3.out.size;obtain ⟨B0, hB0⟩ : ∃ B0, wr.heap.size = B0 := ⟨_, rfl⟩
   go_wp2_with fail
   go_loopg [11, 10] nn (fun f iv lv wz => ∃ (q : Nat) (r : List Value), f = nn - q /\ q <= nn /\ iv = .int .i64 (q : Int) /\ Hid (wz.ownsRow B0 63 2 lv q r) /\ Hid (NumK 2 o4 wz r q (zR ms nn 0 k)) /\ Hid (RowNI wz lv) /\ Hid (Ext wr wz))
   case atStart => exact ⟨0, [], by omega, by omega, rfl, hid (World.ownsRow_nil _ _ _ _), hid (NumK.nil _ _ _ _), hid (RowNI.nil _), hid (Ext.refl _)⟩
   case round =>
    obtain ⟨q, r, rfl, hq, rfl, HLO, HLN, HLI, HXL⟩ := hrel;obtain ⟨Al, cl, rfl⟩ := ar HLO.out;have hszl := HXL.out.size
    by_cases hql : q < nn
    .
     have q3 : decide (q < nn) = true := decide_eq_true hql;have q3b : decide ((q : Int) < (nn : Int)) = true := decide_eq_true (by omega);obtain ⟨zz, hzz⟩ : ∃ zz, cJ ms k q = zz := ⟨_, rfl⟩;have tca := HXL.out.cell HTCA.out;have xq := HXL.out.cell (af HOA.out (HRA.out.one hql));rw [hzz] at xq;have HZZ : Hid (zR ms nn 0 k q = zz) := hid (by rw [kt, if_neg (by omega), hzz]);obtain ⟨hzb1, hzb2⟩ := (HBD.out k q).1;rw [hzz] at hzb1 hzb2;clear hzz
     go_wp2_with fail
     refine (cV zz _ hzb1 hzb2).mono ?_;rintro e w6 ⟨v6, rfl, hv, hX⟩;obtain ⟨A4, l4, c4, rfl, _⟩ := IntZ.open hv;obtain ⟨s4, hs4⟩ : ∃ s4, decide (zz < 0) = s4 := ⟨_, rfl⟩;rw [hs4] at hv |-;clear hs4;have HN := hid (hv.ext ((Ext.refl w6).alloc (.cells #[.bool s4, .slice A4 l4 c4] 63)));have hX7 := hX.alloc (.cells #[.bool s4, .slice A4 l4 c4] 63);replace HLO := hid (World.ownsRow.ext' HLO.out hX7);replace HLN := hid (HLN.out.ext cz hX7);replace HLI := hid (HLI.out.ext hX7);replace HXL := hid (HXL.out.trans hX7);have hsz6 := hX.size;clear hv hX hX7;clear tca xq
     go_wp2_with (at_builtin; refine b7 _ sF sG rfl _ _ rfl B0 (.slice Al q cl) q r rfl HLO.out HLI.out _ 1 1 [.bool s4, .slice A4 l4 c4] rfl rfl (At.new' _ [_, _] _ rfl) (by intro u hu; simp at hu; rcases hu with rfl | rfl <;> rfl) (by intro u hu; simp at hu; rcases hu with rfl | rfl; exact ak _; exact ag _ _ _) (by omega) (by omega) (by unfold maxLen; omega) (by simp; omega) ?_; intro v8 w8 hown hgr hni; have HG8 := hid hgr; have HO8 := hid hown; have HI8 := hid hni; clear hgr hown hni)
     go_roundg (nn - (q + 1))
     case rel =>
      refine ⟨q + 1, _, rfl, by omega, by go_num, HO8, hid ?_, HI8, hid (HXL.out.grown HG8.out (fun b hb => by have := (HLO.out.lt b hb).1; omega))⟩;have h1 := HLN.out.keep cz (aW HG8.out) (cO HLI.out);have h2 := IntZ.keepsNI HN.out (aW HG8.out) (cO HLI.out);refine (h1.snoc (cs := [.bool s4, .slice A4 l4 c4]) rfl ⟨_, _, _, _, rfl, h2⟩).congr (fun c _ => ?_)
      by_cases e : c = q
      .
       rw [if_pos e, e, HZZ.out]
      .
       rw [if_neg e]
     case measure => omega
    .
     obtain rfl : q = nn := by omega
     have q3 : decide (q < q) = false := by simp
     have q3b : decide ((q : Int) < (q : Int)) = false := by simp
     obtain ⟨zz, hzz⟩ : ∃ zz, cK ms k = zz := ⟨_, rfl⟩;have xq := HXL.out.cell HXR.out;rw [hzz] at xq;have HZZ : Hid (zR ms q 0 k q = zz) := hid (by rw [kt, if_pos rfl, hzz]);obtain ⟨hzb1, hzb2⟩ := (HBD.out k 0).2;rw [hzz] at hzb1 hzb2;clear hzz
     go_wp2_with fail
     refine (cV zz _ hzb1 hzb2).mono ?_;rintro e w6 ⟨v6, rfl, hv, hX⟩;obtain ⟨A4, l4, c4, rfl, _⟩ := IntZ.open hv;obtain ⟨s4, hs4⟩ : ∃ s4, decide (zz < 0) = s4 := ⟨_, rfl⟩;rw [hs4] at hv |-;clear hs4;have HN := hid (hv.ext ((Ext.refl w6).alloc (.cells #[.bool s4, .slice A4 l4 c4] 63)));have hX7 := hX.alloc (.cells #[.bool s4, .slice A4 l4 c4] 63);replace HLO := hid (World.ownsRow.ext' HLO.out hX7);replace HLN := hid (HLN.out.ext cz hX7);replace HLI := hid (HLI.out.ext hX7);replace HXL := hid (HXL.out.trans hX7);have hsz6 := hX.size;clear hv hX hX7;clear xq
     have hfl : ∀ g ∈ vs.filterMap Value.ownBlock, g < B0 := fun g hg => by
      obtain ⟨v, hv, hvg⟩ := List.mem_filterMap.1 hg;have := (HT.out.low hv hvg).2;omega
     have HFL := hid hfl;clear hfl
     go_upto_region 6 with (first | (at_builtin; refine b7 _ sF sG rfl _ _ rfl B0 (.slice Al q cl) q r rfl HLO.out HLI.out _ 1 1 [.bool s4, .slice A4 l4 c4] rfl rfl (At.new' _ [_, _] _ rfl) (by intro u hu; simp at hu; rcases hu with rfl | rfl <;> rfl) (by intro u hu; simp at hu; rcases hu with rfl | rfl; exact ak _; exact ag _ _ _) (by omega) (by omega) (by unfold maxLen; omega) (by simp; omega) ?_; intro v8 w8 hown hgr hni; have HG8 := hid hgr; have HO8 := hid hown; have HI8 := hid hni; clear hgr hown hni; have h1 := HLN.out.keep cz (aW HG8.out) (cO HLI.out); have h2 := IntZ.keepsNI HN.out (aW HG8.out) (cO HLI.out); have HR8 : Hid (NumK 2 o4 w8 (r ++ [.bool s4, .slice A4 l4 c4]) (q + 1) (zR ms q 0 k)) := hid ((h1.snoc (cs := [.bool s4, .slice A4 l4 c4]) rfl ⟨_, _, _, _, rfl, h2⟩).congr (fun c _ => by by_cases e : c = q; rw [if_pos e, e, HZZ.out]; rw [if_neg e])); clear h1 h2; have hX8 := HXL.out.grown HG8.out (fun b hb => by have := (HLO.out.lt b hb).1; omega); have HTW := hid (HT.out.ext cz hX8); have HOWW := hid (World.ownsRow.ext' HOW.out hX8); have HONW := hid (HON.out.ext hX8); have HTNW := hid (HTN.out.ext hX8); have HX3W := hid (HX3.out.trans hX8); have hs8 := hX8.size; clear hX8; obtain ⟨A8, c8, rfl⟩ := ar HO8.out; obtain ⟨gl, rfl, hgl1, hgl2⟩ := eU HO8.out (by omega)) | (at_builtin; refine b7 _ sz sD rfl _ _ rfl w2.heap.size (.slice Ao k co) k vs rfl (HOWW.out.alloc _) (HONW.out.ext ((Ext.refl _).alloc _)) _ 1 1 [.slice (some ⟨gl, 0, none⟩) (q + 1) c8] rfl rfl (At.new' _ [_] _ rfl) (by intro u hu; simp at hu; subst hu; rfl) (by intro u hu; simp at hu; subst hu; exact ag _ _ _) (by omega) (by omega) (by unfold maxLen; omega) (by simp; omega) ?_; intro v9 w9 hown hgr hni; have HG9 := hid hgr; have HO9 := hid hown; have HI9 := hid hni; clear hgr hown hni; have HTA := hid (((HTW.out.push (World.ownsRow.mono' HO8.out (by omega : w2.heap.size <= B0)) HR8.out (fun u hu e => by have := HFL.out gl (List.mem_filterMap.2 ⟨u, hu, by rw [e]; simp [Value.ownBlock]⟩); omega)).ext cz ((Ext.refl _).alloc (.cells #[.slice (some ⟨gl, 0, none⟩) (q + 1) c8] 239)))); have HPU2 : Hid (Tbl 2 o4 63 w2.heap.size w9 (k + 1) (q + 1) (vs ++ [.slice (some ⟨gl, 0, none⟩) (q + 1) c8]) (zR ms q 0)) := hid ((HTA.out.keep cz (aW HG9.out) (cO (HONW.out.ext ((Ext.refl _).alloc _))) (HTA.out.awayRow (HOWW.out.alloc _) (by decide))).congr (fun a b _ _ => by by_cases e : a = k; rw [if_pos e, e]; rw [if_neg e])); have HPN2 : Hid (TblNI w9 (vs ++ [.slice (some ⟨gl, 0, none⟩) (q + 1) c8])) := hid (fun v hv => by have h3 : RowNI (w8.alloc (.cells #[.slice (some ⟨gl, 0, none⟩) (q + 1) c8] 239)) v := (by rcases List.mem_append.1 hv with h | h; exact (HTNW.out v h).ext ((Ext.refl _).alloc _); simp at h; subst h; exact HI8.out.ext ((Ext.refl _).alloc _)); exact h3.keeps (aW HG9.out) (fun g hg => HTA.out.awayRow (HOWW.out.alloc _) (by decide) v hv g hg)); have HXF : Hid (Ext w2 w9) := hid ((HX3W.out.alloc _).grown HG9.out (fun b hb => (HOWW.out.lt b hb).1))))
     go_wp2;go_roundg (q - (k + 1))
     case rel => exact ⟨k + 1, _, rfl, by omega, by go_num, HO9, HI9, HPU2, HPN2, HXF⟩
     case measure => omega
  .
   obtain rfl : nn = k := by omega
   have q1 : decide (nn < nn) = false := by simp
   have q1b : decide ((nn : Int) < (nn : Int)) = false := by simp
   obtain ⟨gm, rfl, hgm1, hgm2⟩ := eU HOW.out hN0;have hTG0 : TabG 2 o4 63 239 w2.heap.size wr gm co nn (nn + 1) vs (zR ms nn 0) := ⟨HOW.out, HT.out, .inr ⟨HTN.out, HON.out gm (by simp [Value.ownBlock])⟩⟩;have HTB : Hid (TabG 2 (DuoA none) 63 239 w2.heap.size wr gm co nn (nn + 1) vs (zR ms nn 0)) := hid (hTG0.imp2 (fun _ _ h => DuoA.none h));have HXW := hid (HX.out.trans HX3.out);have HRW := hid (HR.out.ext HX3.out);clear hTG0 HOW HON HT HTN HX3 HX HR hgm1 hgm2 q1 q1b HE HER HBD H;obtain ⟨ct, hct⟩ : ∃ ct, ct = co := ⟨_, rfl⟩;subst hct
   go_wp2_with fail
   refine (cV 1 _ (by omega) (by omega)).mono ?_;rintro e w3 ⟨v3, rfl, hv3, hX⟩;obtain ⟨Al, ll, cl, rfl, _⟩ := IntZ.open hv3;obtain ⟨sl, hsl⟩ : ∃ s, decide ((1 : Int) < 0) = s := ⟨_, rfl⟩;rw [hsl] at hv3 |-;clear hsl;replace HTB := hid (HTB.out.ext (aX _) hX);replace HXW := hid (HXW.out.trans hX);replace HRW := hid (HRW.out.ext hX);clear hX
   go_upto_region 14 with (fail)
   have hXa : Ext w3 (w3.alloc (.cells #[.bool sl, .slice Al ll cl] 63)) := (Ext.refl _).alloc _;have hB := Blk.new w3 63 #[.bool sl, .slice Al ll cl];have HLOW : Hid (∀ g ∈ br gm vs, w2.heap.size <= g /\ g < w3.heap.size) := hid HTB.out.tabL_low;have hgl1 : w2.heap.size <= w3.heap.size := by have h1 := HLOW.out gm List.mem_cons_self; omega
   have hnb := (IntA.none hv3).ext hXa;replace HTB := hid (HTB.out.ext (aX _) hXa);replace HXW := hid (HXW.out.trans hXa);replace HRW := hid (HRW.out.ext hXa);clear hXa hv3;generalize w3.heap.size = gl at hB HLOW hgl1 |-;generalize w3.alloc _ = w4 at hB hnb HTB HXW HRW |-;have HLB : Hid (NB none w4 gl (lR ms nn 0)) := hid ⟨sl, Al, ll, cl, hB, hnb⟩;clear hB hnb;obtain ⟨vs0, hvs0⟩ : ∃ vs0, vs0 = vs := ⟨_, rfl⟩;rw [<- hvs0] at HLOW;have HIN := hid (dy gm vs0);have HSUB0 : Hid (∀ v ∈ vs, v ∈ vs0) := hid (fun v h => hvs0 ▸ h);clear hvs0
   go_wp2_with fail
   go_loopg [14, 13] nn (fun f jv cv wr => ∃ (j : Nat) (vs : List Value), f = nn - j /\ j <= nn /\ jv = .int .i64 (j : Int) /\ Hid (TabG 2 (DuoA cv.ownBlock) 63 239 w2.heap.size wr gm ct nn (nn + 1) vs (zR ms nn j)) /\ Hid (∀ v ∈ vs, v ∈ vs0) /\ Hid (ColR w2.heap.size wr cv (kR ms nn j)) /\ Hid (∀ g, cv.ownBlock = some g -> g ∉ br gm vs0 /\ gl < g) /\ Hid (NB cv.ownBlock wr gl (lR ms nn j)) /\ Hid (Blk wr (w.heap.size + 1) 63 #[.bool false, .slice none 0 0]) /\ Hid (Ext w wr))
   case atStart => exact ⟨0, vs, by omega, by omega, rfl, HTB, HSUB0, hid (World.ownsRow_nil _ _ _ _), hid (fun g hg => by simp [Value.ownBlock] at hg), HLB, HRW, HXW⟩
   case round =>
    clear HTB HSUB0 HLB HRW HXW;obtain ⟨j, vs, rfl, hj, rfl, HT, HSUB, HC, HCN, HL, HR, HX⟩ := hrel;obtain ⟨Ac, cc, hcv⟩ := ar HC.out;subst hcv;have htj := oL HV.out.2.2.2 hj;have HCO : Hid (wr.ownsRow w2.heap.size 3 1 (.slice Ac (kR ms nn j).length cc) (kR ms nn j).length ((kR ms nn j).map fun j : Nat => .int .i64 (j : Int))) := HC;clear HC;obtain ⟨tp, htp⟩ : ∃ tp, (kR ms nn j).length = tp := ⟨_, rfl⟩;rw [htp] at htj HCO HT HL HCN |-;have HTP := hid htp;clear htp;obtain ⟨X, hXX⟩ : ∃ X, (Value.slice Ac tp cc).ownBlock = X := ⟨_, rfl⟩;rw [hXX] at HT HL HCN;have HXX := hid hXX;clear hXX
    by_cases hlt : j < nn
    .
     have q1 : decide (j < nn) = true := decide_eq_true hlt;have q1b : decide ((j : Int) < (nn : Int)) = true := decide_eq_true (by omega)
     go_wp2_with fail
     go_loopg [16] (nn - tp) (fun f av wq => ∃ k : Nat, f = nn - k /\ tp <= k /\ k <= nn /\ av = .int .i64 (k : Int) /\ Hid (∀ r, tp <= r -> r < k -> zR ms nn j r j = 0) /\ Hid (Ext wr wq))
     case atStart => exact ⟨tp, rfl, Nat.le_refl _, by omega, rfl, hid (fun r h1 h2 => by omega), hid (Ext.refl _)⟩
     case round =>
      obtain ⟨k, rfl, hk1, hk2, rfl, HZ, HXQ⟩ := hrel;replace HT := hid (HT.out.ext (aX _) HXQ.out);replace HCO := hid (World.ownsRow.ext' HCO.out HXQ.out);replace HL := hid (HL.out.ext HXQ.out);replace HR := hid (HR.out.ext HXQ.out);replace HX := hid (HX.out.trans HXQ.out)
      by_cases hkn : k < nn
      .
       have q2 : decide (k < nn) = true := decide_eq_true hkn;have q2b : decide ((k : Int) < (nn : Int)) = true := decide_eq_true (by omega);have g46 : ((k : Int) == (nn : Int)) = false := by simp; omega
       have g46b : decide ((k : Int) = (nn : Int)) = false := by simp; omega
       obtain ⟨gb, cb, rgb, tgb, vgb, ogb, ngb, bgb1, bgb2, bgbt, bgb3, bgb4⟩ := HT.out.row (by decide) (Nat.succ_pos _) hkn;obtain ⟨sx, Ax, lx, cx, x0, x1, hx⟩ := ngb.twoA (j := j) (show j < nn + 1 by omega);replace x0 := af ogb x0;replace x1 := af ogb x1;obtain ⟨tx, htx⟩ : ∃ tx, zR ms nn j k j = tx := ⟨_, rfl⟩;rw [htx] at hx;obtain ⟨sg, hsg⟩ : ∃ sg, lm tx = sg := ⟨_, rfl⟩
       have HSG : Hid (sg = 0 ↔ tx = 0) := hid (by
        rw [<- hsg];unfold lm
        rcases Int.lt_trichotomy tx 0 with e1 | e1 | e1
        .
         have e2 : tx ≠ 0 := by omega
         simp [e1, e2]
        .
         simp [e1]
        .
         have e2 : tx ≠ 0 := by omega
         have e3 : ¬ tx < 0 := by omega
         simp [e1, e2, e3])
       have HTX := hid htx;have HVB := hid vgb;have hjn : j < nn + 1 := by omega
       have Hx := hid hx;clear htx vgb ogb ngb hx bgb1 bgb2 bgbt bgb3 bgb4
       go_wp2_with fail
       refine (ez _ tx _ Hx.out.int).mono ?_;rw [hsg];rintro e w5 ⟨rfl, hX⟩;clear x0 x1 hsg tgb Hx;replace HXQ := hid (HXQ.out.trans hX);replace HT := hid (HT.out.ext (aX _) hX);replace HCO := hid (World.ownsRow.ext' HCO.out hX);replace HL := hid (HL.out.ext hX);replace HR := hid (HR.out.ext hX);replace HX := hid (HX.out.trans hX);clear hX
       by_cases hs0 : sg = 0
       .
        subst hs0;go_wp2;go_roundg (nn - (k + 1))
        case rel =>
         refine ⟨k + 1, rfl, by omega, by omega, by go_num, hid (fun r h1 h2 => ?_), HXQ⟩
         rcases Nat.lt_or_ge r k with h3 | h3
         .
          exact HZ.out r h1 h3
         .
          obtain rfl : r = k := by omega
          rw [HTX.out]; exact HSG.out.1 (by simp)
        case measure => omega
       .
        have g0 : (sg == 0) = false := by simpa using hs0
        have g0b : decide (sg = 0) = false := by simpa using hs0
        have HNZ : Hid (zR ms nn j k j ≠ 0) := hid (by rw [HTX.out]; exact fun h => hs0 (HSG.out.2 h));clear HSG HXQ HTX;obtain ⟨ga, ca, ra, tca, hva, hoa, hra, ha1, ha2, hat, ha3, ha4⟩ := HT.out.row (by decide) (Nat.succ_pos _) (show tp < nn by omega);obtain ⟨cur, hcur, hci⟩ := kn HT.out.out;have hc1 := hci _ _ hva;have hc2 := hci _ _ HVB.out;have HVA := hid hva;have hHC := hid hcur;have hC1 := hid hc1;have hC2 := hid hc2;clear hva hoa hra tca hcur hci hc1 hc2 ha1 ha2 hat ha3 ha4;have htpn : tp < nn := by omega
        go_upto_region 23 with (fail)
        refine qK gm ct nn tp k ga gb ca cb 239 cur w5 hHC.out hC1.out hC2.out (Array.getElem?_eq_some_iff.1 hC2.out).1 htpn hkn _ _ (by simp) rfl rfl rfl ?_;rintro xv0 xv1 xv2 xv3 xv4 xv5 xv6 xv7 xv8 xv9 xv10 xv11 xv12 xv13 xv14 xv15 W rfl rfl rfl rfl rfl rfl rfl rfl rfl rfl rfl rfl rfl _ rfl _ rfl;simp only [ae, Try.f123, ab, Option.bind_some, Nat.reduceBEq, if_true, if_false, Bool.false_eq_true, Option.getD_some, List.drop_succ_cons, List.drop_zero];simp only [Act.put, List.setIfInBounds_toArray, List.set_cons_succ, List.set_cons_zero];have hsw := (HT.out.ext (aX _) (Ext.refl w5).drew).swap (aX _) (by decide) htpn hkn HVA.out HVB.out (ag _ _ _) (ag _ _ _);generalize hw6 : (w5.drew.setCell _ _).setCell _ _ = w6 at hsw |-;have hks : Keeps [gm] w5 w6 := (Keeps.of_ext (Ext.refl w5).drew [gm]).trans hsw.2
        have hvs1 : ∀ v ∈ (vs.set tp (.slice (some ⟨gb, 0, none⟩) (nn + 1) cb)).set k (.slice (some ⟨ga, 0, none⟩) (nn + 1) ca), v ∈ vs0 := fun v hv => by
         rcases List.mem_or_eq_of_mem_set hv with hv | rfl
         .
          rcases List.mem_or_eq_of_mem_set hv with hv | rfl
          .
           exact HSUB.out v hv
          .
           exact HSUB.out _ (List.mem_of_getElem? HVB.out)
         .
          exact HSUB.out _ (List.mem_of_getElem? HVA.out)
        have hnig : NoInts w5 gm := by
         rcases HT.out.ni with h | h
         .
          omega
         .
          exact h.2
        obtain ⟨TS, hTS⟩ : ∃ TS : Nat -> Nat -> Int, TS = (fun i => if i = k then zR ms nn j tp else if i = tp then zR ms nn j k else zR ms nn j i) := ⟨_, rfl⟩;have hT6 := hsw.1;rw [<- hTS] at hT6
        have hts1 : ∀ c, TS tp c = zR ms nn j k c := fun c => by
         rw [hTS]
         by_cases e : tp = k
         .
          simp only [e, if_true]
         .
          simp only [if_neg e, if_true]
        have hts2 : ∀ i, i ≠ tp -> ∀ c, TS i c = zR ms nn j (if i = k then tp else i) c := fun i hi c => by
         rw [hTS]
         by_cases e : i = k
         .
          simp only [e, if_true]
         .
          simp only [if_neg e, if_neg hi]
        have hfz : ∀ i, i < nn -> ∀ c, c <= nn -> Fit 65536 (zR ms nn j i c).natAbs 106 := fun i hi c hc => jS HV.out.2.2.2 HV.out.2.2.1 hNb hj hi hc
        have HFT : Hid (∀ i, i < nn -> ∀ c, c <= nn -> Fit 65536 (TS i c).natAbs 106) := hid (fun i hi c hc => by
         by_cases e : i = tp
         .
          rw [e, hts1]; exact hfz k hkn c hc
         .
          rw [hts2 i e]; exact hfz _ (by split <;> omega) c hc)
        obtain ⟨k1, k2, k3, k4⟩ := oN (j := j) HV.out.2.2.2 hlt (by rw [HTP.out]; exact hk1) hkn HNZ.out (fun i h1 h2 => HZ.out i (by rw [<- HTP.out]; exact h1) h2);rw [HTP.out] at k3 k4;have HK1 := hid k1;have HPZ : Hid (TS tp j = lR ms nn (j + 1)) := hid (by rw [hts1, k2]);have HTPR : Hid (∀ c, c <= nn -> TS tp c = zR ms nn (j + 1) tp c) := hid (fun c hc => by rw [hts1, k3 c hc])
        have HEQ : Hid (∀ i, i < nn -> i ≠ tp -> ∀ c, c <= nn -> TS i c * TS tp j + -(TS tp c * TS i j) = lR ms nn j * zR ms nn (j + 1) i c) := hid (fun i hi hne c hc => by
         rw [hts1, hts1, hts2 i hne, hts2 i hne];exact k4 i hi hne c hc)
        have HL0 : Hid (lR ms nn j ≠ 0) := hid (oK HV.out.2.2.2 hj);have hglm : gm ≠ gl := by have := HLOW.out gm HIN.out.1; omega
        replace HT := hid hT6;replace HCO := hid (aj HCO.out hks (fun g hg hl => by simp at hl; subst hl; exact (HCN.out g (by rw [<- HXX.out]; exact hg)).1 HIN.out.1));replace HL := hid (HL.out.keepsNI hks (fun g hg => by simp at hg; subst hg; exact hnig) (by simp; omega));replace HR := hid (HR.out.keeps hks (by have := HLOW.out gm HIN.out.1; simp; omega));have hszx := HX.out.size;replace HX := hid (hks.ext HX.out (fun g hg => by simp at hg; subst hg; have := HLOW.out g HIN.out.1; omega));clear hT6 hsw hw6 hks hnig hTS hts1 hts2 hfz k1 k2 k3 k4 HSUB HVA HVB hHC hC1 hC2 HZ HNZ hszx g0 g0b g46 g46b q2 q2b q1 q1b;generalize (vs.set tp (.slice (some ⟨gb, 0, none⟩) (nn + 1) cb)).set k (.slice (some ⟨ga, 0, none⟩) (nn + 1) ca) = vs at HT hvs1;have HSUB := hid hvs1;clear hvs1;obtain ⟨gp, cgp, rgp, tgp, vgp, ogp, ngp, bgp1, bgp2, bgpt, bgp3, bgp4⟩ := HT.out.row (by decide) (Nat.succ_pos _) htpn;obtain ⟨sp, Ap, lp, cp, p0, p1, hp⟩ := ngp.twoA (j := j) (show j < nn + 1 by omega);replace p0 := af ogp p0;replace p1 := af ogp p1;have Hp := hid hp;clear hp
        go_upto_region 25 with (fail)
        have hXa : Ext w6 (w6.alloc (.cells #[.bool sp, .slice Ap lp cp] 63)) := (Ext.refl _).alloc _;have hB := Blk.new w6 63 #[.bool sp, .slice Ap lp cp];have hcl : ∀ g, X = some g -> g < w6.heap.size := fun g hg => (cB HCO.out (g := g) (by rw [HXX.out]; exact hg)).2
        have hglt := HL.out.lt;have hnb := Hp.out.ext hXa;replace HT := hid (HT.out.ext (aX _) hXa);replace HCO := hid (World.ownsRow.ext' HCO.out hXa);replace HL := hid (HL.out.ext hXa);replace HR := hid (HR.out.ext hXa);replace HX := hid (HX.out.trans hXa);clear hXa Hp p0 p1 tgp vgp ogp ngp bgp1 bgp2 bgpt bgp3 bgp4;generalize w6.heap.size = gq at hB hcl hglt |-;generalize w6.alloc _ = w7 at hB hnb HT HCO HL HR HX |-;have HPV : Hid (NB X w7 gq (TS tp j)) := hid ⟨sp, Ap, lp, cp, hB, hnb⟩;have hqlt := hB.lt;have HCL := hid hcl;clear hB hnb hcl
        go_wp2_with fail
        go_loopg [18] nn (fun f rv wz => ∃ r : Nat, f = nn - r /\ r <= nn /\ rv = .int .i64 (r : Int) /\ Hid (TabG 2 (DuoA X) 63 239 w2.heap.size wz gm ct nn (nn + 1) vs (fun i c => if i < r /\ i ≠ tp then zR ms nn (j + 1) i c else TS i c)) /\ Hid (NB X wz gq (TS tp j)) /\ Hid (NB X wz gl (lR ms nn j)) /\ Hid (Keeps (br gm vs0) w7 wz))
        case atStart => exact ⟨0, by omega, by omega, rfl, hid (HT.out.congr (fun i c _ _ => by rw [if_neg (by omega)])), HPV, HL, hid (Keeps.refl _ _)⟩
        case round =>
         clear HT HPV HL;obtain ⟨r, rfl, hr, rfl, HT, HPV, HL, HK⟩ := hrel;have hszk := HK.out.size
         by_cases hrl : r < nn
         .
          have q3 : decide (r < nn) = true := decide_eq_true hrl;have q3b : decide ((r : Int) < (nn : Int)) = true := decide_eq_true (by omega)
          by_cases hrt : r = tp
          .
           subst hrt;have g8 : ((r : Int) == (r : Int)) = true := by simp
           have g8b : decide ((r : Int) = (r : Int)) = true := by simp
           go_wp2;go_roundg (nn - (r + 1))
           case rel =>
            refine ⟨r + 1, rfl, by omega, by go_num, hid (HT.out.congr (fun i c _ _ => ?_)), HPV, HL, HK⟩
            by_cases h2 : i < r /\ i ≠ r
            .
             rw [if_pos h2, if_pos (by omega)]
            .
             rw [if_neg h2, if_neg (by omega)]
           case measure => omega
          .
           have g8 : ((r : Int) == (tp : Int)) = false := by simp; omega
           have g8b : decide ((r : Int) = (tp : Int)) = false := by simp; omega
           obtain ⟨gr, cr, rgr, tgr, vgr, ogr, ngr, bgr1, bgr2, bgrt, bgr3, bgr4⟩ := HT.out.row (by decide) (Nat.succ_pos _) hrl;obtain ⟨sf, Af, lf, cf, f0, f1, hf⟩ := ngr.twoA (j := j) (show j < nn + 1 by omega);replace f0 := af ogr f0;replace f1 := af ogr f1;rw [if_neg (by omega)] at hf;have Hf := hid hf;clear hf
           go_upto_region 30 with (fail)
           have hXa : Ext wr (wr.alloc (.cells #[.bool sf, .slice Af lf cf] 63)) := (Ext.refl _).alloc _;have hB := Blk.new wr 63 #[.bool sf, .slice Af lf cf];have hnb := Hf.out.ext hXa;replace HT := hid (HT.out.ext (aX _) hXa);replace HPV := hid (HPV.out.ext hXa);replace HL := hid (HL.out.ext hXa);replace HK := hid (HK.out.trans (.of_ext hXa _));clear hXa Hf f0 f1 tgr vgr ogr ngr bgr1 bgr2 bgrt bgr3 bgr4;generalize wr.heap.size = gf at hB hszk |-;generalize wr.alloc _ = w8 at hB hnb HT HPV HL HK |-;have HFV : Hid (NB X w8 gf (TS r j)) := hid ⟨sf, Af, lf, cf, hB, hnb⟩;have hflt := hB.lt;clear hB hnb
           go_wp2_with fail
           go_loopg [20] (nn + 1) (fun f qv wy => ∃ q : Nat, f = nn + 1 - q /\ q <= nn + 1 /\ qv = .int .i64 (q : Int) /\ Hid (TabG 2 (DuoA X) 63 239 w2.heap.size wy gm ct nn (nn + 1) vs (fun i c => if i < r /\ i ≠ tp then zR ms nn (j + 1) i c else if i = r /\ c < q then zR ms nn (j + 1) i c else TS i c)) /\ Hid (NB X wy gq (TS tp j)) /\ Hid (NB X wy gl (lR ms nn j)) /\ Hid (NB X wy gf (TS r j)) /\ Hid (Keeps (br gm vs0) w8 wy))
           case atStart => exact ⟨0, by omega, by omega, rfl, hid (HT.out.congr (fun i c _ _ => by
            by_cases h2 : i < r /\ i ≠ tp
            .
             rw [if_pos h2, if_pos h2]
            .
             rw [if_neg h2, if_neg h2, if_neg (by omega)])), HPV, HL, HFV, hid (Keeps.refl _ _)⟩
           case round =>
            clear HT HPV HL HFV;obtain ⟨q, rfl, hq, rfl, HT, HPV, HL, HFV, HK2⟩ := hrel
            by_cases hql : q < nn + 1
            .
             have q5 : decide (q <= nn) = true := decide_eq_true (by omega);have q5b : decide ((q : Int) <= (nn : Int)) = true := decide_eq_true (by omega);obtain ⟨gr, cr, rgr, tgr, vgr, ogr, ngr, bgr1, bgr2, bgrt, bgr3, bgr4⟩ := HT.out.row (by decide) (Nat.succ_pos _) hrl;obtain ⟨sx, Ax, lx, cx, x0, x1, hx⟩ := ngr.twoA (j := q) hql;replace x0 := af ogr x0;replace x1 := af ogr x1;obtain ⟨ga, ca, rga, tga, vga, oga, nga, bga1, bga2, bgat, bga3, bga4⟩ := HT.out.row (by decide) (Nat.succ_pos _) htpn;obtain ⟨sy, Ay, ly, cy, y0, y1, hy⟩ := nga.twoA (j := q) hql;replace y0 := af oga y0;replace y1 := af oga y1;rw [if_neg (by omega), if_neg (by omega)] at hx hy;obtain ⟨sp, Ap, lp, cp, kbp, hp⟩ := HPV.out;obtain ⟨sf, Af, lf, cf, kbf, hf⟩ := HFV.out;obtain ⟨sl, Al, ll, cl, kbl, hl⟩ := HL.out;have xp0 := kbp.cell 0;have xp1 := kbp.cell 1;have xf0 := kbf.cell 0;have xf1 := kbf.cell 1;have xl0 := kbl.cell 0;have xl1 := kbl.cell 1;simp only [List.getElem?_toArray, List.getElem?_cons_zero, List.getElem?_cons_succ] at xp0 xp1 xf0 xf1 xl0 xl1;have hsz2 := HK2.out.size
             go_upto_region 33 with (fail)
             refine qL gm ct nn r gr cr q tp ga ca gq gf gl (TS r q) (TS tp j) (TS tp q) (TS r j) (lR ms nn j) (zR ms nn (j + 1) r q) X sx Ax lx cx sp Ap lp cp sy Ay ly cy sf Af lf cf sl Al ll cl wr tgr tga x0 x1 xp0 xp1 y0 y1 xf0 xf1 xl0 xl1 hrl htpn hql (by omega) hx hp hy hf hl (HFT.out r hrl q (by omega)) (HFT.out tp htpn j (by omega)) (HFT.out tp htpn q (by omega)) (HFT.out r hrl j (by omega)) HL0.out (HEQ.out r hrl hrt q (by omega)) (fun g hg => by have := HCL.out g hg; omega) _ _ (by simp) ⟨rfl, rfl, rfl, rfl, rfl, rfl, rfl, trivial⟩ ?_;rintro W hX xv13 _ xv22 _ xv23 _ xv24 _ xv26 hv;simp only [EndK, ae, Try.f123, ab, Option.bind_some, Nat.reduceBEq, if_true, if_false, Bool.false_eq_true, Option.getD_some, List.drop_succ_cons, List.drop_zero];simp only [Act.put, List.setIfInBounds_toArray, List.set_cons_succ, List.set_cons_zero];clear kbp kbf kbl hp hf hl xp0 xp1 xf0 xf1 xl0 xl1 x0 x1 y0 y1 hx hy tgr tga vga oga nga bga1 bga2 bgat bga3 bga4;replace HT := hid (HT.out.ext (aX _) hX);replace HPV := hid (HPV.out.ext hX);replace HL := hid (HL.out.ext hX);replace HFV := hid (HFV.out.ext hX);replace HK2 := hid (HK2.out.trans (.of_ext hX _));have HOR := hid (World.ownsRow.ext' ogr hX);obtain ⟨s4, A4, l4, c4, rfl⟩ := IntA.open hv;have HN := hid hv;have HVR := hid vgr;clear hX hv ogr ngr vgr;have hgrl : gr ∈ br gm vs0 := HIN.out.2 _ (HSUB.out _ (List.mem_of_getElem? HVR.out)) gr (by simp [Value.ownBlock])
             have HNI : Hid (NoInts W gr) := hid (by
              rcases HT.out.ni with h | h
              .
               omega
              .
               exact h.1 _ (List.mem_of_getElem? HVR.out) gr (by simp [Value.ownBlock]))
             have hlr := HOR.out.1;obtain ⟨u0, hu0⟩ : ∃ u, rgr[q * 2]? = some u := ⟨_, List.getElem?_eq_getElem (by omega)⟩;obtain ⟨u1, hu1⟩ : ∃ u, rgr[q * 2 + 1]? = some u := ⟨_, List.getElem?_eq_getElem (by omega)⟩;have x0 := af HOR.out hu0;have x1 := af HOR.out hu1;have e0 := aL HOR.out (q * 2);have e1 := aL HOR.out (q * 2 + 1);clear hu0 hu1 hlr;have hks : Keeps [gr] W ((W.setCell ⟨gr, q * 2, none⟩ (.bool s4)).setCell ⟨gr, q * 2 + 1, none⟩ (.slice A4 l4 c4)) := ((Keeps.refl [gr] W).setCell (.inl (by simp)) _).setCell (.inl (by simp)) _;have hnl : ∀ g ∈ [gr], NoInts W g := fun g hg => by simp at hg; subst hg; exact HNI.out
             have HP := hid (HT.out.put2A hrl hql HVR.out bgrt (hx := HN.out.keepsNI hks hnl));have hlo := HLOW.out gr hgrl;have HPV2 := hid (HPV.out.keepsNI hks hnl (by simp; omega));have HL2 := hid (HL.out.keepsNI hks hnl (by simp; omega));have HFV2 := hid (HFV.out.keepsNI hks hnl (by simp; omega));have HK3 := hid (HK2.out.trans (hks.mono (M := br gm vs0) (fun g hg _ => by simp at hg; subst hg; exact hgrl)));clear hks hnl hgrl;go_wp2;go_roundg (nn + 1 - (q + 1))
             case rel =>
              refine ⟨q + 1, rfl, by omega, by go_num, hid (HP.out.1.congr (fun i c _ _ => ?_)), HPV2, HL2, HFV2, HK3⟩
              by_cases hij : i = r /\ c = q
              .
               obtain ⟨rfl, rfl⟩ := hij;rw [if_pos ⟨rfl, rfl⟩, if_neg (by omega), if_pos (by omega)]
              .
               rw [if_neg hij]
               by_cases h2 : i < r /\ i ≠ tp
               .
                rw [if_pos h2, if_pos h2]
               .
                rw [if_neg h2, if_neg h2]
                by_cases h3 : i = r /\ c < q
                .
                 rw [if_pos h3, if_pos (by omega)]
                .
                 rw [if_neg h3, if_neg (by omega)]
             case measure => omega
            .
             obtain rfl : q = nn + 1 := by omega
             have q5 : decide (nn + 1 <= nn) = false := decide_eq_false (by omega);have q5b : decide (((nn + 1 : Nat) : Int) <= (nn : Int)) = false := decide_eq_false (by omega);have q5c : decide ((nn : Int) + 1 <= (nn : Int)) = false := decide_eq_false (by omega);go_wp2;go_roundg (nn - (r + 1))
             case rel =>
              refine ⟨r + 1, rfl, by omega, by go_num, hid (HT.out.congr (fun i c _ hc => ?_)), HPV, HL, hid (HK.out.trans HK2.out)⟩
              by_cases h2 : i < r /\ i ≠ tp
              .
               rw [if_pos h2, if_pos (by omega)]
              .
               rw [if_neg h2]
               by_cases h3 : i = r
               .
                rw [if_pos ⟨h3, hc⟩, if_pos (by omega)]
               .
                rw [if_neg (by omega), if_neg (by omega)]
             case measure => omega
         .
          obtain rfl : r = nn := by omega
          have q3 : decide (r < r) = false := by simp
          have q3b : decide ((r : Int) < (r : Int)) = false := by simp
          have HTF : Hid (TabG 2 (DuoA X) 63 239 w2.heap.size wr gm ct r (r + 1) vs (zR ms r (j + 1))) := hid (HT.out.congr (fun i c hi hc => by
           by_cases h2 : i = tp
           .
            rw [if_neg (by omega), h2, HTPR.out c (by omega)]
           .
            rw [if_pos ⟨hi, h2⟩]))
          have hxn : ∀ g, (Value.slice Ac tp cc).ownBlock = some g -> g ∉ br gm vs0 := fun g hg => (HCN.out g (by rw [<- HXX.out]; exact hg)).1
          replace HCO := hid (aj HCO.out HK.out hxn);replace HR := hid (HR.out.keeps HK.out (fun hl => by have := HLOW.out _ hl; omega));have hszx := HX.out.size;replace HX := hid (HK.out.ext HX.out (fun g hg => by have := HLOW.out g hg; omega));clear HT hxn HK HFT HEQ HTPR;obtain ⟨sp, Ap, lp, cp, kbp, hp⟩ := HPV.out;obtain ⟨sl, Al, ll, cl, kbl, hl⟩ := HL.out;have xp0 := kbp.cell 0;have xp1 := kbp.cell 1;have xl0 := kbl.cell 0;have xl1 := kbl.cell 1;have el0 := kbl.free 0;have el1 := kbl.free 1;simp only [List.getElem?_toArray, List.getElem?_cons_zero, List.getElem?_cons_succ] at xp0 xp1 xl0 xl1;obtain ⟨hnb, hks, hnl⟩ := HL.out.put hp;rw [HPZ.out] at hnb;have hgo : ∀ g ∈ [gl], NoInts wr g := fun g hg => by simp at hg; subst hg; exact hnl
          have HT2 := hid (HTF.out.keeps (aX _) hks hgo (fun g hg => by
           simp at hg;subst hg;refine ⟨fun e => ?_, fun v hv e => ?_⟩
           .
            have := HLOW.out gm HIN.out.1; omega
           .
            have := HLOW.out _ (HIN.out.2 v (HSUB.out v hv) _ e); omega))
          have HCO2 := hid (aj HCO.out hks (fun g hg hl2 => by have h1 := (HCN.out g (by rw [<- HXX.out]; exact hg)).2; simp at hl2; omega));have HL2 := hid hnb;have HR2 := hid (HR.out.keeps hks (by simp; omega));have HX2 := hid (hks.ext HX.out (fun g hg => by simp at hg; subst hg; omega));clear hgo hks hnl hnb hl hp kbp kbl HTF HCO HR HX HPV HL
          go_upto_region 35 with (fail)
          clear xp0 xp1 xl0 xl1 el0 el1;generalize (wr.setCell _ _).setCell _ _ = w9 at HT2 HCO2 HL2 HR2 HX2 |-;have hs9 : w2.heap.size <= w9.heap.size := by have := HL2.out.lt; omega
          go_upto_region 17 with (at_builtin; refine au _ dX rfl _ _ rfl w2.heap.size (.slice Ac tp cc) tp _ rfl (World.ownsRow.ext' HCO2.out ((Ext.refl w9).alloc _)) _ 1 1 [.int .i64 (j : Int)] rfl rfl (At.new' _ [_] _ rfl) (by simp [Value.oneCell']) (by omega) (by unfold maxLen; omega) (by simp; omega) ?_; intro v10 w10 hown hgr hor; have HO10 := hid hown; have HG10 := hid hgr; have HOR10 := hid hor; clear hown hgr hor)
          have hXa : Ext w9 (w9.alloc (.cells #[.int .i64 (j : Int)] 3)) := (Ext.refl w9).alloc _;have hor := HOR10.out;have hgr := HG10.out;have HTE := HT2.out.ext (aX _) hXa;have HCE := World.ownsRow.ext' HCO2.out hXa;have HLE := HL2.out.ext hXa;have HRE := HR2.out.ext hXa
          have HT3 : Hid (TabG 2 (DuoA v10.ownBlock) 63 239 w2.heap.size w10 gm ct r (r + 1) vs (zR ms r (j + 1))) := hid (by
           rw [<- HXX.out] at HTE;exact HTE.grownX HCE hgr hor (by decide) (by decide))
          have HL3 : Hid (NB v10.ownBlock w10 gl (lR ms r (j + 1))) := hid (by
           rw [<- HXX.out] at HLE;exact HLE.grown hgr hor (fun e => by have h1 := (HCN.out gl (by rw [<- HXX.out]; exact e)).2; omega))
          have HR3 : Hid (Blk w10 (w.heap.size + 1) 63 #[.bool false, .slice none 0 0]) := hid (HRE.grown hgr (fun e => bz HCE HRE (by decide) e.symm));have hcs : ∀ g, (Value.slice Ac tp cc).ownBlock = some g -> w.heap.size <= g := fun g hg => by have h1 := (HCN.out g (by rw [<- HXX.out]; exact hg)).2; omega
          have HX3 := hid ((HX2.out.trans hXa).grown hgr hcs)
          have HCN3 : Hid (∀ g, v10.ownBlock = some g -> g ∉ br gm vs0 /\ gl < g) := hid (fun g hg => by
           rcases hor with h | h
           .
            rw [h] at hg;exact HCN.out g (by rw [<- HXX.out]; exact hg)
           .
            rw [h] at hg;injection hg with hg;have h9 := HL2.out.lt;simp at hg;exact ⟨fun hl => by have := HLOW.out g hl; omega, by omega⟩)
          clear hXa hor hgr HTE HCE HLE HRE hcs;go_wp2;go_roundg (r - (j + 1))
          case rel => exact ⟨j + 1, vs, rfl, by omega, by go_num, HT3, HSUB, hid (by unfold ColR; rw [HK1.out, List.length_append, HTP.out, List.map_append]; exact HO10.out), HCN3, HL3, HR3, HX3⟩
          case measure => omega
      .
       obtain rfl : k = nn := by omega
       have q2 : decide (k < k) = false := by simp
       have q2b : decide ((k : Int) < (k : Int)) = false := by simp
       have g46 : ((k : Int) == (k : Int)) = true := by simp
       have g46b : decide ((k : Int) = (k : Int)) = true := by simp
       obtain ⟨c1, c2, c3⟩ := oM (j := j) HV.out.2.2.2 hlt (fun i h1 h2 => HZ.out i (by rw [<- HTP.out]; exact h1) h2);have HC1 := hid c1;have HC2 := hid c2;have HC3 := hid c3;clear c1 c2 c3;go_wp2;go_roundg (k - (j + 1))
       case rel => exact ⟨j + 1, vs, rfl, by omega, by go_num, hid (by rw [HXX.out]; exact HT.out.congr (fun i c _ _ => (HC1.out i c).symm)), HSUB, hid (by unfold ColR; rw [HC3.out, HTP.out]; exact HCO.out), hid (by rw [HXX.out]; exact HCN.out), hid (by rw [HXX.out, HC2.out]; exact HL.out), HR, HX⟩
       case measure => omega
    .
     obtain rfl : j = nn := by omega
     have q1 : decide (j < j) = false := by simp
     have q1b : decide ((j : Int) < (j : Int)) = false := by simp
     obtain ⟨sl, Al, ll, cl, hBl, hIl⟩ := HL.out;have HIL := hid hIl;have HBL := hid hBl;clear hBl hIl HL
     go_upto_region 36 with (fail)
     refine qM gm ct j gl (w.heap.size + 1) (.slice Ac tp cc) sl Al ll cl wr HBL.out HR.out _ _ (by simp) rfl rfl rfl rfl ?_;rintro xv0 xv1 xv2 xv3 xv4 xv5 W rfl rfl rfl rfl rfl _ rfl;simp only [ae, Try.f123, ab, Option.bind_some, Nat.reduceBEq, if_true, if_false, Bool.false_eq_true, Option.getD_some, List.drop_succ_cons, List.drop_zero];simp only [Act.put, List.setIfInBounds_toArray, List.set_cons_succ, List.set_cons_zero];have hk9 : Keeps [w.heap.size + 1] wr ((wr.drew.setCell ⟨w.heap.size + 1, 0, none⟩ (.bool sl)).setCell ⟨w.heap.size + 1, 1, none⟩ (.slice Al ll cl)) := (((Keeps.refl [w.heap.size + 1] wr).drew).setCell (.inl (by simp)) _).setCell (.inl (by simp)) _;have hni9 := NoInts.two HR.out;have HB9 : Hid (Blk ((wr.drew.setCell ⟨w.heap.size + 1, 0, none⟩ (.bool sl)).setCell ⟨w.heap.size + 1, 1, none⟩ (.slice Al ll cl)) (w.heap.size + 1) 63 #[.bool sl, .slice Al ll cl]) := hid (by simpa using (HR.out.drew.set 0 (.bool sl)).set 1 (.slice Al ll cl))
     have HT9 := hid (HT.out.keeps (aX _) hk9 (fun g hg => by simp at hg; subst hg; exact hni9) (fun g hg => by
      simp at hg;subst hg;refine ⟨fun e => ?_, fun v hv e => ?_⟩
      .
       have := HLOW.out gm HIN.out.1; omega
      .
       have := HLOW.out _ (HIN.out.2 v (HSUB.out v hv) _ e); omega))
     have HC9 := hid (aj HCO.out hk9 (fun g hg hl => by
      have h1 := (HCN.out g (by rw [<- HXX.out]; exact hg)).2;simp at hl;omega))
     have HI9 := hid (HIL.out.keepsNI hk9 (fun g hg => by simp at hg; subst hg; exact hni9));have hszx := HX.out.size;have HX9 := hid (hk9.ext HX.out (fun g hg => by simp at hg; subst hg; omega));clear hk9 hni9 HT HCO HIL HBL HR HX;generalize (wr.drew.setCell _ _).setCell _ _ = w9 at HB9 HT9 HC9 HI9 HX9 |-;have z0 := HB9.out.cell 0;have z1 := HB9.out.cell 1;simp only [List.getElem?_toArray, List.getElem?_cons_zero, List.getElem?_cons_succ] at z0 z1;have hbs : w.heap.size <= w2.heap.size := by omega
     go_wp2;refine bodyPost_ret (v := .tuple #[.slice (some ⟨gm, 0, none⟩) j ct, .slice Ac tp cc, .agg #[.bool sl, .slice Al ll cl]]) (by simp [results, Try.results123, go_sem, *]) rfl ?_
     exact ⟨gm, ct, vs, _, sl, Al, ll, cl, rfl, (HT9.out.imp2 (fun _ _ h => DuoA.duo h)).mono hbs, by unfold ColR; rw [HTP.out]; exact World.ownsRow.mono' HC9.out hbs, HI9.out.int, HX9.out⟩

/-- A row of shifts, made by appending. -/
theorem sA : Elem Try.prog 117 229 9 168 (.agg #[.bool false, .slice none 0 0, .slice none 0 0, .bool false, .slice none 0 0, .slice none 0 0, .bool false, .slice none 0 0, .slice none 0 0]) := Elem.mk' (by kernel_rfl) (by kernel_rfl) rfl (by decide)
def SRow (base : Nat) (w : World) (v : Value) (n : Nat) (f : Nat -> Rat) : Prop := (∃ us, w.ownsRow base 229 9 v n us /\ NumK 3 (Tri QZ) w us (3 * n) f) /\ RowNI w v
section
variable {base n : Nat} {w w' : World} {v : Value} {f h : Nat -> Rat}
theorem SRow.shp {A : Option Addr} {c : Nat} (k : SRow base w (.slice A n c) n f) (hn : 0 < n) : ∃ g, A = some ⟨g, 0, none⟩ /\ base <= g /\ g < w.heap.size /\ ShP QZ w g 0 n f := by
 obtain ⟨⟨us, h1, h2⟩, h3⟩ := k;have hlow := fun g hg => cB (g := g) h1 hg
 rcases h1.2 with ⟨hv, h0⟩ | ⟨g, cap, cur, hv, hg, hb⟩
 .
  omega
 .
  injection hv with hA hn hc;subst hA;exact ⟨g, rfl, hg, (hlow g (by simp [Value.ownBlock])).2, ShP.of_row h1 h2⟩
end
/-- What the map of dropped indexes holds. -/
def gl (l : List Int) : List (Int × Value) := l.map fun d => (d, Value.bool true)
theorem mr (x : Int) {n : Int} (_hn : 1 <= n) : aw (decide (x < 0)) x.natAbs n.toNat = (x : Rat) / (n : Rat) := by
 unfold aw;rw [dW, Rat.mkRat_eq_div, <- Rat.intCast_natCast, show ((n.toNat : Nat) : Int) = n by omega]
end Go.Proofs.Ytikhlcgnlbinfaa
