/- Lemmas of the proof that follows (Adjusts, part 16): walks of functions by contract, and plain lemmas. Conditions: none. -/
import Derived.Test.YtikhlcgnlbinfaaAdjustsO
set_option maxRecDepth 100000
set_option maxHeartbeats 16000000
namespace Go.Proofs.Ytikhlcgnlbinfaa
open Lib (hid)
open Go.RowKit
theorem nt {P : Program} {w : World} {t e : TypeId} {size bytes : Nat} {z : Value} (E : Elem P t e size bytes z) (A : Option Addr) (n c : Nat) (k : IntKind) (m : Nat) (hm : m <= c) :
  (Instr.sliceAt t (.slice A n c) none (some (.int k (m : Int))) none).run P w = .ok (.slice A m c) w := by
 obtain ⟨i, hi, hz, hs, hby⟩ := E.info;have e0 : A.map (·.add 0) = A := by cases A <;> simp [Addr.add]
 simp [Instr.sliceAt, Instr.slice, run_underlying E.und, Instr.sliceBounds, run_sliceBound, sizeOf, typeInfo, hi, hm, e0]
/-- What is a row of integers without elements. -/
def Row0I (base : Nat) (W : World) (v : Value) : Prop := ∃ gq, v = .slice (some ⟨gq, 0, none⟩) 0 0 /\ W.ownsRow base 3 1 (.slice (some ⟨gq, 0, none⟩) 0 0) 0 []
theorem Row0I.ext {base : Nat} {W W' : World} {v : Value} (h : Row0I base W v) (hX : Ext W W') : Row0I base W' v := by obtain ⟨gq, h1, h2⟩ := h; exact ⟨gq, h1, World.ownsRow.ext' h2 hX⟩
theorem Row0I.new {base : Nat} {W : World} (hb : base <= W.heap.size) : Row0I base (W.alloc (.cells #[] 3)) (.slice (some ⟨W.heap.size, 0, none⟩) 0 0) := ⟨_, rfl, World.ownsRow_lit W #[] 0 hb (by unfold maxLen; omega) rfl⟩
def RowZ (base : Nat) (W : World) (v : Value) (n : Nat) (xs : List Int) : Prop := W.ownsRow base 3 1 v n (xs.map (Value.int .i64))
theorem RowZ.ext {base n : Nat} {W W' : World} {v : Value} {xs : List Int} (h : RowZ base W v n xs) (hX : Ext W W') : RowZ base W' v n xs := World.ownsRow.ext' h hX
theorem tn (xs : List Int) : ∀ u ∈ xs.map (Value.int .i64), u.oneCell' = true := fun u hu => by obtain ⟨x, _, rfl⟩ := List.mem_map.1 hu; rfl
theorem pL (gm : Nat) (li : Int) (w : World)  : aF Try.prog Try.f80 10 9 48 w [39, 40, 41, 42, 43, 44, 45, 46, 47] [.c (.int .i64 (-1)), .c (.bool true), .c (.bool true), .c (undef), .c (undef), .c (undef), .c (undef), .c (undef), .c (.bool true)] [(1, .int .i64 (li)), (12, .int .i64 (-1)), (13, .pointer (some ⟨gm, 0, none⟩))] := by
 refine aI [[], [0], [1], [2], [2], [2, 4], [2, 3, 5], [2, 6], [2, 7]] (by kernel_rfl) (by kernel_rfl) rfl trivial ?_;simp only [ae, Try.f80, ab, Option.bind_some, Nat.reduceBEq, if_true, if_false, Bool.false_eq_true, Option.getD_some];simp only [List.take_succ_cons, List.take_zero]
 repeat' first | refine ⟨?_, ?_⟩ | fail
 all_goals first | (intro us W b hJ K hK0 hK Qz; simp only [aD, aq, ar, List.getD_cons_succ, List.getD_cons_zero]) | exact True.intro
 all_goals try (intros; go_simp; exact hK0 _ rfl)
theorem pM (gm aa : Nat) (li : Int) (le : Bool) (q : Rat) (su : Bool) (Au Bu : Option Addr) (lu cu mu ku : Nat) (w : World) (x0 : w.cell? ⟨gm, 0, none⟩ = some (.bool su)) (x1 : w.cell? ⟨gm, 1, none⟩ = some (.slice Au lu cu)) (x2 : w.cell? ⟨gm, 2, none⟩ = some (.slice Bu mu ku)) (hx : QZ w (.agg #[.bool su, .slice Au lu cu, .slice Bu mu ku]) q) (fq : FitR q (12 + 48 * (106 + 5))) (fl : FitR ((li : Int) : Rat) 4) (_h0 : decide ((aa : Int) < 0) = false) (hl : -9223372036854775808 <= li /\ li <= 9223372036854775807) (hle : Hid (decide ((bN (q - ((li : Int) : Rat))) <= 0) = le)) : aF Try.prog Try.f80 10 9 48 w [39, 40, 41, 42, 43, 44, 45, 46, 47] [.c (.int .i64 (aa : Int)), .c (.bool false), .c (.bool false), .c (.agg #[.bool su, .slice Au lu cu, .slice Bu mu ku]), .c (.int .i64 (li)), .p fun v W => QZ W v (((li : Int) : Rat)), .c (.int .i64 (bN (q - ((li : Int) : Rat)))), .c (.bool le), .c (.bool le)] [(1, .int .i64 (li)), (12, .int .i64 (aa : Int)), (13, .pointer (some ⟨gm, 0, none⟩))] := by
 refine aI [[], [0], [1], [2], [2], [2, 4], [2, 3, 5], [2, 6], [2, 7]] (by kernel_rfl) (by kernel_rfl) rfl ⟨by intro v W W' h hX; exact QZ.ext h hX, trivial⟩ ?_;simp only [ae, Try.f80, ab, Option.bind_some, Nat.reduceBEq, if_true, if_false, Bool.false_eq_true, Option.getD_some];simp only [List.take_succ_cons, List.take_zero]
 repeat' first | refine ⟨?_, ?_⟩ | fail
 all_goals first | (intro us W b hJ K hK0 hK Qz; simp only [aD, aq, ar, List.getD_cons_succ, List.getD_cons_zero]) | exact True.intro
 all_goals try (intros; have q0 := Ext.cell hJ x0; have q1 := Ext.cell hJ x1; have q2 := Ext.cell hJ x2; go_simp; exact hK0 _ rfl)
 .
  intro e41 e43 e1 e12 e13;go_simp;refine (bJ li W hl.1 hl.2).mono ?_;rintro e w' ⟨v, rfl, hv, hX⟩;exact hK _ _ hv hX
 .
  intro e41 e42 e44 d5 e1 e12 e13;go_simp;refine (jc _ _ _ _ (12 + 48 * (106 + 5)) 4 W (hx.ext hJ) d5 fq fl (by omega)).mono ?_;rintro e w' ⟨rfl, hX⟩;exact hK _ _ rfl hX
 .
  intro e41 e45 e1 e12 e13;go_simp;exact hK0 _ (by first | rfl | exact congrArg Value.bool hle.out)
theorem rQ (gl ol nl cl aa mm kk : Nat) (zs : List Int) (w : World) (hzs : Ints .i64 w (some ⟨gl, ol, none⟩) nl zs) (_han : aa < nl) (_hnc : nl <= cl) (_hn64 : nl <= 64) (hmm : Hid (nl - (aa + 1) = mm)) (hkk : Hid (cl - (aa + 1) = kk)) (a : Act) (Q : Exit -> Act -> World -> Prop) (hsize : 66 <= a.tmps.size)
  (s7 : a.tmps[7]? = some (.slice (some ⟨gl, ol, none⟩) nl cl))
  (s12 : a.tmps[12]? = some (.int .i64 (aa : Int)))
  (hend : ∀ (xv0 xv1 xv2 xv3 xv4 xv5 xv6 xv7 xv8 : Value) (W : World), (Row0I w.heap.size W xv0) -> (xv1 = .slice (some ⟨gl, ol, none⟩) nl cl) -> (xv2 = .int .i64 (aa : Int)) -> (xv3 = .slice (some ⟨gl, ol, none⟩) aa cl) -> (RowZ w.heap.size W xv4 aa (zs.take aa)) -> (xv5 = .slice (some ⟨gl, ol, none⟩) nl cl) -> (xv6 = .int .i64 (aa : Int)) -> (xv7 = .int .i64 ((aa : Int) + 1)) -> (xv8 = .slice (eZ (some ⟨gl, ol, none⟩) cl (aa + 1) 1) mm kk) -> Ext w W -> wpList Try.prog (ae Try.f80 13).toArray Q ((ae Try.f80 13).drop 9) (((((((((a.put (some 57) xv0).put (some 58) xv1).put (some 59) xv2).put (some 60) xv3).put (some 61) xv4).put (some 62) xv5).put (some 63) xv6).put (some 64) xv7).put (some 65) xv8) W) :
  (Code.region 13 (ae Try.f80 13).toArray true).wp Try.prog Q a w := by
 have hmono : ∀ (W W' : World) (j : Nat) (u : Value), Ext W W' -> (fun (i : Nat) (v : Value) (W : World) => match i with
  | 0 => Row0I w.heap.size W v
  | 1 => v = .slice (some ⟨gl, ol, none⟩) nl cl
  | 2 => v = .int .i64 (aa : Int)
  | 3 => v = .slice (some ⟨gl, ol, none⟩) aa cl
  | 4 => RowZ w.heap.size W v aa (zs.take aa)
  | 5 => v = .slice (some ⟨gl, ol, none⟩) nl cl
  | 6 => v = .int .i64 (aa : Int)
  | 7 => v = .int .i64 ((aa : Int) + 1)
  | 8 => v = .slice (eZ (some ⟨gl, ol, none⟩) cl (aa + 1) 1) mm kk
  | _ => True) j u W -> (fun (i : Nat) (v : Value) (W : World) => match i with
  | 0 => Row0I w.heap.size W v
  | 1 => v = .slice (some ⟨gl, ol, none⟩) nl cl
  | 2 => v = .int .i64 (aa : Int)
  | 3 => v = .slice (some ⟨gl, ol, none⟩) aa cl
  | 4 => RowZ w.heap.size W v aa (zs.take aa)
  | 5 => v = .slice (some ⟨gl, ol, none⟩) nl cl
  | 6 => v = .int .i64 (aa : Int)
  | 7 => v = .int .i64 ((aa : Int) + 1)
  | 8 => v = .slice (eZ (some ⟨gl, ol, none⟩) cl (aa + 1) 1) mm kk
  | _ => True) j u W' := by
  intro W W' j u hX h
  match j, h with
  | 0, h => exact Row0I.ext h hX
  | 1, h => exact h
  | 2, h => exact h
  | 3, h => exact h
  | 4, h => exact RowZ.ext h hX
  | 5, h => exact h
  | 6, h => exact h
  | 7, h => exact h
  | 8, h => exact h
  | _ + 9, h => exact h
 have hsz : ∀ d, some d ∈ ([some 57, some 58, some 59, some 60, some 61, some 62, some 63, some 64, some 65] : List (Option Tmp)) -> d < a.tmps.size := bE (by decide) hsize
 refine bg 9 [some 57, some 58, some 59, some 60, some 61, some 62, some 63, some 64, some 65] [[], [], [], [1, 2], [0, 3], [], [], [6], [5, 7]] [[], [], [], [], [], [], [], [], []] (fun (i : Nat) (v : Value) (W : World) => match i with
  | 0 => Row0I w.heap.size W v
  | 1 => v = .slice (some ⟨gl, ol, none⟩) nl cl
  | 2 => v = .int .i64 (aa : Int)
  | 3 => v = .slice (some ⟨gl, ol, none⟩) aa cl
  | 4 => RowZ w.heap.size W v aa (zs.take aa)
  | 5 => v = .slice (some ⟨gl, ol, none⟩) nl cl
  | 6 => v = .int .i64 (aa : Int)
  | 7 => v = .int .i64 ((aa : Int) + 1)
  | 8 => v = .slice (eZ (some ⟨gl, ol, none⟩) cl (aa + 1) 1) mm kk
  | _ => True) (fun _ W => Ext w W) (by kernel_rfl) (by kernel_rfl) hsz (fun _ _ _ _ h => h) ((Ext.refl w).drew) ?_ ?_
 .
  clear hend;simp only [ae, Try.f80, ab, Option.bind_some, Nat.reduceBEq, if_true, if_false, Bool.false_eq_true, Option.getD_some];simp only [List.take_succ_cons, List.take_zero];refine ⟨?_, ?_, ?_, ?_, ?_, ?_, ?_, ?_, ?_, trivial⟩
  .
   intro done us W hJ hdep haft hnot b hb hb' K hK Q';clear hb hb';have hX := (Ext.refl W).alloc (.cells #[] 3);have hn := Row0I.new (W := W) (Ext.size hJ);go_simp;exact hK _ _ hn (fun j u _ h => hmono _ _ j u hX h) (Ext.trans hJ hX)
  .
   intro done us W hJ hdep haft hnot b hb hb' K hK Q';have e7 := (hb' 7 (by simp)).trans s7;clear hb hb';go_simp;exact hK _ _ rfl (fun _ _ _ h => h) hJ
  .
   intro done us W hJ hdep haft hnot b hb hb' K hK Q';have e12 := (hb' 12 (by simp)).trans s12;clear hb hb';go_simp;exact hK _ _ rfl (fun _ _ _ h => h) hJ
  .
   intro done us W hJ hdep haft hnot b hb hb' K hK Q';simp only [List.getD_cons_succ, List.getD_cons_zero, List.mem_cons, List.not_mem_nil, or_false, forall_eq_or_imp, forall_eq] at hdep;have e58 := hb 1 58 rfl;have e59 := hb 2 59 rfl;have d1 := hdep.1;have d2 := hdep.2;rw [d1.1] at e58;rw [d2.1] at e59;clear hb hb' hdep d1 d2;have q := nt (P := Try.prog) (w := W) du (some ⟨gl, ol, none⟩) nl cl .i64 aa (by omega);go_simp;exact hK _ _ rfl (fun _ _ _ h => h) hJ
  .
   intro done us W hJ hdep haft hnot b hb hb' K hK Q';simp only [List.getD_cons_succ, List.getD_cons_zero, List.mem_cons, List.not_mem_nil, or_false, forall_eq_or_imp, forall_eq] at hdep;have e57 := hb 0 57 rfl;have e60 := hb 3 60 rfl;have d0 := hdep.1;have d3 := hdep.2;rw [d3.1] at e60;clear hb hb' hdep d3;obtain ⟨⟨gq, e', ho⟩, _⟩ := d0;rw [e'] at e57;have hz := (hzs.ext hJ).cut aa (by omega);obtain ⟨v', w', q, ho', hX⟩ := pB (P := Try.prog) W du 61 w.heap.size gq ho (some ⟨gl, ol, none⟩) aa cl ((zs.take aa).map (Value.int .i64)) (by rw [List.length_map, hz.1]; omega) hz.2.2 (tn _) (by omega) (by unfold maxLen; omega) (Ext.size hJ);exact ig rfl rfl e57 e60 q (hK _ _ ho' (fun j u _ h => hmono _ _ j u hX h) (Ext.trans hJ hX))
  .
   intro done us W hJ hdep haft hnot b hb hb' K hK Q';have e7 := (hb' 7 (by simp)).trans s7;clear hb hb';go_simp;exact hK _ _ rfl (fun _ _ _ h => h) hJ
  .
   intro done us W hJ hdep haft hnot b hb hb' K hK Q';have e12 := (hb' 12 (by simp)).trans s12;clear hb hb';go_simp;exact hK _ _ rfl (fun _ _ _ h => h) hJ
  .
   intro done us W hJ hdep haft hnot b hb hb' K hK Q';simp only [List.getD_cons_succ, List.getD_cons_zero, List.mem_cons, List.not_mem_nil, or_false, forall_eq] at hdep;have e63 := hb 6 63 rfl;have d6 := hdep;rw [d6.1] at e63;clear hb hb' hdep d6;have qw : IntKind.i64.wrap ((aa : Int) + 1) = (aa : Int) + 1 := IntWalk.i64_in _ (by omega);go_simp;exact hK _ _ rfl (fun _ _ _ h => h) hJ
  .
   intro done us W hJ hdep haft hnot b hb hb' K hK Q';simp only [List.getD_cons_succ, List.getD_cons_zero, List.mem_cons, List.not_mem_nil, or_false, forall_eq_or_imp, forall_eq] at hdep;have e62 := hb 5 62 rfl;have e64 := hb 7 64 rfl;have d5 := hdep.1;have d7 := hdep.2;rw [d5.1] at e62;rw [d7.1] at e64;clear hb hb' hdep d5 d7;have q := jO (P := Try.prog) (w := W) du (some ⟨gl, ol, none⟩) nl cl .i64 (aa + 1) ((aa : Int) + 1) (by omega) (by omega);rw [hmm.out, hkk.out] at q;go_simp;exact hK _ _ rfl (fun _ _ _ h => h) hJ
 .
  intro us W hV hJ;exact hend (us 0) (us 1) (us 2) (us 3) (us 4) (us 5) (us 6) (us 7) (us 8) W (hV 0 (by omega)) (hV 1 (by omega)) (hV 2 (by omega)) (hV 3 (by omega)) (hV 4 (by omega)) (hV 5 (by omega)) (hV 6 (by omega)) (hV 7 (by omega)) (hV 8 (by omega)) hJ
theorem jP (S : Nat) (A : Option Addr) (n c : Nat) (ms : List Mt) (li : Int) (w : World) (h : MsAt w A n ms) (hv : VP (S : Int) ms) (hl : -9223372036854775808 <= li /\ li <= 9223372036854775807) :
  Calls Try.prog 80 #[.agg #[.int .i64 (S : Int), .slice A n c], .int .i64 li] w (fun e w' => ∃ r go rv, (∀ k, k < r -> ¬ br (3 * S) ms li (ap (3 * S) ms k)) /\ br (3 * S) ms li (ap (3 * S) ms r) /\ e = .returned (.tuple #[.slice (some ⟨go, 0, none⟩) S S, rv]) /\ ShP QZ w' go 0 S (bz (3 * S) (a9 ms (ap (3 * S) ms r))) /\ w'.ownsRow w.heap.size 3 1 rv r ((ap (3 * S) ms r).map (Value.int .i64)) /\ Ext w w') := by
 have H := hid h;have HV := hid hv;have hS1 : 1 <= S := by have := hv.1; omega
 have hS8 : S <= 8 := by have := hv.2.1; omega
 have HML := hid h.1;have hn64 : n <= 64 := by have := hv.2.2.1; have := h.1; omega
 have HLI := hid hl;have HFL := hid (aR hl.1 hl.2);clear h hv hl;have HX := hid ((Ext.refl w).alloc (.cells #[.int .i64 (S : Int), .slice A n c] 76));have HP := hid (Blk.new w 76 #[.int .i64 (S : Int), .slice A n c]);go_enter Try.func80, Try.ntmps80
 go_upto_region 1 with (fail)
 generalize w.alloc _ = w1 at HX HP |-
 go_wp2_with fail
 go_loopg [7, 8] n (fun fu lv iv wr => ∃ j : Nat, fu = n - j /\ j <= n /\ iv = .int .i64 (j : Int) /\ Hid (wr.ownsRow w.heap.size 3 1 lv j ((List.range j).map fun i => .int .i64 ((i : Nat) : Int))) /\ Hid (Blk wr w.heap.size 76 #[.int .i64 (S : Int), .slice A n c]) /\ Hid (Ext w wr))
 case atStart => exact ⟨0, rfl, by omega, rfl, hid (World.ownsRow_nil _ _ _ _), HP, HX⟩
 case round =>
  clear HP HX;obtain ⟨j, rfl, hj, rfl, HO, HP, HX⟩ := hrel;obtain ⟨Ao, co, rfl⟩ := ak HO.out;have p0 := HP.out.cell 0;have p1 := HP.out.cell 1;simp only [List.getElem?_toArray, List.getElem?_cons_zero, List.getElem?_cons_succ] at p0 p1
  by_cases hlt : j < n
  .
   have q1 : decide (j < n) = true := decide_eq_true hlt;have hsz := HX.out.size
   go_wp2_with (at_builtin; refine ao _ du rfl _ _ rfl w.heap.size (.slice Ao j co) j _ rfl (HO.out.alloc _) _ 1 1 [.int .i64 (j : Int)] rfl rfl (At.new' _ [_] _ rfl) (by simp [Value.oneCell']) (by omega) (by unfold maxLen; omega) (by simp; omega) ?_; intro v8 w8 hown8 hgr8 _; have HG8 := hid hgr8; have HO8 := hid hown8; clear hgr8 hown8)
   go_roundg (n - (j + 1))
   case rel =>
    refine ⟨j + 1, rfl, by omega, by go_num, hid ?_, hid ((HP.out.alloc _).grown HG8.out (fun e => aQ HO.out HP.out (by decide) e.symm)), hid ((HX.out.alloc _).grown HG8.out (fun b hb => (HO.out.lt b hb).1))⟩;rw [List.range_succ, List.map_append];exact HO8.out
   case measure => omega
  .
   obtain rfl : n = j := by omega
   have q1 : decide (n < n) = false := by simp
   have hcap := (dB HO.out).1
   have hIn : Ints .i64 wr Ao n ((al (ap (3 * S) ms 0) n).map fun i : Nat => (i : Int)) := by
    refine Ints.of_ownI (c := co) (xs := ((al (ap (3 * S) ms 0) n).map fun i : Nat => (i : Int))) (base := w.heap.size) (e := 3) ?_ ?_
    .
     rw [List.map_map];have e : al (ap (3 * S) ms 0) n = List.range n := by show al [] n = _; unfold al; exact List.filter_eq_self.2 (by simp)
     rw [e];exact HO.out
    .
     intro x hx;obtain ⟨i, hi, rfl⟩ := List.mem_map.1 hx;have := (bL.1 hi).1;omega
   have hAl : ∀ ad, Ao = some ad -> ad.block < wr.heap.size := fun ad e => by
    subst e;exact (HO.out.lt ad.block (by simp [Value.ownBlock])).2
   have HIN := hid hIn;have HAL := hid hAl;clear hIn hAl HO
   go_upto_region 7 with (fail)
   clear p0 p1
   go_loopg [6, 7] (n + 1) (fun fu rv lv wz => ∃ (r nl cl : Nat) (Al : Option Addr), fu = n - r + 1 /\ r <= n /\ lv = .slice Al nl cl /\ nl + r = n /\ nl <= cl /\ Hid (∀ k, k < r -> ¬ br (3 * S) ms li (ap (3 * S) ms k)) /\ Hid (wz.ownsRow w.heap.size 3 1 rv r ((ap (3 * S) ms r).map (Value.int .i64))) /\ Hid (Ints .i64 wz Al nl ((al (ap (3 * S) ms r) n).map fun i : Nat => (i : Int))) /\ Hid (∀ ad, Al = some ad -> rv.ownBlock ≠ some ad.block /\ ad.block < wz.heap.size) /\ Hid (Blk wz w.heap.size 76 #[.int .i64 (S : Int), .slice A n c]) /\ Hid (Ext w wz))
   case atStart => exact ⟨0, n, co, Ao, by omega, by omega, rfl, by omega, hcap, hid (fun k hk => by omega), hid (World.ownsRow_nil _ _ _ _), HIN, hid (fun ad e => ⟨by simp [Value.ownBlock], HAL.out ad e⟩), HP, HX⟩
   case round =>
    clear HIN HAL HP HX hcap;obtain ⟨r, nl, cl, Al, rfl, hr, rfl, hnl, hcap, HNE, HO, HIL, HAP, HP, HX⟩ := hrel;obtain ⟨Ar, cr, rfl⟩ := ak HO.out;have p0 := HP.out.cell 0;have p1 := HP.out.cell 1;simp only [List.getElem?_toArray, List.getElem?_cons_zero, List.getElem?_cons_succ] at p0 p1;have HDO : Hid (DropOk n (ap (3 * S) ms r)) := hid (by have := gZ (3 * S) ms r; rw [HML.out] at this; exact this);have HDL : Hid ((ap (3 * S) ms r).length = r) := hid (i8 HNE.out);have HDI : Hid (Ints .i64 wr Ar r (ap (3 * S) ms r)) := hid (Ints.of_ownI HO.out (fun x hx => by have := HDO.out.1 x hx; omega));have HWL : Hid ((a9 ms (ap (3 * S) ms r)).length = nl) := hid (by have := dL r HNE.out; rw [ew]; have := HML.out; omega);have HKL : Hid ((al (ap (3 * S) ms r) n).length = nl) := hid (by have := HWL.out; rw [ew, HML.out] at this; exact this);have HVW := hid (ip HV.out (ap (3 * S) ms r))
    go_wp2_with fail
    refine (im (S : Int) A n c ms Ar r cr (ap (3 * S) ms r) _ (H.out.ext HX.out) HDL.out HDI.out (by omega) (by omega)).mono ?_;rintro e w5 ⟨h1, _, hX⟩;obtain ⟨vq, rfl, hW⟩ := h1 HDO.out;clear h1;rw [HWL.out] at hW;obtain ⟨Aw, cw, rfl⟩ := ak hW;have HMW : Hid (MsAt w5 Aw nl (a9 ms (ap (3 * S) ms r))) := hid (MsAt.of_own hW HWL.out);replace HX := hid (HX.out.trans hX);replace HP := hid (HP.out.ext hX);replace HO := hid (World.ownsRow.ext' HO.out hX);replace HIL := hid (HIL.out.ext hX);replace HAP : Hid (∀ ad, Al = some ad -> (Value.slice Ar r cr).ownBlock ≠ some ad.block /\ ad.block < (w5).heap.size) := hid (fun ad e => ⟨(HAP.out ad e).1, Nat.lt_of_lt_of_le (HAP.out ad e).2 hX.size⟩);clear hW hX p0 p1 HDI
    go_upto_region 8 with (fail)
    have hX : Ext w5 (w5.alloc (.cells #[.int .i64 (S : Int), .slice Aw nl cw] 76)) := (Ext.refl _).alloc _;have kB := Blk.new w5 76 #[.int .i64 (S : Int), .slice Aw nl cw];replace HX := hid (HX.out.trans hX);replace HP := hid (HP.out.ext hX);replace HO := hid (World.ownsRow.ext' HO.out hX);replace HIL := hid (HIL.out.ext hX);replace HMW := hid (HMW.out.ext hX);replace HAP : Hid (∀ ad, Al = some ad -> (Value.slice Ar r cr).ownBlock ≠ some ad.block /\ ad.block < (w5.alloc (.cells #[.int .i64 (S : Int), .slice Aw nl cw] 76)).heap.size) := hid (fun ad e => ⟨(HAP.out ad e).1, Nat.lt_of_lt_of_le (HAP.out ad e).2 hX.size⟩);clear hX;generalize w5.heap.size = gn at kB |-;generalize w5.alloc _ = w6 at kB HX HP HO HIL HMW HAP |-;have KN := hid kB;clear kB;have n0 := KN.out.cell 0;have n1 := KN.out.cell 1;simp only [List.getElem?_toArray, List.getElem?_cons_zero, List.getElem?_cons_succ] at n0 n1
    go_wp2_with fail
    refine (kG HMW.out HVW.out).mono ?_;rintro e w7 ⟨v, rfl, ⟨gs, rfl, hgl, hsh⟩, hX⟩;replace HX := hid (HX.out.trans hX);replace HP := hid (HP.out.ext hX);replace HO := hid (World.ownsRow.ext' HO.out hX);replace HIL := hid (HIL.out.ext hX);replace HMW := hid (HMW.out.ext hX);replace KN := hid (KN.out.ext hX);replace HAP : Hid (∀ ad, Al = some ad -> (Value.slice Ar r cr).ownBlock ≠ some ad.block /\ ad.block < (w7).heap.size) := hid (fun ad e => ⟨(HAP.out ad e).1, Nat.lt_of_lt_of_le (HAP.out ad e).2 hX.size⟩);have HSS := hid hsh;have HGL := hid hgl;clear hX n0 n1 hsh hgl;have n0 := KN.out.cell 0;have n1 := KN.out.cell 1;simp only [List.getElem?_toArray, List.getElem?_cons_zero, List.getElem?_cons_succ] at n0 n1
    go_wp2_with fail
    refine (km S nl cw gs 0 S 106 Aw (a9 ms (ap (3 * S) ms r)) (bz (3 * S) (a9 ms (ap (3 * S) ms r))) _ HMW.out HVW.out HSS.out (jN HVW.out) (by omega) HGL.out).mono ?_;rw [show bT (3 * S) (bz (3 * S) (a9 ms (ap (3 * S) ms r))) (a9 ms (ap (3 * S) ms r)) = eJ (3 * S) ms (ap (3 * S) ms r) from rfl];obtain ⟨oa, hoa⟩ : ∃ oa, (eJ (3 * S) ms (ap (3 * S) ms r)).1 = oa := ⟨_, rfl⟩;rw [hoa];have HOA := hid hoa;clear hoa;rintro e w8 ⟨v8, rfl, hv, hX⟩;obtain ⟨s1, A1, l1, c1, B1, m1, k1, rfl⟩ := QZ.open hv;replace HX := hid (HX.out.trans hX);replace HP := hid (HP.out.ext hX);replace HO := hid (World.ownsRow.ext' HO.out hX);replace HIL := hid (HIL.out.ext hX);replace HSS := hid (HSS.out.ext bU hX);replace HGL := hid (Nat.lt_of_lt_of_le HGL.out hX.size);replace HAP : Hid (∀ ad, Al = some ad -> (Value.slice Ar r cr).ownBlock ≠ some ad.block /\ ad.block < (w8).heap.size) := hid (fun ad e => ⟨(HAP.out ad e).1, Nat.lt_of_lt_of_le (HAP.out ad e).2 hX.size⟩);have HWV := hid hv;clear hX n0 n1 hv KN HMW
    go_upto_region 10 with (fail)
    have hX : Ext w8 (w8.alloc (.cells #[.bool s1, .slice A1 l1 c1, .slice B1 m1 k1] 65)) := (Ext.refl _).alloc _;have kB := Blk.new w8 65 #[.bool s1, .slice A1 l1 c1, .slice B1 m1 k1];replace HX := hid (HX.out.trans hX);replace HP := hid (HP.out.ext hX);replace HO := hid (World.ownsRow.ext' HO.out hX);replace HIL := hid (HIL.out.ext hX);replace HSS := hid (HSS.out.ext bU hX);replace HGL := hid (Nat.lt_of_lt_of_le HGL.out hX.size);replace HWV := hid (HWV.out.ext hX);replace HAP : Hid (∀ ad, Al = some ad -> (Value.slice Ar r cr).ownBlock ≠ some ad.block /\ ad.block < (w8.alloc (.cells #[.bool s1, .slice A1 l1 c1, .slice B1 m1 k1] 65)).heap.size) := hid (fun ad e => ⟨(HAP.out ad e).1, Nat.lt_of_lt_of_le (HAP.out ad e).2 hX.size⟩);clear hX;generalize w8.heap.size = gw at kB |-;generalize w8.alloc _ = w9 at kB HX HP HO HIL HSS HGL HWV HAP |-;have KW := hid kB;clear kB
    by_cases hno : oa = none
    .
     subst hno;have HEN : Hid (br (3 * S) ms li (ap (3 * S) ms r)) := hid (.inl HOA.out);rw [show rX none = (-1 : Int) from rfl];refine pL gw li w9 _ _ (by simp) ⟨rfl, rfl, rfl, trivial⟩ ?_;rintro W hX;simp only [EndK, ae, Try.f80, ab, Option.bind_some, Nat.reduceBEq, if_true, if_false, Bool.false_eq_true, Option.getD_some, List.drop_succ_cons, List.drop_zero];simp only [Act.put, List.setIfInBounds_toArray, List.set_cons_succ, List.set_cons_zero];replace HX := hid (HX.out.trans hX);replace HP := hid (HP.out.ext hX);replace HO := hid (World.ownsRow.ext' HO.out hX);replace HIL := hid (HIL.out.ext hX);replace HSS := hid (HSS.out.ext bU hX);replace HGL := hid (Nat.lt_of_lt_of_le HGL.out hX.size);replace HAP : Hid (∀ ad, Al = some ad -> (Value.slice Ar r cr).ownBlock ≠ some ad.block /\ ad.block < (W).heap.size) := hid (fun ad e => ⟨(HAP.out ad e).1, Nat.lt_of_lt_of_le (HAP.out ad e).2 hX.size⟩);clear hX HWV KW;go_wp2
     go_ret2
     exact ⟨r, gs, _, HNE.out, HEN.out, rfl, HSS.out, HO.out, HX.out⟩
    .
     obtain ⟨aa, rfl⟩ : ∃ aa, oa = some aa := by
      cases oa with
      | none => exact absurd rfl hno
      | some aa => exact ⟨aa, rfl⟩
     clear hno;rw [show rX (some aa) = (aa : Int) from rfl];have h0 : decide ((aa : Int) < 0) = false := decide_eq_false (by omega);obtain ⟨le, hle⟩ : ∃ le, decide (bN ((eJ (3 * S) ms (ap (3 * S) ms r)).2 - ((li : Int) : Rat)) <= 0) = le := ⟨_, rfl⟩;have HLE := hid hle;clear hle;have hfq : FitR (eJ (3 * S) ms (ap (3 * S) ms r)).2 (12 + 48 * (106 + 5)) := (lD (jN HVW.out) hS8 HVW.out.2.2.2 (Nat.le_refl _) HOA.out).2;refine pM gw aa li le _ s1 A1 B1 l1 c1 m1 k1 w9 (KW.out.cell 0) (KW.out.cell 1) (KW.out.cell 2) HWV.out hfq HFL.out h0 HLI.out HLE _ _ (by simp) ⟨rfl, rfl, rfl, trivial⟩ ?_;rintro W hX xv5 _;simp only [EndK, ae, Try.f80, ab, Option.bind_some, Nat.reduceBEq, if_true, if_false, Bool.false_eq_true, Option.getD_some, List.drop_succ_cons, List.drop_zero];simp only [Act.put, List.setIfInBounds_toArray, List.set_cons_succ, List.set_cons_zero];clear h0 hfq;replace HX := hid (HX.out.trans hX);replace HP := hid (HP.out.ext hX);replace HO := hid (World.ownsRow.ext' HO.out hX);replace HIL := hid (HIL.out.ext hX);replace HSS := hid (HSS.out.ext bU hX);replace HGL := hid (Nat.lt_of_lt_of_le HGL.out hX.size);replace HAP : Hid (∀ ad, Al = some ad -> (Value.slice Ar r cr).ownBlock ≠ some ad.block /\ ad.block < (W).heap.size) := hid (fun ad e => ⟨(HAP.out ad e).1, Nat.lt_of_lt_of_le (HAP.out ad e).2 hX.size⟩);clear hX HWV KW
     by_cases hl2 : le = true
     .
      subst hl2;have HEN : Hid (br (3 * S) ms li (ap (3 * S) ms r)) := hid (.inr (iq.1 (of_decide_eq_true HLE.out)));go_wp2
      go_ret2
      exact ⟨r, gs, _, HNE.out, HEN.out, rfl, HSS.out, HO.out, HX.out⟩
     .
      obtain rfl : le = false := by simpa using hl2
      clear hl2
      have HNX : Hid (∀ k, k < r + 1 -> ¬ br (3 * S) ms li (ap (3 * S) ms k)) := hid (fun k hk => by
       by_cases e : k = r
       .
        subst e;rintro (h | h)
        .
         rw [HOA.out] at h; cases h
        .
         exact absurd (iq.2 h) (of_decide_eq_false HLE.out)
       .
        exact HNE.out k (by omega))
      obtain ⟨hak, hnx, hke⟩ := ep HOA.out;simp only [HML.out] at hak hnx hke;have hanl : aa < nl := by have := HKL.out; omega
      obtain ⟨zz, hzz⟩ : ∃ zz : Nat, (al (ap (3 * S) ms r) n)[aa] = zz := ⟨_, rfl⟩;rw [hzz] at hnx;have hD1 : (ap (3 * S) ms (r + 1)) = (ap (3 * S) ms r) ++ [((zz : Nat) : Int)] := hnx;have HD1 := hid hD1;have HK1 : Hid (al (ap (3 * S) ms (r + 1)) n = (al (ap (3 * S) ms r) n).eraseIdx aa) := hid hke;have HER := hid (f5 hak)
      have HZB : Hid (∀ x ∈ ((al (ap (3 * S) ms r) n).map fun i : Nat => (i : Int)), -9223372036854775808 <= x /\ x <= 9223372036854775807) := hid (fun x hx => by
       obtain ⟨i, hi, rfl⟩ := List.mem_map.1 hx;have := (bL.1 hi).1;omega)
      obtain ⟨gl, ol, x, hAl, hx, _, x0⟩ := HIL.out.get hanl
      obtain rfl : x = (zz : Int) := by
       rw [List.getElem?_map, List.getElem?_eq_getElem hak, hzz] at hx;injection hx with hx;exact hx.symm
      subst hAl;have hz64 : zz < n := by rw [<- hzz]; exact (bL.1 (List.getElem_mem hak)).1
      have hsz := HX.out.size;clear hx hnx hD1 hke hak hzz;obtain ⟨hap1, hap2⟩ := HAP.out _ rfl;simp only at hap1 hap2;have HAP1 := hid hap1;clear hap1
      go_upto_region 13 with (at_builtin; refine ao _ du rfl _ _ rfl w.heap.size (.slice Ar r cr) r _ rfl (HO.out.alloc _) _ 1 1 [.int .i64 ((zz : Nat) : Int)] rfl rfl (At.new' _ [_] _ rfl) (by simp [Value.oneCell']) (by omega) (by unfold maxLen; omega) (by simp; omega) ?_; intro v8 w8 hown8 hgr8 hbl8; have HG8 := hid hgr8; have HO8 := hid hown8; have HB8 := hid hbl8; clear hgr8 hown8 hbl8)
      clear x0;have hkp := aG HG8.out;have HIL8 := hid ((HIL.out.ext ((Ext.refl W).alloc (.cells #[.int .i64 ((zz : Nat) : Int)] 3))).keepsA hkp (fun ad e => by injection e with e; subst e; simp only [Option.mem_toList, Option.mem_def]; exact HAP1.out));have HX8 := hid ((HX.out.alloc (.cells #[.int .i64 ((zz : Nat) : Int)] 3)).grown HG8.out (fun b hb => (HO.out.lt b hb).1));have HP8 := hid ((HP.out.alloc (.cells #[.int .i64 ((zz : Nat) : Int)] 3)).grown HG8.out (fun e => aQ HO.out HP.out (by decide) e.symm));obtain ⟨A8, c8, rfl⟩ := ak HO8.out;have hpl8 := HP8.out.lt;have HLO8 : Hid (∀ g, (Value.slice A8 (r + 1) c8).ownBlock = some g -> g < w8.heap.size) := hid (fun g hg => (HO8.out.lt g hg).2);clear hkp HO HIL HX HP HG8 HB8 HSS HGL;obtain ⟨mm, hmm⟩ : ∃ mm, nl - (aa + 1) = mm := ⟨_, rfl⟩;obtain ⟨kk, hkk⟩ : ∃ kk, cl - (aa + 1) = kk := ⟨_, rfl⟩;have HMM := hid hmm;have HKK := hid hkk;have ham : aa + mm = nl - 1 := by omega
      clear hmm hkk;obtain ⟨b8, hb8⟩ : ∃ b8, w8.heap.size = b8 := ⟨_, rfl⟩;have HB8 := hid hb8;refine rQ gl ol nl cl aa mm kk _ w8 HIL8.out hanl hcap (by omega) HMM HKK _ _ (by simp) rfl rfl ?_;rintro xv0 xv1 xv2 xv3 xv4 xv5 xv6 xv7 xv8 W2 hv0 rfl rfl rfl hv4 rfl rfl rfl rfl hX;simp only [ae, Try.f80, ab, Option.bind_some, Nat.reduceBEq, if_true, if_false, Bool.false_eq_true, Option.getD_some, List.drop_succ_cons, List.drop_zero];simp only [Act.put, List.setIfInBounds_toArray, List.set_cons_succ, List.set_cons_zero];rw [hb8] at hv4 HLO8 hpl8;have hsz2 := hX.size;rw [hb8] at hsz2;obtain ⟨A4, c4, rfl⟩ := ak hv4;have HV4 := hid hv4;have hy := (HIL8.out.ext hX).tail (c := cl) (aa + 1) (by omega) hcap;rw [HMM.out] at hy;have HY := hid hy;have hw8 := HX8.out.size;rw [hb8] at hw8;replace HX8 := hid (HX8.out.trans hX);replace HP8 := hid (HP8.out.ext hX);replace HO8 := hid (World.ownsRow.ext' HO8.out hX);have hmm64 : mm <= 64 := by omega
      have haa64 : aa <= 64 := by omega
      have hpl := HP8.out.lt;have hps : w.heap.size < b8 := hpl8;clear hX hv0 hv4 hy hb8 HB8
      go_wp2_with (at_builtin; refine ao _ du rfl _ _ rfl b8 (.slice A4 aa c4) aa _ rfl HV4.out _ mm kk _ rfl (by rw [List.length_map, HY.out.1]; omega) HY.out.2.2 (tn _) (by omega) (by unfold maxLen; omega) hsz2 ?_; intro v9 w9 hown9 hgr9 _; have HG9 := hid hgr9; have HO9 := hid hown9; clear hgr9 hown9)
      have hkp := aG HG9.out;have h4lo : ∀ g, (Value.slice A4 aa c4).ownBlock = some g -> b8 <= g := fun g hg => (bX HV4.out hg).1
      have HX9 := hid (hkp.ext HX8.out (fun g hg => by have := h4lo g (by simpa using hg); omega));have HP9 := hid (HP8.out.keeps hkp (fun hg => by have := h4lo _ (by simpa using hg); omega));have HO10 := hid (ag HO8.out hkp (fun g hg hm => by have h1 := h4lo g (by simpa using hm); have h2 := HLO8.out g hg; omega))
      have HO11 : Hid (w9.ownsRow b8 3 1 v9 (nl - 1) (((al (ap (3 * S) ms (r + 1)) n).map fun i : Nat => (i : Int)).map (Value.int .i64))) := hid (by
       have h := HO9.out;rw [<- List.map_append, ham, HER.out, <- HK1.out] at h;exact h)
      obtain ⟨A9, c9, rfl⟩ := ak HO11.out;have hc9 := (dB HO11.out).1
      have HI9 : Hid (Ints .i64 w9 A9 (nl - 1) ((al (ap (3 * S) ms (r + 1)) n).map fun i : Nat => (i : Int))) := hid (Ints.of_ownI HO11.out (fun x hx => by
       obtain ⟨i, hi, rfl⟩ := List.mem_map.1 hx;have := (bL.1 hi).1;omega))
      have HA9 : Hid (∀ ad, A9 = some ad -> b8 <= ad.block /\ ad.block < w9.heap.size) := hid (fun ad e => by
       subst e;exact bX HO11.out (g := ad.block) (by simp [Value.ownBlock]))
      clear hkp h4lo HX8 HP8 HO8 HO9 HG9 HY HV4 HIL8 HO11 HK1 HER;go_roundg (n - (r + 1) + 1)
      case rel =>
       refine ⟨r + 1, nl - 1, c9, A9, by omega, by omega, rfl, by omega, hc9, HNX, hid ?_, HI9, hid (fun ad e => ?_), HP9, HX9⟩
       .
        rw [HD1.out, List.map_append];exact HO10.out
       .
        obtain ⟨k1, k2⟩ := HA9.out ad e;exact ⟨fun e2 => by have := HLO8.out _ e2; omega, k2⟩
      case measure => omega
theorem pN (gt ot ct gs os cs S ss kk : Nat) (q : Rat) (sx : Bool) (Ax Bx : Option Addr) (lx cx mx kx : Nat) (sy : Bool) (Ay By : Option Addr) (ly cy my ky : Nat) (w : World) (a0 : w.cell? ⟨gt, ot + ss * 9 + kk * 3, none⟩ = some (.bool sx)) (a1 : w.cell? ⟨gt, ot + ss * 9 + kk * 3 + 1, none⟩ = some (.slice Ax lx cx)) (a2 : w.cell? ⟨gt, ot + ss * 9 + kk * 3 + 2, none⟩ = some (.slice Bx mx kx)) (b0 : w.cell? ⟨gs, os + ss * 9 + kk * 3, none⟩ = some (.bool sy)) (b1 : w.cell? ⟨gs, os + ss * 9 + kk * 3 + 1, none⟩ = some (.slice Ay ly cy)) (b2 : w.cell? ⟨gs, os + ss * 9 + kk * 3 + 2, none⟩ = some (.slice By my ky)) (_hs : ss < S) (_hs2 : (ss : Int) < (S : Int)) (_hk : kk < 3) (_hk2 : (kk : Int) < 3) (hx : RatC w (.agg #[.bool sx, .slice Ax lx cx, .slice Bx mx kx]) q) (hy : QZ w (.agg #[.bool sy, .slice Ay ly cy, .slice By my ky]) q) (hfq : FitQW q) : aF Try.prog Try.f74 9 14 36 w [22, 23, 24, 25, 26, 27, 28, 29, 30, 31, 32, 33, 34, 35] [.c (.slice (some ⟨gt, ot, none⟩) S ct), .c (.int .i64 (ss : Int)), .c (.int .i64 (kk : Int)), .c (.pointer (some ⟨gt, ot + ss * 9, none⟩)), .c (.pointer (some ⟨gt, ot + ss * 9 + kk * 3, none⟩)), .c (.agg #[.bool sx, .slice Ax lx cx, .slice Bx mx kx]), .c (.slice (some ⟨gs, os, none⟩) S cs), .c (.int .i64 (ss : Int)), .c (.int .i64 (kk : Int)), .c (.pointer (some ⟨gs, os + ss * 9, none⟩)), .c (.pointer (some ⟨gs, os + ss * 9 + kk * 3, none⟩)), .c (.agg #[.bool sy, .slice Ay ly cy, .slice By my ky]), .c (.bool true), .c (.bool false)] [(0, .slice (some ⟨gt, ot, none⟩) S ct), (1, .slice (some ⟨gs, os, none⟩) S cs), (5, .int .i64 (ss : Int)), (6, .int .i64 (kk : Int))] := by
 refine aI [[], [], [], [0, 1], [2, 3], [4], [], [], [], [6, 7], [8, 9], [10], [5, 11], [12]] (by kernel_rfl) (by kernel_rfl) rfl trivial ?_;simp only [ae, Try.f74, ab, Option.bind_some, Nat.reduceBEq, if_true, if_false, Bool.false_eq_true, Option.getD_some];simp only [List.take_succ_cons, List.take_zero]
 repeat' first | refine ⟨?_, ?_⟩ | fail
 all_goals first | (intro us W b hJ K hK0 hK Qz; simp only [aD, aq, ar, List.getD_cons_succ, List.getD_cons_zero]) | exact True.intro
 all_goals try (intros; have q0 := Ext.cell hJ a0; have q1 := Ext.cell hJ a1; have q2 := Ext.cell hJ a2; have q3 := Ext.cell hJ b0; have q4 := Ext.cell hJ b1; have q5 := Ext.cell hJ b2; go_simp; exact hK0 _ rfl)
 .
  intro e27 e33 e0 e1 e5 e6;go_simp;refine (fK (RatC.ext hx hJ) (hy.ext hJ) hfq).mono ?_;rintro e w' ⟨rfl, hX⟩;exact hK _ _ rfl hX
theorem pO (gt ot ct gs os cs S : Nat) (u : Nat -> Rat) (w : World) (hT : ShP RatC w gt ot S u) (hQ : ShP QZ w gs os S u) (hf : ∀ j, j < 3 * S -> FitQW (u j)) (_hS8 : S <= 8) :
  Calls Try.prog 74 #[.slice (some ⟨gt, ot, none⟩) S ct, .slice (some ⟨gs, os, none⟩) S cs] w (fun e w' => e = .returned (.bool true) /\ Ext w w') := by
 have HT := hid hT;have HQ := hid hQ;have HF := hid hf;clear hT hQ hf;have hnn : ((S : Int) != (S : Int)) = false := by simp
 have HX := hid (Ext.refl w);go_enter Try.func74, Try.ntmps74
 go_wp2_with fail
 go_loopg [5] S (fun fu iv wr => ∃ s : Nat, fu = S - s /\ s <= S /\ iv = .int .i64 (s : Int) /\ Hid (Ext w wr))
 case atStart => exact ⟨0, rfl, by omega, rfl, HX⟩
 case round =>
  clear HX;obtain ⟨s, rfl, hs, rfl, HX⟩ := hrel
  by_cases hlt : s < S
  .
   have q1 : decide (s < S) = true := decide_eq_true hlt;have q1b : decide ((s : Int) < (S : Int)) = true := decide_eq_true (by omega)
   go_wp2_with fail
   go_loopg [6] 3 (fun fu iv wz => ∃ k : Nat, fu = 3 - k /\ k <= 3 /\ iv = .int .i64 (k : Int) /\ Hid (Ext w wz))
   case atStart => exact ⟨0, rfl, by omega, rfl, HX⟩
   case round =>
    clear HX;obtain ⟨k, rfl, hk, rfl, HX⟩ := hrel
    by_cases hk3 : k < 3
    .
     have q2 : decide ((k : Int) < 3) = true := decide_eq_true (by omega);have q2b : decide (k < 3) = true := decide_eq_true hk3;obtain ⟨s1, A1, l1, c1, B1, m1, k1, x0, x1, x2, hx⟩ := (HT.out.ext fM HX.out) s k hlt hk3;obtain ⟨s2, A2, l2, c2, B2, m2, k2, y0, y1, y2, hy⟩ := (HQ.out.ext bU HX.out) s k hlt hk3
     go_upto_region 9 with (fail)
     refine pN gt ot ct gs os cs S s k (u (3 * s + k)) s1 A1 B1 l1 c1 m1 k1 s2 A2 B2 l2 c2 m2 k2 wr x0 x1 x2 y0 y1 y2 hlt (by omega) hk3 (by omega) hx hy (HF.out _ (by omega)) _ _ (by simp) ⟨rfl, rfl, rfl, rfl, trivial⟩ ?_;rintro W hX2;simp only [EndK, ae, Try.f74, ab, Option.bind_some, Nat.reduceBEq, if_true, if_false, Bool.false_eq_true, Option.getD_some, List.drop_succ_cons, List.drop_zero];simp only [Act.put, List.setIfInBounds_toArray, List.set_cons_succ, List.set_cons_zero];replace HX := hid (HX.out.trans hX2);clear hX2 x0 x1 x2 y0 y1 y2 hx hy;go_wp2;go_roundg (3 - (k + 1))
     case rel => exact ⟨k + 1, rfl, by omega, by go_num, HX⟩
     case measure => omega
    .
     obtain rfl : k = 3 := by omega
     go_wp2;go_roundg (S - (s + 1))
     case rel => exact ⟨s + 1, rfl, by omega, by go_num, HX⟩
     case measure => omega
  .
   obtain rfl : s = S := by omega
   have q1 : decide (s < s) = false := by simp
   have q1b : decide ((s : Int) < (s : Int)) = false := by simp
   go_wp2;go_ret
   exact ⟨rfl, HX.out⟩
theorem pP (b1 o1 c1 b2 o2 c2 n k : Nat) (x : Int) (w : World) (y1 : w.cell? ⟨b1, o1 + k, none⟩ = some (.int .i64 x)) (y2 : w.cell? ⟨b2, o2 + k, none⟩ = some (.int .i64 x)) (_hk : k < n) : aF Try.prog Try.f46 6 9 26 w [17, 18, 19, 20, 21, 22, 23, 24, 25] [.c (.slice (some ⟨b1, o1, none⟩) n c1), .c (.int .i64 (k : Int)), .c (.pointer (some ⟨b1, o1 + k, none⟩)), .c (.int .i64 x), .c (.slice (some ⟨b2, o2, none⟩) n c2), .c (.int .i64 (k : Int)), .c (.pointer (some ⟨b2, o2 + k, none⟩)), .c (.int .i64 x), .c (.bool false)] [(0, .slice (some ⟨b1, o1, none⟩) n c1), (1, .slice (some ⟨b2, o2, none⟩) n c2), (5, .int .i64 (k : Int))] := by
 refine aI [[], [], [0, 1], [2], [], [], [4, 5], [6], [3, 7]] (by kernel_rfl) (by kernel_rfl) rfl trivial ?_;simp only [ae, Try.f46, ab, Option.bind_some, Nat.reduceBEq, if_true, if_false, Bool.false_eq_true, Option.getD_some];simp only [List.take_succ_cons, List.take_zero]
 repeat' first | refine ⟨?_, ?_⟩ | fail
 all_goals first | (intro us W b hJ K hK0 hK Qz; simp only [aD, aq, ar, List.getD_cons_succ, List.getD_cons_zero]) | exact True.intro
 all_goals try (intros; have q0 := Ext.cell hJ y1; have q1 := Ext.cell hJ y2; go_simp; exact hK0 _ rfl)
theorem pQ (A B : Option Addr) (n c d : Nat) (xs : List Int) (w : World) (hA : Ints .i64 w A n xs) (hB : Ints .i64 w B n xs) (_hn : n <= 1000000) :
  Calls Try.prog 46 #[.slice A n c, .slice B n d] w fun e w' => e = .returned (.bool true) /\ Ext w w' := by
 have HA := hid hA;have HB := hid hB;clear hA hB;have hnn : ((n : Int) != (n : Int)) = false := by simp
 go_enter Try.func46, Try.ntmps46;go_wp2
 go_loopg [5] n (fun g i wr => ∃ k : Nat, g = n - k /\ k <= n /\ i = .int .i64 k /\ Ext w wr)
 case atStart => exact ⟨0, rfl, by omega, rfl, Ext.refl w⟩
 case round =>
  obtain ⟨k, rfl, hk, rfl, hX⟩ := hrel;have HX := hid hX;clear hX
  by_cases hlt : k < n
  .
   have q1 : decide ((k : Int) < (n : Int)) = true := decide_eq_true (by omega);obtain ⟨b, o, x, rfl, hx, _, hc1⟩ := (HA.out.ext HX.out).get hlt;obtain ⟨b', o', x', rfl, hx', _, hc2⟩ := (HB.out.ext HX.out).get hlt;obtain rfl : x' = x := by rw [hx] at hx'; exact (Option.some.inj hx').symm
   clear hx hx'
   go_upto_region 6 with (fail)
   refine pP b o c b' o' d n k x' wr hc1 hc2 hlt _ _ (by simp) ⟨rfl, rfl, rfl, trivial⟩ ?_;rintro W hXW;simp only [EndK, ae, Try.f46, ab, Option.bind_some, Nat.reduceBEq, if_true, if_false, Bool.false_eq_true, Option.getD_some, List.drop_succ_cons, List.drop_zero];simp only [Act.put, List.setIfInBounds_toArray, List.set_cons_succ, List.set_cons_zero];have HXW := hid (HX.out.trans hXW);clear hXW hc1 hc2;go_wp2;go_roundg (n - (k + 1))
   case rel => exact ⟨k + 1, rfl, by omega, by go_num, HXW.out⟩
   case measure => omega
  .
   obtain rfl : k = n := by omega
   have q1 : decide ((k : Int) < (k : Int)) = false := by simp
   go_wp2;go_ret
   exact ⟨rfl, HX.out⟩
theorem kI (S : Int) (A : Option Addr) (n c : Nat) (ms : List Mt) (li : Int) (w : World) (h : MsAt w A n ms) (hhv : pY S ms = true) :
  Calls Try.prog 17 #[.agg #[.int .i64 S, .slice A n c], .int .i64 li] w (fun e w' => e = .returned (.bool true) /\ Ext w w') := by
 have H := hid h;have HX := hid ((Ext.refl w).alloc (.cells #[.int .i64 S, .slice A n c] 76));have HP := hid (Blk.new w 76 #[.int .i64 S, .slice A n c]);clear h;go_enter Try.func17, Try.ntmps17
 go_upto_region 1 with (fail)
 generalize w.alloc _ = w1 at HX HP |-;have p0 := HP.out.cell 0;have p1 := HP.out.cell 1;simp only [List.getElem?_toArray, List.getElem?_cons_zero, List.getElem?_cons_succ] at p0 p1;have hh := cn S A n c ms _ (H.out.ext HX.out);rw [hhv] at hh
 go_wp2_with fail
 refine hh.mono ?_;rintro e w2 ⟨rfl, hX2⟩;clear hh p0 p1;replace HP := hid (HP.out.ext hX2);replace HX := hid (HX.out.trans hX2);clear hX2
 go_wp2_with fail
 refine (cN _).mono ?_;rintro e w19 ⟨rfl, hX⟩;replace HX := hid (HX.out.trans hX);clear hX;go_wp2;go_ret;exact ⟨rfl, HX.out⟩
theorem pR (S : Int) (A : Option Addr) (n c : Nat) (ms : List Mt) (li : Int) (w : World) (h : MsAt w A n ms) (hhv : pY S ms = false) (hV : ¬ VP S ms) :
  Calls Try.prog 17 #[.agg #[.int .i64 S, .slice A n c], .int .i64 li] w (fun e w' => e = .returned (.bool true) /\ Ext w w') := by
 have H := hid h;have HX := hid ((Ext.refl w).alloc (.cells #[.int .i64 S, .slice A n c] 76));have HP := hid (Blk.new w 76 #[.int .i64 S, .slice A n c]);clear h;go_enter Try.func17, Try.ntmps17
 go_upto_region 1 with (fail)
 generalize w.alloc _ = w1 at HX HP |-;have p0 := HP.out.cell 0;have p1 := HP.out.cell 1;simp only [List.getElem?_toArray, List.getElem?_cons_zero, List.getElem?_cons_succ] at p0 p1;have hh := cn S A n c ms _ (H.out.ext HX.out);rw [hhv] at hh
 go_wp2_with fail
 refine hh.mono ?_;rintro e w2 ⟨rfl, hX2⟩;clear hh p0 p1;replace HP := hid (HP.out.ext hX2);replace HX := hid (HX.out.trans hX2);clear hX2;have p0 := HP.out.cell 0;have p1 := HP.out.cell 1;simp only [List.getElem?_toArray, List.getElem?_cons_zero, List.getElem?_cons_succ] at p0 p1;have hv5 := aX S A n c ms _ (H.out.ext HX.out);rw [bd hV] at hv5
 go_wp2_with fail
 refine hv5.mono ?_;rintro e w3 ⟨rfl, hX2⟩;clear hv5 p0 p1;replace HP := hid (HP.out.ext hX2);replace HX := hid (HX.out.trans hX2);clear hX2
 go_upto_region 3 with (fail)
 have p0 := HP.out.cell 0;have p1 := HP.out.cell 1;simp only [List.getElem?_toArray, List.getElem?_cons_zero, List.getElem?_cons_succ] at p0 p1
 go_wp2_with fail
 refine (nr S A n c ms li _ (H.out.ext HX.out) hV).mono ?_;rintro e w4 ⟨rfl, hX2⟩;clear p0 p1;replace HP := hid (HP.out.ext hX2);replace HX := hid (HX.out.trans hX2);clear hX2
 go_upto_region 4 with (fail)
 have p0 := HP.out.cell 0;have p1 := HP.out.cell 1;simp only [List.getElem?_toArray, List.getElem?_cons_zero, List.getElem?_cons_succ] at p0 p1;have hv5 := aX S A n c ms _ (H.out.ext HX.out);rw [bd hV] at hv5
 go_wp2_with fail
 refine hv5.mono ?_;rintro e w5 ⟨rfl, hX2⟩;clear hv5 p0 p1;replace HP := hid (HP.out.ext hX2);replace HX := hid (HX.out.trans hX2);clear hX2
 go_wp2_with fail
 refine (cN _).mono ?_;rintro e w19 ⟨rfl, hX⟩;replace HX := hid (HX.out.trans hX);clear hX;go_wp2;go_ret;exact ⟨rfl, HX.out⟩
theorem nA (S : Nat) (A : Option Addr) (n c : Nat) (ms : List Mt) (li : Int) (w : World) (h : MsAt w A n ms) (hhv : pY (S : Int) ms = false) (hV : VP (S : Int) ms) (hS3 : 3 < S) :
  Calls Try.prog 17 #[.agg #[.int .i64 (S : Int), .slice A n c], .int .i64 li] w (fun e w' => e = .returned (.bool true) /\ Ext w w') := by
 have H := hid h;have HX := hid ((Ext.refl w).alloc (.cells #[.int .i64 (S : Int), .slice A n c] 76));have HP := hid (Blk.new w 76 #[.int .i64 (S : Int), .slice A n c]);clear h;go_enter Try.func17, Try.ntmps17
 go_upto_region 1 with (fail)
 generalize w.alloc _ = w1 at HX HP |-;have p0 := HP.out.cell 0;have p1 := HP.out.cell 1;simp only [List.getElem?_toArray, List.getElem?_cons_zero, List.getElem?_cons_succ] at p0 p1;have hh := cn (S : Int) A n c ms _ (H.out.ext HX.out);rw [hhv] at hh
 go_wp2_with fail
 refine hh.mono ?_;rintro e w2 ⟨rfl, hX2⟩;clear hh p0 p1;replace HP := hid (HP.out.ext hX2);replace HX := hid (HX.out.trans hX2);clear hX2;have p0 := HP.out.cell 0;have p1 := HP.out.cell 1;simp only [List.getElem?_toArray, List.getElem?_cons_zero, List.getElem?_cons_succ] at p0 p1;have hv5 := aX (S : Int) A n c ms _ (H.out.ext HX.out);rw [aW.2 hV] at hv5
 go_wp2_with fail
 refine hv5.mono ?_;rintro e w3 ⟨rfl, hX2⟩;clear hv5 p0 p1;replace HP := hid (HP.out.ext hX2);replace HX := hid (HX.out.trans hX2);clear hX2;have p0 := HP.out.cell 0;have p1 := HP.out.cell 1;simp only [List.getElem?_toArray, List.getElem?_cons_zero, List.getElem?_cons_succ] at p0 p1;have q1 : decide ((3 : Int) < (S : Int)) = true := decide_eq_true (by omega);have q1b : decide (3 < S) = true := decide_eq_true hS3;clear hS3
 go_wp2_with fail
 clear p0 p1;refine (cN _).mono ?_;rintro e w19 ⟨rfl, hX⟩;replace HX := hid (HX.out.trans hX);clear hX;go_wp2;go_ret;exact ⟨rfl, HX.out⟩
theorem nB (S : Nat) (A : Option Addr) (n c : Nat) (ms : List Mt) (li : Int) (w : World) (h : MsAt w A n ms) (hhv : pY (S : Int) ms = false) (hV : VP (S : Int) ms) (hS3 : S <= 3) (hn9 : 9 < n) :
  Calls Try.prog 17 #[.agg #[.int .i64 (S : Int), .slice A n c], .int .i64 li] w (fun e w' => e = .returned (.bool true) /\ Ext w w') := by
 have H := hid h;have HX := hid ((Ext.refl w).alloc (.cells #[.int .i64 (S : Int), .slice A n c] 76));have HP := hid (Blk.new w 76 #[.int .i64 (S : Int), .slice A n c]);clear h;go_enter Try.func17, Try.ntmps17
 go_upto_region 1 with (fail)
 generalize w.alloc _ = w1 at HX HP |-;have p0 := HP.out.cell 0;have p1 := HP.out.cell 1;simp only [List.getElem?_toArray, List.getElem?_cons_zero, List.getElem?_cons_succ] at p0 p1;have hh := cn (S : Int) A n c ms _ (H.out.ext HX.out);rw [hhv] at hh
 go_wp2_with fail
 refine hh.mono ?_;rintro e w2 ⟨rfl, hX2⟩;clear hh p0 p1;replace HP := hid (HP.out.ext hX2);replace HX := hid (HX.out.trans hX2);clear hX2;have p0 := HP.out.cell 0;have p1 := HP.out.cell 1;simp only [List.getElem?_toArray, List.getElem?_cons_zero, List.getElem?_cons_succ] at p0 p1;have hv5 := aX (S : Int) A n c ms _ (H.out.ext HX.out);rw [aW.2 hV] at hv5
 go_wp2_with fail
 refine hv5.mono ?_;rintro e w3 ⟨rfl, hX2⟩;clear hv5 p0 p1;replace HP := hid (HP.out.ext hX2);replace HX := hid (HX.out.trans hX2);clear hX2;have p0 := HP.out.cell 0;have p1 := HP.out.cell 1;simp only [List.getElem?_toArray, List.getElem?_cons_zero, List.getElem?_cons_succ] at p0 p1;have q1 : decide ((3 : Int) < (S : Int)) = false := decide_eq_false (by omega);have q1b : decide (3 < S) = false := decide_eq_false (by omega);have q2 : decide ((9 : Int) < (n : Int)) = true := decide_eq_true (by omega);have q2b : decide (9 < n) = true := decide_eq_true hn9;clear hS3 hn9
 go_wp2_with fail
 clear p0 p1;refine (cN _).mono ?_;rintro e w19 ⟨rfl, hX⟩;replace HX := hid (HX.out.trans hX);clear hX;go_wp2;go_ret;exact ⟨rfl, HX.out⟩
theorem pS (S : Nat) (A : Option Addr) (n c : Nat) (ms : List Mt) (li : Int) (w : World) (h : MsAt w A n ms) (hhv : pY (S : Int) ms = false) (hV : VP (S : Int) ms) (hS3 : S <= 3) (hn9 : n <= 9) (hl : li < 0) :
  Calls Try.prog 17 #[.agg #[.int .i64 (S : Int), .slice A n c], .int .i64 li] w (fun e w' => e = .returned (.bool true) /\ Ext w w') := by
 have H := hid h;have HX := hid ((Ext.refl w).alloc (.cells #[.int .i64 (S : Int), .slice A n c] 76));have HP := hid (Blk.new w 76 #[.int .i64 (S : Int), .slice A n c]);clear h;go_enter Try.func17, Try.ntmps17
 go_upto_region 1 with (fail)
 generalize w.alloc _ = w1 at HX HP |-;have p0 := HP.out.cell 0;have p1 := HP.out.cell 1;simp only [List.getElem?_toArray, List.getElem?_cons_zero, List.getElem?_cons_succ] at p0 p1;have hh := cn (S : Int) A n c ms _ (H.out.ext HX.out);rw [hhv] at hh
 go_wp2_with fail
 refine hh.mono ?_;rintro e w2 ⟨rfl, hX2⟩;clear hh p0 p1;replace HP := hid (HP.out.ext hX2);replace HX := hid (HX.out.trans hX2);clear hX2;have p0 := HP.out.cell 0;have p1 := HP.out.cell 1;simp only [List.getElem?_toArray, List.getElem?_cons_zero, List.getElem?_cons_succ] at p0 p1;have hv5 := aX (S : Int) A n c ms _ (H.out.ext HX.out);rw [aW.2 hV] at hv5
 go_wp2_with fail
 refine hv5.mono ?_;rintro e w3 ⟨rfl, hX2⟩;clear hv5 p0 p1;replace HP := hid (HP.out.ext hX2);replace HX := hid (HX.out.trans hX2);clear hX2;have p0 := HP.out.cell 0;have p1 := HP.out.cell 1;simp only [List.getElem?_toArray, List.getElem?_cons_zero, List.getElem?_cons_succ] at p0 p1;have q1 : decide ((3 : Int) < (S : Int)) = false := decide_eq_false (by omega);have q1b : decide (3 < S) = false := decide_eq_false (by omega);have q2 : decide ((9 : Int) < (n : Int)) = false := decide_eq_false (by omega);have q2b : decide (9 < n) = false := decide_eq_false (by omega);clear hS3 hn9
 go_upto_region 3 with (fail)
 clear p0 p1 q1 q1b q2 q2b;have p0 := HP.out.cell 0;have p1 := HP.out.cell 1;simp only [List.getElem?_toArray, List.getElem?_cons_zero, List.getElem?_cons_succ] at p0 p1
 go_wp2_with fail
 refine (kH S A n c ms li _ (H.out.ext HX.out) hV hl).mono ?_;rintro e w4 ⟨rfl, hX2⟩;clear p0 p1;replace HP := hid (HP.out.ext hX2);replace HX := hid (HX.out.trans hX2);clear hX2
 go_upto_region 4 with (fail)
 have p0 := HP.out.cell 0;have p1 := HP.out.cell 1;simp only [List.getElem?_toArray, List.getElem?_cons_zero, List.getElem?_cons_succ] at p0 p1;have hv5 := aX (S : Int) A n c ms _ (H.out.ext HX.out);rw [aW.2 hV] at hv5
 go_wp2_with fail
 refine hv5.mono ?_;rintro e w5 ⟨rfl, hX2⟩;clear hv5 p0 p1;replace HP := hid (HP.out.ext hX2);replace HX := hid (HX.out.trans hX2);clear hX2;have q3 : decide (li < 0) = true := decide_eq_true hl;clear hl
 go_wp2_with fail
 refine (cN _).mono ?_;rintro e w19 ⟨rfl, hX⟩;replace HX := hid (HX.out.trans hX);clear hX;go_wp2;go_ret;exact ⟨rfl, HX.out⟩
theorem rR (S : Nat) (A : Option Addr) (n c : Nat) (ms : List Mt) (li : Int) (w : World) (h : MsAt w A n ms) (hhv : pY (S : Int) ms = false) (hV : VP (S : Int) ms) (_hS3 : S <= 3) (_hn9 : n <= 9) (hl : 0 <= li) (hl2 : li <= 9223372036854775807) :
  Calls Try.prog 17 #[.agg #[.int .i64 (S : Int), .slice A n c], .int .i64 li] w (fun e w' => e = .returned (.bool true) /\ Ext w w') := by
 have H := hid h;have HX := hid ((Ext.refl w).alloc (.cells #[.int .i64 (S : Int), .slice A n c] 76));have HP := hid (Blk.new w 76 #[.int .i64 (S : Int), .slice A n c]);clear h;go_enter Try.func17, Try.ntmps17
 go_upto_region 1 with (fail)
 generalize w.alloc _ = w1 at HX HP |-;have p0 := HP.out.cell 0;have p1 := HP.out.cell 1;simp only [List.getElem?_toArray, List.getElem?_cons_zero, List.getElem?_cons_succ] at p0 p1;have hh := cn (S : Int) A n c ms _ (H.out.ext HX.out);rw [hhv] at hh
 go_wp2_with fail
 refine hh.mono ?_;rintro e w2 ⟨rfl, hX2⟩;clear hh p0 p1;replace HP := hid (HP.out.ext hX2);replace HX := hid (HX.out.trans hX2);clear hX2;have hS1 : 1 <= S := by have := hV.1; omega
 have HML := hid H.out.1;have p0 := HP.out.cell 0;have p1 := HP.out.cell 1;simp only [List.getElem?_toArray, List.getElem?_cons_zero, List.getElem?_cons_succ] at p0 p1;have hv5 := aX (S : Int) A n c ms _ (H.out.ext HX.out);rw [aW.2 hV] at hv5
 go_wp2_with fail
 refine hv5.mono ?_;rintro e w3 ⟨rfl, hX2⟩;clear hv5 p0 p1;replace HP := hid (HP.out.ext hX2);replace HX := hid (HX.out.trans hX2);clear hX2;have p0 := HP.out.cell 0;have p1 := HP.out.cell 1;simp only [List.getElem?_toArray, List.getElem?_cons_zero, List.getElem?_cons_succ] at p0 p1;have q1 : decide ((3 : Int) < (S : Int)) = false := decide_eq_false (by omega);have q1b : decide (3 < S) = false := decide_eq_false (by omega);have q2 : decide ((9 : Int) < (n : Int)) = false := decide_eq_false (by omega);have q2b : decide (9 < n) = false := decide_eq_false (by omega)
 go_upto_region 3 with (fail)
 clear p0 p1 q1 q1b q2 q2b;have p0 := HP.out.cell 0;have p1 := HP.out.cell 1;simp only [List.getElem?_toArray, List.getElem?_cons_zero, List.getElem?_cons_succ] at p0 p1
 go_wp2_with fail
 refine (ns S A n c ms li _ (H.out.ext HX.out) hV ⟨hl, hl2⟩).mono ?_;rintro e w4 ⟨r, gt, rv, hn1, he1, rfl, hT, hO, hX2⟩;clear p0 p1;obtain ⟨Ar, cr, rfl⟩ := ak hO;obtain ⟨ba, hba⟩ : ∃ ba, w3.heap.size = ba := ⟨_, rfl⟩;rw [hba] at hO;have HRA := hid hO;have HT := hid hT;have HN1 := hid hn1;have HE1 := hid he1;clear hT hO hn1 he1 hba;replace HP := hid (HP.out.ext hX2);replace HX := hid (HX.out.trans hX2);clear hX2
 go_upto_region 4 with (fail)
 have p0 := HP.out.cell 0;have p1 := HP.out.cell 1;simp only [List.getElem?_toArray, List.getElem?_cons_zero, List.getElem?_cons_succ] at p0 p1;have hv5 := aX (S : Int) A n c ms _ (H.out.ext HX.out);rw [aW.2 hV] at hv5
 go_wp2_with fail
 refine hv5.mono ?_;rintro e w5 ⟨rfl, hX2⟩;clear hv5 p0 p1;replace HT := hid (HT.out.ext fM hX2);replace HRA := hid (World.ownsRow.ext' HRA.out hX2);replace HP := hid (HP.out.ext hX2);replace HX := hid (HX.out.trans hX2);clear hX2;have q3 : decide (li < 0) = false := decide_eq_false (by omega)
 go_upto_region 8 with (fail)
 clear q3;have p0 := HP.out.cell 0;have p1 := HP.out.cell 1;simp only [List.getElem?_toArray, List.getElem?_cons_zero, List.getElem?_cons_succ] at p0 p1
 go_wp2_with fail
 refine (jP S A n c ms li _ (H.out.ext HX.out) hV ⟨by omega, hl2⟩).mono ?_;rintro e w6 ⟨r2, gs, rv2, hn2, he2, rfl, hsh, hO2, hX2⟩;clear p0 p1;obtain rfl : r2 = r := oI he2 hn2 HE1.out HN1.out;obtain ⟨As, cs, rfl⟩ := ak hO2;obtain ⟨bb, hbb⟩ : ∃ bb, w5.heap.size = bb := ⟨_, rfl⟩;rw [hbb] at hO2;have HRB := hid hO2;have HSH := hid hsh;clear hsh hO2 hn2 he2 hbb;replace HT := hid (HT.out.ext fM hX2);replace HRA := hid (World.ownsRow.ext' HRA.out hX2);replace HP := hid (HP.out.ext hX2);replace HX := hid (HX.out.trans hX2);clear hX2
 have HFS : Hid (∀ j, j < 3 * S -> FitQW (bz (3 * S) (a9 ms (ap (3 * S) ms r2)) j)) := hid (fun j _ => by
  have HVW := ip hV (ap (3 * S) ms r2);exact FitQW.of4 (dz HVW.2.2.2 HVW.2.2.1 (by omega) j) (by omega))
 have HDO : Hid (DropOk n (ap (3 * S) ms r2)) := hid (by have := gZ (3 * S) ms r2; rw [HML.out] at this; exact this)
 have hr9 : r2 <= 9 := by
  have := dL (limit := li) r2 HN1.out;have := HML.out;omega
 have HIB : Hid (∀ x ∈ ap (3 * S) ms r2, -9223372036854775808 <= x /\ x <= 9223372036854775807) := hid (fun x hx => by have := HDO.out.1 x hx; omega)
 go_upto_region 9 with (fail)
 go_wp2_with fail
 refine (pO gt 0 S gs 0 S S _ _ HT.out HSH.out HFS.out (by omega)).mono ?_;rintro e w7 ⟨rfl, hX2⟩;replace HT := hid (HT.out.ext fM hX2);replace HRA := hid (World.ownsRow.ext' HRA.out hX2);replace HSH := hid (HSH.out.ext bU hX2);replace HRB := hid (World.ownsRow.ext' HRB.out hX2);replace HP := hid (HP.out.ext hX2);replace HX := hid (HX.out.trans hX2);clear hX2
 go_wp2_with fail
 refine (pQ Ar As r2 cr cs _ _ (Ints.of_ownI HRA.out HIB.out) (Ints.of_ownI HRB.out HIB.out) (by omega)).mono ?_;rintro e w8 ⟨rfl, hX2⟩;replace HX := hid (HX.out.trans hX2);clear hX2
 go_wp2_with fail
 refine (cN _).mono ?_;rintro e w19 ⟨rfl, hX⟩;replace HX := hid (HX.out.trans hX);clear hX;go_wp2;go_ret;exact ⟨rfl, HX.out⟩
theorem ez (S : Int) (A : Option Addr) (n c : Nat) (ms : List Mt) (li : Int) (w : World) (h : MsAt w A n ms) (_ : -9223372036854775808 <= li) (hl2 : li <= 9223372036854775807) :
  Calls Try.prog 17 #[.agg #[.int .i64 S, .slice A n c], .int .i64 li] w (fun e w' => e = .returned (.bool true) /\ Ext w w') := by
 cases hhv : pY S ms with
 | true => exact kI S A n c ms li w h hhv
 | false =>
  by_cases hv : VP S ms
  .
   obtain ⟨s, rfl⟩ : ∃ s : Nat, S = s := ⟨S.toNat, by have := hv.1; omega⟩
   by_cases h3 : 3 < s
   .
    exact nA s A n c ms li w h hhv hv h3
   .
    by_cases h9 : 9 < n
    .
     exact nB s A n c ms li w h hhv hv (by omega) h9
    .
     by_cases hl : li < 0
     .
      exact pS s A n c ms li w h hhv hv (by omega) (by omega) hl
     .
      exact rR s A n c ms li w h hhv hv (by omega) (by omega) (by omega) hl2
  .
   exact pR S A n c ms li w h hhv hv
end Go.Proofs.Ytikhlcgnlbinfaa
