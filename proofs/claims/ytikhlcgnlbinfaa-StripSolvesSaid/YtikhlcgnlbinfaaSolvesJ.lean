/- Lemmas of the proof that follows (Solves, part 10): walks of functions by contract, and plain lemmas. Conditions: none. -/
import Derived.Test.YtikhlcgnlbinfaaSolvesI
set_option maxRecDepth 100000
set_option maxHeartbeats 32000000
namespace Go.Proofs.Ytikhlcgnlbinfaa
open Lib (hid)
open Go.RowKit
theorem eL {T : cR} {j f i k : Nat} (h1 : i <= k) (_h2 : k < i + f) (h3 : T k j ≠ 0) (h4 : ∀ m, i <= m -> m < k -> T m j = 0) : bD T j f i = some k := by
 induction f generalizing i with
 | zero => omega
 | succ f ih =>
  unfold bD
  rcases Nat.eq_or_lt_of_le h1 with rfl | h
  .
   rw [if_neg h3]
  .
   rw [if_pos (h4 i (Nat.le_refl _) h)];exact ih h (by omega) fun m hm hk => h4 m (by omega) hk
theorem f5 {T : cR} {j f i : Nat} (h : ∀ m, i <= m -> m < i + f -> T m j = 0) : bD T j f i = none := by
 induction f generalizing i with
 | zero => rfl
 | succ f ih =>
  unfold bD;rw [if_pos (h i (Nat.le_refl _) (by omega))];exact ih fun m hm hk => h m (by omega) (by omega)
theorem ei (n : Nat) (T : cR) (j : Nat) : (aQ n T j).top <= j := by
 induction j with
 | zero => exact Nat.le_refl _
 | succ j ih =>
  show (bi n j (aQ n T j)).top <= j + 1;unfold bi;split
  .
   simp only; omega
  .
   simp only; omega
/-- The row of a pivot as the program tells it. -/
def fC : Option (Option Nat) -> Int
 | some (some t) => (t : Int)
 | _ => -1
theorem iP {q : Rat} {z : Int} (_h : cE q = z) : z = 0 ↔ q = 0 := by
 rcases bd q with ⟨a, b⟩ | ⟨a, b⟩ | ⟨a, b⟩
 .
  constructor
  .
   omega
  .
   intro e; subst e; exact absurd a (by decide)
 .
  exact ⟨fun _ => a, fun _ => by omega⟩
 .
  constructor
  .
   omega
  .
   intro e; subst e; exact absurd a (by decide)
theorem kn {w : World} {base g size n c : Nat} {e : TypeId} {xs : List Value} (h : w.ownsRow base e size (.slice (some ⟨g, 0, none⟩) n c) n xs) : ∃ cur, Blk w g e cur /\ ∀ (i : Nat) (u : Value), xs[i]? = some u -> cur[i]? = some u := by
 obtain ⟨cur, hB, _, _, _, _, h4⟩ := cA h;refine ⟨cur, hB, fun i u hu => ?_⟩;rw [<- h4, List.getElem?_take] at hu;split at hu
 .
  simpa using hu
 .
  cases hu
theorem jM (gf cl ga ca kk L : Nat) (s1 : Bool) (A1 B1 : Option Addr) (l1 c1 m1 k1 : Nat) (s3 : Bool) (A3 B3 : Option Addr) (l3 c3 m3 k3 : Nat) (x q : Rat) (w : World) (x0 : w.cell? ⟨ga, kk * 3, none⟩ = some (.bool s1)) (x1 : w.cell? ⟨ga, kk * 3 + 1, none⟩ = some (.slice A1 l1 c1)) (x2 : w.cell? ⟨ga, kk * 3 + 2, none⟩ = some (.slice B1 m1 k1)) (f0 : w.cell? ⟨gf, 0, none⟩ = some (.bool s3)) (f1 : w.cell? ⟨gf, 1, none⟩ = some (.slice A3 l3 c3)) (f2 : w.cell? ⟨gf, 2, none⟩ = some (.slice B3 m3 k3)) (hx : NumX w (.agg #[.bool s1, .slice A1 l1 c1, .slice B1 m1 k1]) x L) (hq : NumX w (.agg #[.bool s3, .slice A3 l3 c3, .slice B3 m3 k3]) q L) (hqz : q ≠ 0) (hfit : FitQ (x / q) L) (_hk : kk < cl) (_hL : L <= 100000) : aF Try.prog Try.f120 17 10 76 w [66, 67, 68, 69, 70, 71, 72, 73, 74, 75] [.c (.slice (some ⟨ga, 0, none⟩) cl ca), .c (.int .i64 (kk : Int)), .c (.slice (some ⟨ga, 0, none⟩) cl ca), .c (.int .i64 (kk : Int)), .c (.pointer (some ⟨ga, kk * 3, none⟩)), .c (.agg #[.bool s1, .slice A1 l1 c1, .slice B1 m1 k1]), .c (.agg #[.bool s3, .slice A3 l3 c3, .slice B3 m3 k3]), .p fun v W => NumX W v (x / q) (L + L), .p fun v W => NumX W v (x / q) (L), .c (.pointer (some ⟨ga, kk * 3, none⟩))] [(9, .slice (some ⟨ga, 0, none⟩) cl ca), (10, .pointer (some ⟨gf, 0, none⟩)), (11, .int .i64 (kk : Int))] := by
 refine aJ [[], [], [], [], [2, 3], [4], [], [5, 6], [7], [0, 1]] (by kernel_rfl) (by kernel_rfl) rfl ⟨by intro v W W' h hX; exact NumX.ext h hX, by intro v W W' h hX; exact NumX.ext h hX, trivial⟩ ?_;simp only [ae, Try.f120, ab, Option.bind_some, Nat.reduceBEq, if_true, if_false, Bool.false_eq_true, Option.getD_some];simp only [List.take_succ_cons, List.take_zero]
 repeat' first | refine ⟨?_, ?_⟩ | fail
 all_goals first | (intro us W b hJ K hK0 hK Qz; simp only [aC, al, am, List.getD_cons_succ, List.getD_cons_zero]) | exact True.intro
 all_goals try (intros; have q0 := Ext.cell hJ x0; have q1 := Ext.cell hJ x1; have q2 := Ext.cell hJ x2; have q3 := Ext.cell hJ f0; have q4 := Ext.cell hJ f1; have q5 := Ext.cell hJ f2; go_simp; exact hK0 _ rfl)
 .
  intro e71 e72 e9 e10 e11;go_simp;refine (si (hx.ext hJ) (hq.ext hJ) hqz (by omega) (by omega)).mono ?_;rintro e w' ⟨v, rfl, hv, hX⟩;exact hK _ _ hv hX
 .
  intro e73 d7 e9 e10 e11;go_simp;refine (cF d7 (by omega)).mono ?_;rintro e w' ⟨v, rfl, hv, hX⟩;exact hK _ _ (hv.numx hfit) hX
theorem jN (gs gt ct nn cl ga ca aa tt jj : Nat) (s1 : Bool) (A1 B1 : Option Addr) (l1 c1 m1 k1 : Nat) (w : World) (hs : w.cell? ⟨gs, 0, none⟩ = some (.slice (some ⟨gt, 0, none⟩) nn ct)) (ha : w.cell? ⟨gt, aa, none⟩ = some (.slice (some ⟨ga, 0, none⟩) cl ca)) (x0 : w.cell? ⟨ga, jj * 3, none⟩ = some (.bool s1)) (x1 : w.cell? ⟨ga, jj * 3 + 1, none⟩ = some (.slice A1 l1 c1)) (x2 : w.cell? ⟨ga, jj * 3 + 2, none⟩ = some (.slice B1 m1 k1)) (_hA1 : aa < nn) (_hj : jj < cl) : aF Try.prog Try.f120 23 11 109 w [98, 99, 100, 101, 102, 103, 104, 105, 106, 107, 108] [.c (.agg #[.slice (some ⟨gt, 0, none⟩) nn ct]), .c (.int .i64 (aa : Int)), .c (.int .i64 (tt : Int)), .c (.pointer (some ⟨gs, 0, none⟩)), .c (.slice (some ⟨gt, 0, none⟩) nn ct), .c (.int .i64 (aa : Int)), .c (.pointer (some ⟨gt, aa, none⟩)), .c (.slice (some ⟨ga, 0, none⟩) cl ca), .c (.int .i64 (jj : Int)), .c (.pointer (some ⟨ga, jj * 3, none⟩)), .c (.agg #[.bool s1, .slice A1 l1 c1, .slice B1 m1 k1])] [(2, .pointer (some ⟨gs, 0, none⟩)), (6, .int .i64 (tt : Int)), (7, .int .i64 (jj : Int)), (12, .int .i64 (aa : Int))] := by
 refine aJ [[], [], [], [], [3], [], [4, 5], [6], [], [7, 8], [9]] (by kernel_rfl) (by kernel_rfl) rfl trivial ?_;simp only [ae, Try.f120, ab, Option.bind_some, Nat.reduceBEq, if_true, if_false, Bool.false_eq_true, Option.getD_some];simp only [List.take_succ_cons, List.take_zero]
 repeat' first | refine ⟨?_, ?_⟩ | fail
 all_goals first | (intro us W b hJ K hK0 hK Qz; simp only [aC, al, am, List.getD_cons_succ, List.getD_cons_zero]) | exact True.intro
 all_goals try (intros; have q0 := Ext.cell hJ hs; have q1 := Ext.cell hJ ha; have q2 := Ext.cell hJ x0; have q3 := Ext.cell hJ x1; have q4 := Ext.cell hJ x2; go_simp; exact hK0 _ rfl)
theorem ox (L base gt ct nn : Nat) (vs0 : List Value) (T0 : cR) (w : World) (hT : TabG 3 (Tri fun w v q => NumX w v q L) 217 226 base w gt ct nn (nn + 1) vs0 T0) (_hn : nn <= 100) (hfit : ∀ j, j <= nn -> ∀ i, i < nn -> ∀ c, c <= nn -> FitQ ((aQ nn T0 j).tab i c) L) (hL : L <= 100000) (_hbase : base <= w.heap.size) :
  Calls Try.prog 120 #[.agg #[.slice (some ⟨gt, 0, none⟩) nn ct], .int .i64 (nn : Int)] w (fun e w' => ∃ gp, e = .returned (.slice (some ⟨gp, 0, none⟩) nn nn) /\ w.heap.size <= gp /\ (∃ us, w'.ownsRow w.heap.size 3 1 (.slice (some ⟨gp, 0, none⟩) nn nn) nn us /\ NumK 1 dk w' us nn (fun j => fC ((aQ nn T0 nn).piv[j]?))) /\ (∃ vs, (∀ v ∈ vs, v ∈ vs0) /\ TabG 3 (Tri fun w v q => NumX w v q L) 217 226 base w' gt ct nn (nn + 1) vs (aQ nn T0 nn).tab) /\ Keeps (br gt vs0) w w') := by
 have hgt := hT.low.2;have HLOW := hid hT.tabL_low;have HIN := hid (dy gt vs0);have HT0 := hid hT;have HFIT := hid hfit;clear hT hfit;have hXe : Ext w (w.alloc (.cells #[.slice (some ⟨gt, 0, none⟩) nn ct] 201)) := (Ext.refl w).alloc _;have kS : Blk (w.alloc (.cells #[.slice (some ⟨gt, 0, none⟩) nn ct] 201)) w.heap.size 201 #[.slice (some ⟨gt, 0, none⟩) nn ct] := Blk.new w _ _;go_enter Try.func120, Try.ntmps120
 go_upto_region 1 with (fail)
 generalize w.alloc _ = w1 at hXe kS |-;have hs1 := hXe.size;have hs2 := kS.lt
 go_wp2_with (at_make; refine ap w1 dX rfl rfl _ _ rfl w.heap.size _ _ _ _ nn nn rfl rfl (by omega) (by omega) (Nat.le_refl _) (by omega) (by unfold maxLen; omega) hs1 ?_; intro w2 hown hext hsz)
 have hgp : w.heap.size < w1.heap.size := hs2;generalize w1.heap.size = gp at hown hgp |-;have HK := hid (Keeps.of_ext (hXe.trans hext) (br gt vs0));have KS := hid (kS.ext hext);have HT := hid (HT0.out.ext (aB L) (hXe.trans hext));have HPO := hid hown;clear hXe kS hs1 hs2 hext hsz hown HT0
 have HPN : Hid (NumK 1 dk w2 (List.replicate nn (.int .i64 0)) nn (fun u => if u < 0 then fC ((aQ nn T0 0).piv[u]?) else 0)) := hid (by
  refine (NumK.new 1 dk w2 _ nn (by simp) rfl rfl (x := 0) (fun i hi => ?_)).congr (fun j _ => by rw [if_neg (by omega)]);rw [List.getElem?_replicate, if_pos (by omega), Nat.mod_one];rfl)
 go_loopg [16, 6] nn (fun f iv tv wr => ∃ (j : Nat) (vs us : List Value), f = nn - j /\ j <= nn /\ iv = .int .i64 (j : Int) /\ tv = .int .i64 ((aQ nn T0 j).top : Int) /\ Hid (TabG 3 (Tri fun w v q => NumX w v q L) 217 226 base wr gt ct nn (nn + 1) vs (aQ nn T0 j).tab) /\ Hid (∀ v ∈ vs, v ∈ vs0) /\ Hid (wr.ownsRow w.heap.size 3 1 (.slice (some ⟨gp, 0, none⟩) nn nn) nn us) /\ Hid (NumK 1 dk wr us nn (fun u => if u < j then fC ((aQ nn T0 j).piv[u]?) else 0)) /\ Hid (Blk wr w.heap.size 201 #[.slice (some ⟨gt, 0, none⟩) nn ct]) /\ Hid (Keeps (br gt vs0) w wr))
 case atStart => exact ⟨0, vs0, _, rfl, Nat.zero_le _, rfl, rfl, HT, hid (fun v h => h), HPO, HPN, KS, HK⟩
 case round =>
  clear HT HPO HPN KS HK;obtain ⟨j, vs, us, rfl, hj, rfl, rfl, HT, HSUB, HPO, HPN, KS, HK⟩ := hrel
  by_cases hlt : j < nn
  .
   have q1 : decide (j < nn) = true := decide_eq_true hlt;have HSTEP : Hid (aQ nn T0 (j + 1) = bi nn j (aQ nn T0 j)) := hid rfl;have htp := ei nn T0 j;have hpl := lF nn T0 j;have hf1 := HFIT.out (j + 1) hlt;rw [HSTEP.out] at hf1;generalize hsg : aQ nn T0 j = sj at *;have HFIT1 := hid hf1;clear hf1 hsg;obtain ⟨tb, tp, pv, la, co⟩ := sj;simp only at htp hpl;replace HT : Hid (TabG 3 (Tri fun w v q => NumX w v q L) 217 226 base wr gt ct nn (nn + 1) vs tb) := HT;replace HPN : Hid (NumK 1 dk wr us nn (fun u => if u < j then fC (pv[u]?) else 0)) := HPN;have HPL := hid hpl;clear hpl;have hpc := af HPO.out (HPN.out.one hlt);have hpf := aL HPO.out j
   go_upto_region 7 with (fail)
   clear hpc hpf;have HNK := hid (fB HPO.out (fun x hx => by rw [HPN.out.map] at hx; obtain ⟨z, _, rfl⟩ := List.mem_map.1 hx; exact ⟨_, rfl⟩));have hk1 : Keeps [gp] wr (wr.setCell ⟨gp, j, none⟩ (.int .i64 (-1))) := (Keeps.refl [gp] wr).setCell (.inl (by simp)) _;have hgpn : ∀ g ∈ br gt vs0, g ≠ gp := fun g hg => by have := HLOW.out g hg; omega
   have HGPN := hid hgpn
   replace HT := hid (HT.out.keeps32 hk1 (fun g hg => by simp at hg; subst hg; exact HNK.out) (fun g hg => by
    simp at hg;subst hg;exact ⟨fun e => HGPN.out gt HIN.out.1 e.symm, fun v hv e => HGPN.out g ((HIN.out.2 v (HSUB.out v hv)) g e) rfl⟩))
   replace HPO := hid (bq (i := j) (u := .int .i64 (-1)) HPO.out);replace HPN := hid ((HPN.out.put1 hlt (-1)).any (wr.setCell ⟨gp, j, none⟩ (.int .i64 (-1))));replace KS := hid (KS.out.far (by simp only; omega) (.int .i64 (-1)) (p := ⟨gp, j, none⟩));replace HK := hid (HK.out.setCell (p := ⟨gp, j, none⟩) (.inr (by simp only; omega)) (.int .i64 (-1)));clear hk1 hgpn HNK;generalize wr.setCell _ _ = wa at HT HPO HPN KS HK |-
   go_wp2_with fail
   go_loopg [8] (nn - tp) (fun f av wq => ∃ k : Nat, f = nn - k /\ tp <= k /\ k <= nn /\ av = .int .i64 (k : Int) /\ Hid (∀ r, tp <= r -> r < k -> tb r j = 0) /\ Hid (Ext wa wq))
   case atStart => exact ⟨tp, rfl, Nat.le_refl _, by omega, rfl, hid (fun r h1 h2 => by omega), hid (Ext.refl _)⟩
   case round =>
    obtain ⟨k, rfl, hk1, hk2, rfl, HZ, HXQ⟩ := hrel;replace HT := hid (HT.out.ext (aB L) HXQ.out);replace HPO := hid (World.ownsRow.ext' HPO.out HXQ.out);replace HPN := hid (HPN.out.any wr);replace KS := hid (KS.out.ext HXQ.out);replace HK := hid (HK.out.trans (Keeps.of_ext HXQ.out _));have s0c := KS.out.cell 0;simp only [List.getElem?_toArray, List.getElem?_cons_zero] at s0c
    by_cases hkn : k < nn
    .
     have q2 : decide (k < nn) = true := decide_eq_true hkn;have g46 : ((k : Int) == (nn : Int)) = false := by simp; omega
     obtain ⟨gb, cb, rb, tcb, hvb, hob, hrb, hb1, hb2, hbt, hb3, hb4⟩ := HT.out.row (by decide) (Nat.succ_pos _) hkn;obtain ⟨s1, A1, l1, c1, B1, m1, k1, x0, x1, x2, hx⟩ := hrb.three (show j < nn + 1 by omega);replace x0 := af hob x0;replace x1 := af hob x1;replace x2 := af hob x2;have Hx := hid hx;clear hx;obtain ⟨tx, htx⟩ : ∃ tx, tb k j = tx := ⟨_, rfl⟩;rw [htx] at Hx;obtain ⟨sg, hsg⟩ : ∃ sg, cE tx = sg := ⟨_, rfl⟩;have HSG := hid (iP hsg);have HTX := hid htx;have HVB := hid hvb;have hjn : j < nn + 1 := by omega
     clear htx hvb hob hrb
     go_wp2_with fail
     refine (j9 Hx.out).mono ?_;rw [hsg];rintro e w3 ⟨rfl, hX⟩;clear x0 x1 x2 hsg s0c tcb Hx;replace HXQ := hid (HXQ.out.trans hX);replace HT := hid (HT.out.ext (aB L) hX);replace HPO := hid (World.ownsRow.ext' HPO.out hX);replace KS := hid (KS.out.ext hX);replace HK := hid (HK.out.trans (Keeps.of_ext hX _));clear hX
     by_cases hs0 : sg = 0
     .
      subst hs0;go_wp2;go_roundg (nn - (k + 1))
      case rel =>
       refine ⟨k + 1, rfl, by omega, by omega, by go_num, hid (fun r h1 h2 => ?_), HXQ⟩
       rcases Nat.lt_or_ge r k with h3 | h3
       .
        exact HZ.out r h1 h3
       .
        obtain rfl : r = k := by omega
        rw [HTX.out]; exact HSG.out.1 (by simp)
      case measure => omega
     .
      have g0 : (sg == 0) = false := by simpa using hs0
      have HLD : Hid (tx ≠ 0) := hid (fun h => hs0 (HSG.out.2 h));have HF : Hid (bD tb j (nn - tp) tp = some k) := hid (eL hk1 (by omega) (by rw [HTX.out]; exact HLD.out) HZ.out);have HST := hid (dM (s := ⟨tb, tp, pv, la, co⟩) (n := nn) (j := j) HF.out);clear HSG HZ HF HXQ;obtain ⟨ga, ca, ra, tca, hva, hoa, hra, ha1, ha2, hat, ha3, ha4⟩ := HT.out.row (by decide) (Nat.succ_pos _) (show tp < nn by omega);obtain ⟨cur, hcur, hci⟩ := kn HT.out.out;have hc1 := hci _ _ hva;have hc2 := hci _ _ HVB.out;have HVA := hid hva;have hHC := hid hcur;have hC1 := hid hc1;have hC2 := hid hc2;clear hva hoa hra tca hcur hci hc1 hc2;have s0c := KS.out.cell 0;simp only [List.getElem?_toArray, List.getElem?_cons_zero] at s0c;have htpn : tp < nn := by omega
      go_wp2_with fail
      refine (oi gt ct nn tp k (nn + 1) ga gb ca cb 226 cur w3 hHC.out hC1.out hC2.out htpn hkn).mono ?_;rintro e w4 ⟨rfl, hw4⟩;have hsw := (HT.out.ext (aB L) (Ext.refl w3).drew).swap (aB L) (by decide) htpn hkn HVA.out HVB.out (ag _ _ _) (ag _ _ _);rw [<- hw4] at hsw;have hks : Keeps [gt] w3 w4 := (Keeps.of_ext (Ext.refl w3).drew [gt]).trans hsw.2
      replace HT : Hid (TabG 3 (Tri fun w v q => NumX w v q L) 217 226 base w4 gt ct nn (nn + 1) ((vs.set tp (.slice (some ⟨gb, 0, none⟩) (nn + 1) cb)).set k (.slice (some ⟨ga, 0, none⟩) (nn + 1) ca)) (aK tb tp k)) := hid (hsw.1.congr (fun i c _ _ => by
       unfold aK
       by_cases e1 : i = k
       .
        by_cases e2 : i = tp
        .
         rw [if_pos e1, if_pos e2, <- e1, <- e2]
        .
         rw [if_pos e1, if_neg e2, if_pos e1]
       .
        rw [if_neg e1]
        by_cases e2 : i = tp
        .
         rw [if_pos e2, if_pos e2]
        .
         rw [if_neg e2, if_neg e2, if_neg e1]))
      have hvs1 : ∀ v ∈ (vs.set tp (.slice (some ⟨gb, 0, none⟩) (nn + 1) cb)).set k (.slice (some ⟨ga, 0, none⟩) (nn + 1) ca), v ∈ vs0 := fun v hv => by
       rcases List.mem_or_eq_of_mem_set hv with hv | rfl
       .
        rcases List.mem_or_eq_of_mem_set hv with hv | rfl
        .
         exact HSUB.out v hv
        .
         exact HSUB.out _ (List.mem_of_getElem? HVB.out)
       .
        exact HSUB.out _ (List.mem_of_getElem? HVA.out)
      clear HSUB HVA HVB hHC hC1 hC2 s0c hsw hw4 ha1 ha2 hat ha3 ha4 hb1 hb2 hbt hb3 hb4;generalize (vs.set tp (.slice (some ⟨gb, 0, none⟩) (nn + 1) cb)).set k (.slice (some ⟨ga, 0, none⟩) (nn + 1) ca) = vs at HT hvs1;have HSUB := hid hvs1;clear hvs1;replace HPO := hid (aj HPO.out hks (fun g hg hl => by simp [Value.ownBlock] at hg; simp at hl; omega));replace KS := hid (KS.out.keeps hks (by simp; omega));replace HK := hid (HK.out.trans (hks.mono (fun g hg _ => by simp at hg; subst hg; exact HIN.out.1)));clear hks;have HSW : Hid (∀ c, aK tb tp k tp c = tb k c) := hid (fun c => by unfold aK; rw [if_pos rfl]);obtain ⟨gr, cr, rr, hcr, hvr, hor, hrr, hr1, hr2, hrt, hr3, hr4⟩ := HT.out.row (by decide) (Nat.succ_pos _) htpn;obtain ⟨s1, A1, l1, c1, B1, m1, k1, x0, x1, x2, hx⟩ := hrr.three hjn;replace x0 := af hor x0;replace x1 := af hor x1;replace x2 := af hor x2;have Hx := hid hx;clear hx;rw [HSW.out, HTX.out] at Hx;have HVR := hid hvr;have hgrl : gr < w.heap.size := (HLOW.out gr (HIN.out.2 _ (HSUB.out _ (List.mem_of_getElem? hvr)) gr (by simp [Value.ownBlock]))).2;clear hvr hor hrr;have s0c := KS.out.cell 0;simp only [List.getElem?_toArray, List.getElem?_cons_zero] at s0c
      go_upto_region 14 with (fail)
      have hGP : gp < w4.heap.size := (cB HPO.out (g := gp) (by simp [Value.ownBlock])).2;have hXa : Ext w4 (w4.alloc (.cells #[.bool s1, .slice A1 l1 c1, .slice B1 m1 k1] 217)) := (Ext.refl _).alloc _;have kD := Blk.new w4 217 #[.bool s1, .slice A1 l1 c1, .slice B1 m1 k1];replace HT := hid (HT.out.ext (aB L) hXa);replace HPO := hid (World.ownsRow.ext' HPO.out hXa);replace KS := hid (KS.out.ext hXa);replace HK := hid (HK.out.trans (Keeps.of_ext hXa _));have HLX := hid (Hx.out.ext hXa);have hgd : w.heap.size <= w4.heap.size := by omega
      clear hXa x0 x1 x2 Hx s0c hcr;generalize w4.alloc _ = w5 at kD HT HPO KS HK HLX |-;generalize w4.heap.size = gd at kD hgd hGP |-;have KD := hid kD;clear kD
      go_wp2_with fail
      go_loopg [63] (nn + 1) (fun f iv wr => ∃ q : Nat, f = nn + 1 - q /\ q <= nn + 1 /\ iv = .int .i64 (q : Int) /\ Hid (TabG 3 (Tri fun w v q => NumX w v q L) 217 226 base wr gt ct nn (nn + 1) vs (fun i c => if i = tp /\ c < q then aK tb tp k tp c / tx else aK tb tp k i c)) /\ Hid (NumX wr (.agg #[.bool s1, .slice A1 l1 c1, .slice B1 m1 k1]) tx L) /\ Hid (Blk wr gd 217 #[.bool s1, .slice A1 l1 c1, .slice B1 m1 k1]) /\ Hid (Keeps (br gt vs0) w5 wr))
      case atStart => exact ⟨0, by omega, by omega, rfl, hid (HT.out.congr (fun i c _ _ => by rw [if_neg (by omega)])), HLX, KD, hid (Keeps.refl _ _)⟩
      case round =>
       clear HT HLX KD;obtain ⟨q, rfl, hq, rfl, HT, HLX, KD, HK5⟩ := hrel
       by_cases hql : q < nn + 1
       .
        have q3 : decide (q < nn + 1) = true := decide_eq_true hql;obtain ⟨v, rr, hv, hor, hrr⟩ := HT.out.tbl.row htpn;rw [HVR.out] at hv;injection hv with hv;subst hv;obtain ⟨s2, A2, l2, c2, B2, m2, k2, x0, x1, x2, hx⟩ := hrr.three hql;replace x0 := af hor x0;replace x1 := af hor x1;replace x2 := af hor x2;have Hx := hid hx;clear hx;rw [if_neg (by omega)] at Hx
        have HFQ : Hid (FitQ (aK tb tp k tp q / tx) L) := hid (by
         have := HFIT1.out tp htpn q (by omega);rw [HST.out] at this;simp only [aP, a7, if_true, HTX.out] at this;exact this)
        have HOR := hid hor;clear hrr hor
        go_upto_region 17 with (fail)
        refine jM gd (nn + 1) gr cr q L s2 A2 B2 l2 c2 m2 k2 s1 A1 B1 l1 c1 m1 k1 _ tx wr x0 x1 x2 (KD.out.cell 0) (KD.out.cell 1) (KD.out.cell 2) Hx.out HLX.out HLD.out HFQ.out hql hL _ _ (by simp) ⟨rfl, rfl, rfl, trivial⟩ ?_;rintro W hX xv7 _ xv8 hv;simp only [EndK, ae, Try.f120, ab, Option.bind_some, Nat.reduceBEq, if_true, if_false, Bool.false_eq_true, Option.getD_some, List.drop_succ_cons, List.drop_zero];simp only [Act.put, List.setIfInBounds_toArray, List.set_cons_succ, List.set_cons_zero];clear x0 x1 x2 Hx;replace HT := hid (HT.out.ext (aB L) hX);replace HK5 := hid (HK5.out.trans (Keeps.of_ext hX _));replace HLX := hid (HLX.out.ext hX);replace KD := hid (KD.out.ext hX);replace HOR := hid (World.ownsRow.ext' HOR.out hX);clear hX;obtain ⟨s4, A4, l4, c4, B4, m4, k4, rfl⟩ := NumX.open hv;have HN := hid hv;clear hv
        have HNI : Hid (NoInts W gr) := hid (by
         rcases HT.out.ni with h | h
         .
          omega
         .
          exact h.1 _ (List.mem_of_getElem? HVR.out) gr (by simp [Value.ownBlock]))
        have hlr := HOR.out.1;obtain ⟨u0, hu0⟩ : ∃ u, rr[q * 3]? = some u := ⟨_, List.getElem?_eq_getElem (by omega)⟩;obtain ⟨u1, hu1⟩ : ∃ u, rr[q * 3 + 1]? = some u := ⟨_, List.getElem?_eq_getElem (by omega)⟩;obtain ⟨u2, hu2⟩ : ∃ u, rr[q * 3 + 2]? = some u := ⟨_, List.getElem?_eq_getElem (by omega)⟩;have x0 := af HOR.out hu0;have x1 := af HOR.out hu1;have x2 := af HOR.out hu2;have f0 := aL HOR.out (q * 3);have f1 := aL HOR.out (q * 3 + 1);have f2 := aL HOR.out (q * 3 + 2);clear hu0 hu1 hu2 hlr;have HP := hid (HT.out.put3 (aB L) htpn hql HVR.out hrt (hx := gM HN.out HNI.out (q * 3) s4 A4 B4 l4 c4 m4 k4));go_wp2;go_roundg (nn + 1 - (q + 1))
        case rel =>
         refine ⟨q + 1, rfl, by omega, by go_num, hid (HP.out.1.congr (fun i c _ _ => ?_)), hid (gM HLX.out HNI.out (q * 3) s4 A4 B4 l4 c4 m4 k4), hid (((KD.out.far (by simp only; omega) _).far (by simp only; omega) _).far (by simp only; omega) _), hid (HK5.out.trans (HP.out.2.mono (fun g hg _ => by simp at hg; subst hg; exact HIN.out.2 _ (HSUB.out _ (List.mem_of_getElem? HVR.out)) g (by simp [Value.ownBlock]))))⟩
         by_cases hij : i = tp /\ c = q
         .
          obtain ⟨rfl, rfl⟩ := hij;rw [if_pos ⟨rfl, rfl⟩, if_pos (by omega)]
         .
          rw [if_neg hij]
          by_cases h2 : i = tp /\ c < q
          .
           rw [if_pos h2, if_pos (by omega)]
          .
           rw [if_neg h2, if_neg (by omega)]
        case measure => omega
       .
        obtain rfl : q = nn + 1 := by omega
        have hnf : ∀ i c, i < nn -> c < nn + 1 -> (fun i c => if i = tp /\ c < nn + 1 then aK tb tp k tp c / tx else aK tb tp k i c) i c = a7 (aK tb tp k) tp tx i c := fun i c _ hc => by
         show (if i = tp /\ c < nn + 1 then aK tb tp k tp c / tx else aK tb tp k i c) = _;unfold a7
         by_cases e : i = tp
         .
          rw [if_pos ⟨e, hc⟩, if_pos e]
         .
          rw [if_neg (by omega), if_neg e]
        replace HT : Hid (TabG 3 (Tri fun w v q => NumX w v q L) 217 226 base wr gt ct nn (nn + 1) vs (a7 (aK tb tp k) tp tx)) := hid (HT.out.congr hnf);clear hnf;replace HPO := hid (aj HPO.out HK5.out (fun g hg hl => by simp [Value.ownBlock] at hg; subst hg; exact HGPN.out _ hl rfl));replace HK := hid (HK.out.trans HK5.out);replace KS := hid (KS.out.keeps HK5.out (fun hl => by have := HLOW.out _ hl; omega));clear HLX KD HK5 q1
        have HFC : Hid (∀ i, i < nn -> ∀ c, c < nn + 1 -> i ≠ tp -> FitQ (a7 (aK tb tp k) tp tx i c - a7 (aK tb tp k) tp tx i j * a7 (aK tb tp k) tp tx tp c) L) := hid (fun i hi c hc hne => by
         have := HFIT1.out i hi c (by omega);rw [HST.out] at this;simp only [aP, if_neg hne, HTX.out] at this;exact this)
        have HSTT : Hid (bi nn j ⟨tb, tp, pv, la, co⟩ = ⟨aP (a7 (aK tb tp k) tp tx) tp j, tp + 1, pv ++ [some tp], la * tx, co ++ [j]⟩) := hid (by rw [HST.out]; simp only [HTX.out]);clear HFIT1 HST HTX HSW HLD;generalize a7 (aK tb tp k) tp tx = NT at HT HFC HSTT;have s0c := KS.out.cell 0;simp only [List.getElem?_toArray, List.getElem?_cons_zero] at s0c
        go_wp2_with fail
        clear s0c
        go_loopg [80] nn (fun f iv wz => ∃ q : Nat, f = nn - q /\ q <= nn /\ iv = .int .i64 (q : Int) /\ Hid (TabG 3 (Tri fun w v q => NumX w v q L) 217 226 base wz gt ct nn (nn + 1) vs (fun i c => if i < q /\ i ≠ tp then NT i c - NT i j * NT tp c else NT i c)) /\ Hid (Keeps (br gt vs0) wr wz))
        case atStart => exact ⟨0, by omega, by omega, rfl, hid (HT.out.congr (fun i c _ _ => by rw [if_neg (by omega)])), hid (Keeps.refl _ _)⟩
        case round =>
         clear HT;obtain ⟨q, rfl, hq, rfl, HT, HK6⟩ := hrel;have kS := KS.out.keeps HK6.out (fun hl => by have := HLOW.out _ hl; omega);have s0c := kS.cell 0;simp only [List.getElem?_toArray, List.getElem?_cons_zero] at s0c;have KSZ := hid kS;clear kS
         by_cases hql : q < nn
         .
          have q3 : decide (q < nn) = true := decide_eq_true hql
          by_cases hqt : q = tp
          .
           subst hqt;have g85 : ((q : Int) != (q : Int)) = false := by simp
           go_wp2;go_roundg (nn - (q + 1))
           case rel =>
            refine ⟨q + 1, rfl, by omega, by go_num, hid (HT.out.congr (fun i c _ _ => ?_)), HK6⟩
            by_cases h2 : i < q /\ i ≠ q
            .
             rw [if_pos h2, if_pos (by omega)]
            .
             rw [if_neg h2, if_neg (by omega)]
           case measure => omega
          .
           have g85 : ((q : Int) != (tp : Int)) = true := by simp; omega
           obtain ⟨ga, ca, ra, tca, hva, hoa, hra, ha1, ha2, hat, ha3, ha4⟩ := HT.out.row (by decide) (Nat.succ_pos _) hql;obtain ⟨s5, A5, l5, c5, B5, m5, k5, x0, x1, x2, hx⟩ := hra.three hjn;replace x0 := af hoa x0;replace x1 := af hoa x1;replace x2 := af hoa x2;have Hx := hid hx;clear hx;rw [if_neg (by omega)] at Hx;obtain ⟨tq, htq⟩ : ∃ tq, NT q j = tq := ⟨_, rfl⟩;rw [htq] at Hx;obtain ⟨sg2, hsg⟩ : ∃ sg, cE tq = sg := ⟨_, rfl⟩;have HSG := hid (iP hsg);have HTQ := hid htq;have HVA := hid hva;have hX0 := hid x0;have hX1 := hid x1;have hX2 := hid x2;have hTCA := hid tca;clear htq hva hoa hra ha1 ha2 hat ha3 ha4
           go_wp2_with fail
           refine (j9 Hx.out).mono ?_;rw [hsg];rintro e w7 ⟨rfl, hX⟩;clear x0 x1 x2 hsg s0c tca;replace HT := hid (HT.out.ext (aB L) hX);replace HK6 := hid (HK6.out.trans (Keeps.of_ext hX _));replace KSZ := hid (KSZ.out.ext hX);replace Hx := hid (Hx.out.ext hX);replace hX0 := hid (hX.cell hX0.out);replace hX1 := hid (hX.cell hX1.out);replace hX2 := hid (hX.cell hX2.out);replace hTCA := hid (hX.cell hTCA.out);clear hX
           by_cases hs2 : sg2 = 0
           .
            subst hs2;have HZ2 : Hid (NT q j = 0) := hid (by rw [HTQ.out]; exact HSG.out.1 (by simp));go_wp2;go_roundg (nn - (q + 1))
            case rel =>
             refine ⟨q + 1, rfl, by omega, by go_num, hid (HT.out.congr (fun i c _ _ => ?_)), HK6⟩
             by_cases h2 : i < q /\ i ≠ tp
             .
              rw [if_pos h2, if_pos (by omega)]
             .
              rw [if_neg h2]
              by_cases h3 : i = q
              .
               subst h3;rw [if_pos (by omega), HZ2.out];grind
              .
               rw [if_neg (by omega)]
            case measure => omega
           .
            have g96 : (sg2 != 0) = true := by simpa using hs2
            go_upto_region 23 with (fail)
            refine jN w.heap.size gt ct nn (nn + 1) ga ca q tp j s5 A5 B5 l5 c5 m5 k5 w7 (KSZ.out.cell 0) hTCA.out hX0.out hX1.out hX2.out hql hjn _ _ (by simp) ⟨rfl, rfl, rfl, rfl, trivial⟩ ?_;rintro W hX;simp only [EndK, ae, Try.f120, ab, Option.bind_some, Nat.reduceBEq, if_true, if_false, Bool.false_eq_true, Option.getD_some, List.drop_succ_cons, List.drop_zero];simp only [Act.put, List.setIfInBounds_toArray, List.set_cons_succ, List.set_cons_zero];replace HT := hid (HT.out.ext (aB L) hX);replace HK6 := hid (HK6.out.trans (Keeps.of_ext hX _));replace Hx := hid (Hx.out.ext hX);clear hX hX0 hX1 hX2 hTCA KSZ;have hsz6 := HK6.out.size;have hszw := HK.out.size
            have hfc : ∀ c, c < nn + 1 -> FitQ ((fun i c => if i < q /\ i ≠ tp then NT i c - NT i j * NT tp c else NT i c) q c - tq * (fun i c => if i < q /\ i ≠ tp then NT i c - NT i j * NT tp c else NT i c) tp c) L := fun c hc => by
             simp only;rw [if_neg (by omega), if_neg (by omega), <- HTQ.out];exact HFC.out q hql c hc hqt
            have HFCQ := hid hfc;clear hfc
            go_wp2_with fail
            refine (qh L base gt ct nn (nn + 1) q tp ga gr ca cr vs _ s5 A5 B5 l5 c5 m5 k5 tq _ HT.out hql htpn hqt HVA.out HVR.out Hx.out HFCQ.out hL (by omega) (by omega)).mono ?_;rintro e w8 ⟨rfl, hkc, hTc⟩;replace HK6 := hid (HK6.out.trans (hkc.mono (fun g hg _ => by simp at hg; subst hg; exact HIN.out.2 _ (HSUB.out _ (List.mem_of_getElem? HVA.out)) g (by simp [Value.ownBlock]))));replace HT := hid hTc;clear hkc hTc Hx HFCQ;go_wp2;go_roundg (nn - (q + 1))
            case rel =>
             refine ⟨q + 1, rfl, by omega, by go_num, hid (HT.out.congr (fun i c _ _ => ?_)), HK6⟩
             by_cases h3 : i = q
             .
              subst h3;rw [if_pos rfl, if_neg (show ¬ (i < i /\ i ≠ tp) by omega), if_neg (show ¬ (tp < i /\ tp ≠ tp) by omega), if_pos (show i < i + 1 /\ i ≠ tp by omega), HTQ.out]
             .
              rw [if_neg h3]
              by_cases h2 : i < q /\ i ≠ tp
              .
               rw [if_pos h2, if_pos (by omega)]
              .
               rw [if_neg h2, if_neg (by omega)]
            case measure => omega
         .
          obtain rfl : q = nn := by omega
          replace HPO := hid (aj HPO.out HK6.out (fun g hg hl => by simp [Value.ownBlock] at hg; subst hg; exact HGPN.out _ hl rfl));replace HK := hid (HK.out.trans HK6.out);replace HPN := hid (HPN.out.any wr)
          replace HT : Hid (TabG 3 (Tri fun w v q => NumX w v q L) 217 226 base wr gt ct q (q + 1) vs (aP NT tp j)) := hid (HT.out.congr (fun i c hi _ => by
           unfold aP
           by_cases e : i = tp
           .
            rw [if_neg (by omega), if_pos e, e]
           .
            rw [if_pos ⟨hi, e⟩, if_neg e]))
          have hpc := af HPO.out (HPN.out.one hlt);have hpf := aL HPO.out j;have HNK := hid (fB HPO.out (fun x hx => by rw [HPN.out.map] at hx; obtain ⟨z, _, rfl⟩ := List.mem_map.1 hx; exact ⟨_, rfl⟩));have HKG : Hid (Keeps [gp] wr (wr.setCell ⟨gp, j, none⟩ (.int .i64 (tp : Int)))) := hid ((Keeps.refl [gp] wr).setCell (.inl (by simp)) _);go_wp2;go_roundg (q - (j + 1))
          case rel =>
           refine ⟨j + 1, vs, _, rfl, by omega, by go_num, by rw [HSTEP.out, HSTT.out]; go_num, hid ?_, HSUB, hid (bq (i := j) (u := .int .i64 (tp : Int)) HPO.out), hid ?_, hid (KSZ.out.far (by simp only; omega) _), hid (HK.out.setCell (.inr (by simp only; omega)) _)⟩
           .
            rw [HSTEP.out, HSTT.out]
            exact HT.out.keeps32 HKG.out (fun g hg => by simp at hg; subst hg; exact HNK.out) (fun g hg => by
             simp at hg;subst hg;exact ⟨fun e => HGPN.out gt HIN.out.1 e.symm, fun v hv e => HGPN.out g ((HIN.out.2 v (HSUB.out v hv)) g e) rfl⟩)
           .
            rw [HSTEP.out, HSTT.out];refine ((HPN.out.put1 hlt (tp : Int)).any _).congr (fun u _ => ?_);simp only
            by_cases e : u = j
            .
             subst e;rw [if_pos rfl, if_pos (by omega), List.getElem?_append_right (by rw [HPL.out]; omega), HPL.out, Nat.sub_self];rfl
            .
             rw [if_neg e, if_neg e]
             by_cases h2 : u < j
             .
              rw [if_pos h2, if_pos (by omega), List.getElem?_append_left (by rw [HPL.out]; exact h2)]
             .
              rw [if_neg h2, if_neg (by omega)]
          case measure => omega
    .
     obtain rfl : k = nn := by omega
     have g46 : ((k : Int) == (k : Int)) = true := by simp
     have HF : Hid (bD tb j (k - tp) tp = none) := hid (f5 (fun m h1 h2 => HZ.out m h1 (by omega)));have HST := hid (fk (s := ⟨tb, tp, pv, la, co⟩) (n := k) (j := j) HF.out);go_wp2;go_roundg (k - (j + 1))
     case rel =>
      refine ⟨j + 1, vs, _, rfl, by omega, by go_num, by rw [HSTEP.out, HST.out], hid (by rw [HSTEP.out, HST.out]; exact HT.out), HSUB, HPO, hid ?_, KS, HK⟩;rw [HSTEP.out, HST.out];refine HPN.out.congr (fun u _ => ?_);simp only
      by_cases e : u = j
      .
       subst e;rw [if_pos rfl, if_pos (by omega), List.getElem?_append_right (by rw [HPL.out]; omega), HPL.out, Nat.sub_self];rfl
      .
       rw [if_neg e]
       by_cases h2 : u < j
       .
        rw [if_pos h2, if_pos (by omega), List.getElem?_append_left (by rw [HPL.out]; exact h2)]
       .
        rw [if_neg h2, if_neg (by omega)]
     case measure => omega
  .
   obtain rfl : j = nn := by omega
   have q1 : decide (j < j) = false := by simp
   go_wp2;go_ret
   exact ⟨gp, rfl, by omega, ⟨us, HPO.out, HPN.out.congr (fun u hu => by rw [if_pos hu])⟩, ⟨vs, HSUB.out, HT.out⟩, HK.out⟩

/-- Number or not yet: the three cells. -/
def ry (P : World -> Value -> Rat -> Prop) (w : World) (cs : List Value) (o : Option Rat) : Prop := ∃ s A l c B m k, cs = [.bool s, .slice A l c, .slice B m k] /\ ∀ q, o = some q -> P w (.agg #[.bool s, .slice A l c, .slice B m k]) q
/-- A relation that stores into blocks without integers leave as it is. -/
def Stays (P : World -> Value -> Rat -> Prop) : Prop := ∀ w w' L v q, P w v q -> Keeps L w w' -> (∀ g ∈ L, NoInts w g) -> P w' v q
theorem bl (K : Nat) : Stays fun w v q => NumX w v q K := fun _ _ _ _ _ h hk hN => h.keepsNI hk hN
theorem bT : Stays QZ := fun _ _ _ _ _ h hk hN => h.keepsNI hk hN
theorem RatV.keepsNI {w w' : World} {v : Value} {neg : Bool} {xs ys : List Int} {L : List Nat} (h : RatV w v neg xs ys) (hk : Keeps L w w') (hN : ∀ g ∈ L, NoInts w g) : RatV w' v neg xs ys := by
 unfold RatV at h |-;obtain ⟨A, l, c, B, m, k, h0, h1, h2, h3, h4, h5, h6⟩ := h;exact ⟨A, l, c, B, m, k, h0, h1.keepsNI hk hN, h2, h3, h4.keepsNI hk hN, h5, h6⟩
theorem cQ : Stays RatC := fun _ _ _ _ _ h hk hN => by
 obtain ⟨xs, ys, h1, h2, h3⟩ := h;exact ⟨xs, ys, h1.keepsNI hk hN, h2, h3⟩
theorem Stays.grows {P : World -> Value -> Rat -> Prop} (h : Stays P) : ∀ w w' v q, P w v q -> Ext w w' -> P w' v q := fun w w' v q hp he => h w w' [] v q hp (.of_ext he []) fun g hg => by simp at hg
theorem qV {P : World -> Value -> Rat -> Prop} (h : Stays P) : KindK 3 (ry P) :=
 ⟨fun w cs x hc => by obtain ⟨s, A, l, c, B, m, k, rfl, _⟩ := hc; rfl,
  fun w w' L cs x hc hk hN => by obtain ⟨s, A, l, c, B, m, k, e, hp⟩ := hc; exact ⟨s, A, l, c, B, m, k, e, fun q hq => h _ _ _ _ _ (hp q hq) hk hN⟩, fun e => by omega⟩
/-- N numbers in a row of one's own, of n elements with 'size' cells each. -/
structure RowN (P : World -> Value -> Rat -> Prop) (te : TypeId) (size base : Nat) (w : World) (g n c N : Nat) (f : Nat -> Option Rat) : Prop where
 fit : N * 3 = n * size
 row : ∃ us, w.ownsRow base te size (.slice (some ⟨g, 0, none⟩) n c) n us /\ NumK 3 (ry P) w us N f
 ni : NoInts w g
section
variable {P : World -> Value -> Rat -> Prop} {te : TypeId} {size base : Nat} {w w' : World} {g n c N : Nat} {f h : Nat -> Option Rat}
theorem RowN.keeps (hP : Stays P) (k : RowN P te size base w g n c N f) {L : List Nat} (he : Keeps L w w') (hN : ∀ q ∈ L, NoInts w q) (hg : g ∉ L) : RowN P te size base w' g n c N f := by
 obtain ⟨hf, ⟨us, h1, h2⟩, hn⟩ := k;obtain ⟨t, cs, h3, h4⟩ := hn;exact ⟨hf, ⟨us, aj h1 he (fun q hq => by simp [Value.ownBlock] at hq; subst hq; exact hg), h2.keep (qV hP) he hN⟩, ⟨t, cs, (he.block g h3.lt hg).trans h3, h4⟩⟩
theorem RowN.ext (hP : Stays P) (k : RowN P te size base w g n c N f) (he : Ext w w') : RowN P te size base w' g n c N f := k.keeps hP (.of_ext he []) (fun g hg => by simp at hg) (by simp)
theorem RowN.congr (k : RowN P te size base w g n c N f) (e : ∀ j, j < N -> f j = h j) : RowN P te size base w g n c N h := by
 obtain ⟨hf, ⟨us, h1, h2⟩, hn⟩ := k;exact ⟨hf, ⟨us, h1, h2.congr e⟩, hn⟩
theorem RowN.low (k : RowN P te size base w g n c N f) : base <= g /\ g < w.heap.size := by
 obtain ⟨hf, ⟨us, h1, h2⟩, hn⟩ := k;exact cB h1 (by simp [Value.ownBlock])
theorem RowN.free (k : RowN P te size base w g n c N f) (i : Nat) : w.frozen? ⟨g, i, none⟩ = false := by
 obtain ⟨hf, ⟨us, h1, h2⟩, hn⟩ := k;exact aL h1 i
/-- The cells of number j, at p = 3 j. -/
theorem RowN.cells (k : RowN P te size base w g n c N f) {j p : Nat} (hj : j < N) (hp : p = j * 3) : ∃ s A l c B m k, w.cell? ⟨g, p, none⟩ = some (.bool s) /\ w.cell? ⟨g, p + 1, none⟩ = some (.slice A l c) /\ w.cell? ⟨g, p + 2, none⟩ = some (.slice B m k) /\ ∀ q, f j = some q -> P w (.agg #[.bool s, .slice A l c, .slice B m k]) q := by
 subst hp;obtain ⟨hf, ⟨us, h1, h2⟩, hn⟩ := k;obtain ⟨cs, c1, ⟨s, A, l, c, B, m, k, rfl, h3⟩, h4⟩ := h2.2 j hj;exact ⟨s, A, l, c, B, m, k, af h1 (by have := h4 0 (by omega); simpa using this), af h1 (by have := h4 1 (by omega); simpa using this), af h1 (by have := h4 2 (by omega); simpa using this), h3⟩
/-- A number is stored at place j. -/
theorem RowN.put (hP : Stays P) (k : RowN P te size base w g n c N f) {j p : Nat} (hj : j < N) (hp : p = j * 3) {s : Bool} {A B : Option Addr} {l c1 l2 c2 : Nat} {x : Rat} (hx : P w (.agg #[.bool s, .slice A l c1, .slice B l2 c2]) x) :
  RowN P te size base (((w.setCell ⟨g, p, none⟩ (.bool s)).setCell ⟨g, p + 1, none⟩ (.slice A l c1)).setCell ⟨g, p + 2, none⟩ (.slice B l2 c2)) g n c N (fun i => if i = j then some x else f i) := by
 subst hp;obtain ⟨hf, ⟨us, h1, h2⟩, hn⟩ := k;have hkp : Keeps [g] w (((w.setCell ⟨g, j * 3, none⟩ (.bool s)).setCell ⟨g, j * 3 + 1, none⟩ (.slice A l c1)).setCell ⟨g, j * 3 + 2, none⟩ (.slice B l2 c2)) := (((Keeps.refl [g] w).setCell (.inl (by simp)) _).setCell (.inl (by simp)) _).setCell (.inl (by simp)) _;have hN : ∀ q ∈ [g], NoInts w q := fun q hq => by simp at hq; subst hq; exact hn
 have hb : j * 3 + 3 <= us.length := by rw [h2.1]; omega
 obtain ⟨e1, e2, e3⟩ := fY us (j * 3) (.bool s) (.slice A l c1) (.slice B l2 c2) hb;exact ⟨hf, ⟨_, bq (bq (bq h1)), (h2.keep (qV hP) hkp hN).put hj rfl ⟨_, _, _, _, _, _, _, rfl, fun q hq => by injection hq with hq; subst hq; exact hP _ _ _ _ _ hx hkp hN⟩ e1 e2 e3⟩, ((hn.set _ (ak s)).set _ (ag A l c1)).set _ (ag B l2 c2)⟩
/-- The row of zero values that 'make' gives. -/
theorem RowN.zero {z : Value} {us : List Value} (_hz : z.cells.size = size) (ho : w.ownsRow base te size (.slice (some ⟨g, 0, none⟩) n n) n us) (h1 : ∀ i, i < n * size -> us[i]? = z.cells[i % size]?) (h2 : ∀ u ∈ us, u ∈ z.cells) (hn : ∀ u ∈ z.cells, bC u) (hd : 3 ∣ size) (h3 : ∀ i, i < size -> z.cells[i]? = (#[.bool false, .slice none 0 0, .slice none 0 0] : Array Value)[i % 3]?) (hf : N * 3 = n * size) : RowN P te size base w g n n N (fun _ => none) := by
 refine ⟨hf, ⟨us, ho, NumK.new 3 (ry P) w us N (by rw [hf]; exact ho.1) (cs := [.bool false, .slice none 0 0, .slice none 0 0]) rfl ⟨_, _, _, _, _, _, _, rfl, fun q hq => by cases hq⟩ fun i hi => ?_⟩, ?_⟩
 .
  rw [hf] at hi
  have hs : 0 < size := by
   rcases Nat.eq_zero_or_pos size with h | h
   .
    subst h; omega
   .
    exact h
  rw [h1 i hi, h3 _ (Nat.mod_lt _ hs), Nat.mod_mod_of_dvd _ hd]
  rcases (show i % 3 = 0 \/ i % 3 = 1 \/ i % 3 = 2 by omega) with e | e | e <;> rw [e] <;> rfl
 .
  obtain ⟨cur, hB, _, _, _, h5, h6⟩ := cA ho;refine ⟨te, cur, hB, fun u hu => hn u (h2 u ?_)⟩;rw [<- h6, List.take_of_length_le (by simp [h5])]
  simpa using hu
theorem ShP.keeps {Q : World -> Value -> Rat -> Prop} (hQ : Stays Q) {v v' : World} {o S : Nat} {u : Nat -> Rat} {L : List Nat} (h : ShP Q v g o S u) (he : Keeps L v v') (hN : ∀ q ∈ L, NoInts v q) (hg : g ∉ L) : ShP Q v' g o S u := fun s k hs hk => by
 obtain ⟨sg, A, l, c, B, m, n, h0, h1, h2, h3⟩ := h s k hs hk
 have cell : ∀ i x, v.cell? ⟨g, i, none⟩ = some x -> v'.cell? ⟨g, i, none⟩ = some x := fun i x hx => by
  rw [<- hx];exact World.cell?_of_block (w := v) (he.block g (World.block_lt_of_cell? v _ hx) hg)
 exact ⟨sg, A, l, c, B, m, n, cell _ _ h0, cell _ _ h1, cell _ _ h2, hQ _ _ _ _ _ h3 he hN⟩
theorem ShP.imp2 {Q R : World -> Value -> Rat -> Prop} {v : World} {o S : Nat} {u : Nat -> Rat} (h : ShP Q v g o S u) (hi : ∀ j x, j < 3 * S -> Q v x (u j) -> R v x (u j)) : ShP R v g o S u := fun s k hs hk => by
 obtain ⟨sg, A, l, c, B, m, n, h0, h1, h2, h3⟩ := h s k hs hk;exact ⟨sg, A, l, c, B, m, n, h0, h1, h2, hi _ _ (by omega) h3⟩
theorem ShP.low {Q : World -> Value -> Rat -> Prop} {v : World} {o S : Nat} {u : Nat -> Rat} (h : ShP Q v g o S u) (hS : 0 < S) : g < v.heap.size := by
 obtain ⟨sg, A, l, c, B, m, n, h0, _⟩ := h 0 0 hS (by omega);exact World.block_lt_of_cell? v _ h0
theorem RowN.shp (k : RowN P te 9 base w g n c (3 * n) f) {u : Nat -> Rat} (hu : ∀ j, j < 3 * n -> f j = some (u j)) : ShP P w g 0 n u := fun s q hs hq => by
 obtain ⟨sg, A, l, c', B, m, k', h0, h1, h2, h3⟩ := k.cells (j := 3 * s + q) (p := 0 + s * 9 + q * 3) (by omega) (by omega);exact ⟨sg, A, l, c', B, m, k', h0, h1, h2, h3 _ (hu _ (by omega))⟩
end
end Go.Proofs.Ytikhlcgnlbinfaa
namespace Go.Proofs.Ytikhlcgnlbinfaa
open Lib (hid)
theorem qi {l : Rat} {z y : Int} {Z : Nat} {t : Rat} (hl : l = (z : Rat)) (_hz : z ≠ 0) (h : l * t = (y : Rat)) (hy : y.natAbs <= Z) : OverD z.natAbs Z t := by
 by_cases e : 0 <= z
 .
  refine ⟨y, ?_, hy⟩
  have : ((z.natAbs : Nat) : Rat) = (z : Rat) := by
   have : ((z.natAbs : Int) : Rat) = (z : Rat) := by rw [Int.natAbs_of_nonneg e]
   exact this
  rw [this, <- h, hl];grind
 .
  refine ⟨-y, ?_, by omega⟩
  have : ((z.natAbs : Nat) : Rat) = -(z : Rat) := by
   have : ((z.natAbs : Int) : Rat) = -(z : Rat) := by
    rw [show (z.natAbs : Int) = -z by omega, Rat.intCast_neg]
   exact this
  rw [this, Rat.intCast_neg, <- h, hl];grind
theorem eD {n k : Nat} (_hn : n <= 24) (_hk : k <= 64) : ((n + 1) * (27487790694400000 * k + 1)) ^ (n + 1) <= BB 52 := by
 have e1 : (n + 1) * (27487790694400000 * k + 1) <= 25 * (27487790694400000 * 64 + 1) := Nat.mul_le_mul (by omega) (by omega);refine Nat.le_trans (Nat.pow_le_pow_left e1 _) (Nat.le_trans (Nat.pow_le_pow_right (by decide) (show n + 1 <= 25 by omega)) ?_);unfold BB;decide
theorem lU {S : Int} {ms : List Mt} (h : ∀ m ∈ ms, VM S m) (hl : ms.length <= 64) {n : Nat} (hn : n <= 24) (j : Nat) (hj : j <= n) : ∃ P : Nat, 0 < P /\ P <= BB 52 /\ ∀ i, i < n -> ∀ c, c <= n -> OverD P (BB 52) ((aQ n (a9 ms n) j).tab i c) := by
 obtain ⟨Mp, hs⟩ := Stage.run (bj h n) j hj;obtain ⟨⟨z, hz, hb⟩, ht⟩ := hs.ints;have hB := eD hn hl;have hz0 : z ≠ 0 := fun e => hs.nz (by rw [hz, e]; rfl)
 refine ⟨z.natAbs, by omega, by omega, fun i hi c hc => ?_⟩;obtain ⟨y, hy, hyb⟩ := ht i hi c hc;exact qi hz hz0 hy (by omega)
theorem rZ {a b : Nat} (_h : a < b) : BB a < BB b := by
 have : BB b = BB a * BB (b - a) := by rw [<- eA]; congr 1; omega
 have h1 := ri a;have h2 : BB 1 <= BB (b - a) := ki (by omega);rw [jF] at h2;have h3 : BB a * 2 <= BB a * BB (b - a) := Nat.mul_le_mul_left _ (by omega);omega
theorem oy {n a : Nat} (_h : n <= BB a) : Fit 4294967296 n (a + 1) := by
 unfold Fit;have h1 := rZ (show a < a + 1 by omega);have h2 : (n : Int) < ((BB (a + 1) : Nat) : Int) := by omega
 have h3 : ((BB (a + 1) : Nat) : Int) = (4294967296 : Int) ^ (a + 1) := by unfold BB; rw [Int.natCast_pow]; rfl
 rw [h3] at h2;exact h2
theorem qW {n a : Nat} (h : n <= BB a) : Fit 65536 n (2 * (a + 1)) := by
 have h1 := oy h;unfold Fit at h1 |-;have : (65536 : Int) ^ (2 * (a + 1)) = (4294967296 : Int) ^ (a + 1) := by rw [Int.pow_mul]; rfl
 rw [this];exact h1
theorem OverD.fit {P a b : Nat} {q : Rat} (h : OverD P (BB a) q) (hP : 0 < P) (_hb : P <= BB b) : FitQ q (max a b + 1) := by
 obtain ⟨h1, h2⟩ := h.low hP;have ha : BB a <= BB (max a b) := ki (by omega);have hb' : BB b <= BB (max a b) := ki (by omega);exact ⟨oy (by omega), oy (by omega)⟩
theorem iQ {S : Int} {ms : List Mt} (h : ∀ m ∈ ms, VM S m) (hl : ms.length <= 64) {n : Nat} (hn : n <= 24) (j : Nat) (hj : j <= n) (i : Nat) (hi : i < n) (c : Nat) (hc : c <= n) : FitQ ((aQ n (a9 ms n) j).tab i c) 53 := by
 obtain ⟨P, h1, h2, h3⟩ := lU h hl hn j hj;have := (h3 i hi c hc).fit h1 h2;exact this
end Go.Proofs.Ytikhlcgnlbinfaa
namespace Go.Proofs.Ytikhlcgnlbinfaa
open Lib (hid)
open Go.RowKit
theorem r3 : Elem Try.prog 210 263 9 168 (.agg #[.bool false, .slice none 0 0, .slice none 0 0, .bool false, .slice none 0 0, .slice none 0 0, .bool false, .slice none 0 0, .slice none 0 0]) := Elem.mk' (by kernel_rfl) (by kernel_rfl) rfl (by decide)
theorem RowN.make9 {P : World -> Value -> Rat -> Prop} {te : TypeId} {base g n : Nat} {w : World} {us : List Value} (ho : w.ownsRow base te 9 (.slice (some ⟨g, 0, none⟩) n n) n us) (h1 : ∀ i, i < n * 9 -> us[i]? = (Value.agg #[.bool false, .slice none 0 0, .slice none 0 0, .bool false, .slice none 0 0, .slice none 0 0, .bool false, .slice none 0 0, .slice none 0 0]).cells[i % 9]?) (h2 : ∀ u ∈ us, u ∈ (Value.agg #[.bool false, .slice none 0 0, .slice none 0 0, .bool false, .slice none 0 0, .slice none 0 0, .bool false, .slice none 0 0, .slice none 0 0]).cells) : RowN P te 9 base w g n n (3 * n) (fun _ => none) :=
 RowN.zero rfl ho h1 h2 (fun u hu => by
  simp [Value.cells] at hu
  rcases hu with rfl | rfl | rfl | rfl | rfl | rfl
  all_goals first | exact ak _ | exact ag _ _ _) ⟨3, rfl⟩ (fun i hi => by
  match i, hi with
  | 0, _ => rfl
  | 1, _ => rfl
  | 2, _ => rfl
  | 3, _ => rfl
  | 4, _ => rfl
  | 5, _ => rfl
  | 6, _ => rfl
  | 7, _ => rfl
  | 8, _ => rfl
  | _ + 9, hi => omega) (by omega)
theorem qj {n : Nat} {s : jr} {j : Nat} : gH n s j = if 0 <= fC (s.piv[j]?) then s.tab (fC (s.piv[j]?)).toNat n else 0 := by
 unfold gH;split
 .
  rename_i i hp
  rw [hp];simp [fC]
 .
  rename_i h
  cases hp : s.piv[j]? with
  | none => rfl
  | some o =>
   cases o with
   | none => rfl
   | some t => exact absurd hp (h t)
theorem oz (o : Option (Option Nat)) : fC o = -1 \/ ∃ t : Nat, o = some (some t) /\ fC o = (t : Int) := by
 match o with
 | none => exact .inl rfl
 | some none => exact .inl rfl
 | some (some t) => exact .inr ⟨t, rfl, rfl⟩
theorem oA (go S jj ss kk : Nat) (w : World) (hss : Hid (jj / 3 = ss)) (hkk : Hid (jj % 3 = kk)) (_hs1 : ss < S) (_hk3 : (kk : Int) < 3) (_hk4 : kk < 3) (_hj : jj <= 1000) : aF Try.prog Try.f124 6 8 31 w [23, 24, 25, 26, 27, 28, 29, 30] [.c (.slice (some ⟨go, 0, none⟩) S S), .c (.int .i64 (jj : Int)), .c (.int .i64 (ss : Int)), .c (.int .i64 (jj : Int)), .c (.int .i64 (kk : Int)), .p fun v W => NumX W v (((0 : Int) : Rat)) (2), .c (.pointer (some ⟨go, ss * 9, none⟩)), .c (.pointer (some ⟨go, ss * 9 + kk * 3, none⟩))] [(4, .slice (some ⟨go, 0, none⟩) S S), (5, .int .i64 (jj : Int))] := by
 refine aJ [[], [], [1], [], [3], [], [0, 2], [4, 6]] (by kernel_rfl) (by kernel_rfl) rfl ⟨by intro v W W' h hX; exact NumX.ext h hX, trivial⟩ ?_;simp only [ae, Try.f124, ab, Option.bind_some, Nat.reduceBEq, if_true, if_false, Bool.false_eq_true, Option.getD_some];simp only [List.take_succ_cons, List.take_zero]
 repeat' first | refine ⟨?_, ?_⟩ | fail
 all_goals first | (intro us W b hJ K hK0 hK Qz; simp only [aC, al, am, List.getD_cons_succ, List.getD_cons_zero]) | exact True.intro
 all_goals try (intros; go_simp; exact hK0 _ rfl)
 .
  intro e24 e4 e5;have qw : IntKind.i64.wrap ((jj : Int) / 3) = (jj : Int) / 3 := IntWalk.i64_in _ (by omega);go_simp;exact hK0 _ (by have := hss.out; congr 1; omega)
 .
  intro e26 e4 e5;have ht : (jj : Int).tmod 3 = (jj : Int) % 3 := Int.tmod_eq_emod_of_nonneg (by omega);have qw : IntKind.i64.wrap ((jj : Int) % 3) = (jj : Int) % 3 := IntWalk.i64_in _ (by omega);go_simp;exact hK0 _ (by have := hkk.out; congr 1; omega)
 .
  intro e4 e5;go_simp;refine (hY 0 _ (by omega) (by omega)).mono ?_;rintro e w' ⟨v, rfl, hv, hX⟩;exact hK _ _ hv hX
theorem oB (go S jj ss kk gs gt ct nn tt ga ca gp : Nat) (s9 : Bool) (A9 B9 : Option Addr) (l9 c9 m9 k9 : Nat) (w : World) (hss : Hid (jj / 3 = ss)) (hkk : Hid (jj % 3 = kk)) (_hs1 : ss < S) (_hk3 : (kk : Int) < 3) (_hk4 : kk < 3) (_hj : jj <= 1000) (hs : w.cell? ⟨gs, 0, none⟩ = some (.slice (some ⟨gt, 0, none⟩) nn ct)) (ha : w.cell? ⟨gt, tt, none⟩ = some (.slice (some ⟨ga, 0, none⟩) (nn + 1) ca)) (hp : w.cell? ⟨gp, 0, none⟩ = some (.int .i64 (S : Int))) (_hqN : IntKind.i64.wrap (3 * (S : Int)) = (nn : Int)) (_htt : tt < nn) (_hnn : nn < nn + 1) (_hnn2 : (nn : Int) < (nn : Int) + 1) (x0 : w.cell? ⟨ga, nn * 3, none⟩ = some (.bool s9)) (x1 : w.cell? ⟨ga, nn * 3 + 1, none⟩ = some (.slice A9 l9 c9)) (x2 : w.cell? ⟨ga, nn * 3 + 2, none⟩ = some (.slice B9 m9 k9)) : aF Try.prog Try.f124 8 17 50 w [33, 34, 35, 36, 37, 38, 39, 40, 41, 42, 43, 44, 45, 46, 47, 48, 49] [.c (.slice (some ⟨go, 0, none⟩) S S), .c (.int .i64 (jj : Int)), .c (.int .i64 (ss : Int)), .c (.int .i64 (jj : Int)), .c (.int .i64 (kk : Int)), .c (.pointer (some ⟨gs, 0, none⟩)), .c (.slice (some ⟨gt, 0, none⟩) nn ct), .c (.int .i64 (tt : Int)), .c (.pointer (some ⟨gt, tt, none⟩)), .c (.slice (some ⟨ga, 0, none⟩) (nn + 1) ca), .c (.pointer (some ⟨gp, 0, none⟩)), .c (.int .i64 (S : Int)), .c (.int .i64 (nn : Int)), .c (.pointer (some ⟨ga, nn * 3, none⟩)), .c (.agg #[.bool s9, .slice A9 l9 c9, .slice B9 m9 k9]), .c (.pointer (some ⟨go, ss * 9, none⟩)), .c (.pointer (some ⟨go, ss * 9 + kk * 3, none⟩))] [(1, .pointer (some ⟨gp, 0, none⟩)), (3, .pointer (some ⟨gs, 0, none⟩)), (4, .slice (some ⟨go, 0, none⟩) S S), (5, .int .i64 (jj : Int)), (6, .int .i64 (tt : Int))] := by
 refine aJ [[], [], [1], [], [3], [], [5], [], [6, 7], [8], [], [10], [11], [9, 12], [13], [0, 2], [4, 15]] (by kernel_rfl) (by kernel_rfl) rfl trivial ?_;simp only [ae, Try.f124, ab, Option.bind_some, Nat.reduceBEq, if_true, if_false, Bool.false_eq_true, Option.getD_some];simp only [List.take_succ_cons, List.take_zero]
 repeat' first | refine ⟨?_, ?_⟩ | fail
 all_goals first | (intro us W b hJ K hK0 hK Qz; simp only [aC, al, am, List.getD_cons_succ, List.getD_cons_zero]) | exact True.intro
 all_goals try (intros; have q0 := Ext.cell hJ hs; have q1 := Ext.cell hJ ha; have q2 := Ext.cell hJ hp; have q3 := Ext.cell hJ x0; have q4 := Ext.cell hJ x1; have q5 := Ext.cell hJ x2; go_simp; exact hK0 _ rfl)
 .
  intro e34 e1 e3 e4 e5 e6;have qw : IntKind.i64.wrap ((jj : Int) / 3) = (jj : Int) / 3 := IntWalk.i64_in _ (by omega);go_simp;exact hK0 _ (by have := hss.out; congr 1; omega)
 .
  intro e36 e1 e3 e4 e5 e6;have ht : (jj : Int).tmod 3 = (jj : Int) % 3 := Int.tmod_eq_emod_of_nonneg (by omega);have qw : IntKind.i64.wrap ((jj : Int) % 3) = (jj : Int) % 3 := IntWalk.i64_in _ (by omega);go_simp;exact hK0 _ (by have := hkk.out; congr 1; omega)
theorem oC (S : Nat) (A : Option Addr) (n c : Nat) (ms : List Mt) (w : World) (h : MsAt w A n ms) (hv : VP S ms) :
  Calls Try.prog 124 #[.agg #[.int .i64 (S : Int), .slice A n c]] w (fun e w' => ∃ go, e = .returned (.slice (some ⟨go, 0, none⟩) S S) /\ w.heap.size <= go /\ ShP (fun w v q => NumX w v q 53) w' go 0 S (bp (3 * S) ms) /\ Ext w w') := by
 have hS1 : 1 <= S := by have := hv.1; omega
 have hS8 : S <= 8 := by have := hv.2.1; omega
 obtain ⟨nn, hN⟩ : ∃ nn, nn = 3 * S := ⟨_, rfl⟩;have hNb : nn <= 24 := by omega
 have hqN : IntKind.i64.wrap (3 * (S : Int)) = (nn : Int) := by rw [IntWalk.i64_in _ (by omega)]; omega
 have hfit := fun j hj i hi c hc => iQ hv.2.2.2 hv.2.2.1 hNb j hj i hi c hc
 have HFIT := hid hfit;have H := hid h;have HV := hid hv;have HNN := hid hN;rw [<- hN];clear h hv hN hfit;have hXe : Ext w (w.alloc (.cells #[.int .i64 (S : Int), .slice A n c] 76)) := (Ext.refl w).alloc _;have kP : Blk (w.alloc (.cells #[.int .i64 (S : Int), .slice A n c] 76)) w.heap.size 76 #[.int .i64 (S : Int), .slice A n c] := Blk.new w _ _;go_enter Try.func124, Try.ntmps124
 go_upto_region 1 with (fail)
 generalize w.alloc _ = w1 at hXe kP |-;have HX := hid hXe;have HP := hid kP;have p0 := kP.cell 0;have p1 := kP.cell 1;have hpl := kP.lt;simp only [List.getElem?_toArray, List.getElem?_cons_zero, List.getElem?_cons_succ] at p0 p1;clear hXe kP
 go_wp2_with fail
 refine (oh S nn A n c ms _ (H.out.ext HX.out) HV.out HNN.out).mono ?_;rintro e w2 ⟨gt, ct, vs0, rfl, hT, hct, hX⟩;replace HX := hid (HX.out.trans hX);replace HP := hid (HP.out.ext hX)
 have hT53 : TabG 3 (Tri fun w v q => NumX w v q 53) 217 226 w1.heap.size w2 gt ct nn (nn + 1) vs0 (a9 ms nn) := hT.impl (fun i j cs _ _ hc => by
  obtain ⟨s, A, l, c, B, m, k, e, hx⟩ := hc;exact ⟨s, A, l, c, B, m, k, e, hx.mono (by omega)⟩)
 have HT := hid hT53;have hX2 := hX.size;clear hT hX p0 p1 hT53
 go_upto_region 2 with (fail)
 have hXa : Ext w2 (w2.alloc (.cells #[.slice (some ⟨gt, 0, none⟩) nn ct] 201)) := (Ext.refl _).alloc _;have kB := Blk.new w2 201 #[.slice (some ⟨gt, 0, none⟩) nn ct];replace HX := hid (HX.out.trans hXa);replace HP := hid (HP.out.ext hXa);have HL := hid HT.out.tabL_low;replace HT := hid (HT.out.ext (aB 53) hXa);clear hXa;generalize w2.alloc _ = w3 at kB HX HP HT |-;have hgs : w.heap.size < w2.heap.size := by omega
 have hLS : ∀ g ∈ br gt vs0, w.heap.size < g /\ g < w2.heap.size := fun g hg => by have := HL.out g hg; omega
 generalize w2.heap.size = gs at kB hgs hLS hX2 |-;have HB := hid kB;have HLS := hid hLS;have hbl := kB.lt;clear kB hLS HL;have p0 := HP.out.cell 0;simp only [List.getElem?_toArray, List.getElem?_cons_zero] at p0;have hxs := HX.out.size
 go_upto_region 3 with (at_make; refine dg w3 r3 rfl _ _ rfl w.heap.size _ _ _ _ S S rfl rfl (by first | rfl | omega) (by first | rfl | omega) (Nat.le_refl _) (by omega) (by unfold maxLen; omega) hxs ?_; intro w4 us hown hz1 hz2 hext hsz)
 have hrow : RowN (fun w v q => NumX w v q 53) 263 9 w.heap.size w4 w3.heap.size S S (3 * S) (fun _ => none) := RowN.make9 hown hz1 hz2;replace HX := hid (HX.out.trans hext);replace HP := hid (HP.out.ext hext);replace HB := hid (HB.out.ext hext);replace HT := hid (HT.out.ext (aB 53) hext);generalize w3.heap.size = go at hrow hbl hsz hxs |-;have HR := hid hrow;clear hrow hown hz1 hz2 hext p0;have p0 := HP.out.cell 0;have b0 := HB.out.cell 0;simp only [List.getElem?_toArray, List.getElem?_cons_zero] at p0 b0;have hsx := HX.out.size
 go_wp2_with fail
 refine (ox 53 w1.heap.size gt ct nn vs0 (a9 ms nn) w4 HT.out (by omega) HFIT.out (by omega) (by omega)).mono ?_;rintro e w5 ⟨gp, rfl, hgp, ⟨up, hup, hpn⟩, ⟨vs, hsub, hT⟩, hk⟩;clear p0 b0
 have hni : ∀ g ∈ br gt vs0, NoInts w4 g := fun g hg => by
  rcases HT.out.ni with h | h
  .
   omega
  .
   rcases List.mem_cons.1 hg with rfl | hg
   .
    exact h.2
   .
    obtain ⟨v, hv, hvg⟩ := List.mem_filterMap.1 hg;exact h.1 v hv g hvg
 replace HX := hid (hk.ext HX.out (fun g hg => by have := HLS.out g hg; omega));replace HP := hid (HP.out.keeps hk (fun hg => by have := HLS.out _ hg; omega));replace HB := hid (HB.out.keeps hk (fun hg => by have := HLS.out _ hg; omega));replace HR := hid (HR.out.keeps (bl 53) hk hni (fun hg => by have := HLS.out _ hg; omega));replace HT := hid hT;have HPR : Hid (RowI w4.heap.size w5 gp nn nn (fun j => fC ((aQ nn (a9 ms nn) nn).piv[j]?))) := hid ⟨up, hup, hpn⟩;have hps : go < w4.heap.size := by have := hsz; omega
 have HPL : Hid (∀ j, j < nn -> ∀ t, (aQ nn (a9 ms nn) nn).piv[j]? = some (some t) -> t < nn) := hid (fun j hj t ht => by
  have h1 := Stage.pivtop (n := nn) (T := a9 ms nn) nn j t ht;have h2 := ei nn (a9 ms nn) nn;omega)
 have HSUB := hid hsub;have HNG := hid HR.out.ni;clear hT hup hpn hk hni hsub HFIT
 go_wp2_with fail
 go_loopg [18] nn (fun f iv wr => ∃ j : Nat, f = nn - j /\ j <= nn /\ iv = .int .i64 (j : Int) /\ Hid (RowN (fun w v q => NumX w v q 53) 263 9 w.heap.size wr go S S (3 * S) (fun u => if u < j then some (bp nn ms u) else none)) /\ Hid (Ext w wr) /\ Hid (Keeps [go] w5 wr))
 case atStart => exact ⟨0, by omega, by omega, rfl, hid (HR.out.congr (fun u _ => by rw [if_neg (by omega)])), HX, hid (Keeps.refl _ _)⟩
 case round =>
  clear HR HX;obtain ⟨j, rfl, hj, rfl, HR, HX, HK⟩ := hrel
  by_cases hlt : j < nn
  .
   have q1 : decide (j < nn) = true := decide_eq_true hlt;obtain ⟨ss, hss⟩ : ∃ ss, j / 3 = ss := ⟨_, rfl⟩;obtain ⟨kk, hkk⟩ : ∃ kk, j % 3 = kk := ⟨_, rfl⟩;have hkk3 : kk < 3 := by omega
   have hssS : ss < S := by have := HNN.out; omega
   have hpj : ss * 9 + kk * 3 = j * 3 := by omega
   have hj3 : j < 3 * S := by have := HNN.out; omega
   have HSS := hid hss;have HKK := hid hkk;have HPJ := hid hpj;clear hss hkk hpj;have hpr := HPR.out.keeps HK.out (by simp; omega);have xg := hpr.cell hlt;obtain ⟨pj, hpj⟩ : ∃ pj, fC ((aQ nn (a9 ms nn) nn).piv[j]?) = pj := ⟨_, rfl⟩;rw [hpj] at xg;have HPV := hid hpj;clear hpr hpj
   go_upto_region 6 with (fail)
   refine oA go S j ss kk wr HSS.out HKK.out hssS (by omega) hkk3 (by omega) _ _ (by simp) ⟨rfl, rfl, trivial⟩ ?_;rintro W hX xv5 hv;simp only [EndK, ae, Try.f124, ab, Option.bind_some, Nat.reduceBEq, if_true, if_false, Bool.false_eq_true, Option.getD_some, List.drop_succ_cons, List.drop_zero];simp only [Act.put, List.setIfInBounds_toArray, List.set_cons_succ, List.set_cons_zero];replace HR := hid (HR.out.ext (bl 53) hX);replace HX := hid (HX.out.trans hX);replace HK := hid (HK.out.trans (Keeps.of_ext hX _));clear xg hX;obtain ⟨s4, A4, l4, c4, B4, m4, k4, rfl⟩ := NumX.open hv;have HN := hid (hv.mono (show 2 <= 53 by omega));clear hv;obtain ⟨s2, A2, l2, c2, B2, m2, k2, x0, x1, x2, _⟩ := HR.out.cells hj3 HPJ.out;have f0 := HR.out.free (ss * 9 + kk * 3);have f1 := HR.out.free (ss * 9 + kk * 3 + 1);have f2 := HR.out.free (ss * 9 + kk * 3 + 2)
   go_upto_region 7 with (fail)
   clear x0 x1 x2 f0 f1 f2;have hput := HR.out.put (bl 53) hj3 HPJ.out HN.out;replace HK := hid (((HK.out.setCell (p := ⟨go, ss * 9 + kk * 3, none⟩) (.inl (by simp)) (.bool s4)).setCell (p := ⟨go, ss * 9 + kk * 3 + 1, none⟩) (.inl (by simp)) (.slice A4 l4 c4)).setCell (p := ⟨go, ss * 9 + kk * 3 + 2, none⟩) (.inl (by simp)) (.slice B4 m4 k4));replace HX := hid (((HX.out.setCell (p := ⟨go, ss * 9 + kk * 3, none⟩) (by simp only; omega) (.bool s4)).setCell (p := ⟨go, ss * 9 + kk * 3 + 1, none⟩) (by simp only; omega) (.slice A4 l4 c4)).setCell (p := ⟨go, ss * 9 + kk * 3 + 2, none⟩) (by simp only; omega) (.slice B4 m4 k4));clear HN HR;generalize ((W.setCell _ _).setCell _ _).setCell _ _ = wa at hput HK HX |-;have HR := hid hput;clear hput;have HSOL : Hid (bp nn ms j = if 0 <= pj then (aQ nn (a9 ms nn) nn).tab pj.toNat nn else 0) := hid (by unfold bp; rw [qj, HPV.out])
   rcases oz ((aQ nn (a9 ms nn) nn).piv[j]?) with hp | ⟨t, hp1, hp2⟩
   .
    obtain rfl : pj = -1 := by rw [<- HPV.out]; exact hp
    have HS0 : Hid (bp nn ms j = 0) := hid (by rw [HSOL.out, if_neg (by omega)]);clear hp;go_wp2;go_roundg (nn - (j + 1))
    case rel =>
     refine ⟨j + 1, rfl, by omega, by go_num, hid (HR.out.congr (fun u _ => ?_)), HX, HK⟩
     by_cases e : u = j
     .
      rw [if_pos e, e, if_pos (by omega), HS0.out]; rfl
     .
      rw [if_neg e]
      by_cases h2 : u < j
      .
       rw [if_pos h2, if_pos (by omega)]
      .
       rw [if_neg h2, if_neg (by omega)]
    case measure => omega
   .
    obtain rfl : pj = (t : Int) := by rw [<- HPV.out]; exact hp2
    have htn := HPL.out j hlt t hp1;have HS0 : Hid (bp nn ms j = (aQ nn (a9 ms nn) nn).tab t nn) := hid (by rw [HSOL.out, if_pos (by omega), Int.toNat_natCast]);clear hp1 hp2
    have hTW := HT.out.keeps (aB 53) HK.out (fun g hg => by simp at hg; subst hg; exact HNG.out) (fun g hg => by
     simp at hg;subst hg;refine ⟨?_, fun v hv e => ?_⟩
     .
      have := HLS.out gt (dy gt vs0).1; omega
     .
      have := HLS.out g ((dy gt vs0).2 v (HSUB.out v hv) g e); omega)
    obtain ⟨ga, ca, ra, tca, hva, hoa, hra, ha1, ha2, hat, ha3, ha4⟩ := hTW.row (by decide) (Nat.succ_pos _) htn;obtain ⟨s9, A9, l9, c9, B9, m9, k9, x0, x1, x2, hx⟩ := hra.three (Nat.lt_succ_self nn);replace x0 := af hoa x0;replace x1 := af hoa x1;replace x2 := af hoa x2;rw [<- HS0.out] at hx;have HN := hid hx;have hbw := HB.out.keeps HK.out (by simp; omega);have hpw := HP.out.keeps HK.out (by simp; omega);clear hTW hva hoa hra ha1 ha2 hat ha3 ha4 hx;have q7 : decide ((0 : Int) <= (t : Int)) = true := decide_eq_true (by omega)
    go_upto_region 8 with (fail)
    refine oB go S j ss kk gs gt ct nn t ga ca w.heap.size s9 A9 B9 l9 c9 m9 k9 wa HSS.out HKK.out hssS (by omega) hkk3 (by omega) (hbw.cell 0) tca (hpw.cell 0) hqN htn (Nat.lt_succ_self nn) (by omega) x0 x1 x2 _ _ (by simp) ⟨rfl, rfl, rfl, rfl, rfl, trivial⟩ ?_;rintro W hX;simp only [EndK, ae, Try.f124, ab, Option.bind_some, Nat.reduceBEq, if_true, if_false, Bool.false_eq_true, Option.getD_some, List.drop_succ_cons, List.drop_zero];simp only [Act.put, List.setIfInBounds_toArray, List.set_cons_succ, List.set_cons_zero];replace HR := hid (HR.out.ext (bl 53) hX);replace HX := hid (HX.out.trans hX);replace HK := hid (HK.out.trans (Keeps.of_ext hX _));replace HN := hid (HN.out.ext hX);clear x0 x1 x2 tca hbw hpw hX;obtain ⟨s2, A2, l2, c2, B2, m2, k2, x0, x1, x2, _⟩ := HR.out.cells hj3 HPJ.out;have f0 := HR.out.free (ss * 9 + kk * 3);have f1 := HR.out.free (ss * 9 + kk * 3 + 1);have f2 := HR.out.free (ss * 9 + kk * 3 + 2);have hput := HR.out.put (bl 53) hj3 HPJ.out HN.out;have HPUT := hid hput;clear hput;go_wp2;go_roundg (nn - (j + 1))
    case rel =>
     refine ⟨j + 1, rfl, by omega, by go_num, hid (HPUT.out.congr (fun u _ => ?_)), hid (((HX.out.setCell (by simp only; omega) _).setCell (by simp only; omega) _).setCell (by simp only; omega) _), hid (((HK.out.setCell (.inl (by simp)) _).setCell (.inl (by simp)) _).setCell (.inl (by simp)) _)⟩
     by_cases e : u = j
     .
      rw [if_pos e, e, if_pos (by omega)]
     .
      rw [if_neg e, if_neg e]
      by_cases h2 : u < j
      .
       rw [if_pos h2, if_pos (by omega)]
      .
       rw [if_neg h2, if_neg (by omega)]
    case measure => omega
  .
   obtain rfl : nn = j := by omega
   go_wp2;go_ret
   exact ⟨go, rfl, by omega, HR.out.shp (fun u hu => by rw [if_pos (by have := HNN.out; omega)]), HX.out⟩
theorem sw : Elem Try.prog 91 98 9 168 (.agg #[.bool false, .slice none 0 0, .slice none 0 0, .bool false, .slice none 0 0, .slice none 0 0, .bool false, .slice none 0 0, .slice none 0 0]) := Elem.mk' (by kernel_rfl) (by kernel_rfl) rfl (by decide)
theorem iR {P : World -> Value -> Rat -> Prop} {w : World} {k : Nat} (hk : k < 3) {s0 s1 s2 : Bool} {A0 A1 A2 B0 B1 B2 : Option Addr} {l0 c0 m0 k0 l1 c1 m1 k1 l2 c2 m2 k2 : Nat} {q : Nat -> Rat} (h0 : P w (.agg #[.bool s0, .slice A0 l0 c0, .slice B0 m0 k0]) (q 0)) (h1 : P w (.agg #[.bool s1, .slice A1 l1 c1, .slice B1 m1 k1]) (q 1)) (h2 : P w (.agg #[.bool s2, .slice A2 l2 c2, .slice B2 m2 k2]) (q 2)) :
  ∃ s A l c B m n, aA (Value.bool s0) (Value.bool s1) (Value.bool s2) k = .bool s /\ aA (Value.slice A0 l0 c0) (Value.slice A1 l1 c1) (Value.slice A2 l2 c2) k = .slice A l c /\ aA (Value.slice B0 m0 k0) (Value.slice B1 m1 k1) (Value.slice B2 m2 k2) k = .slice B m n /\ P w (.agg #[.bool s, .slice A l c, .slice B m n]) (q k) := by
 match k, hk with
 | 0, _ => exact ⟨_, _, _, _, _, _, _, rfl, rfl, rfl, h0⟩
 | 1, _ => exact ⟨_, _, _, _, _, _, _, rfl, rfl, rfl, h1⟩
 | 2, _ => exact ⟨_, _, _, _, _, _, _, rfl, rfl, rfl, h2⟩
 | _ + 3, hk => omega
theorem r4 (x0 x1 x2 x3 x4 x5 x6 x7 x8 : Value) {k : Nat} (hk : k < 3) (w : World) : (Instr.index 263 (.agg #[x0, x1, x2, x3, x4, x5, x6, x7, x8]) (.int .i64 (k : Int))).run Try.prog w = .ok (.agg #[aA x0 x3 x6 k, aA x1 x4 x7 k, aA x2 x5 x8 k]) w := by
 have i0 : ∀ w : World, (Instr.index 263 (.agg #[x0, x1, x2, x3, x4, x5, x6, x7, x8]) (.int .i64 0)).run Try.prog w = .ok (.agg #[x0, x1, x2]) w := fun _ => by kernel_rfl
 have i1 : ∀ w : World, (Instr.index 263 (.agg #[x0, x1, x2, x3, x4, x5, x6, x7, x8]) (.int .i64 1)).run Try.prog w = .ok (.agg #[x3, x4, x5]) w := fun _ => by kernel_rfl
 have i2 : ∀ w : World, (Instr.index 263 (.agg #[x0, x1, x2, x3, x4, x5, x6, x7, x8]) (.int .i64 2)).run Try.prog w = .ok (.agg #[x6, x7, x8]) w := fun _ => by kernel_rfl
 match k, hk with
 | 0, _ => exact i0 w
 | 1, _ => exact i1 w
 | 2, _ => exact i2 w
 | _ + 3, hk => omega
theorem r6 (x0 x1 x2 x3 x4 x5 x6 x7 x8 : Value) {k : Nat} (hk : k < 3) (w : World) : (Instr.index 98 (.agg #[x0, x1, x2, x3, x4, x5, x6, x7, x8]) (.int .i64 (k : Int))).run Try.prog w = .ok (.agg #[aA x0 x3 x6 k, aA x1 x4 x7 k, aA x2 x5 x8 k]) w := by
 have i0 : ∀ w : World, (Instr.index 98 (.agg #[x0, x1, x2, x3, x4, x5, x6, x7, x8]) (.int .i64 0)).run Try.prog w = .ok (.agg #[x0, x1, x2]) w := fun _ => by kernel_rfl
 have i1 : ∀ w : World, (Instr.index 98 (.agg #[x0, x1, x2, x3, x4, x5, x6, x7, x8]) (.int .i64 1)).run Try.prog w = .ok (.agg #[x3, x4, x5]) w := fun _ => by kernel_rfl
 have i2 : ∀ w : World, (Instr.index 98 (.agg #[x0, x1, x2, x3, x4, x5, x6, x7, x8]) (.int .i64 2)).run Try.prog w = .ok (.agg #[x6, x7, x8]) w := fun _ => by kernel_rfl
 match k, hk with
 | 0, _ => exact i0 w
 | 1, _ => exact i1 w
 | 2, _ => exact i2 w
 | _ + 3, hk => omega
theorem lV (go S ss kk gr : Nat) (sy : Bool) (Ay By : Option Addr) (ly cy my ky : Nat) (w : World) (x0 : w.cell? ⟨gr, 0, none⟩ = some (.bool sy)) (x1 : w.cell? ⟨gr, 1, none⟩ = some (.slice Ay ly cy)) (x2 : w.cell? ⟨gr, 2, none⟩ = some (.slice By my ky)) (_hs1 : ss < S) (_hk3 : (kk : Int) < 3) (_hk4 : kk < 3) : aF Try.prog Try.f125 11 6 40 w [34, 35, 36, 37, 38, 39] [.c (.slice (some ⟨go, 0, none⟩) S S), .c (.int .i64 (ss : Int)), .c (.int .i64 (kk : Int)), .c (.agg #[.bool sy, .slice Ay ly cy, .slice By my ky]), .c (.pointer (some ⟨go, ss * 9, none⟩)), .c (.pointer (some ⟨go, ss * 9 + kk * 3, none⟩))] [(4, .slice (some ⟨go, 0, none⟩) S S), (5, .int .i64 (ss : Int)), (7, .int .i64 (kk : Int)), (9, .pointer (some ⟨gr, 0, none⟩))] := by
 refine aJ [[], [], [], [], [0, 1], [2, 4]] (by kernel_rfl) (by kernel_rfl) rfl trivial ?_;simp only [ae, Try.f125, ab, Option.bind_some, Nat.reduceBEq, if_true, if_false, Bool.false_eq_true, Option.getD_some];simp only [List.take_succ_cons, List.take_zero]
 repeat' first | refine ⟨?_, ?_⟩ | fail
 all_goals first | (intro us W b hJ K hK0 hK Qz; simp only [aC, al, am, List.getD_cons_succ, List.getD_cons_zero]) | exact True.intro
 all_goals try (intros; have q0 := Ext.cell hJ x0; have q1 := Ext.cell hJ x1; have q2 := Ext.cell hJ x2; go_simp; exact hK0 _ rfl)
theorem rz (L gt ot S ct : Nat) (u : Nat -> Rat) (w : World) (hS : ShP (fun w v q => NumX w v q L) w gt ot S u) (_hL : L <= 100000) (hf : ∀ j, j < 3 * S -> FitQW (u j)) (_hS8 : S <= 1000) :
  Calls Try.prog 125 #[.slice (some ⟨gt, ot, none⟩) S ct] w (fun e w' => ∃ go, e = .returned (.tuple #[.slice (some ⟨go, 0, none⟩) S S, .int .i64 0]) /\ w.heap.size <= go /\ ShP RatC w' go 0 S u /\ Ext w w') := by
 have HS := hid hS;have HF := hid hf;clear hS hf;go_enter Try.func125, Try.ntmps125
 go_upto_region 1 with (fail)
 go_upto_region 2 with (at_make; refine dg w sw rfl _ _ rfl w.heap.size _ _ _ _ S S rfl rfl (by first | rfl | omega) (by first | rfl | omega) (Nat.le_refl _) (by omega) (by unfold maxLen; omega) (Nat.le_refl _) ?_; intro w4 us hown hz1 hz2 hext hsz)
 have hrow : RowN RatC 98 9 w.heap.size w4 w.heap.size S S (3 * S) (fun _ => none) := RowN.make9 hown hz1 hz2;have HR : Hid (RowN RatC 98 9 w.heap.size w4 w.heap.size S S (3 * S) (fun _ => none)) := hid hrow;have HX := hid hext;clear hrow hown hz1 hz2 hext
 go_wp2_with fail
 go_loopg [16] S (fun f iv wr => ∃ i : Nat, f = S - i /\ i <= S /\ iv = .int .i64 (i : Int) /\ Hid (RowN RatC 98 9 w.heap.size wr w.heap.size S S (3 * S) (fun j => if j < 3 * i then some (u j) else none)) /\ Hid (Ext w wr))
 case atStart => exact ⟨0, by omega, by omega, rfl, hid (HR.out.congr (fun j _ => by rw [if_neg (by omega)])), HX⟩
 case round =>
  clear HR HX hsz;obtain ⟨i, rfl, hi, rfl, HR, HX⟩ := hrel
  by_cases hlt : i < S
  .
   have q1 : decide (i < S) = true := decide_eq_true hlt;obtain ⟨s0, A0, l0, c0, B0, m0, k0, a0, b0, d0, e0⟩ := HS.out i 0 hlt (by omega);replace a0 := HX.out.cell a0;replace b0 := HX.out.cell b0;replace d0 := HX.out.cell d0;obtain ⟨s1, A1, l1, c1, B1, m1, k1, a1, b1, d1, e1⟩ := HS.out i 1 hlt (by omega);replace a1 := HX.out.cell a1;replace b1 := HX.out.cell b1;replace d1 := HX.out.cell d1;obtain ⟨s2, A2, l2, c2, B2, m2, k2, a2, b2, d2, e2⟩ := HS.out i 2 hlt (by omega);replace a2 := HX.out.cell a2;replace b2 := HX.out.cell b2;replace d2 := HX.out.cell d2;have HE0 := hid e0;have HE1 := hid e1;have HE2 := hid e2;clear e0 e1 e2;simp only [Nat.zero_mul, Nat.add_zero, Nat.one_mul] at a0 b0 d0 a1 b1 d1;have e3 : ot + i * 9 + 3 + 1 = ot + i * 9 + 4 := by omega
   have e4 : ot + i * 9 + 3 + 2 = ot + i * 9 + 5 := by omega
   have e6 : ot + i * 9 + 2 * 3 = ot + i * 9 + 6 := by omega
   have e7 : ot + i * 9 + 2 * 3 + 1 = ot + i * 9 + 7 := by omega
   have e8 : ot + i * 9 + 2 * 3 + 2 = ot + i * 9 + 8 := by omega
   rw [e3] at b1;rw [e4] at d1;rw [e7] at b2;rw [e8] at d2;rw [e6] at a2;clear e3 e4 e6 e7 e8
   go_upto_region 5 with (fail)
   have hXa : Ext wr (wr.alloc (.cells #[.bool s0, .slice A0 l0 c0, .slice B0 m0 k0, .bool s1, .slice A1 l1 c1, .slice B1 m1 k1, .bool s2, .slice A2 l2 c2, .slice B2 m2 k2] 263)) := (Ext.refl _).alloc _;have kB := Blk.new wr 263 #[.bool s0, .slice A0 l0 c0, .slice B0 m0 k0, .bool s1, .slice A1 l1 c1, .slice B1 m1 k1, .bool s2, .slice A2 l2 c2, .slice B2 m2 k2];replace HR := hid (HR.out.ext cQ hXa);replace HX := hid (HX.out.trans hXa);clear hXa a0 b0 d0 a1 b1 d1 a2 b2 d2;generalize wr.heap.size = gv at kB |-;generalize wr.alloc _ = w5 at kB HR HX |-;have y0 := kB.cell 0;have y1 := kB.cell 1;have y2 := kB.cell 2;have y3 := kB.cell 3;have y4 := kB.cell 4;have y5 := kB.cell 5;have y6 := kB.cell 6;have y7 := kB.cell 7;have y8 := kB.cell 8;simp only [List.getElem?_toArray, List.getElem?_cons_zero, List.getElem?_cons_succ] at y0 y1 y2 y3 y4 y5 y6 y7 y8;clear kB
   go_wp2_with fail
   clear y0 y1 y2 y3 y4 y5 y6 y7 y8
   go_loopg [22] 3 (fun f kv wr => ∃ k : Nat, f = 3 - k /\ k <= 3 /\ kv = .int .i64 (k : Int) /\ Hid (RowN RatC 98 9 w.heap.size wr w.heap.size S S (3 * S) (fun j => if j < 3 * i + k then some (u j) else none)) /\ Hid (Ext w wr))
   case atStart => exact ⟨0, by omega, by omega, rfl, HR, HX⟩
   case round =>
    clear HR HX;obtain ⟨k, rfl, hk, rfl, HR, HX⟩ := hrel
    by_cases hkl : k < 3
    .
     have q2 : decide (k < 3) = true := decide_eq_true hkl;obtain ⟨s9, A9, l9, c9, B9, m9, k9, g1, g2, g3, hq⟩ := iR (P := fun w v q => NumX w v q L) (w := wr) (q := fun k => u (3 * i + k)) hkl (HE0.out.ext HX.out) (HE1.out.ext HX.out) (HE2.out.ext HX.out);have ik := r4 (.bool s0) (.slice A0 l0 c0) (.slice B0 m0 k0) (.bool s1) (.slice A1 l1 c1) (.slice B1 m1 k1) (.bool s2) (.slice A2 l2 c2) (.slice B2 m2 k2) hkl;rw [g1, g2, g3] at ik;have HQ := hid hq;clear hq g1 g2 g3;have hj3 : 3 * i + k < 3 * S := by omega
     have HFQ := hid (HF.out _ hj3)
     go_upto_region 8 with (fail)
     have hXa : Ext wr (wr.alloc (.cells #[.bool s9, .slice A9 l9 c9, .slice B9 m9 k9] 217)) := (Ext.refl _).alloc _;have kB := Blk.new wr 217 #[.bool s9, .slice A9 l9 c9, .slice B9 m9 k9];replace HR := hid (HR.out.ext cQ hXa);replace HX := hid (HX.out.trans hXa);replace HQ := hid (HQ.out.ext hXa);clear hXa;generalize wr.heap.size = gn at kB |-;generalize wr.alloc _ = w6 at kB HR HX HQ |-;have y0 := kB.cell 0;have y1 := kB.cell 1;have y2 := kB.cell 2;simp only [List.getElem?_toArray, List.getElem?_cons_zero, List.getElem?_cons_succ] at y0 y1 y2;clear kB
     go_wp2_with fail
     refine (nR HQ.out (by omega) HFQ.out).mono ?_;rintro e w7 ⟨v7, rfl, hv, hX⟩;obtain ⟨s4, A4, l4, c4, B4, m4, k4, rfl⟩ := RatC.open hv;clear y0 y1 y2 HQ;replace HR := hid (HR.out.ext cQ hX);replace HX := hid (HX.out.trans hX);clear hX;have HV := hid hv;clear hv
     go_upto_region 9 with (fail)
     have hXa : Ext w7 (w7.alloc (.cells #[.bool s4, .slice A4 l4 c4, .slice B4 m4 k4] 97)) := (Ext.refl _).alloc _;have kB := Blk.new w7 97 #[.bool s4, .slice A4 l4 c4, .slice B4 m4 k4];replace HR := hid (HR.out.ext cQ hXa);replace HX := hid (HX.out.trans hXa);replace HV := hid (HV.out.ext hXa);clear hXa;generalize w7.heap.size = gn2 at kB |-;generalize w7.alloc _ = w8 at kB HR HX HV |-;have KB := hid kB;clear kB
     go_upto_region 11 with (fail)
     refine lV w.heap.size S i k gn2 s4 A4 B4 l4 c4 m4 k4 w8 (KB.out.cell 0) (KB.out.cell 1) (KB.out.cell 2) hlt (by omega) hkl _ _ (by simp) ⟨rfl, rfl, rfl, rfl, trivial⟩ ?_;rintro W hX;simp only [EndK, ae, Try.f125, ab, Option.bind_some, Nat.reduceBEq, if_true, if_false, Bool.false_eq_true, Option.getD_some, List.drop_succ_cons, List.drop_zero];simp only [Act.put, List.setIfInBounds_toArray, List.set_cons_succ, List.set_cons_zero];replace HR := hid (HR.out.ext cQ hX);replace HX := hid (HX.out.trans hX);replace HV := hid (HV.out.ext hX);clear hX KB;have hpj : i * 9 + k * 3 = (3 * i + k) * 3 := by omega
     obtain ⟨s2, A2, l2, c2, B2, m2, k2, z0, z1, z2, _⟩ := HR.out.cells hj3 hpj;have f0 := HR.out.free (i * 9 + k * 3);have f1 := HR.out.free (i * 9 + k * 3 + 1);have f2 := HR.out.free (i * 9 + k * 3 + 2);have HPUT := hid (HR.out.put cQ hj3 hpj HV.out);clear hpj;go_wp2;go_roundg (3 - (k + 1))
     case rel =>
      refine ⟨k + 1, rfl, by omega, by go_num, hid (HPUT.out.congr (fun j _ => ?_)), hid (((HX.out.setCell (by simp only; omega) _).setCell (by simp only; omega) _).setCell (by simp only; omega) _)⟩
      by_cases e : j = 3 * i + k
      .
       rw [if_pos e, e, if_pos (by omega)]
      .
       rw [if_neg e]
       by_cases h2 : j < 3 * i + k
       .
        rw [if_pos h2, if_pos (by omega)]
       .
        rw [if_neg h2, if_neg (by omega)]
     case measure => omega
    .
     obtain rfl : k = 3 := by omega
     go_wp2;go_roundg (S - (i + 1))
     case rel => exact ⟨i + 1, rfl, by omega, by go_num, hid (HR.out.congr (fun j _ => by rw [show 3 * (i + 1) = 3 * i + 3 by omega])), HX⟩
     case measure => omega
  .
   obtain rfl : i = S := by omega
   go_wp2
   go_ret2
   exact ⟨w.heap.size, rfl, by omega, HR.out.shp (fun j hj => by rw [if_pos hj]), HX.out⟩
end Go.Proofs.Ytikhlcgnlbinfaa
namespace Go.Proofs.Ytikhlcgnlbinfaa
open Lib (hid)
open Go.ChangeShapes Go.WideShapes Go.ChangeAt Go.RowKit Go.Joins
/-- The cells of a struct that came in. -/
theorem jO {P : Program} {W : World} {H : Type} {enc : TypeId × Value -> H} {t : TypeId} {fs : Array Field} {v : Value} {d : DataW H} {p : List MemPlace} {b base : Nat} {sp : Nat -> Bool} {hd : Bool} (hs : P.underlying t = some (.struct fs))
  (hv : Value.okWide P W .any base t v) (h : DataW.Trod enc P W b sp hd t v d p) : ∃ cs fuel z, v = .agg cs /\ cs.toList.length = P.cellsOf t /\ DataW.trod enc P W b sp hd fuel t cs.toList = some z := by
 obtain ⟨cs, rfl, hsz⟩ := okWide_struct hs hv;obtain ⟨fuel, hf⟩ := h;exact ⟨cs, fuel, _, rfl, by simpa using hsz, by simpa [Value.cells] using hf⟩
theorem qk {vs : List Value} {ms : List Mt} (h : CsR (fun cs m => cs = m.cells) vs ms) : vs = p8 ms := by
 induction ms generalizing vs with
 | nil => exact h
 | cons m ms ih =>
  obtain ⟨cs, rest, rfl, rfl, h3⟩ := h;rw [ih h3]; rfl
theorem rA {α : Type} {cs : List α} (h : cs.length = 7) : ∃ c0 c1 c2 c3 c4 c5 c6, cs = [c0, c1, c2, c3, c4, c5, c6] := by
 match cs, h with
 | [c0, c1, c2, c3, c4, c5, c6], _ => exact ⟨c0, c1, c2, c3, c4, c5, c6, rfl⟩
theorem r7 {W : World} {H : Type} {enc : TypeId × Value -> H} {fuel : Nat} {cs : List Value} {z : DataW H × List MemPlace} {b : Nat} {sp : Nat -> Bool} {hd : Bool} (hl : cs.length = 7) (hf' : DataW.trod enc Try.prog W b sp hd fuel 90 cs = some z) : ∃ m : Mt, cs = m.cells := by
 obtain ⟨c0, c1, c2, c3, c4, c5, c6, rfl⟩ := rA hl;obtain ⟨xs1, n1, _, _, _, hl1, hg1⟩ := DataW.trod_struct Try.underlying90 hf'
 have g1_0 : DataW.trod enc Try.prog W b sp hd n1 3 [c0] = xs1[0]? := by
  have h := hg1 0 _ rfl;rw [show Try.prog.cellsOf _ = 1 by kernel_rfl] at h;exact h
 rw [List.getElem?_eq_getElem (by rw [hl1]; decide)] at g1_0;obtain ⟨vc0, ec0, _, wc0⟩ := DataW.trod_int Try.underlying3 g1_0;simp only [List.cons.injEq, and_true] at ec0;subst ec0
 have g1_1 : DataW.trod enc Try.prog W b sp hd n1 3 [c1] = xs1[1]? := by
  have h := hg1 1 _ rfl;rw [show Try.prog.cellsOf _ = 1 by kernel_rfl] at h;exact h
 rw [List.getElem?_eq_getElem (by rw [hl1]; decide)] at g1_1;obtain ⟨vc1, ec1, _, wc1⟩ := DataW.trod_int Try.underlying3 g1_1;simp only [List.cons.injEq, and_true] at ec1;subst ec1
 have g1_2 : DataW.trod enc Try.prog W b sp hd n1 22 [c2, c3, c4] = xs1[2]? := by
  have h := hg1 2 _ rfl;rw [show Try.prog.cellsOf _ = 3 by kernel_rfl] at h;exact h
 rw [List.getElem?_eq_getElem (by rw [hl1]; decide)] at g1_2;obtain ⟨xs4, n4, _, _, _, hl4, hg4⟩ := DataW.trod_array Try.underlying22 g1_2
 have g4_0 : DataW.trod enc Try.prog W b sp hd n4 3 [c2] = xs4[0]? := by
  have h := hg4 0 (by decide);rw [show Try.prog.cellsOf _ = 1 by kernel_rfl] at h;exact h
 rw [List.getElem?_eq_getElem (by rw [hl4]; decide)] at g4_0;obtain ⟨vc2, ec2, _, wc2⟩ := DataW.trod_int Try.underlying3 g4_0;simp only [List.cons.injEq, and_true] at ec2;subst ec2
 have g4_1 : DataW.trod enc Try.prog W b sp hd n4 3 [c3] = xs4[1]? := by
  have h := hg4 1 (by decide);rw [show Try.prog.cellsOf _ = 1 by kernel_rfl] at h;exact h
 rw [List.getElem?_eq_getElem (by rw [hl4]; decide)] at g4_1;obtain ⟨vc3, ec3, _, wc3⟩ := DataW.trod_int Try.underlying3 g4_1;simp only [List.cons.injEq, and_true] at ec3;subst ec3
 have g4_2 : DataW.trod enc Try.prog W b sp hd n4 3 [c4] = xs4[2]? := by
  have h := hg4 2 (by decide);rw [show Try.prog.cellsOf _ = 1 by kernel_rfl] at h;exact h
 rw [List.getElem?_eq_getElem (by rw [hl4]; decide)] at g4_2;obtain ⟨vc4, ec4, _, wc4⟩ := DataW.trod_int Try.underlying3 g4_2;simp only [List.cons.injEq, and_true] at ec4;subst ec4
 have g1_3 : DataW.trod enc Try.prog W b sp hd n1 3 [c5] = xs1[3]? := by
  have h := hg1 3 _ rfl;rw [show Try.prog.cellsOf _ = 1 by kernel_rfl] at h;exact h
 rw [List.getElem?_eq_getElem (by rw [hl1]; decide)] at g1_3;obtain ⟨vc5, ec5, _, wc5⟩ := DataW.trod_int Try.underlying3 g1_3;simp only [List.cons.injEq, and_true] at ec5;subst ec5
 have g1_4 : DataW.trod enc Try.prog W b sp hd n1 3 [c6] = xs1[4]? := by
  have h := hg1 4 _ rfl;rw [show Try.prog.cellsOf _ = 1 by kernel_rfl] at h;exact h
 rw [List.getElem?_eq_getElem (by rw [hl1]; decide)] at g1_4;obtain ⟨vc6, ec6, _, wc6⟩ := DataW.trod_int Try.underlying3 g1_4;simp only [List.cons.injEq, and_true] at ec6;subst ec6;exact ⟨⟨vc0, vc1, vc2, vc3, vc4, vc5, vc6⟩, rfl⟩
theorem rB {α : Type} {cs : List α} (h : cs.length = 2) : ∃ c0 c1, cs = [c0, c1] := by
 match cs, h with
 | [c0, c1], _ => exact ⟨c0, c1, rfl⟩
theorem lW {W : World} {H : Type} {enc : TypeId × Value -> H} {v : Value} {d : DataW H} {p : List MemPlace} {b base : Nat} {sp : Nat -> Bool} {hd : Bool} (hv : Value.okWide Try.prog W .any base 76 v) (h : DataW.Trod enc Try.prog W b sp hd 76 v d p) : ∃ (S : Int) (A : Option Addr) (n c : Nat) (ms : List Mt), v = .agg #[.int .i64 S, .slice A n c] /\ MsAt W A n ms /\ n <= c /\ c <= 9223372036854775807 := by
 obtain ⟨cs, fuel, z, rfl, hl, hf⟩ := jO Try.underlying76 hv h;obtain ⟨c0, c1, he⟩ := rB (hl.trans (by kernel_rfl));rw [he] at hf;obtain ⟨xs1, n1, _, _, _, hl1, hg1⟩ := DataW.trod_struct Try.underlying76 hf
 have g0 : DataW.trod enc Try.prog W b sp hd n1 3 [c0] = xs1[0]? := by
  have h := hg1 0 _ rfl;rw [show Try.prog.cellsOf _ = 1 by kernel_rfl] at h;exact h
 rw [List.getElem?_eq_getElem (by rw [hl1]; decide)] at g0
 have g1 : DataW.trod enc Try.prog W b sp hd n1 74 [c1] = xs1[1]? := by
  have h := hg1 1 _ rfl;rw [show Try.prog.cellsOf _ = 1 by kernel_rfl] at h;exact h
 rw [List.getElem?_eq_getElem (by rw [hl1]; decide)] at g1;obtain ⟨v0, e0, _, w0⟩ := DataW.trod_int Try.underlying3 g0;simp only [List.cons.injEq, and_true] at e0;subst e0;obtain ⟨A, l, m, e1⟩ := slice_form Try.underlying74 g1;simp only [List.cons.injEq, and_true] at e1;subst e1;obtain ⟨ms, vs, h1, h2, h3, h4, h5⟩ := jh (k := 7) (R := fun cs (m : Mt) => cs = m.cells) Try.underlying74 (by kernel_rfl) (fun cs m e => by rw [e]; rfl) (fun fuel cs z hl hz => r7 hl hz) g1;rw [qk h2] at h3;exact ⟨v0, A, l, m, ms, congrArg Value.agg (Array.toList_inj.1 he), ⟨h1, h3⟩, h4, h5⟩
end Go.Proofs.Ytikhlcgnlbinfaa
namespace Go.Proofs.Ytikhlcgnlbinfaa
open Lib (hid)
open Go.RowKit
theorem lX {zs : List (Int × Int)} {k : Nat} {x y : Int} (h : zs[k]? = some (x, y)) : eB (zs.drop k) = if x = y then eB (zs.drop (k + 1)) else decide (x < y) := by
 have hk : k < zs.length := by
  rcases Nat.lt_or_ge k zs.length with h' | h'
  .
   exact h'
  .
   rw [List.getElem?_eq_none h'] at h; cases h
 rw [List.drop_eq_getElem_cons hk];have e : zs[k] = (x, y) := by rw [List.getElem?_eq_getElem hk] at h; injection h
 rw [e];rfl
theorem rC (gx gy k : Nat) (x y : Int) (t : Bool) (w : World) (x0 : w.cell? ⟨gx, k, none⟩ = some (.int .i64 (x))) (y0 : w.cell? ⟨gy, k, none⟩ = some (.int .i64 (y))) (_hk : k < 7) (_hk2 : (k : Int) < 7) (_ht : (x != y) = t) : aF Try.prog Try.f153 6 9 59 w [50, 51, 52, 53, 54, 55, 56, 57, 58] [.c (.slice (some ⟨gx, 0, none⟩) 7 7), .c (.int .i64 (k : Int)), .c (.pointer (some ⟨gx, k, none⟩)), .c (.int .i64 (x)), .c (.slice (some ⟨gy, 0, none⟩) 7 7), .c (.int .i64 (k : Int)), .c (.pointer (some ⟨gy, k, none⟩)), .c (.int .i64 (y)), .c (.bool t)] [(5, .slice (some ⟨gx, 0, none⟩) 7 7), (6, .slice (some ⟨gy, 0, none⟩) 7 7), (7, .int .i64 (k : Int))] := by
 refine aJ [[], [], [0, 1], [2], [], [], [4, 5], [6], [3, 7]] (by kernel_rfl) (by kernel_rfl) rfl trivial ?_;simp only [ae, Try.f153, ab, Option.bind_some, Nat.reduceBEq, if_true, if_false, Bool.false_eq_true, Option.getD_some];simp only [List.take_succ_cons, List.take_zero]
 repeat' first | refine ⟨?_, ?_⟩ | fail
 all_goals first | (intro us W b hJ K hK0 hK Qz; simp only [aC, al, am, List.getD_cons_succ, List.getD_cons_zero]) | exact True.intro
 all_goals try (intros; have q0 := Ext.cell hJ x0; have q1 := Ext.cell hJ y0; go_simp; exact hK0 _ rfl)
theorem rD (gx gy k : Nat) (x y : Int) (t : Bool) (w : World) (x0 : w.cell? ⟨gx, k, none⟩ = some (.int .i64 (x))) (y0 : w.cell? ⟨gy, k, none⟩ = some (.int .i64 (y))) (_hk : k < 7) (_hk2 : (k : Int) < 7) (_ht : decide (x < y) = t) : aF Try.prog Try.f153 7 10 68 w [59, 60, 61, 62, 63, 64, 65, 66, 67, 4] [.c (.slice (some ⟨gx, 0, none⟩) 7 7), .c (.int .i64 (k : Int)), .c (.pointer (some ⟨gx, k, none⟩)), .c (.int .i64 (x)), .c (.slice (some ⟨gy, 0, none⟩) 7 7), .c (.int .i64 (k : Int)), .c (.pointer (some ⟨gy, k, none⟩)), .c (.int .i64 (y)), .c (.bool t), .c (.bool t)] [(5, .slice (some ⟨gx, 0, none⟩) 7 7), (6, .slice (some ⟨gy, 0, none⟩) 7 7), (7, .int .i64 (k : Int))] := by
 refine aJ [[], [], [0, 1], [2], [], [], [4, 5], [6], [3, 7], [8]] (by kernel_rfl) (by kernel_rfl) rfl trivial ?_;simp only [ae, Try.f153, ab, Option.bind_some, Nat.reduceBEq, if_true, if_false, Bool.false_eq_true, Option.getD_some];simp only [List.take_succ_cons, List.take_zero]
 repeat' first | refine ⟨?_, ?_⟩ | fail
 all_goals first | (intro us W b hJ K hK0 hK Qz; simp only [aC, al, am, List.getD_cons_succ, List.getD_cons_zero]) | exact True.intro
 all_goals try (intros; have q0 := Ext.cell hJ x0; have q1 := Ext.cell hJ y0; go_simp; exact hK0 _ rfl)
theorem lY (a0 a1 a2 a3 a4 a5 a6 b0 b1 b2 b3 b4 b5 b6 : Int) (w : World) :
  Calls Try.prog 153 #[.agg #[.int .i64 (a0), .int .i64 (a1), .int .i64 (a2), .int .i64 (a3), .int .i64 (a4), .int .i64 (a5), .int .i64 (a6)], .agg #[.int .i64 (b0), .int .i64 (b1), .int .i64 (b2), .int .i64 (b3), .int .i64 (b4), .int .i64 (b5), .int .i64 (b6)]] w (fun e w' => e = .returned (.bool (o3 ⟨a0, a1, a2, a3, a4, a5, a6⟩ ⟨b0, b1, b2, b3, b4, b5, b6⟩)) /\ Ext w w') := by
 have HX : Hid (Ext w ((w.alloc (.cells #[.int .i64 (a0), .int .i64 (a1), .int .i64 (a2), .int .i64 (a3), .int .i64 (a4), .int .i64 (a5), .int .i64 (a6)] 90)).alloc (.cells #[.int .i64 (b0), .int .i64 (b1), .int .i64 (b2), .int .i64 (b3), .int .i64 (b4), .int .i64 (b5), .int .i64 (b6)] 90))) := hid (((Ext.refl w).alloc _).alloc _);have kA : Blk ((w.alloc (.cells #[.int .i64 (a0), .int .i64 (a1), .int .i64 (a2), .int .i64 (a3), .int .i64 (a4), .int .i64 (a5), .int .i64 (a6)] 90)).alloc (.cells #[.int .i64 (b0), .int .i64 (b1), .int .i64 (b2), .int .i64 (b3), .int .i64 (b4), .int .i64 (b5), .int .i64 (b6)] 90)) w.heap.size 90 #[.int .i64 (a0), .int .i64 (a1), .int .i64 (a2), .int .i64 (a3), .int .i64 (a4), .int .i64 (a5), .int .i64 (a6)] := Blk.alloc (Blk.new w _ _) _;have kB : Blk ((w.alloc (.cells #[.int .i64 (a0), .int .i64 (a1), .int .i64 (a2), .int .i64 (a3), .int .i64 (a4), .int .i64 (a5), .int .i64 (a6)] 90)).alloc (.cells #[.int .i64 (b0), .int .i64 (b1), .int .i64 (b2), .int .i64 (b3), .int .i64 (b4), .int .i64 (b5), .int .i64 (b6)] 90)) (w.heap.size + 1) 90 #[.int .i64 (b0), .int .i64 (b1), .int .i64 (b2), .int .i64 (b3), .int .i64 (b4), .int .i64 (b5), .int .i64 (b6)] := Blk.at_ (by simp);obtain ⟨zs, hzs⟩ : ∃ zs : List (Int × Int), zs = [(a0, b0), (a1, b1), (a2, b2), (a3, b3), (a4, b4), (a5, b5), (a6, b6)] := ⟨_, rfl⟩;have HL : Hid (o3 ⟨a0, a1, a2, a3, a4, a5, a6⟩ ⟨b0, b1, b2, b3, b4, b5, b6⟩ = eB zs) := hid (by rw [hzs]; rfl);have HZX : Hid (#[.int .i64 (a0), .int .i64 (a1), .int .i64 (a2), .int .i64 (a3), .int .i64 (a4), .int .i64 (a5), .int .i64 (a6)] = (zs.map fun z => Value.int .i64 z.1).toArray) := hid (by rw [hzs]; rfl);have HZY : Hid (#[.int .i64 (b0), .int .i64 (b1), .int .i64 (b2), .int .i64 (b3), .int .i64 (b4), .int .i64 (b5), .int .i64 (b6)] = (zs.map fun z => Value.int .i64 z.2).toArray) := hid (by rw [hzs]; rfl);have HZL : Hid (zs.length = 7) := hid (by rw [hzs]; rfl);clear hzs;go_enter Try.func153, Try.ntmps153
 go_upto_region 1 with (fail)
 generalize (w.alloc _).alloc _ = w1 at HX kA kB |-;have p0 := kA.cell 0;have p1 := kA.cell 1;have p2 := kA.cell 2;have p3 := kA.cell 3;have p4 := kA.cell 4;have p5 := kA.cell 5;have p6 := kA.cell 6;simp only [List.getElem?_toArray, List.getElem?_cons_zero, List.getElem?_cons_succ] at p0 p1 p2 p3 p4 p5 p6;have HB := hid kB;clear kA kB
 go_upto_region 2 with (fail)
 have hXa : Ext w1 (w1.alloc (.cells #[.int .i64 (a0), .int .i64 (a1), .int .i64 (a2), .int .i64 (a3), .int .i64 (a4), .int .i64 (a5), .int .i64 (a6)] 3)) := (Ext.refl _).alloc _;have HXB := hid (Blk.new w1 3 #[.int .i64 (a0), .int .i64 (a1), .int .i64 (a2), .int .i64 (a3), .int .i64 (a4), .int .i64 (a5), .int .i64 (a6)]);replace HX := hid (HX.out.trans hXa);replace HB := hid (HB.out.ext hXa);clear hXa p0 p1 p2 p3 p4 p5 p6;generalize w1.heap.size = gx at HXB |-;generalize w1.alloc _ = w2 at HX HB HXB |-;have q0 := HB.out.cell 0;have q1 := HB.out.cell 1;have q2 := HB.out.cell 2;have q3 := HB.out.cell 3;have q4 := HB.out.cell 4;have q5 := HB.out.cell 5;have q6 := HB.out.cell 6;simp only [List.getElem?_toArray, List.getElem?_cons_zero, List.getElem?_cons_succ] at q0 q1 q2 q3 q4 q5 q6
 go_upto_region 3 with (fail)
 have hXa : Ext w2 (w2.alloc (.cells #[.int .i64 (b0), .int .i64 (b1), .int .i64 (b2), .int .i64 (b3), .int .i64 (b4), .int .i64 (b5), .int .i64 (b6)] 3)) := (Ext.refl _).alloc _;have HYB := hid (Blk.new w2 3 #[.int .i64 (b0), .int .i64 (b1), .int .i64 (b2), .int .i64 (b3), .int .i64 (b4), .int .i64 (b5), .int .i64 (b6)]);replace HX := hid (HX.out.trans hXa);replace HXB := hid (HXB.out.ext hXa);clear hXa HB q0 q1 q2 q3 q4 q5 q6;generalize w2.heap.size = gy at HYB |-;generalize w2.alloc _ = w3 at HX HXB HYB |-;have HCX : Hid (∀ i z, zs[i]? = some z -> w3.cell? ⟨gx, i, none⟩ = some (.int .i64 z.1)) := hid (fun i z hz => (HXB.out.cell i).trans (by rw [HZX.out, List.getElem?_toArray, List.getElem?_map, hz]; rfl));have HCY : Hid (∀ i z, zs[i]? = some z -> w3.cell? ⟨gy, i, none⟩ = some (.int .i64 z.2)) := hid (fun i z hz => (HYB.out.cell i).trans (by rw [HZY.out, List.getElem?_toArray, List.getElem?_map, hz]; rfl));clear HXB HYB HZX HZY;have HX3 := hid (Ext.refl w3)
 go_wp2_with fail
 go_loopg [7] 7 (fun fu iv wr => ∃ k : Nat, fu = 7 - k /\ k <= 7 /\ iv = .int .i64 (k : Int) /\ Hid (eB zs = eB (zs.drop k)) /\ Hid (Ext w3 wr))
 case atStart => exact ⟨0, rfl, by omega, rfl, hid rfl, HX3⟩
 case round =>
  clear HX3;obtain ⟨k, rfl, hk, rfl, HD, HX3⟩ := hrel
  by_cases hlt : k < 7
  .
   have q1 : decide ((k : Int) < 7) = true := decide_eq_true (by omega);have q1b : decide (k < 7) = true := decide_eq_true hlt;obtain ⟨⟨x, y⟩, hz⟩ : ∃ z, zs[k]? = some z := ⟨_, List.getElem?_eq_getElem (by rw [HZL.out]; exact hlt)⟩;have x0 := Ext.cell HX3.out (HCX.out k _ hz);have y0 := Ext.cell HX3.out (HCY.out k _ hz);have HDR := hid (lX hz);clear hz;simp only at x0 y0;obtain ⟨t, ht⟩ : ∃ t, (x != y) = t := ⟨_, rfl⟩
   go_upto_region 6 with (fail)
   refine rC gx gy k x y t wr x0 y0 hlt (by omega) ht _ _ (by simp) ⟨rfl, rfl, rfl, trivial⟩ ?_;rintro W hX;simp only [EndK, ae, Try.f153, ab, Option.bind_some, Nat.reduceBEq, if_true, if_false, Bool.false_eq_true, Option.getD_some, List.drop_succ_cons, List.drop_zero];simp only [Act.put, List.setIfInBounds_toArray, List.set_cons_succ, List.set_cons_zero];replace HX3 := hid (HX3.out.trans hX);replace x0 := Ext.cell hX x0;replace y0 := Ext.cell hX y0;clear hX;have HT := hid ht;clear ht
   by_cases ht : t = true
   .
    subst ht;have hxy : x ≠ y := by simpa using HT.out
    have HE : Hid (eB zs = decide (x < y)) := hid (by rw [HD.out, HDR.out, if_neg hxy]);clear hxy HDR HD;obtain ⟨s, hs⟩ : ∃ s, decide (x < y) = s := ⟨_, rfl⟩
    go_upto_region 7 with (fail)
    refine rD gx gy k x y s W x0 y0 hlt (by omega) hs _ _ (by simp) ⟨rfl, rfl, rfl, trivial⟩ ?_;rintro W2 hX;simp only [EndK, ae, Try.f153, ab, Option.bind_some, Nat.reduceBEq, if_true, if_false, Bool.false_eq_true, Option.getD_some, List.drop_succ_cons, List.drop_zero];simp only [Act.put, List.setIfInBounds_toArray, List.set_cons_succ, List.set_cons_zero];replace HX3 := hid (HX3.out.trans hX);have HS := hid hs;clear hX hs x0 y0;go_wp2;go_ret;exact ⟨by rw [HL.out, HE.out, HS.out]; rfl, HX.out.trans HX3.out⟩
   .
    obtain rfl : t = false := by simpa using ht
    have hxy : x = y := by simpa using HT.out
    have HE : Hid (eB zs = eB (zs.drop (k + 1))) := hid (by rw [HD.out, HDR.out, if_pos hxy]);clear hxy HDR HD ht x0 y0;go_wp2;go_roundg (7 - (k + 1))
    case rel => exact ⟨k + 1, rfl, by omega, by go_num, HE, HX3⟩
    case measure => omega
  .
   obtain rfl : k = 7 := by omega
   have HE : Hid (eB zs = false) := hid (by rw [HD.out, List.drop_of_length_le (by rw [HZL.out]; omega)]; rfl);go_wp2;go_ret;exact ⟨by rw [HL.out, HE.out]; rfl, HX.out.trans HX3.out⟩
/-- A point within the limits. -/
def sE (x y z : Int) : Prop := (-268435456 <= x /\ x <= 268435456) /\ (-268435456 <= y /\ y <= 268435456) /\ (-268435456 <= z /\ z <= 268435456)
instance (x y z : Int) : Decidable (sE x y z) := by unfold sE; infer_instance
/-- The last of three that is not zero is negative. -/
def r9 (n : Nat -> Int) : Prop := if n 2 = 0 then (if n 1 = 0 then n 0 < 0 else n 1 < 0) else n 2 < 0
instance (n : Nat -> Int) : Decidable (r9 n) := by unfold r9; infer_instance
/-- A match in a block of its own, its normal a function. -/
def T7 (w : World) (g : Nat) (s o : Int) (f : Nat -> Int) (dd wt : Int) : Prop := Blk w g 90 #[.int .i64 s, .int .i64 o, .int .i64 (f 0), .int .i64 (f 1), .int .i64 (f 2), .int .i64 dd, .int .i64 wt]
theorem T7.cell {w : World} {g : Nat} {s o dd wt : Int} {f : Nat -> Int} (h : T7 w g s o f dd wt) {k : Nat} (hk : k < 3) : w.cell? ⟨g, 2 + k, none⟩ = some (.int .i64 (f k)) := by
 unfold T7 at h
 match k, hk with
 | 0, _ => exact h.cell 2
 | 1, _ => exact h.cell 3
 | 2, _ => exact h.cell 4
end Go.Proofs.Ytikhlcgnlbinfaa
namespace Go.Proofs.Ytikhlcgnlbinfaa
open Lib (hid)
theorem iS (z : Int) : sgn (decide (z < 0)) z.natAbs = z := by
 unfold sgn
 by_cases h : z < 0
 .
  rw [decide_eq_true h]; simp; omega
 .
  rw [decide_eq_false h]; simp; omega
theorem fE {n m a b L : Nat} (h : Fit 65536 n a) (k : Fit 65536 m b) (hL : a + b <= L) : Fit 65536 (n * m) L := (h.mul (by omega) k).mono (by omega) hL
theorem eE {x y : Int} {a b L : Nat} (h : Fit 65536 x.natAbs a) (k : Fit 65536 y.natAbs b) (hL : a + b <= L) : Fit 65536 (x * y).natAbs L := by
 rw [Int.natAbs_mul]; exact fE h k hL
theorem lZ {x y : Int} {a L : Nat} (h : Fit 65536 x.natAbs a) (k : Fit 65536 y.natAbs a) (hL : a + 1 <= L) : Fit 65536 (x + y).natAbs L :=
 ((h.add (by omega) k).le (Int.natAbs_add_le x y)).mono (by omega) hL
theorem iT {q r : Rat} {L M : Nat} (h : FitR q L) (k : FitR r M) : FitR (q + r) (L + M + 1) := by
 have e : aw (decide (q.num * (r.den : Int) + r.num * (q.den : Int) < 0)) (q.num * (r.den : Int) + r.num * (q.den : Int)).natAbs (q.den * r.den) = q + r := by
  unfold aw; rw [iS]; exact (Rat.add_def' q r).symm
 rw [<- e];refine fh (Nat.mul_pos q.den_pos r.den_pos) ?_ (fE h.2 k.2 (by omega));exact lZ (eE h.1 (by simpa using k.2) (Nat.le_refl _)) (eE k.1 (by simpa using h.2) (by omega)) (by omega)
theorem db {q r : Rat} {L M : Nat} (h : FitR q L) (k : FitR r M) : FitR (q * r) (L + M) := by
 have e : aw (decide (q.num * r.num < 0)) (q.num * r.num).natAbs (q.den * r.den) = q * r := by
  unfold aw; rw [iS]; exact (Rat.mul_def' q r).symm
 rw [<- e];exact fh (Nat.mul_pos q.den_pos r.den_pos) (eE h.1 k.1 (Nat.le_refl _)) (fE h.2 k.2 (Nat.le_refl _))
end Go.Proofs.Ytikhlcgnlbinfaa
