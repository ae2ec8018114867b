/- Lemmas of the proof that follows (Covers, part 4): walks of functions by contract, and plain lemmas. Conditions: none. -/
import Derived.Test.YteoijnaljkagfaaCoversC
namespace Go.Proofs.Yteoijnaljkagfaa
open Go.RowKit

theorem cut_ints {w : World} {A A' : Option Addr} {n k : Nat} {xs : List Int} (h : Ints .i64 w A n xs) (hA : ∀ w' vs, At w' A vs → vs.length = n * 1 → At w' A' (vs.drop (k * 1))) : Ints .i64 w A' (n - k) (xs.drop k) := by
  refine ⟨by rw [List.length_drop, h.1], fun x hx => h.2.1 x (List.mem_of_mem_drop hx), ?_⟩
  have := hA w _ h.2.2 (by rw [List.length_map, h.1, Nat.mul_one])
  rw [Nat.mul_one, ← List.map_drop] at this
  exact this
theorem top_pos {xs : List Int} {n k : Nat} {x : Int} (h : Rep 65536 xs n) (hl : xs.length = k + 1) (hx : xs[k]? = some x) : 0 < x := by
  obtain ⟨h0, h1⟩ := h.1.get hx
  obtain ⟨zs, z, e, hz⟩ := h.2.1.split (by intro e; rw [e] at hl; simp at hl)
  have h2 : zs.length = k := by rw [e] at hl; simp at hl; omega
  rw [e, List.getElem?_append_right (by omega), h2] at hx
  simp at hx
  omega
theorem ints_one' (xs : List Int) : ∀ u ∈ xs.map (Value.int .i64), u.oneCell' = true := by
  intro u hu
  obtain ⟨x, _, rfl⟩ := List.mem_map.1 hu
  rfl

set_option maxRecDepth 100000 in
set_option maxHeartbeats 4000000 in
theorem rdiv_long (va : Value) (B : Option Addr) (cb p : Nat) (ys : List Int) (n m L : Nat) (w : World) (ha : Z16 w va n) (hB : Ints .i64 w B (p + 2) ys) (hr : Rep 65536 ys m) (hcb : p + 2 ≤ cb ∧ cb ≤ 9223372036854775807) (fn : Fit 65536 n L) (hL : L ≤ 400000) (h : m ≤ n) :
    Calls Try.prog 115 #[va, .slice B (p + 2) cb] w (RetDR w (n / m) (n % m)) := by
  obtain ⟨hcb1, hcb2⟩ := hcb
  obtain ⟨A, la, ca, xs, rfl, hA⟩ := ha
  have fm := fn.le h
  have hpl : p + 2 ≤ L := by have := fm.len (by omega) hr; rw [hB.1] at this; exact this
  have HA : Hid (Z16 w (.slice A la ca) n) := ⟨A, la, ca, xs, rfl, hA⟩
  have HB : Hid (Z16 w (.slice B (p + 2) cb) m) := ⟨B, p + 2, cb, ys, rfl, hB, hr, hcb1, hcb2⟩
  have HFN := Lib.hid fn
  have HFM := Lib.hid fm
  have HMN := Lib.hid h
  obtain ⟨b, o, yt, rfl, hyt, hwf0, hc⟩ := hB.get (j := p + 1) (by omega)
  obtain ⟨hy0, hy1⟩ := hr.1.get hyt
  have hytp : 0 < yt := by
    have h1 : ys ≠ [] := by intro e; have := hB.1; rw [e] at this; simp at this
    obtain ⟨zs, z, e, hz⟩ := hr.2.1.split h1
    have h2 : zs.length = p + 1 := by have := hB.1; rw [e] at this; simp at this; omega
    rw [e, List.getElem?_append_right (by omega), h2] at hyt
    simp at hyt
    omega
  have hc0 : ¬ cmpI n m < 0 := by
    unfold cmpI
    rw [if_neg (by omega)]
    split <;> omega
  obtain ⟨ci, hci⟩ : ∃ c, cmpI n m = c := ⟨_, rfl⟩
  rw [hci] at hc0
  have HC := Lib.hid hci
  have HIB := Lib.hid hB
  have HRB := Lib.hid hr
  obtain ⟨f, hf⟩ : ∃ f, 65536 / (yt + 1) = f := ⟨_, rfl⟩
  have hf0 : 1 ≤ f := by rw [← hf]; exact (Int.le_ediv_iff_mul_le (by omega)).2 (by omega)
  have hf1 : f < 65536 := by rw [← hf]; exact (Int.ediv_lt_iff_lt_mul (by omega)).2 (by omega)
  have hyz : ¬ yt + 1 = 0 := by omega
  have HFE := Lib.hid hf
  clear hA hB h hci hr fn fm hyt hwf0
  go_enter Try.func115, Try.ntmps115
  go_wp2_with fail
  refine (compare_any _ _ n m _ HA.out HB.out).mono ?_
  rw [HC.out]
  rintro e w1 ⟨rfl, hX⟩
  have HX := Lib.hid hX
  have hc1 := hX.cell hc
  clear hX hc
  go_upto_region 7 with (fail)
  have HX2 := Lib.hid (HX.out.alloc (.cells #[.int .i64 f] 3))
  have HF1 : Hid (Z16 (w1.alloc (.cells #[.int .i64 f] 3)) (.slice (some ⟨w1.heap.size, 0, none⟩) 1 1) f.toNat) := ⟨_, 1, 1, [f], rfl, ints_one (wf16 (by omega)) _, Rep.small (by omega) (by omega), by omega, by omega⟩
  have HC1 : Hid ((w1.alloc (.cells #[.int .i64 f] 3)).cell? ⟨w1.heap.size, 0, none⟩ = some (.int .i64 f)) := (Blk.new w1 3 #[.int .i64 f]).cell 0
  clear hc1
  generalize w1.alloc (.cells #[.int .i64 f] 3) = w2 at HX2 HF1 HC1 ⊢
  generalize w1.heap.size = gf at HF1 HC1 ⊢
  have hff : Fit 65536 f.toNat 1 := by unfold Fit; rw [Int.pow_succ, Int.pow_zero]; omega
  have HFF := Lib.hid hff
  clear hff hf
  go_wp2_with fail
  refine (times16_any _ _ n f.toNat L 1 _ (HA.out.ext HX2.out) HF1.out HFN.out HFF.out (by omega) (by omega)).mono ?_
  rintro e w3 ⟨vu, rfl, hu, hX⟩
  have HX3 := Lib.hid (HX2.out.trans hX)
  have HU := Lib.hid hu
  have HF2 := Lib.hid (HF1.out.ext hX)
  have HC2 := Lib.hid (hX.cell HC1.out)
  clear hX hu HF1 HC1
  go_wp2_with fail
  refine (times16_any _ _ m f.toNat L 1 _ (HB.out.ext HX3.out) HF2.out HFM.out HFF.out (by omega) (by omega)).mono ?_
  rintro e w4 ⟨vv, rfl, hv, hX⟩
  have HX4 := Lib.hid (HX3.out.trans hX)
  have HU4 := Lib.hid (HU.out.ext hX)
  have HC4 := Lib.hid (hX.cell HC2.out)
  clear hX HU HF2 HC2
  obtain ⟨Au, lu, cu, us, rfl, hIu, hRu, hcu1, hcu2⟩ := HU4.out
  obtain ⟨Av, lv, cv, vs, rfl, hIv, hRv, hcv1, hcv2⟩ := hv
  have hfn : 0 < f.toNat := by omega
  have hvu : m * f.toNat ≤ n * f.toNat := Nat.mul_le_mul_right _ HMN.out
  have hFu : Fit 65536 (n * f.toNat) (L + 1) := HFN.out.mul (by omega) HFF.out
  have hlu : lu ≤ L + 1 := by have := hFu.len (by omega) hRu; rw [hIu.1] at this; exact this
  have hlen : lv ≤ lu := by
    apply Nat.le_of_not_lt
    intro h
    have := hRu.lt_of_len (by omega) hRv (by rw [hIu.1, hIv.1]; exact h)
    omega
  have hmv : m ≤ m * f.toNat := Nat.le_mul_of_pos_right _ hfn
  have hlv : p + 2 ≤ lv := by
    apply Nat.le_of_not_lt
    intro h
    have := hRv.lt_of_len (by omega) HRB.out (by rw [hIv.1, HIB.out.1]; exact h)
    omega
  obtain ⟨V, hV⟩ : ∃ V, m * f.toNat = V := ⟨_, rfl⟩
  obtain ⟨U, hU⟩ : ∃ U, n * f.toNat = U := ⟨_, rfl⟩
  rw [hU] at hvu hFu hRu
  rw [hV] at hvu hmv hRv
  have HVE := Lib.hid hV
  have HUE := Lib.hid hU
  have HIU := Lib.hid hIu
  have HRU := Lib.hid hRu
  have HIV := Lib.hid hIv
  have HRV := Lib.hid hRv
  have HFU := Lib.hid hFu
  have HVU := Lib.hid hvu
  clear hV hU hIu hRu hIv hRv HU4 hFu hvu hmv hfn
  obtain ⟨d, hd1, hd2⟩ : ∃ d, lu ≤ lv + d ∧ lv + d ≤ lu := ⟨lu - lv, by omega⟩
  obtain ⟨r, hr1, hr2⟩ : ∃ r, lv ≤ r + 2 ∧ r + 2 ≤ lv := ⟨lv - 2, by omega⟩
  have HYT := Lib.hid (And.intro hytp (And.intro hy0 hy1))
  clear hlen hlv hc0 hyz hytp hy0 hy1
  go_upto_region 9 with (at_make; refine wpList_mk _ elI rfl rfl _ _ rfl w4.heap.size _ _ _ _ (d + 1) (d + 1) rfl rfl (by omega) (by omega) (Nat.le_refl _) (by omega) (by unfold maxLen; omega) (Nat.le_refl _) ?_; intro w5 hown5 hext5 hsz5)
  have HQ5 := Lib.hid (OwnS.made hown5)
  have HX5 := Lib.hid hext5
  clear hown5 hext5
  have HU5 := Lib.hid (HIU.out.ext HX5.out)
  go_wp2_with (first | (refine wpList_cutL (o := ⟨some 69, _, _, _, _, _⟩) _ elI rfl _ _ rfl Au lu cu rfl _ _ (d + 1) rfl (by omega) (by omega) hcu1 ?_; intro A5 hA5; have HI5 := Lib.hid (cut_ints HU5.out hA5); clear hA5) | (at_builtin; refine wpList_app (o := ⟨some 70, _, _, _, _, _⟩) _ elI rfl _ _ rfl w5.heap.size (.slice (some ⟨w5.heap.size, 0, none⟩) 0 0) 0 [] rfl (World.ownsRow_lit w5 #[] 0 (Nat.le_refl _) (by unfold maxLen; omega) rfl) A5 (lu - (d + 1)) (cu - (d + 1)) ((us.drop (d + 1)).map (.int .i64)) rfl (by rw [List.length_map, Nat.mul_one]; exact HI5.out.1) (HI5.out.ext ((Ext.refl w5).alloc _)).2.2 (ints_one' _) (by omega) (by unfold maxLen; omega) (by simp) ?_; intro v6 w6 hown6 hgr6 hloc6; clear hloc6; have HO6 := Lib.hid hown6; have HG6 := Lib.hid (Ext.app ((Ext.refl w5).alloc _) (World.ownsRow_lit (size := 1) (e := 3) w5 #[] 0 (Nat.le_refl _) (by unfold maxLen; omega) rfl) hgr6); clear hown6 hgr6))
  obtain ⟨A6, c6, rfl⟩ := own_slice HO6.out
  have hw : Dg 65536 (us.drop (d + 1)) := HRU.out.1.drop _
  have hdl : (us.drop (d + 1)).length = lu - (d + 1) := by rw [List.length_drop, HIU.out.1]
  have HOS6 : Hid (OwnS .i64 3 w5.heap.size w6 A6 (0 + (lu - (d + 1))) c6 (us.drop (d + 1))) := ⟨by simpa using HO6.out, by rw [hdl]; omega, dg_wf hw⟩
  obtain ⟨R0, hR0⟩ : ∃ R : Nat, val 65536 (us.drop (d + 1)) = (R : Int) := ⟨(val 65536 (us.drop (d + 1))).toNat, by have := val_nonneg (B := 65536) (by omega) hw; omega⟩
  have hRV : (R0 : Int) < (V : Int) := by
    have h1 := val_lt (B := 65536) (by omega) hw
    rw [hdl, hR0] at h1
    have h2 := nm_low (B := 65536) (by omega) HRV.out.1 HRV.out.2.1 (by intro e; have := HIV.out.1; rw [e] at this; simp at this; omega)
    rw [HRV.out.2.2, HIV.out.1] at h2
    have h3 : lu - (d + 1) = lv - 1 := by omega
    rw [h3] at h1
    omega
  have HDW := Lib.hid hw
  have HR0 := Lib.hid hR0
  have HRV0 : Hid (R0 < V) := by show _ < _; omega
  clear hw hdl hR0 hRV HO6
  refine (trimO HOS6.out HDW.out HR0.out).mono ?_
  rintro e _ ⟨l7, zs7, rfl, hO7, hR7, rfl⟩
  have HO7 := Lib.hid hO7
  have HR7 := Lib.hid hR7
  clear hO7 hR7 HOS6
  have HQ6 := Lib.hid (HQ5.out.ext HG6.out)
  have HX6 := Lib.hid (HX5.out.trans HG6.out)
  have hsz : w4.heap.size + 1 ≤ w5.heap.size := by omega
  have HO7' := Lib.hid (HO7.out.mono hsz)
  obtain ⟨gq, hgq⟩ : ∃ g, w4.heap.size = g := ⟨_, rfl⟩
  rw [hgq] at HQ6 HO7' ⊢
  have HGQ := Lib.hid hgq
  clear hgq hsz hsz5 HQ5 HX5 HU5 HI5 HG6 HO7
  go_wp2_with fail
  go_loopg [12, 13] (d + 1) (fun g s12 s13 wr => ∃ (k R l : Nat) (Ar : Option Addr) (cr : Nat) (zs q : List Int), k = g ∧ k ≤ d + 1 ∧ s13 = .int .i64 ((k : Int) - 1) ∧ s12 = .slice Ar l cr ∧ Hid (OwnS .i64 3 (gq + 1) wr Ar l cr zs) ∧ Hid (Rep 65536 zs R) ∧ Hid (R < V) ∧ Hid (OwnS .i64 3 gq wr (some ⟨gq, 0, none⟩) (d + 1) (d + 1) q) ∧ Hid (Dg 65536 q) ∧ Hid (val 65536 (us.drop k) = val 65536 (q.drop k) * V + R) ∧ Hid (Ext w4 wr))
  case atStart => exact ⟨d + 1, R0, l7, A6, c6, zs7, _, rfl, Nat.le_refl _, congrArg (Value.int IntKind.i64) (by omega), rfl, HO7'.out, HR7.out, HRV0.out, HQ6.out, Dg.zeros (by omega) _, by show _ = _; rw [HR0.out, List.drop_eq_nil_of_le (by simp)]; simp [val], HX6.out⟩
  case round =>
    clear HO7' HR7 HRV0 HQ6 HR0 HX6 HDW
    obtain ⟨k, R, l, Ar, cr, zs, q, rfl, hk, rfl, rfl, HO, HR, HRV', HQ, HD, HI, HX'⟩ := hrel
    have hll : l ≤ lv := by
      have h1 := HRV.out.lt (by omega)
      rw [HIV.out.1] at h1
      have h2 := HR.out.len_le (by omega) (L := lv) (by have := HRV'.out; omega)
      rw [HO.out.len] at h2
      exact h2
    obtain ⟨hcr1, hcr2⟩ := HO.out.cap
    rcases Nat.eq_zero_or_pos k with h0 | h0
    · subst h0
      as_aux_lemma =>
        have hI := HI.out
        simp only [List.drop_zero] at hI
        rw [HRU.out.2.2] at hI
        have hvn := val_nonneg (B := 65536) (by omega) HD.out
        obtain ⟨Qq, hQq⟩ : ∃ Q : Nat, val 65536 q = (Q : Int) := ⟨_, (Int.toNat_of_nonneg hvn).symm⟩
        rw [hQq] at hI
        have hIn : U = Qq * V + R := by
          have : (U : Int) = ((Qq * V + R : Nat) : Int) := by rw [hI]; simp
          exact Int.ofNat.inj this
        have hend := quo_end (n := n) (m := m) (f := f.toNat) (Q := Qq) (R := R) (by rw [HUE.out, HVE.out]; exact hIn) (by rw [HVE.out]; exact HRV'.out) (by omega)
        have HEND := Lib.hid hend
        have HQq := Lib.hid hQq
        have hcf : wr.cell? ⟨gf, 0, none⟩ = some (.int .i64 f) := HX'.out.cell HC4.out
        have HFR := Lib.hid (HFU.out.le (show R ≤ U by have := HRV'.out; have := HVU.out; omega))
        clear hI hvn hQq hIn hend
        rw [show (((0 : Nat) : Int) - 1) = -1 by omega]
        go_wp2_with fail
        refine (rshort_any _ R (L + 1) f _ ⟨Ar, l, cr, zs, rfl, HO.out.ints, HR.out, hcr1, hcr2⟩ HFR.out (by omega) (by omega) (by omega)).mono ?_
        rintro e w8 ⟨v8, rfl, hv8, hX8⟩
        have HV8 := Lib.hid hv8
        have HX8 := Lib.hid (HX'.out.trans hX8)
        have HQ8 := Lib.hid (HQ.out.ext hX8)
        clear hv8 hX8 hcf
        generalize (R : Int) % f = rm
        go_wp2_with fail
        refine (trimN HQ8.out.ints HD.out HQq.out (by omega) (by omega)).mono ?_
        rintro e _ ⟨v9, rfl, hv9, rfl⟩
        have HV9 := Lib.hid hv9
        clear hv9
        go_wp2
        go_ret2
        exact ⟨_, _, rfl, by rw [← HEND.out.1]; exact HV9.out, by rw [← HEND.out.2]; exact HV8.out, HX4.out.trans HX8.out⟩
    · obtain ⟨j, rfl⟩ : ∃ j, k = j + 1 := ⟨k - 1, by omega⟩
      rw [show (((j + 1 : Nat) : Int) - 1) = (j : Int) by omega]
      have hj0 : (0 : Int) ≤ (j : Int) := by omega
      have hjl : (j : Int) < (lu : Int) := by omega
      obtain ⟨bu, ou, x, rfl, hx, hwf1, hcx⟩ := (HIU.out.ext HX'.out).get (show j < lu by omega)
      obtain ⟨hx0, hx1⟩ := HRU.out.1.get hx
      have HXU := Lib.hid hx
      have HIr := Lib.hid HO.out.ints
      clear hx hwf1
      go_wp2_with (first | (at_builtin; refine wpList_app (o := ⟨some 87, _, _, _, _, _⟩) _ elI rfl _ _ rfl wr.heap.size (.slice (some ⟨wr.heap.size, 0, none⟩) 1 1) 1 [.int .i64 x] rfl (World.ownsRow_lit (size := 1) (e := 3) wr #[.int .i64 x] 1 (Nat.le_refl _) (by unfold maxLen; omega) rfl) Ar l cr (zs.map (.int .i64)) rfl (by rw [List.length_map, Nat.mul_one]; exact HO.out.len) (HIr.out.ext ((Ext.refl wr).alloc _)).2.2 (ints_one' _) (by omega) (by unfold maxLen; omega) (by simp) ?_; intro v8 w8 hown8 hgr8 hloc8; clear hloc8; have HO8 := Lib.hid hown8; have HG8 := Lib.hid (Ext.app ((Ext.refl wr).alloc _) (World.ownsRow_lit (size := 1) (e := 3) wr #[.int .i64 x] 1 (Nat.le_refl _) (by unfold maxLen; omega) rfl) hgr8); clear hown8 hgr8))
      obtain ⟨A8, c8, rfl⟩ := own_slice HO8.out
      have hdx : Dg 65536 (x :: zs) := Dg.cons ⟨hx0, hx1⟩ HR.out.1
      have HOS8 : Hid (OwnS .i64 3 wr.heap.size w8 A8 (1 + l) c8 (x :: zs)) := ⟨by simpa using HO8.out, by rw [List.length_cons, HO.out.len]; omega, dg_wf hdx⟩
      obtain ⟨R', hR'⟩ : ∃ R' : Nat, (R : Int) * 65536 + x = (R' : Int) := ⟨R * 65536 + x.toNat, by omega⟩
      have HVR : Hid (val 65536 (x :: zs) = (R' : Int)) := by
        show x + 65536 * val 65536 zs = _
        rw [HR.out.2.2]; omega
      have HDX := Lib.hid hdx
      clear hdx HO8
      refine (trimO HOS8.out HDX.out HVR.out).mono ?_
      rintro e _ ⟨l9, zs9, rfl, hO9, hR9, rfl⟩
      have HO9 := Lib.hid hO9
      have HR9 := Lib.hid hR9
      have HX8 := Lib.hid (HX'.out.trans HG8.out)
      have HQ8 := Lib.hid (HQ.out.ext HG8.out)
      have HRR := Lib.hid hR'
      have HIV8 := Lib.hid (HIV.out.ext HX8.out)
      clear hO9 hR9 HOS8 hcx hR'
      go_upto_if 93 with (fail)
      have hV1 : 0 < V := by have := HRV'.out; omega
      have HLT : Hid ((R' : Int) < (V : Int) * 65536) := by
        show _ < _
        have h1 := HRV'.out
        have h2 := HRR.out
        omega
      have hl9 : l9 ≤ lv + 1 := by
        have h1 := HRV.out.lt (by omega)
        rw [HIV.out.1] at h1
        have h2 := HR9.out.len_le (by omega) (L := lv + 1) (by rw [Int.pow_succ]; have := HLT.out; omega)
        rw [HO9.out.len] at h2
        exact h2
      generalize hbb : decide (lv ≤ l9) = bb
      have HBB := Lib.hid hbb
      clear hbb
      go_cut [14] (fun s14 W => ∃ gs : Int, s14 = .int .i64 gs ∧ 0 ≤ gs ∧ gs ≤ 65535 ∧ Hid ((R' : Int) / (V : Int) ≤ gs) ∧ w8 = W)
      case first =>
        as_aux_lemma =>
          have hlow := nm_low (B := 65536) (by omega) HRV.out.1 HRV.out.2.1 (by intro e; have := HIV.out.1; rw [e] at this; simp at this; omega)
          rw [HRV.out.2.2, HIV.out.1] at hlow
          have hcc : (bb = false ∧ l9 < lv) ∨ (bb = true ∧ l9 = lv) ∨ (bb = true ∧ l9 = lv + 1) := by
            have h := HBB.out
            cases bb
            · left; exact ⟨rfl, by simpa using h⟩
            · right
              have : lv ≤ l9 := by simpa using h
              rcases (show l9 = lv ∨ l9 = lv + 1 by omega) with h | h
              · exact .inl ⟨rfl, h⟩
              · exact .inr ⟨rfl, h⟩
          clear HBB
          rcases hcc with ⟨rfl, hc⟩ | ⟨rfl, hc⟩ | ⟨rfl, hc⟩
          · have HZ0 : Hid ((R' : Int) / (V : Int) ≤ 0) := by
              show _ ≤ _
              have h1 := HR9.out.lt (by omega)
              rw [HO9.out.len] at h1
              have h2 := pow_le (B := 65536) (a := l9) (b := lv - 1) (by omega) (by omega)
              rw [Int.ediv_eq_zero_of_lt (by omega) (by omega)]
              omega
            clear hlow
            go_wp2
            go_meet
            exact ⟨0, rfl, by omega, by omega, HZ0.out, rfl⟩
          · obtain rfl : lv = r + 2 := by omega
            subst hc
            obtain ⟨bv, ov, vt, rfl, hvt, _, hcv⟩ := HIV8.out.get (j := r + 1) (by omega)
            obtain ⟨hv0, hv1⟩ := HRV.out.1.get hvt
            obtain ⟨g8, z, rfl, hz, _, hcz⟩ := HO9.out.get (j := r + 1) (by omega)
            obtain ⟨hz0, hz1⟩ := HR9.out.1.get hz
            have hvp := top_pos HRV.out (by rw [HIV.out.1]) hvt
            have hge := guess_ge (val_top HR9.out.1 (by rw [HO9.out.len]) hz).1 (by have := (val_top HRV.out.1 (by rw [HIV.out.1]) hvt).2; rw [HRV.out.2.2] at this; exact this) hvp (pow_pos' (by omega) _) (by rw [HR9.out.2.2]; omega)
            rw [HR9.out.2.2] at hge
            have HGE := Lib.hid hge
            have hq0 : 0 ≤ z / vt := Int.ediv_nonneg hz0 (by omega)
            have hq1 : z / vt ≤ z := Int.ediv_le_self _ hz0
            have hvz : ¬ vt = 0 := by omega
            clear hlow hvt hz hge
            have hbig : ¬ 65536 ≤ z / vt := by omega
            clear hq1
            go_wp2
            go_meet
            exact ⟨z / vt, rfl, hq0, by omega, HGE.out, rfl⟩
          · obtain rfl : lv = r + 2 := by omega
            obtain rfl : l9 = r + 3 := by omega
            clear hc
            obtain ⟨bv, ov, vt, rfl, hvt, _, hcv⟩ := HIV8.out.get (j := r + 1) (by omega)
            obtain ⟨hv0, hv1⟩ := HRV.out.1.get hvt
            obtain ⟨g8, z, rfl, hz, _, hcz⟩ := HO9.out.get (j := r + 2) (by omega)
            obtain ⟨hz0, hz1⟩ := HR9.out.1.get hz
            obtain ⟨g9, y, hg9, hy, _, hcy⟩ := HO9.out.get (j := r + 1) (by omega)
            obtain rfl : g8 = g9 := by injection hg9 with h; injection h
            obtain ⟨hy0, hy1⟩ := HR9.out.1.get hy
            have hvp := top_pos HRV.out (by rw [HIV.out.1]) hvt
            have hge := guess_ge (val_top2 HR9.out.1 (by rw [HO9.out.len]) hz hy) (by have := (val_top HRV.out.1 (by rw [HIV.out.1]) hvt).2; rw [HRV.out.2.2] at this; exact this) hvp (pow_pos' (by omega) _) (by rw [HR9.out.2.2]; omega)
            rw [HR9.out.2.2] at hge
            have HGE := Lib.hid hge
            have hq0 : 0 ≤ (z * 65536 + y) / vt := Int.ediv_nonneg (by omega) (by omega)
            have hq1 : (z * 65536 + y) / vt ≤ z * 65536 + y := Int.ediv_le_self _ (by omega)
            have hs0 : 0 ≤ z * 65536 + y := by omega
            have hvz : ¬ vt = 0 := by omega
            have HDG : Hid ((R' : Int) / (V : Int) ≤ 65535) := by
              show _ ≤ _
              have h1 := HLT.out
              have h2 : (R' : Int) / (V : Int) < 65536 := (Int.ediv_lt_iff_lt_mul (by omega)).2 (by omega)
              omega
            clear hlow hvt hz hy hge hg9
            by_cases hbig : 65536 ≤ (z * 65536 + y) / vt
            · go_wp2
              go_meet
              exact ⟨65535, rfl, by omega, by omega, HDG.out, rfl⟩
            · go_wp2
              go_meet
              exact ⟨(z * 65536 + y) / vt, rfl, hq0, by omega, HGE.out, rfl⟩
      case rest =>
        obtain ⟨gs, rfl, hgs0, hgs1, HGS, rfl⟩ := hcut
        clear HBB hl9
        obtain ⟨G0, hG0, hG1⟩ : ∃ G : Nat, gs = (G : Int) ∧ G ≤ 65535 := ⟨gs.toNat, by omega, by omega⟩
        subst hG0
        have HGD : Hid (R' / V ≤ G0) := by
          show _ ≤ _
          have := HGS.out
          rw [← Int.natCast_ediv] at this
          omega
        clear HGS hgs0 hgs1
        have HFV := Lib.hid (HFU.out.le HVU.out)
        have HFG : Hid (Fit 65536 65535 1) := by show Fit _ _ _; unfold Fit; rw [Int.pow_succ, Int.pow_zero]; omega
        have HONE : Hid (Ints .i64 (w8.alloc (.cells #[.int .i64 (G0 : Int)] 3)) (some ⟨w8.heap.size, 0, none⟩) 1 [(G0 : Int)]) := ints_one (wf16 (by omega)) _
        have HD1 : Hid (Dg 65536 [(G0 : Int)]) := Dg.one (by omega)
        have HV1' : Hid (val 65536 [(G0 : Int)] = (G0 : Int)) := val_one _
        go_wp2_with fail
        refine (trimN HONE.out HD1.out HV1'.out (by omega) (by omega)).mono ?_
        rintro e _ ⟨vg, rfl, hvg, rfl⟩
        have HVG := Lib.hid hvg
        clear hvg HONE
        have HXa := Lib.hid ((Ext.refl w8).alloc (.cells #[.int .i64 (G0 : Int)] 3))
        generalize w8.alloc (.cells #[.int .i64 (G0 : Int)] 3) = w9 at HVG HXa ⊢
        go_wp2_with fail
        refine (times16_any _ _ V G0 (L + 1) 1 _ ⟨Av, lv, cv, vs, rfl, HIV8.out.ext HXa.out, HRV.out, hcv1, hcv2⟩ HVG.out HFV.out (HFG.out.le hG1) (by omega) (by omega)).mono ?_
        rintro e w10 ⟨vp, rfl, hvp, hX10⟩
        have HVP := Lib.hid hvp
        have HX10 := Lib.hid (HXa.out.trans hX10)
        clear hvp hX10 HVG HXa
        go_wp2_with fail
        have HFR' := Lib.hid (show Fit 65536 R' (L + 2) from by
          have h1 := HFV.out
          have h2 := HLT.out
          unfold Fit at h1 ⊢
          rw [Int.pow_succ]; omega)
        have HFP : Hid (∀ G : Nat, G ≤ 65535 → Fit 65536 (V * G) (L + 2)) := fun G hG => (HFV.out.mul (by omega) (HFG.out.le hG)).mono (by omega) (by omega)
        go_loopg [14, 16] G0 (fun g s14 s16 wi => ∃ G : Nat, G = g ∧ s14 = .int .i64 (G : Int) ∧ G ≤ 65535 ∧ Hid (R' / V ≤ G) ∧ Hid (Z16 wi s16 (V * G)) ∧ Hid (Ext w8 wi))
        case atStart => exact ⟨G0, rfl, rfl, hG1, HGD.out, HVP.out, HX10.out⟩
        case round =>
          clear HGD HVP HX10 HD1 HV1'
          obtain ⟨G, rfl, rfl, hG, HGD, HP, HXi⟩ := hrel
          have HRi := Lib.hid (HO9.out.ext HXi.out)
          by_cases hgt : R' < V * G
          · as_aux_lemma =>
              have HC1 := Lib.hid (cmpI_gt hgt)
              have hGp : 0 < G := by
                rcases Nat.eq_zero_or_pos G with h | h
                · subst h; simp at hgt
                · exact h
              obtain ⟨H, rfl⟩ : ∃ H, G = H + 1 := ⟨G - 1, by omega⟩
              have HGD' : Hid (R' / V ≤ H) := by
                show _ ≤ _
                have h1 : R' / V < H + 1 := (Nat.div_lt_iff_lt_mul hV1).2 (by rw [Nat.mul_comm]; exact hgt)
                omega
              have HSUB : Hid (V * (H + 1) - V = V * H) := by show _ = _; rw [Nat.mul_succ]; omega
              have HLE : Hid (V ≤ V * (H + 1)) := Nat.le_mul_of_pos_right _ (by omega)
              clear hgt hGp
              go_wp2_with fail
              refine (compare_any _ _ (V * (H + 1)) R' _ HP.out ⟨A8, l9, c8, zs9, rfl, HRi.out.ints, HR9.out, HRi.out.cap.1, HRi.out.cap.2⟩).mono ?_
              rw [HC1.out]
              rintro e w11 ⟨rfl, hX⟩
              have HX11 := Lib.hid (HXi.out.trans hX)
              have HP11 := Lib.hid (HP.out.ext hX)
              clear hX
              go_wp2_with fail
              refine (less_any _ _ (V * (H + 1)) V (L + 2) _ HP11.out ⟨Av, lv, cv, vs, rfl, HIV8.out.ext HX11.out, HRV.out, hcv1, hcv2⟩ (HFP.out _ hG) (by omega) HLE.out).mono ?_
              rw [HSUB.out]
              rintro e w12 ⟨v12, rfl, hv12, hX⟩
              have HX12 := Lib.hid (HX11.out.trans hX)
              have HV12 := Lib.hid hv12
              clear hX hv12
              go_wp2
              go_roundg H
              case rel => exact ⟨H, rfl, by go_num, by omega, HGD'.out, HV12.out, HX12.out⟩
              case measure => omega
          · as_aux_lemma =>
              have hle : V * G ≤ R' := by omega
              have hcv : cmpI (V * G) R' = -1 ∨ cmpI (V * G) R' = 0 := by
                rcases Nat.lt_or_ge (V * G) R' with h | h
                · exact .inl (cmpI_lt h)
                · exact .inr (cmpI_eq (by omega))
              have HLE := Lib.hid hle
              have hGq : (G : Int) < 65536 := by omega
              clear hgt hle
              rcases hcv with hcv | hcv
              all_goals
                have HC2 := Lib.hid hcv
                clear hcv
                go_wp2_with fail
                refine (compare_any _ _ (V * G) R' _ HP.out ⟨A8, l9, c8, zs9, rfl, HRi.out.ints, HR9.out, HRi.out.cap.1, HRi.out.cap.2⟩).mono ?_
                rw [HC2.out]
                rintro e w11 ⟨rfl, hX⟩
                have HX11 := Lib.hid (HXi.out.trans hX)
                have HP11 := Lib.hid (HP.out.ext hX)
                have HR11 := Lib.hid (HRi.out.ext hX)
                clear hX HC2
                go_wp2_with fail
                refine (less_own _ _ R' (V * G) (L + 2) _ ⟨A8, l9, c8, zs9, rfl, HR11.out.ints, HR9.out, HR11.out.cap.1, HR11.out.cap.2⟩ HP11.out HFR'.out (by omega) HLE.out).mono ?_
                rintro e w12 ⟨A12, l12, c12, zs12, rfl, hO12, hR12, hX⟩
                have HX12 := Lib.hid (HX11.out.trans hX)
                have hqlt : gq < w11.heap.size := by
                  obtain ⟨g', x', hg', _, _, hcell⟩ := (HQ8.out.ext HX11.out).get (j := 0) (by omega)
                  obtain rfl : gq = g' := by injection hg' with h; injection h
                  exact World.block_lt_of_cell? _ _ hcell
                have HO12 := Lib.hid (hO12.mono (show gq + 1 ≤ w11.heap.size by omega))
                have HR12 := Lib.hid hR12
                have HQ12 := Lib.hid (HQ8.out.ext HX12.out)
                clear hX hO12 hR12 hqlt
                obtain ⟨g', z', hg', hz', _, hcz', hfz', _, hst⟩ := HQ12.out.store (j := j) (by omega)
                obtain rfl : gq = g' := by injection hg' with h; injection h
                have HS := Lib.hid (hst.out (G : Int) (wf16 (by omega)))
                have HDD := Lib.hid (HD.out.set (u := (G : Int)) (by omega) j)
                have HN := Lib.hid (quo_next (q := q) (d := (G : Int)) HXU.out (by rw [HQ12.out.len]; omega) HI.out)
                have HOO := Lib.hid (HO12.out.far (g := gq) (Nat.lt_succ_self gq) j (.int .i64 (G : Int)))
                have HRN : Hid (R' - V * G < V) := by
                  show _ < _
                  have h1 := (Nat.div_lt_iff_lt_mul hV1).1 (show R' / V < G + 1 by have := HGD.out; omega)
                  rw [Nat.add_mul, Nat.one_mul, Nat.mul_comm G V] at h1
                  have h2 := HLE.out
                  omega
                have HVN : Hid (val 65536 (us.drop j) = val 65536 ((q.set j (G : Int)).drop j) * V + ((R' - V * G : Nat) : Int)) := by
                  show _ = _
                  have h1 := HN.out
                  rw [HRR.out] at h1
                  rw [Int.natCast_sub HLE.out, Int.natCast_mul, Int.mul_comm (V : Int)]
                  exact h1
                have hjd : (j : Int) < ((d + 1 : Nat) : Int) := by omega
                clear hz' hg' hst
                go_wp2
                go_roundg j
                case rel => exact ⟨j, R' - V * G, l12, A12, c12, zs12, _, rfl, by omega, by go_num, rfl, HOO.out, HR12.out, HRN.out, HS.out, HDD.out, HVN.out, (HX8.out.trans HX12.out).setCell (by have := HGQ.out; show w4.heap.size ≤ gq; omega) _⟩
                case measure => omega
end Go.Proofs.Yteoijnaljkagfaa
namespace Go.Proofs.Yteoijnaljkagfaa
open Go.RowKit

theorem divide_any (va vb : Value) (n m L : Nat) (w : World) (ha : Z16 w va n) (hb : Z16 w vb m) (fn : Fit 65536 n L) (hL : L ≤ 400000) (hm : 0 < m) :
    Calls Try.prog 115 #[va, vb] w (RetDR w (n / m) (n % m)) := by
  rcases Nat.lt_or_ge n m with h | h
  · exact rdiv_less va vb n m w ha hb h
  · obtain ⟨B, lb, cb, ys, rfl, hB, hr, h1, h2⟩ := hb
    rcases (show lb = 0 ∨ lb = 1 ∨ 2 ≤ lb by omega) with rfl | rfl | h3
    · exfalso
      have : ys = [] := List.eq_nil_of_length_eq_zero hB.1
      have := (hr.pos (by omega)).2 this
      omega
    · obtain ⟨y, rfl⟩ : ∃ y, ys = [y] := List.length_eq_one_iff.1 hB.1
      exact rdiv_one va B cb y n m L w ha hB hr ⟨h1, h2⟩ fn (by omega) h
    · obtain ⟨p, rfl⟩ : ∃ p, lb = p + 2 := ⟨lb - 2, by omega⟩
      exact rdiv_long va B cb p ys n m L w ha hB hr ⟨h1, h2⟩ fn hL h

set_option maxRecDepth 100000 in
set_option maxHeartbeats 1000000 in
theorem gcd16_any (va vb : Value) (n m L : Nat) (w : World) (ha : Z16 w va n) (hb : Z16 w vb m) (fn : Fit 65536 n L) (fm : Fit 65536 m L) (hL : L ≤ 400000) :
    Calls Try.prog 114 #[va, vb] w (RetN .i64 65536 w (Nat.gcd n m)) := by
  have HA := Lib.hid ha
  have HB := Lib.hid hb
  have HFN := Lib.hid fn
  have HFM := Lib.hid fm
  clear ha hb fn fm
  go_enter Try.func114, Try.ntmps114
  go_wp2
  go_loopg [0, 1] m (fun g s0 s1 wr => ∃ a b : Nat, b = g ∧ Hid (Z16 wr s0 a) ∧ Hid (Z16 wr s1 b) ∧ Hid (Fit 65536 a L) ∧ Hid (Fit 65536 b L) ∧ Hid (Nat.gcd a b = Nat.gcd n m) ∧ Hid (Ext w wr))
  case atStart => exact ⟨n, m, rfl, HA.out, HB.out, HFN.out, HFM.out, rfl, Ext.refl w⟩
  case round =>
    clear HA HB HFN HFM
    obtain ⟨a, b, rfl, HA, HB, HFA, HFB, HG, HX⟩ := hrel
    obtain ⟨B, lb, cb, ys, rfl, hB, hr, hB3⟩ := HB.out
    have hp := hr.pos (by omega)
    rw [← List.length_eq_zero_iff, hB.1] at hp
    rcases Nat.eq_zero_or_pos b with h0 | h0
    · have hl := hp.1 h0
      subst hl h0
      have HGG : Hid (Nat.gcd n m = a) := by have := HG.out; rw [Nat.gcd_zero_right] at this; exact this.symm
      clear hp hB hr hB3
      go_wp2
      go_ret
      exact ⟨_, rfl, by rw [HGG.out]; exact HA.out, HX.out⟩
    · have hl : 0 < lb := by
        rcases Nat.eq_zero_or_pos lb with h | h
        · have := hp.2 h; omega
        · exact h
      have HGG : Hid (Nat.gcd b (a % b) = Nat.gcd n m) := by
        have := HG.out
        show _ = _
        rw [← this, Nat.gcd_comm a b, Nat.gcd_rec b a, Nat.gcd_comm]
      have hlt : a % b < b := Nat.mod_lt _ h0
      have HLT := Lib.hid hlt
      have HPB := Lib.hid h0
      clear hp hB hr hB3 hlt h0
      go_wp2_with fail
      refine (divide_any _ _ a b L _ HA.out HB.out HFA.out hL HPB.out).mono ?_
      rintro e w1 ⟨vq, vr, rfl, hq, hr, hX⟩
      have HR := Lib.hid hr
      have HX1 := Lib.hid (HX.out.trans hX)
      have HB1 := Lib.hid (HB.out.ext hX)
      clear hq hr hX
      go_wp2
      go_roundg (a % b)
      case rel => exact ⟨b, a % b, rfl, HB1.out, HR.out, HFB.out, HFB.out.le (Nat.le_of_lt HLT.out), HGG.out, HX1.out⟩
      case measure => exact HLT.out
end Go.Proofs.Yteoijnaljkagfaa
namespace Go.Proofs.Yteoijnaljkagfaa
open Go.RowKit

/-- The bytes of the decimal text of n. -/
def Dec (n : Nat) (s : List Int) : Prop := (n = 0 ∧ s = [48]) ∨ (n ≠ 0 ∧ ∃ xs, Rep 10 xs n ∧ s = (xs.map (48 + ·)).reverse)
theorem Dec.unique {n : Nat} {s t : List Int} (h : Dec n s) (k : Dec n t) : s = t := by
  rcases h with ⟨h0, rfl⟩ | ⟨h0, xs, hx, rfl⟩ <;> rcases k with ⟨k0, rfl⟩ | ⟨k0, ys, hy, rfl⟩
  · rfl
  · exact absurd h0 k0
  · exact absurd k0 h0
  · rw [Rep.unique (by omega) hx hy]

/-- A slice's words do not lie in the block 'row'. -/
def Sep (v : Value) (row : Option Nat) : Prop := ∀ A n c, v = .slice A n c → 0 < n → ∀ b off, A = some ⟨b, off, none⟩ → row ≠ some b
theorem Sep.nil (v : Value) : Sep v none := fun _ _ _ _ _ _ _ _ h => by cases h
theorem NatV.grown {k : IntKind} {B : Int} {w w' : World} {v : Value} {n : Nat} {row : Option Nat} (h : NatV k B w v n) (hg : w.grownBy w' row) (hs : Sep v row) : NatV k B w' v n := by
  obtain ⟨A, m, c, xs, rfl, ⟨h1, h2, h3⟩, h4⟩ := h
  refine ⟨A, m, c, xs, rfl, ⟨h1, h2, fun hn => ?_⟩, h4⟩
  obtain ⟨b, off, hA, hc⟩ := h3 hn
  have hm : 0 < m := by
    rw [← h1]; rcases xs with _ | ⟨x, xs⟩
    · simp at hn
    · simp
  refine ⟨b, off, hA, fun j v hv => ?_⟩
  have hcell := hc j v hv
  rw [← hcell]
  exact World.cell?_of_block (w := w) (hg.block b (World.block_lt_of_cell? w _ hcell) (fun e => hs A m c rfl hm b off hA e.symm))
theorem Sep.new {k : IntKind} {B : Int} {w : World} {v : Value} {n : Nat} (h : NatV k B w v n) {s : Nat} (hs : w.heap.size ≤ s) : Sep v (some s) := by
  obtain ⟨A, m, c, xs, rfl, ⟨h1, h2, h3⟩, h4⟩ := h
  intro A' n' c' e hn b off hA hb
  injection e with e1 e2 e3
  subst e1 e2 e3
  rcases xs with _ | ⟨x, xs⟩
  · simp at h1; omega
  · obtain ⟨b', off', hA', hc⟩ := h3 (by simp)
    rw [hA] at hA'
    injection hA' with hA'
    injection hA' with hb' _ _
    subst hb'
    have := World.block_lt_of_cell? w _ (hc 0 _ rfl)
    injection hb with hb
    simp only at this
    omega
theorem Sep.fresh {w : World} {base : Nat} {e : TypeId} {size m c l : Nat} {v : Value} {vs : List Value} (h : w.ownsRow base e size v l vs) : Sep (.slice (some ⟨w.heap.size, 0, none⟩) m c) v.ownBlock := by
  intro A' n' c' e' hn b off hA hb
  injection e' with e1 e2 e3
  subst e1
  injection hA with hA
  injection hA with hA
  subst hA
  rcases h.2 with ⟨rfl, _⟩ | ⟨g, cap, cur, rfl, hg, hb', _⟩
  · cases hb
  · have : g = w.heap.size := by simpa [Value.ownBlock] using hb
    subst this
    have := Array.getElem?_eq_some_iff.1 hb'
    obtain ⟨h1, _⟩ := this
    omega

/-- What word returns, with the block of the quotient. -/
def RetWS (w : World) (q : Nat) (r : Int) (e : Ending) (w' : World) : Prop := ∃ m c, e = .returned (.tuple #[.slice (some ⟨w.heap.size, 0, none⟩) m c, .int .u32 r]) ∧ W32 w' (.slice (some ⟨w.heap.size, 0, none⟩) m c) q ∧ Ext w w'

set_option maxHeartbeats 1000000 in
theorem word_sep (va : Value) (n La : Nat) (d : Int) (w : World) (ha : W32 w va n) (hn : Fit 4294967296 n La) (hL : La ≤ 1099511627776) (hd0 : 0 < d) (hd1 : d ≤ 4294967295) :
    Calls Try.prog 135 #[va, .int .u32 d] w (RetWS w (n / d.toNat) ((n : Int) % d)) := by
  obtain ⟨A, la, ca, xs, rfl, hA, hrx, hca, hcam⟩ := ha
  have hla := hn.len (by omega) hrx
  rw [hA.1] at hla
  have HA := Lib.hid hA
  have HN := Lib.hid hrx
  have HLA : Hid (xs.length = la) := hA.1
  clear hA hrx hn
  go_enter Try.func135, Try.ntmps135
  go_wp2_with (at_make; refine wpList_mk _ elW rfl rfl _ _ rfl w.heap.size _ _ _ _ la la rfl rfl (by omega) (by omega) (Nat.le_refl _) (by omega) (by unfold maxLen; omega) (Nat.le_refl _) ?_; intro w1 hown1 hext1 hsz1)
  have HO1 := Lib.hid (OwnS.made hown1)
  have HX1 := Lib.hid hext1
  clear hown1 hext1 hsz1
  go_loopg [7, 8] (la + 1) (fun g rs i wr => ∃ (k : Nat) (r : Int) (out : List Int), g = k + 1 ∧ k ≤ la ∧ i = .int .i64 ((k : Int) - 1) ∧ rs = .int .u64 r ∧ 0 ≤ r ∧ r < d ∧ OwnS .u32 79 w.heap.size wr (some ⟨w.heap.size, 0, none⟩) la la out ∧ Hid (val 4294967296 (xs.drop k) = d * val 4294967296 (out.drop k) + r) ∧ Ext w wr)
  case atStart => exact ⟨la, 0, _, rfl, Nat.le_refl _, rfl, rfl, by omega, hd0, HO1.out, by
    rw [List.drop_eq_nil_of_le (by rw [HLA.out]; exact Nat.le_refl _), List.drop_eq_nil_of_le (by simp)]; simp [Hid, val], HX1.out⟩
  case round =>
    obtain ⟨k, r, out, rfl, hk, rfl, rfl, hr0, hr1, hO, hI, hX⟩ := hrel
    have HX := Lib.hid hX
    have HO := Lib.hid hO
    clear hX hO
    rcases Nat.eq_zero_or_pos k with h0 | h0
    · subst h0
      rw [show (((0 : Nat) : Int) - 1) = -1 by omega]
      have hv := hI.out
      rw [List.drop_zero, List.drop_zero, HN.out.2.2] at hv
      have hvn := val_nonneg (B := 4294967296) (by omega) (dg32 HO.out.ints)
      obtain ⟨q, hq⟩ := Int.eq_ofNat_of_zero_le hvn
      have e1 : (n : Int) / d = q := by rw [hv, hq, Int.add_comm, Int.add_mul_ediv_left _ _ (by omega), Int.ediv_eq_zero_of_lt hr0 hr1]; omega
      have e2 : (n : Int) % d = r := by rw [hv, Int.add_comm, Int.add_mul_emod_self_left]; exact Int.emod_eq_of_lt hr0 hr1
      have e3 : n / d.toNat = q := by
        have h1 : ((n / d.toNat : Nat) : Int) = (n : Int) / (d.toNat : Int) := Int.natCast_ediv ..
        rw [Int.toNat_of_nonneg (by omega), e1] at h1; omega
      have E2 := Lib.hid e2
      have E3 := Lib.hid e3
      have HV := Lib.hid hq
      clear hv hvn hq e1 e2 e3
      have hrw : IntKind.u32.wrap r = r := IntWalk.u32_in _ (by omega)
      go_wp2_with fail
      refine (norm_any _ _ _ _ _ HO.out.ints (by omega) (by omega)).mono ?_
      rintro e w' ⟨m, hm, hN, hv, rfl, rfl⟩
      have HW := Lib.hid (RetNorm.natv (N := q) (c := la) HO.out.ints hm hN hv HV.out (by omega) (by omega))
      clear hm hN hv
      go_wp2
      go_ret2
      exact ⟨_, _, by rw [E2.out]; rfl, by rw [E3.out]; exact HW.out, HX.out⟩
    · obtain ⟨i, rfl⟩ : ∃ i, k = i + 1 := ⟨k - 1, by omega⟩
      obtain ⟨b1, o1, x, hAe, hx, hwf, hcx⟩ := (HA.out.ext HX.out).get (j := i) (by omega)
      subst hAe
      obtain ⟨hx0, hx1⟩ := u32_bounds hwf
      obtain ⟨g, z, hg, hz, _, hcz, hfz, _, hst⟩ := HO.out.store (j := i) (by omega)
      obtain rfl : w.heap.size = g := by injection hg with hg; injection hg
      have hi1 : (((i + 1 : Nat) : Int) - 1) = (i : Int) := by omega
      have hi2 : (i : Int) < (la : Int) := by omega
      have hi0 : (0 : Int) ≤ (i : Int) := by omega
      rw [hi1]
      have hor : bits .or .u64 (r * 4294967296) x = r * 4294967296 + x := or64_add 32 (by omega) (by omega) (by omega) (by omega)
      obtain ⟨hq1, hq0⟩ := word_digit ⟨hr0, hr1⟩ ⟨hx0, hx1⟩
      have HI := Lib.hid (word_step (d := d) (r := r) (t := r * 4294967296 + x) hI.out (by rw [HO.out.len]; omega) hx rfl)
      obtain ⟨t, ht⟩ : ∃ t, r * 4294967296 + x = t := ⟨_, rfl⟩
      have ht0 : 0 ≤ t := by omega
      have ht1 : t ≤ 18446744073709551615 := by omega
      rw [ht] at hor hq1 hq0 HI
      have HS := Lib.hid (hst.out (t / d) (wf32 (by omega)))
      have hm0 := Int.emod_nonneg t (show d ≠ 0 by omega)
      have hm1 := Int.emod_lt_of_pos t hd0
      clear hx hwf hz hg hi1 hst ht
      go_wp2
      go_roundg (i + 1)
      case rel => exact ⟨i, t % d, _, rfl, by omega, by go_num, rfl, hm0, hm1, HS.out, HI.out, HX.out.setCell (Nat.le_refl _) _⟩
      case measure => omega

/-- One decimal digit more. -/
theorem dec_step {es : List Int} {r N : Int} {m j : Nat} (hd : Dg 10 es) (hr : 0 ≤ r) (hr1 : r < 10 ^ (j + 1)) (h : val 10 es + 10 ^ es.length * (r + 10 ^ (j + 1) * (m : Int)) = N) :
    Dg 10 (es ++ [r % 10]) ∧ 0 ≤ r / 10 ∧ r / 10 < 10 ^ j ∧ val 10 (es ++ [r % 10]) + 10 ^ (es ++ [r % 10]).length * (r / 10 + 10 ^ j * (m : Int)) = N := by
  refine ⟨hd.append (Dg.one (by omega)), by omega, ?_, ?_⟩
  · rw [Int.pow_succ] at hr1; omega
  · rw [val_snoc, List.length_append, List.length_singleton, Int.pow_succ, ← h]
    have e : r = r % 10 + 10 * (r / 10) := by omega
    generalize hq : r / 10 = q at *
    generalize r % 10 = s at *
    subst e
    rw [Int.pow_succ]
    grind
theorem dec_len {es : List Int} {n m L : Nat} (hn : Fit 4294967296 n L) (hd : Dg 10 es) (h : val 10 es + 10 ^ es.length * (m : Int) = n) (hm : 0 < m) : es.length < 32 * L + 1 := by
  have h0 := val_nonneg (B := 10) (by omega) hd
  have h1 : (10 : Int) ^ es.length ≤ n := by
    have : (10 : Int) ^ es.length * 1 ≤ 10 ^ es.length * (m : Int) := Int.mul_le_mul_of_nonneg_left (by omega) (Int.le_of_lt (Int.pow_pos (by omega)))
    omega
  have h2 : (2 : Int) ^ es.length ≤ 10 ^ es.length := by
    have : (2 : Nat) ^ es.length ≤ 10 ^ es.length := Nat.pow_le_pow_left (by omega) _
    exact_mod_cast this
  have h3 : (4294967296 : Int) ^ L = 2 ^ (32 * L) := by rw [Int.pow_mul]; rfl
  unfold Fit at hn
  rw [h3] at hn
  rcases Nat.lt_or_ge es.length (32 * L + 1) with h4 | h4
  · exact h4
  · have := pow_le (B := 2) (a := 32 * L) (b := es.length) (by omega) (by omega)
    omega
/-- The reversal half done. -/
def RevAt (xs ys : List Int) (i : Nat) : Prop := ys.length = xs.length ∧ ∀ k, k < xs.length → ys[k]? = if k < i ∨ xs.length - 1 - i < k then xs[xs.length - 1 - k]? else xs[k]?
theorem RevAt.zero (xs : List Int) : RevAt xs xs 0 := ⟨rfl, fun k hk => by rw [if_neg (by omega)]⟩
theorem RevAt.done {xs ys : List Int} {i : Nat} (h : RevAt xs ys i) (hi : xs.length ≤ i + (i + 1)) : ys = xs.reverse := by
  apply List.ext_getElem?
  intro k
  rcases Nat.lt_or_ge k xs.length with hk | hk
  · rw [h.2 k hk, List.getElem?_reverse hk]
    split
    · rfl
    · have : k = xs.length - 1 - k := by omega
      rw [← this]
  · rw [List.getElem?_eq_none (by rw [h.1]; exact hk), List.getElem?_eq_none (by simpa using hk)]
theorem RevAt.step {xs ys : List Int} {i j : Nat} {x y : Int} (h : RevAt xs ys i) (hij : i + j + 1 = xs.length) (hlt : i < j) (hx : ys[i]? = some x) (hy : ys[j]? = some y) : RevAt xs ((ys.set i y).set j x) (i + 1) := by
  refine ⟨by simpa using h.1, fun k hk => ?_⟩
  have hl := h.1
  rw [h.2 i (by omega), if_neg (by omega)] at hx
  rw [h.2 j (by omega), if_neg (by omega)] at hy
  rw [List.getElem?_set, List.getElem?_set]
  by_cases h1 : j = k
  · subst h1
    rw [if_pos rfl, if_pos (by simp; omega), if_pos (by omega), show xs.length - 1 - j = i by omega, hx]
  · rw [if_neg h1]
    by_cases h2 : i = k
    · subst h2
      rw [if_pos rfl, if_pos (by omega), if_pos (by omega), show xs.length - 1 - i = j by omega, hy]
    · rw [if_neg h2, h.2 k hk]
      by_cases h3 : k < i ∨ xs.length - 1 - i < k
      · rw [if_pos h3, if_pos (by omega)]
      · rw [if_neg h3, if_neg (by omega)]
end Go.Proofs.Yteoijnaljkagfaa
namespace Go.Proofs.Yteoijnaljkagfaa
open Go.RowKit
set_option maxRecDepth 100000 in
set_option maxHeartbeats 2000000 in
theorem text_r17 (g l c pi pj : Nat) (x y : Int) (w : World) (hci : w.cell? ⟨g, pi, none⟩ = some (.int .u8 x)) (hcj : w.cell? ⟨g, pj, none⟩ = some (.int .u8 y)) (hfi : w.frozen? ⟨g, pi, none⟩ = false) (hf15 : Hid (w.frozen? ⟨g, pj, none⟩ = false)) (hc15 : Hid ((w.setCell ⟨g, pi, none⟩ (.int .u8 y)).cell? ⟨g, pj, none⟩ = some (.int .u8 y))) (hi0 : (0 : Int) ≤ (pi : Int)) (hj0 : (0 : Int) ≤ (pj : Int)) (hi1 : (pi : Int) < (l : Int)) (hj1 : (pj : Int) < (l : Int)) (a : Act) (Q : Exit → Act → World → Prop) (hsize : 68 ≤ a.tmps.size)
    (s3 : a.tmps[3]? = some (.slice (some ⟨g, 0, none⟩) l c))
    (s6 : a.tmps[6]? = some (.int .i64 (pi : Int)))
    (s7 : a.tmps[7]? = some (.int .i64 (pj : Int)))
    (hend : ∀ (xv0 xv1 xv2 xv3 xv4 xv5 xv6 xv7 xv8 xv9 xv10 xv11 xv12 xv13 xv14 xv15 : Value) (W : World), (xv0 = .slice (some ⟨g, 0, none⟩) l c) → (xv1 = .int .i64 (pi : Int)) → (xv2 = .slice (some ⟨g, 0, none⟩) l c) → (xv3 = .int .i64 (pj : Int)) → (xv4 = .slice (some ⟨g, 0, none⟩) l c) → (xv5 = .int .i64 (pj : Int)) → (xv6 = .pointer (some ⟨g, pj, none⟩)) → (xv7 = .int .u8 y) → (xv8 = .slice (some ⟨g, 0, none⟩) l c) → (xv9 = .int .i64 (pi : Int)) → (xv10 = .pointer (some ⟨g, pi, none⟩)) → (xv11 = .int .u8 x) → (xv12 = .pointer (some ⟨g, pi, none⟩)) → (True) → (xv14 = .pointer (some ⟨g, pj, none⟩)) → (True) → W = ((w.setCell ⟨g, pi, none⟩ (.int .u8 y)).setCell ⟨g, pj, none⟩ (.int .u8 x)).drew → wpList Try.prog (rops Try.f122 17).toArray Q ((rops Try.f122 17).drop 16) ((((((((((((((((a.put (some 54) xv0).put (some 55) xv1).put (some 56) xv2).put (some 57) xv3).put (some 58) xv4).put (some 59) xv5).put (some 60) xv6).put (some 61) xv7).put (some 62) xv8).put (some 63) xv9).put (some 64) xv10).put (some 65) xv11).put (some 66) xv12).put (none) xv13).put (some 67) xv14).put (none) xv15) W) :
    (Code.region 17 (rops Try.f122 17).toArray true).wp Try.prog Q a w := by
  have hsz : ∀ d, some d ∈ ([some 54, some 55, some 56, some 57, some 58, some 59, some 60, some 61, some 62, some 63, some 64, some 65, some 66, none, some 67, none] : List (Option Tmp)) → d < a.tmps.size := slots_lt (by decide) hsize
  refine wp_region_j 16 [some 54, some 55, some 56, some 57, some 58, some 59, some 60, some 61, some 62, some 63, some 64, some 65, some 66, none, some 67, none] [[], [], [], [], [], [], [4, 5], [6], [], [], [8, 9], [10], [0, 1], [7, 12], [2, 3], [11, 13, 14]] [[], [], [], [], [], [], [], [13], [], [], [], [13], [], [15], [], []] (fun i v _ => match i with
    | 0 => v = .slice (some ⟨g, 0, none⟩) l c
    | 1 => v = .int .i64 (pi : Int)
    | 2 => v = .slice (some ⟨g, 0, none⟩) l c
    | 3 => v = .int .i64 (pj : Int)
    | 4 => v = .slice (some ⟨g, 0, none⟩) l c
    | 5 => v = .int .i64 (pj : Int)
    | 6 => v = .pointer (some ⟨g, pj, none⟩)
    | 7 => v = .int .u8 y
    | 8 => v = .slice (some ⟨g, 0, none⟩) l c
    | 9 => v = .int .i64 (pi : Int)
    | 10 => v = .pointer (some ⟨g, pi, none⟩)
    | 11 => v = .int .u8 x
    | 12 => v = .pointer (some ⟨g, pi, none⟩)
    | 13 => True
    | 14 => v = .pointer (some ⟨g, pj, none⟩)
    | 15 => True
    | _ => True) (fun done W => (¬ done 13 → W = w.drew) ∧ (done 13 → ¬ done 15 → W = (w.setCell ⟨g, pi, none⟩ (.int .u8 y)).drew) ∧ (done 15 → W = ((w.setCell ⟨g, pi, none⟩ (.int .u8 y)).setCell ⟨g, pj, none⟩ (.int .u8 x)).drew)) (by kernel_rfl) (by kernel_rfl) hsz (fun p q W h hJ => ⟨fun hn => hJ.1 (fun hp => hn ((h 13).1 hp)), fun hq hn => hJ.2.1 ((h 13).2 hq) (fun hp => hn ((h 15).1 hp)), fun hq => hJ.2.2 ((h 15).2 hq)⟩) ⟨fun _ => rfl, fun h => h.elim, fun h => h.elim⟩ ?_ ?_
  · clear hend
    simp only [rops, Try.f122, regOf, Option.bind_some, Nat.reduceBEq, if_true, if_false, Bool.false_eq_true, Option.getD_some]
    simp only [List.take_succ_cons, List.take_zero]
    refine ⟨?_, ?_, ?_, ?_, ?_, ?_, ?_, ?_, ?_, ?_, ?_, ?_, ?_, ?_, ?_, ?_, trivial⟩
    · intro done us W hJ hdep haft hnot b hb hb' K hK Q'
      have e3 := (hb' 3 (by simp)).trans s3
      clear hb hb'
      go_simp
      exact hK _ _ rfl (fun _ _ _ h => h) (by simpa using hJ)
    · intro done us W hJ hdep haft hnot b hb hb' K hK Q'
      have e6 := (hb' 6 (by simp)).trans s6
      clear hb hb'
      go_simp
      exact hK _ _ rfl (fun _ _ _ h => h) (by simpa using hJ)
    · intro done us W hJ hdep haft hnot b hb hb' K hK Q'
      have e3 := (hb' 3 (by simp)).trans s3
      clear hb hb'
      go_simp
      exact hK _ _ rfl (fun _ _ _ h => h) (by simpa using hJ)
    · intro done us W hJ hdep haft hnot b hb hb' K hK Q'
      have e7 := (hb' 7 (by simp)).trans s7
      clear hb hb'
      go_simp
      exact hK _ _ rfl (fun _ _ _ h => h) (by simpa using hJ)
    · intro done us W hJ hdep haft hnot b hb hb' K hK Q'
      have e3 := (hb' 3 (by simp)).trans s3
      clear hb hb'
      go_simp
      exact hK _ _ rfl (fun _ _ _ h => h) (by simpa using hJ)
    · intro done us W hJ hdep haft hnot b hb hb' K hK Q'
      have e7 := (hb' 7 (by simp)).trans s7
      clear hb hb'
      go_simp
      exact hK _ _ rfl (fun _ _ _ h => h) (by simpa using hJ)
    · intro done us W hJ hdep haft hnot b hb hb' K hK Q'
      simp only [List.getD_cons_succ, List.getD_cons_zero, List.mem_cons, List.not_mem_nil, or_false, forall_eq_or_imp, forall_eq] at hdep
      have e58 := hb 4 58 rfl
      have e59 := hb 5 59 rfl
      have d4 := hdep.1
      have d5 := hdep.2
      rw [d4.1] at e58
      rw [d5.1] at e59
      clear hb hb' hdep d4 d5
      go_simp
      exact hK _ _ rfl (fun _ _ _ h => h) (by simpa using hJ)
    · intro done us W hJ hdep haft hnot b hb hb' K hK Q'
      simp only [List.getD_cons_succ, List.getD_cons_zero, List.mem_cons, List.not_mem_nil, or_false, forall_eq] at hdep
      simp only [List.getD_cons_succ, List.getD_cons_zero, List.mem_cons, List.not_mem_nil, or_false, forall_eq] at haft
      have e60 := hb 6 60 rfl
      have d6 := hdep
      rw [d6.1] at e60
      clear hb hb' hdep d6
      obtain rfl := hJ.1 haft
      go_simp
      exact hK _ _ rfl (fun _ _ _ h => h) (by simpa using hJ)
    · intro done us W hJ hdep haft hnot b hb hb' K hK Q'
      have e3 := (hb' 3 (by simp)).trans s3
      clear hb hb'
      go_simp
      exact hK _ _ rfl (fun _ _ _ h => h) (by simpa using hJ)
    · intro done us W hJ hdep haft hnot b hb hb' K hK Q'
      have e6 := (hb' 6 (by simp)).trans s6
      clear hb hb'
      go_simp
      exact hK _ _ rfl (fun _ _ _ h => h) (by simpa using hJ)
    · intro done us W hJ hdep haft hnot b hb hb' K hK Q'
      simp only [List.getD_cons_succ, List.getD_cons_zero, List.mem_cons, List.not_mem_nil, or_false, forall_eq_or_imp, forall_eq] at hdep
      have e62 := hb 8 62 rfl
      have e63 := hb 9 63 rfl
      have d8 := hdep.1
      have d9 := hdep.2
      rw [d8.1] at e62
      rw [d9.1] at e63
      clear hb hb' hdep d8 d9
      go_simp
      exact hK _ _ rfl (fun _ _ _ h => h) (by simpa using hJ)
    · intro done us W hJ hdep haft hnot b hb hb' K hK Q'
      simp only [List.getD_cons_succ, List.getD_cons_zero, List.mem_cons, List.not_mem_nil, or_false, forall_eq] at hdep
      simp only [List.getD_cons_succ, List.getD_cons_zero, List.mem_cons, List.not_mem_nil, or_false, forall_eq] at haft
      have e64 := hb 10 64 rfl
      have d10 := hdep
      rw [d10.1] at e64
      clear hb hb' hdep d10
      obtain rfl := hJ.1 haft
      go_simp
      exact hK _ _ rfl (fun _ _ _ h => h) (by simpa using hJ)
    · intro done us W hJ hdep haft hnot b hb hb' K hK Q'
      simp only [List.getD_cons_succ, List.getD_cons_zero, List.mem_cons, List.not_mem_nil, or_false, forall_eq_or_imp, forall_eq] at hdep
      have e54 := hb 0 54 rfl
      have e55 := hb 1 55 rfl
      have d0 := hdep.1
      have d1 := hdep.2
      rw [d0.1] at e54
      rw [d1.1] at e55
      clear hb hb' hdep d0 d1
      go_simp
      exact hK _ _ rfl (fun _ _ _ h => h) (by simpa using hJ)
    · intro done us W hJ hdep haft hnot b hb hb' K hK Q'
      simp only [List.getD_cons_succ, List.getD_cons_zero, List.mem_cons, List.not_mem_nil, or_false, forall_eq_or_imp, forall_eq] at hdep
      simp only [List.getD_cons_succ, List.getD_cons_zero, List.mem_cons, List.not_mem_nil, or_false, forall_eq] at haft
      have e61 := hb 7 61 rfl
      have e66 := hb 12 66 rfl
      have d7 := hdep.1
      have d12 := hdep.2
      rw [d7.1] at e61
      rw [d12.1] at e66
      clear hb hb' hdep d7 d12
      obtain rfl := hJ.1 hnot
      go_simp
      exact hK undef _ trivial (fun _ _ _ h => h) ⟨fun h => absurd (Or.inr rfl) h, fun _ _ => rfl, fun h => by rcases h with h | h; exact absurd h haft; cases h⟩
    · intro done us W hJ hdep haft hnot b hb hb' K hK Q'
      simp only [List.getD_cons_succ, List.getD_cons_zero, List.mem_cons, List.not_mem_nil, or_false, forall_eq_or_imp, forall_eq] at hdep
      have e56 := hb 2 56 rfl
      have e57 := hb 3 57 rfl
      have d2 := hdep.1
      have d3 := hdep.2
      rw [d2.1] at e56
      rw [d3.1] at e57
      clear hb hb' hdep d2 d3
      go_simp
      exact hK _ _ rfl (fun _ _ _ h => h) (by simpa using hJ)
    · intro done us W hJ hdep haft hnot b hb hb' K hK Q'
      simp only [List.getD_cons_succ, List.getD_cons_zero, List.mem_cons, List.not_mem_nil, or_false, forall_eq_or_imp, forall_eq] at hdep
      have e65 := hb 11 65 rfl
      have e67 := hb 14 67 rfl
      have d11 := hdep.1
      have d13 := hdep.2.1
      have d14 := hdep.2.2
      rw [d11.1] at e65
      rw [d14.1] at e67
      clear hb hb' hdep d11 d14
      obtain rfl := hJ.2.1 d13.2 hnot
      have hf2 := hf15.out
      have hc2 := hc15.out
      go_simp
      exact hK undef _ trivial (fun _ _ _ h => h) ⟨fun h => absurd (Or.inl d13.2) h, fun _ h => absurd (Or.inr rfl) h, fun _ => rfl⟩
  · intro us W hV hJ
    exact hend (us 0) (us 1) (us 2) (us 3) (us 4) (us 5) (us 6) (us 7) (us 8) (us 9) (us 10) (us 11) (us 12) (us 13) (us 14) (us 15) W (hV 0 (by omega)) (hV 1 (by omega)) (hV 2 (by omega)) (hV 3 (by omega)) (hV 4 (by omega)) (hV 5 (by omega)) (hV 6 (by omega)) (hV 7 (by omega)) (hV 8 (by omega)) (hV 9 (by omega)) (hV 10 (by omega)) (hV 11 (by omega)) (hV 12 (by omega)) (hV 13 (by omega)) (hV 14 (by omega)) (hV 15 (by omega)) (by simpa using hJ)
end Go.Proofs.Yteoijnaljkagfaa
namespace Go.Proofs.Yteoijnaljkagfaa
open Go.RowKit

theorem elB : Elem Try.prog 148 5 1 1 (.int .u8 0) := Elem.mk' (by kernel_rfl) (by kernel_rfl) rfl (by decide)

/-- What text returns: the decimal digits. -/
def RetDec (w : World) (n : Nat) (e : Ending) (w' : World) : Prop := ∃ s, e = .returned (.string (strOfNums s)) ∧ Dec n s ∧ Ext w w'

theorem text_push {wr w1 : World} {o : Obj} {va v v' : Value} {q : Nat} (hW : W32 wr va q) (hS : Sep va v.ownBlock) (hg : (wr.alloc o).grownBy w1 v.ownBlock) (hb : v'.ownBlock = v.ownBlock ∨ v'.ownBlock = some (wr.alloc o).heap.size) : W32 w1 va q ∧ Sep va v'.ownBlock := by
  have h1 := hW.ext ((Ext.refl wr).alloc o)
  refine ⟨NatV.grown h1 hg hS, ?_⟩
  rcases hb with hb | hb
  · rw [hb]; exact hS
  · rw [hb]; exact Sep.new h1 (Nat.le_refl _)
theorem text_own {w1 : World} {base : Nat} {A : Option Addr} {c nd : Nat} {es : List Int} {d : Int} (hl : es.length = nd) (hd : Dg 10 (es ++ [d])) (h : w1.ownsRow base 5 1 (.slice A (nd + 1) c) (nd + 1) ((es.map (48 + ·)).map (Value.int .u8) ++ [.int .u8 (48 + d)])) : OwnS .u8 5 base w1 A (nd + 1) c ((es ++ [d]).map (48 + ·)) := by
  refine ⟨by simpa using h, by simp [hl], fun x hx => ?_⟩
  obtain ⟨y, hy, rfl⟩ := List.mem_map.1 hx
  have := hd y hy
  exact WalkArith.wf_u8 (by omega)
theorem dec_le {es : List Int} {n m : Nat} (hd : Dg 10 es) (h : val 10 es + 10 ^ es.length * (m : Int) = n) : m ≤ n := by
  have h0 := val_nonneg (B := 10) (by omega) hd
  have h1 : (1 : Int) ≤ 10 ^ es.length := Int.pow_pos (by omega)
  have h2 : 1 * (m : Int) ≤ 10 ^ es.length * (m : Int) := Int.mul_le_mul_of_nonneg_right h1 (by omega)
  omega
theorem word_split (m : Nat) : ∃ (q : Nat) (r : Int), Hid (m / (1000000000 : Int).toNat = q) ∧ Hid ((m : Int) % 1000000000 = r) ∧ 0 ≤ r ∧ r < 1000000000 ∧ Hid ((m : Int) = r + 10 ^ 9 * (q : Int)) ∧ (0 < m → q < m) :=
  ⟨_, _, rfl, rfl, by omega, by omega, by show _ = _; rw [show (1000000000 : Int).toNat = 1000000000 from rfl]; omega, by rw [show (1000000000 : Int).toNat = 1000000000 from rfl]; omega⟩
theorem ten_le {g : Nat} {r : Int} (hg : g ≤ 9) (h : r < 10 ^ g) : r < 1000000000 := by
  have := pow_le (B := 10) (a := g) (b := 9) (by omega) hg
  have e : (10 : Int) ^ 9 = 1000000000 := by decide
  omega

set_option maxHeartbeats 2000000 in
theorem text_any (va : Value) (n L : Nat) (w : World) (ha : W32 w va n) (hn : Fit 4294967296 n L) (hL : L ≤ 1000000000) :
    Calls Try.prog 122 #[va] w (RetDec w n) := by
  have HW := Lib.hid ha
  obtain ⟨A, la, ca, xs, rfl, hA, hrx, hca, hcam⟩ := ha
  rcases Nat.eq_zero_or_pos n with h0 | h0
  · subst h0
    obtain rfl := Rep.zero (by omega) hrx
    obtain rfl : la = 0 := by simpa using hA.1.symm
    clear HW hA hrx hn
    go_enter Try.func122, Try.ntmps122
    go_wp2
    go_ret
    exact ⟨[48], rfl, .inl ⟨rfl, rfl⟩, Ext.refl _⟩
  · have hla : 0 < la := by
      rcases Nat.eq_zero_or_pos la with h | h
      · have h1 := hA.1
        rw [h] at h1
        have := (Rep.pos (by omega) hrx).2 (List.eq_nil_of_length_eq_zero h1)
        omega
      · exact h
    have hlb : ((la : Int) == 0) = false := by simp; omega
    have HN := Lib.hid hn
    clear hA hrx hn
    go_enter Try.func122, Try.ntmps122
    go_wp2
    go_loopg [0, 3] n (fun g va vd wr => ∃ (m : Nat) (Aa : Option Addr) (na cq : Nat) (Ad : Option Addr) (nd cd : Nat) (es : List Int), m = g ∧ va = .slice Aa na cq ∧ vd = .slice Ad nd cd ∧ Hid (W32 wr (.slice Aa na cq) m) ∧ Hid (Sep (.slice Aa na cq) (Value.slice Ad nd cd).ownBlock) ∧ Hid (OwnS .u8 5 w.heap.size wr Ad nd cd (es.map (48 + ·))) ∧ Hid (Dg 10 es) ∧ Hid (val 10 es + 10 ^ es.length * (m : Int) = n) ∧ Hid (Ext w wr))
    case atStart => exact ⟨n, A, la, ca, none, 0, 0, [], rfl, rfl, rfl, HW.out, Sep.nil _, ⟨⟨rfl, .inl ⟨rfl, rfl⟩⟩, rfl, by simp⟩, Dg.nil, by simp [val, Hid], Ext.refl _⟩
    case round =>
      obtain ⟨m, Aa, na, cq, Ad, nd, cd, es, rfl, rfl, rfl, HWm, HSep, HO, HD, HV, HX⟩ := hrel
      obtain ⟨A2, n2, c2, zs, hz1, hz2, hz3, hz4, hz5⟩ := HWm.out
      injection hz1 with e1 e2 e3
      subst e1 e2 e3
      have HL : Hid (es.length = nd) := by have := HO.out.len; simpa [Hid] using this
      rcases Nat.eq_zero_or_pos m with hm0 | hm0
      · subst hm0
        obtain rfl := Rep.zero (by omega) hz3
        obtain rfl : na = 0 := by simpa using hz2.1.symm
        have HV' : Hid (val 10 es = (n : Int)) := by have := HV.out; simp at this; exact this
        clear hz2 hz3 hz4 hz5 HV HWm HSep
        go_wp2
        go_loopg [3] nd (fun g v wq => ∃ l, l = g ∧ l ≤ nd ∧ v = .slice Ad l cd ∧ Hid (val 10 (es.take l) = (n : Int)) ∧ wr = wq)
        case atStart => exact ⟨nd, rfl, Nat.le_refl _, rfl, by rw [List.take_of_length_le (by rw [HL.out]; exact Nat.le_refl _)]; exact HV'.out, rfl⟩
        case round =>
          obtain ⟨l, rfl, hl, rfl, HVl, rfl⟩ := hrel
          obtain ⟨k, rfl⟩ : ∃ k, l = k + 1 := by
            rcases l with _ | k
            · have := HVl.out
              simp [val] at this
              omega
            · exact ⟨k, rfl⟩
          obtain ⟨g, x, hAd, hx, hwf, hc⟩ := HO.out.get (j := k) (by omega)
          subst hAd
          obtain ⟨d, hd, hxd⟩ : ∃ d, es[k]? = some d ∧ 48 + d = x := by
            rw [List.getElem?_map] at hx
            rcases he : es[k]? with _ | d
            · rw [he] at hx; cases hx
            · rw [he] at hx; exact ⟨d, rfl, by simpa using hx⟩
          have hd0 := HD.out.get hd
          have HDk := Lib.hid hd
          have hcap := HO.out.cap
          clear hx hwf hd
          by_cases hz : d = 0
          · have hxe : (x == 48) = true := by simp; omega
            have HVk : Hid (val 10 (es.take k) = (n : Int)) := by
              have := HVl.out
              rw [val_take_succ HDk.out, hz] at this
              show _ = _
              omega
            clear hz hxd hd0
            go_wp2
            go_roundg k
            case rel => exact ⟨k, rfl, by omega, rfl, HVk, rfl⟩
            case measure => omega
          · have hxe : (x == 48) = false := by simp; omega
            have HR : Hid (Rep 10 (es.take (k + 1)) n) := ⟨HD.out.take _, Nm.take HDk.out hz, HVl.out⟩
            have hOk := HO.out.front (m := k + 1) hl
            rw [← List.map_take] at hOk
            obtain ⟨zs, hzs⟩ : ∃ zs, es.take (k + 1) = zs := ⟨_, rfl⟩
            rw [hzs] at HR hOk
            have HOk := Lib.hid hOk
            have HZL : Hid (zs.length = k + 1) := by have := hOk.len; simpa [Hid] using this
            clear hz hxd hd0 hOk hzs HDk HVl HV' HO
            go_wp2
            go_loopg [6, 7] (k + 1) (fun g' vi vj wq => ∃ (pi pj : Nat) (ys : List Int), g' = k + 1 - pi ∧ pi + pj = k ∧ pi ≤ pj + 1 ∧ vi = .int .i64 (pi : Int) ∧ vj = .int .i64 (pj : Int) ∧ Hid (OwnS .u8 5 w.heap.size wq (some ⟨g, 0, none⟩) (k + 1) cd ys) ∧ Hid (RevAt (zs.map (48 + ·)) ys pi) ∧ Hid (Ext w wq))
            case atStart => exact ⟨0, k, _, rfl, by omega, by omega, rfl, by go_num, HOk, RevAt.zero _, HX⟩
            case round =>
              obtain ⟨pi, pj, ys, rfl, hij, hij', rfl, rfl, HOy, HRy, HXy⟩ := hrel
              by_cases hlt : pi < pj
              · obtain ⟨g1, x1, hg1, hx1, hwf1, hc1, hf1, hb1, hst1⟩ := HOy.out.store (j := pi) (by omega)
                obtain ⟨g2, y1, hg2, hy1, hwf2, hc2, hf2, hb2, _⟩ := HOy.out.store (j := pj) (by omega)
                injection hg1 with hg1
                injection hg1 with hg1
                injection hg2 with hg2
                injection hg2 with hg2
                subst hg1 hg2
                have hO1 := hst1.out y1 hwf2
                obtain ⟨g3, y3, hg3, hy3, hwf3, hc3, hf3, hb3, hst3⟩ := hO1.store (j := pj) (by omega)
                injection hg3 with hg3
                injection hg3 with hg3
                subst hg3
                have hy13 : y3 = y1 := by
                  rw [List.getElem?_set_ne (by omega), hy1] at hy3
                  injection hy3 with hy3
                  exact hy3.symm
                subst hy13
                have HO3 := Lib.hid (hst3.out x1 hwf1)
                have HR3 := Lib.hid (HRy.out.step (j := pj) (by simp [HZL.out]; omega) hlt hx1 hy1)
                have HC3 := Lib.hid hc3
                have HF3 := Lib.hid hf2
                have hi0 : (0 : Int) ≤ (pi : Int) := by omega
                have hj0 : (0 : Int) ≤ (pj : Int) := by omega
                have hi1 : (pi : Int) < ((k + 1 : Nat) : Int) := by omega
                have hj1 : (pj : Int) < ((k + 1 : Nat) : Int) := by omega
                have hltI : (pi : Int) < (pj : Int) := by omega
                clear hst1 hst3 hO1 hy3 hx1 hy1 hc3 hf3 hf2 hwf1 hwf2 hwf3 hb2 hb3 HRy
                go_wp2_with fail
                refine text_r17 g (k + 1) cd pi pj x1 y3 _ hc1 hc2 hf1 HF3 HC3 hi0 hj0 hi1 hj1 _ _ (by simp) rfl rfl rfl ?_
                rintro _ _ _ _ _ _ _ _ _ _ _ _ _ x13 _ x15 _ rfl rfl rfl rfl rfl rfl rfl rfl rfl rfl rfl rfl rfl _ rfl _ rfl
                simp only [rops, Try.f122, regOf, Option.bind_some, Nat.reduceBEq, if_true, if_false, Bool.false_eq_true, Option.getD_some, List.drop_succ_cons, List.drop_zero]
                simp only [Act.put, List.setIfInBounds_toArray, List.set_cons_succ, List.set_cons_zero]
                go_wp2
                go_roundg (k + 1 - (pi + 1))
                case rel => exact ⟨pi + 1, pj - 1, _, rfl, by omega, by omega, by go_num, by go_num, HO3.out.ext ((Ext.refl _).drew), HR3.out, ((HXy.out.setCell hb1 _).setCell hb1 _).drew⟩
                case measure => omega
              · have hltI : ¬ (pi : Int) < (pj : Int) := by omega
                have hys := HRy.out.done (by simp [HZL.out]; omega)
                have hstr := run_str (P := Try.prog) _ (c := cd) Try.underlying148 Try.underlying5 Try.underlying9 HOy.out.ints
                have HY := Lib.hid hys
                clear hys
                go_wp2
                go_ret
                exact ⟨ys, rfl, .inr ⟨by omega, zs, HR.out, HY.out⟩, HXy.out⟩
      · have hna : 0 < na := by
          rcases Nat.eq_zero_or_pos na with h | h
          · have h1 := hz2.1
            rw [h] at h1
            have := (Rep.pos (by omega) hz3).2 (List.eq_nil_of_length_eq_zero h1)
            omega
          · exact h
        have hlen := dec_len HN.out HD.out HV.out hm0
        rw [HL.out] at hlen
        have hfit := HN.out.le (dec_le HD.out HV.out)
        obtain ⟨q, r, hq, hr, hr0, hr1, hqr, hqm⟩ := word_split m
        have hqm := hqm hm0
        have HF := Lib.hid hfit
        clear hz2 hz3 hfit
        go_wp2_with fail
        refine (word_sep (.slice Aa na cq) m L 1000000000 _ HWm.out HF.out (by omega) (by omega) (by omega)).mono ?_
        rintro e w2 ⟨mq, cq2, rfl, hW2, hX2⟩
        rw [hq.out] at hW2
        rw [hr.out]
        have hS2 : Sep (.slice (some ⟨_, 0, none⟩) mq cq2) (Value.slice Ad nd cd).ownBlock := Sep.fresh (m := mq) (c := cq2) HO.out.own
        obtain ⟨bq, hbq⟩ : ∃ b, wr.heap.size = b := ⟨_, rfl⟩
        rw [hbq] at hS2 hW2 ⊢
        have HS2 := Lib.hid hS2
        have HW2 := Lib.hid hW2
        have HO2 := Lib.hid (HO.out.ext hX2)
        have HX2 := Lib.hid (HX.out.trans hX2)
        have HV2 : Hid (val 10 es + 10 ^ es.length * (r + 10 ^ 9 * (q : Int)) = n) := by have := HV.out; rw [hqr.out] at this; exact this
        clear hW2 hX2 hS2 hq hr hbq HWm HF HO HX HV hqr HSep
        go_wp2
        go_loopg [3, 5, 20] 9 (fun g vd rv iv wr => ∃ (k : Nat) (r : Int) (Ad : Option Addr) (nd' cd : Nat) (es' : List Int), k = g ∧ k ≤ 9 ∧ vd = .slice Ad nd' cd ∧ rv = .int .u32 r ∧ iv = .int .i64 (9 - (k : Int)) ∧ Hid (W32 wr (.slice (some ⟨bq, 0, none⟩) mq cq2) q) ∧ Hid (Sep (.slice (some ⟨bq, 0, none⟩) mq cq2) (Value.slice Ad nd' cd).ownBlock) ∧ Hid (OwnS .u8 5 w.heap.size wr Ad nd' cd (es'.map (48 + ·))) ∧ Hid (Dg 10 es') ∧ 0 ≤ r ∧ Hid (r < 10 ^ k) ∧ Hid (val 10 es' + 10 ^ es'.length * (r + 10 ^ k * (q : Int)) = n) ∧ nd' + k ≤ nd + 9 ∧ Hid (Ext w wr))
        case atStart => exact ⟨9, r, Ad, nd, cd, es, rfl, by omega, rfl, rfl, rfl, HW2.out, HS2.out, HO2.out, HD.out, hr0, by show r < 10 ^ 9; rw [show (10 : Int) ^ 9 = 1000000000 by decide]; exact hr1, HV2.out, by omega, HX2.out⟩
        case round =>
          obtain ⟨k, r, Ad, nd', cd, es', rfl, hk9, rfl, rfl, rfl, HW3, HS3, HO3, HD3, hr0, HR3, HV3, hnd, HX3⟩ := hrel
          have hr1 := ten_le hk9 HR3.out
          have HL3 : Hid (es'.length = nd') := by have := HO3.out.len; simpa [Hid] using this
          rcases Nat.eq_zero_or_pos k with hk0 | hk0
          · subst hk0
            rw [show ((9 : Int) - ((0 : Nat) : Int)) = 9 by omega]
            have HV4 : Hid (val 10 es' + 10 ^ es'.length * (q : Int) = n) := by
              have h1 := HR3.out
              have h2 := HV3.out
              rw [Int.pow_zero] at h1 h2
              rw [show r = 0 by omega, Int.zero_add, Int.one_mul] at h2
              exact h2
            go_wp2
            go_roundg q
            case rel => exact ⟨q, _, mq, cq2, Ad, nd', cd, es', rfl, rfl, rfl, HW3, HS3, HO3, HD3, HV4, HX3⟩
            case measure => omega
          · obtain ⟨i, rfl⟩ : ∃ i, k = i + 1 := ⟨k - 1, by omega⟩
            rw [show ((9 : Int) - ((i + 1 : Nat) : Int)) = 8 - (i : Int) by omega]
            have hi9 : (8 : Int) - (i : Int) < 9 := by omega
            obtain ⟨hD4, hr40, hr41, hV4⟩ := dec_step HD3.out hr0 HR3.out HV3.out
            have HD4 := Lib.hid hD4
            have HR4 := Lib.hid hr41
            have HV4 := Lib.hid hV4
            clear hD4 hr41 hV4
            go_wp2_with (at_builtin; refine wpList_app _ elB rfl _ _ rfl w.heap.size _ _ _ rfl (HO3.out.own.alloc _) _ 1 1 [.int .u8 (48 + r % 10)] rfl rfl (At.new _ [_] _) (by simp [Value.oneCell']) (by omega) (by unfold maxLen; omega) (by have := HX3.out.size; simp; omega) ?_; intro v1 w1 hown1 hgr1 hbl1)
            go_roundg i
            case rel =>
              obtain ⟨A1, c1, rfl⟩ := own_slice hown1
              obtain ⟨hW5, hS5⟩ := text_push HW3.out HS3.out hgr1 hbl1
              exact ⟨i, r / 10, A1, nd' + 1, c1, es' ++ [r % 10], rfl, by omega, rfl, rfl, by go_num, hW5, hS5, text_own HL3.out HD4.out hown1, HD4.out, hr40, HR4.out, HV4.out, by omega, HX3.out.push HO3.out.own hgr1⟩
            case measure => omega
end Go.Proofs.Yteoijnaljkagfaa
namespace Go.Proofs.Yteoijnaljkagfaa
open Go.RowKit

theorem NumV.open {w : World} {v : Value} {s : Bool} {n d : Nat} (h : NumV w v s n d) : ∃ A1 l1 c1 A2 l2 c2, v = .agg #[.bool s, .slice A1 l1 c1, .slice A2 l2 c2] ∧ W32 w (.slice A1 l1 c1) n ∧ W32 w (.slice A2 l2 c2) d ∧ (l1 = 0 ↔ n = 0) ∧ (l2 = 0 ↔ d = 0) := by
  obtain ⟨vn, vd, rfl, h1, h2⟩ := h
  obtain ⟨A1, l1, c1, rfl, g1, e1⟩ := h1.open
  obtain ⟨A2, l2, c2, rfl, g2, e2⟩ := h2.open
  exact ⟨A1, l1, c1, A2, l2, c2, rfl, g1, g2, e1, e2⟩

set_option maxHeartbeats 1000000 in
theorem neg_any (v : Value) (s : Bool) (n d : Nat) (w : World) (h : NumV w v s n d) :
    Calls Try.prog 86 #[v] w (RetR w (nz (!s) n) n d) := by
  obtain ⟨A1, l1, c1, A2, l2, c2, rfl, h1, h2, e1, _⟩ := h.open
  have H1 := Lib.hid h1
  have H2 := Lib.hid h2
  have E1 := Lib.hid e1
  clear h h1 h2 e1
  rcases (by rcases Bool.eq_false_or_eq_true s with h | h <;> rcases Nat.eq_zero_or_pos l1 with g | g <;> simp [h, g] : s = true ∨ (s = false ∧ l1 = 0) ∨ (s = false ∧ 0 < l1)) with hs | ⟨hs, hl⟩ | ⟨hs, hl⟩
  · subst hs
    rw [show nz (!true) n = false from nz_false n]
    go_enter Try.func86, Try.ntmps86
    go_wp2
    refine bodyPost_ret (v := .agg #[.bool false, .slice A1 l1 c1, .slice A2 l2 c2]) (by simp [results, Try.results86, go_sem]) rfl ?_
    exact ⟨_, rfl, ⟨_, _, rfl, H1.out.ext (((Ext.refl w).alloc _).alloc _), H2.out.ext (((Ext.refl w).alloc _).alloc _)⟩, ((Ext.refl w).alloc _).alloc _⟩
  · subst hs hl
    have hn := E1.out.1 rfl
    rw [show nz (!false) n = false by rw [hn]; exact nz_zero _]
    have HN := Lib.hid hn
    clear hn
    go_enter Try.func86, Try.ntmps86
    go_wp2
    refine bodyPost_ret (v := .agg #[.bool false, .slice A1 0 c1, .slice A2 l2 c2]) (by simp [results, Try.results86, go_sem]) rfl ?_
    exact ⟨_, rfl, ⟨_, _, rfl, H1.out.ext (((Ext.refl w).alloc _).alloc _), H2.out.ext (((Ext.refl w).alloc _).alloc _)⟩, ((Ext.refl w).alloc _).alloc _⟩
  · subst hs
    have hn : n ≠ 0 := fun h => by have := E1.out.2 h; omega
    rw [show nz (!false) n = true from nz_pos _ hn]
    clear hn
    go_enter Try.func86, Try.ntmps86
    go_wp2
    refine bodyPost_ret (v := .agg #[.bool true, .slice A1 l1 c1, .slice A2 l2 c2]) (by simp [results, Try.results86, go_sem]) rfl ?_
    exact ⟨_, rfl, ⟨_, _, rfl, H1.out.ext (((Ext.refl w).alloc _).alloc _), H2.out.ext (((Ext.refl w).alloc _).alloc _)⟩, ((Ext.refl w).alloc _).alloc _⟩

set_option maxHeartbeats 1000000 in
theorem sign_any (v : Value) (s : Bool) (n d : Nat) (w : World) (h : NumV w v s n d) (hd : 0 < d) :
    Calls Try.prog 91 #[v] w fun e w' => e = .returned (.int .i64 (sgnQ (ratV s n d))) ∧ Ext w w' := by
  obtain ⟨A1, l1, c1, A2, l2, c2, rfl, h1, h2, e1, _⟩ := h.open
  have E1 := Lib.hid e1
  clear h h1 h2 e1
  rcases (by rcases Bool.eq_false_or_eq_true s with h | h <;> rcases Nat.eq_zero_or_pos l1 with g | g <;> simp [h, g] : l1 = 0 ∨ (s = true ∧ 0 < l1) ∨ (s = false ∧ 0 < l1)) with hl | ⟨hs, hl⟩ | ⟨hs, hl⟩
  · subst hl
    have HN := Lib.hid (E1.out.1 rfl)
    go_enter Try.func91, Try.ntmps91
    go_wp2
    go_ret
    exact ⟨by rw [sgnQ_zero hd HN.out]; rfl, (Ext.refl w).alloc _⟩
  · subst hs
    have HN : Hid (0 < n) := by
      rcases Nat.eq_zero_or_pos n with h | h
      · have := E1.out.2 h; omega
      · exact h
    have hlb : ((l1 : Int) == 0) = false := by simp; omega
    go_enter Try.func91, Try.ntmps91
    go_wp2
    go_ret
    exact ⟨by rw [sgnQ_neg hd HN.out]; rfl, (Ext.refl w).alloc _⟩
  · subst hs
    have HN : Hid (0 < n) := by
      rcases Nat.eq_zero_or_pos n with h | h
      · have := E1.out.2 h; omega
      · exact h
    have hlb : ((l1 : Int) == 0) = false := by simp; omega
    go_enter Try.func91, Try.ntmps91
    go_wp2
    go_ret
    exact ⟨by rw [sgnQ_pos hd HN.out]; rfl, (Ext.refl w).alloc _⟩

set_option maxRecDepth 100000 in
set_option maxHeartbeats 4000000 in
theorem reduced_any (v : Value) (s : Bool) (n d L : Nat) (w : World) (h : NumV w v s n d) (hd : 0 < d) (hn : Fit 4294967296 n L) (hdL : Fit 4294967296 d L) (hL : L ≤ 1099511627775) :
    Calls Try.prog 112 #[v] w (RetR w (nz s n) (n / Nat.gcd n d) (d / Nat.gcd n d)) := by
  obtain ⟨A1, l1, c1, A2, l2, c2, rfl, h1, h2, e1, _⟩ := h.open
  have H1 := Lib.hid h1
  have H2 := Lib.hid h2
  have E1 := Lib.hid e1
  clear h h1 h2 e1
  rcases Nat.eq_zero_or_pos l1 with hl | hl
  · subst hl
    have hn0 := E1.out.1 rfl
    have HS : Hid (nz s n = false ∧ n / Nat.gcd n d = 0 ∧ d / Nat.gcd n d = 1) := ⟨by rw [hn0]; exact nz_zero s, by rw [hn0]; simp, by rw [hn0, Nat.gcd_zero_left]; exact Nat.div_self hd⟩
    clear hn0
    go_enter Try.func112, Try.ntmps112
    go_wp2
    refine bodyPost_ret (v := .agg #[.bool false, .slice none 0 0, .slice (some ⟨w.heap.size + 1 + 1, 0, none⟩) 1 1]) (by simp [results, Try.results112, go_sem]) rfl ?_
    rw [HS.out.1, HS.out.2.1, HS.out.2.2]
    exact ⟨_, rfl, ⟨_, _, rfl, NatV.zero, W32.one' _ (by simp) rfl⟩, (((Ext.refl w).alloc _).alloc _).alloc _⟩
  · have hnp : 0 < n := by
      rcases Nat.eq_zero_or_pos n with h | h
      · have := E1.out.2 h; omega
      · exact h
    have hgp0 : 0 < Nat.gcd n d := Nat.gcd_pos_of_pos_left d hnp
    have HSN : Hid (nz s n = s) := nz_pos s (by omega)
    have hlb : ((l1 : Int) == 0) = false := by simp; omega
    go_enter Try.func112, Try.ntmps112
    go_wp2_with fail
    have hXw : Ext w ((w.alloc (.cells #[.bool s, .slice A1 l1 c1, .slice A2 l2 c2] 96)).alloc (.cells #[.bool false, .slice none 0 0, .slice none 0 0] 96)) := ((Ext.refl w).alloc _).alloc _
    have hBA : Blk ((w.alloc (.cells #[.bool s, .slice A1 l1 c1, .slice A2 l2 c2] 96)).alloc (.cells #[.bool false, .slice none 0 0, .slice none 0 0] 96)) w.heap.size 96 #[.bool s, .slice A1 l1 c1, .slice A2 l2 c2] := (Blk.new w _ _).alloc _
    have hBR : Blk ((w.alloc (.cells #[.bool s, .slice A1 l1 c1, .slice A2 l2 c2] 96)).alloc (.cells #[.bool false, .slice none 0 0, .slice none 0 0] 96)) (w.heap.size + 1) 96 #[.bool false, .slice none 0 0, .slice none 0 0] := by
      have := Blk.new (w.alloc (.cells #[.bool s, .slice A1 l1 c1, .slice A2 l2 c2] 96)) 96 #[.bool false, .slice none 0 0, .slice none 0 0]
      simpa using this
    generalize (w.alloc (.cells #[.bool s, .slice A1 l1 c1, .slice A2 l2 c2] 96)).alloc (.cells #[.bool false, .slice none 0 0, .slice none 0 0] 96) = w1 at hXw hBA hBR ⊢
    have HXw := Lib.hid hXw
    have HBA := Lib.hid hBA
    have HBR := Lib.hid hBR
    replace H1 := Lib.hid (H1.out.ext hXw)
    replace H2 := Lib.hid (H2.out.ext hXw)
    clear hXw hBA hBR
    refine (gcd_any _ _ n d L _ H1.out H2.out hn hdL hL).mono ?_
    rintro e w2 ⟨vg, rfl, hg, hX2⟩
    obtain ⟨g, hge⟩ : ∃ g, Nat.gcd n d = g := ⟨_, rfl⟩
    rw [hge] at hg hgp0
    have hgp := hgp0
    have HGE := Lib.hid hge
    obtain ⟨Ag, lg, cg, xs, rfl, hIg, hRg, hcg, hcgm⟩ := hg
    have hWg : W32 w2 (.slice Ag lg cg) g := ⟨Ag, lg, cg, xs, rfl, hIg, hRg, hcg, hcgm⟩
    obtain ⟨z0, z1, z2, _, _, _⟩ := (HBA.out.ext hX2).three
    have HX2 := Lib.hid hX2
    have HWg := Lib.hid hWg
    by_cases hg1 : g = 1
    · have hxs : xs = [1] := by rw [hg1] at hRg; exact hRg.unique (by omega) (Rep.one (by omega))
      subst hxs
      obtain rfl : lg = 1 := by simpa using hIg.1.symm
      obtain ⟨b, o, y, rfl, hy, _, hcy⟩ := hIg.get (j := 0) (by omega)
      obtain rfl : 1 = y := by simpa using hy
      rw [Nat.add_zero] at hcy
      obtain ⟨y0, y1, y2, f0, f1, f2⟩ := (HBR.out.ext hX2).three
      have HNB := Lib.hid (NoInts.three (HBR.out.ext hX2))
      have HG1 := Lib.hid hg1
      clear hge hIg hRg hWg hX2 hy hg1 hgp hgp0
      go_wp2
      refine bodyPost_ret (v := .agg #[.bool s, .slice A1 l1 c1, .slice A2 l2 c2]) (by simp [results, Try.results112, go_sem, *]) rfl ?_
      refine ⟨_, rfl, ⟨.slice A1 l1 c1, .slice A2 l2 c2, ?_, ?_, ?_⟩, Ext.boxed (HXw.out.trans HX2.out) (Nat.le_succ _) _ _ _⟩
      · rw [HSN.out]
      · rw [HGE.out, HG1.out, Nat.div_one]; exact (H1.out.ext HX2.out).boxed HNB.out _ _ _ _ _ _ _
      · rw [HGE.out, HG1.out, Nat.div_one]; exact (H2.out.ext HX2.out).boxed HNB.out _ _ _ _ _ _ _
    · rw [← hge] at hg1
      have hcase : (lg = 1 ∧ ∃ b o x, Ag = some ⟨b, o, none⟩ ∧ w2.cell? ⟨b, o, none⟩ = some (.int .u32 x) ∧ (x == 1) = false) ∨ ((lg : Int) == 1) = false := by
        by_cases hl1 : lg = 1
        · left
          refine ⟨hl1, ?_⟩
          subst hl1
          obtain ⟨x, rfl, hx, _, _⟩ := one_digit (by omega) hRg hIg.1
          obtain ⟨b, o, y, rfl, hy, _, hcy⟩ := hIg.get (j := 0) (by omega)
          obtain rfl : x = y := by simpa using hy
          rw [Nat.add_zero] at hcy
          refine ⟨b, o, x, rfl, hcy, ?_⟩
          simp only [beq_eq_false_iff_ne, ne_eq]
          intro h1
          apply hg1
          rw [hge]; omega
        · right; simp; omega
      clear hge hIg hRg hWg hX2 hg1 hgp0
      rcases hcase with ⟨rfl, b, o, x, rfl, hcx, hx1⟩ | hlg
      · 
        go_wp2_with fail
        refine (div_any _ _ n g L _ (H1.out.ext HX2.out) (HWg.out) hgp hn hL).mono ?_
        rintro e w3 ⟨q1, r1, rfl, hq1, _, hX3⟩
        obtain ⟨B1, m1, k1, rfl, hq1, _⟩ := hq1.open
        have hX3' := HX2.out.trans hX3
        obtain ⟨z0, z1, z2, _, _, _⟩ := (HBA.out.ext hX3').three
        have HQ1 := Lib.hid hq1
        have HX3 := Lib.hid hX3'
        have HG3 := Lib.hid (W32.ext HWg.out hX3)
        clear hq1 hX3 hX3'
        go_wp2_with fail
        refine (div_any _ _ d g L _ (H2.out.ext HX3.out) HG3.out hgp hdL hL).mono ?_
        rintro e w4 ⟨q2, r2, rfl, hq2, _, hX4⟩
        obtain ⟨B2, m2, k2, rfl, hq2, _⟩ := hq2.open
        have hX4' := HX3.out.trans hX4
        obtain ⟨z0, z1, z2, _, _, _⟩ := (HBA.out.ext hX4').three
        obtain ⟨y0, y1, y2, f0, f1, f2⟩ := (HBR.out.ext hX4').three
        have HQ1b := Lib.hid (HQ1.out.ext hX4)
        have HQ2 := Lib.hid hq2
        have HX4 := Lib.hid hX4'
        have HNB := Lib.hid (NoInts.three (HBR.out.ext hX4'))
        clear hq2 hX4 hX4'
        go_wp2
        refine bodyPost_ret (v := .agg #[.bool s, .slice B1 m1 k1, .slice B2 m2 k2]) (by simp [results, Try.results112, go_sem, *]) rfl ?_
        refine ⟨_, rfl, ⟨.slice B1 m1 k1, .slice B2 m2 k2, ?_, ?_, ?_⟩, Ext.boxed (HXw.out.trans HX4.out) (Nat.le_succ _) _ _ _⟩
        · rw [HSN.out]
        · rw [HGE.out]; exact HQ1b.out.boxed HNB.out _ _ _ _ _ _ _
        · rw [HGE.out]; exact HQ2.out.boxed HNB.out _ _ _ _ _ _ _
      · 
        go_wp2_with fail
        refine (div_any _ _ n g L _ (H1.out.ext HX2.out) (HWg.out) hgp hn hL).mono ?_
        rintro e w3 ⟨q1, r1, rfl, hq1, _, hX3⟩
        obtain ⟨B1, m1, k1, rfl, hq1, _⟩ := hq1.open
        have hX3' := HX2.out.trans hX3
        obtain ⟨z0, z1, z2, _, _, _⟩ := (HBA.out.ext hX3').three
        have HQ1 := Lib.hid hq1
        have HX3 := Lib.hid hX3'
        have HG3 := Lib.hid (W32.ext HWg.out hX3)
        clear hq1 hX3 hX3'
        go_wp2_with fail
        refine (div_any _ _ d g L _ (H2.out.ext HX3.out) HG3.out hgp hdL hL).mono ?_
        rintro e w4 ⟨q2, r2, rfl, hq2, _, hX4⟩
        obtain ⟨B2, m2, k2, rfl, hq2, _⟩ := hq2.open
        have hX4' := HX3.out.trans hX4
        obtain ⟨z0, z1, z2, _, _, _⟩ := (HBA.out.ext hX4').three
        obtain ⟨y0, y1, y2, f0, f1, f2⟩ := (HBR.out.ext hX4').three
        have HQ1b := Lib.hid (HQ1.out.ext hX4)
        have HQ2 := Lib.hid hq2
        have HX4 := Lib.hid hX4'
        have HNB := Lib.hid (NoInts.three (HBR.out.ext hX4'))
        clear hq2 hX4 hX4'
        go_wp2
        refine bodyPost_ret (v := .agg #[.bool s, .slice B1 m1 k1, .slice B2 m2 k2]) (by simp [results, Try.results112, go_sem, *]) rfl ?_
        refine ⟨_, rfl, ⟨.slice B1 m1 k1, .slice B2 m2 k2, ?_, ?_, ?_⟩, Ext.boxed (HXw.out.trans HX4.out) (Nat.le_succ _) _ _ _⟩
        · rw [HSN.out]
        · rw [HGE.out]; exact HQ1b.out.boxed HNB.out _ _ _ _ _ _ _
        · rw [HGE.out]; exact HQ2.out.boxed HNB.out _ _ _ _ _ _ _
end Go.Proofs.Yteoijnaljkagfaa
namespace Go.Proofs.Yteoijnaljkagfaa
open Go.RowKit

set_option maxRecDepth 100000 in
set_option maxHeartbeats 2000000 in
theorem rdiv_r1 (ga gb : Nat) (s t : Bool) (A1 A2 B1 B2 : Option Addr) (l1 c1 l2 c2 m1 k1 m2 k2 n d m e L M : Nat) (w : World) (a0 : w.cell? ⟨ga, 0, none⟩ = some (.bool s)) (a1 : w.cell? ⟨ga, 1, none⟩ = some (.slice A1 l1 c1)) (a2 : w.cell? ⟨ga, 2, none⟩ = some (.slice A2 l2 c2)) (b0 : w.cell? ⟨gb, 0, none⟩ = some (.bool t)) (b1 : w.cell? ⟨gb, 1, none⟩ = some (.slice B1 m1 k1)) (b2 : w.cell? ⟨gb, 2, none⟩ = some (.slice B2 m2 k2)) (h1 : W32 w (.slice A1 l1 c1) n) (h2 : W32 w (.slice A2 l2 c2) d) (h3 : W32 w (.slice B1 m1 k1) m) (h4 : W32 w (.slice B2 m2 k2) e) (f1 : Fit 4294967296 n L) (f2 : Fit 4294967296 d L) (f3 : Fit 4294967296 m M) (f4 : Fit 4294967296 e M) (hL : L ≤ 1099511627776) (hM : M ≤ 1099511627776) (a : Act) (Q : Exit → Act → World → Prop) (hsize : 21 ≤ a.tmps.size)
    (s2 : a.tmps[2]? = some (.pointer (some ⟨ga, 0, none⟩)))
    (s3 : a.tmps[3]? = some (.pointer (some ⟨gb, 0, none⟩)))
    (hend : ∀ (x0 x1 x2 x3 x4 x5 x6 x7 x8 x9 x10 x11 x12 x13 x14 x15 : Value) (W : World), (x0 = .pointer (some ⟨ga, 0, none⟩)) → (x1 = .bool s) → (x2 = .pointer (some ⟨gb, 0, none⟩)) → (x3 = .bool t) → (x4 = .bool (s != t)) → (x5 = .pointer (some ⟨ga, 1, none⟩)) → (x6 = .slice A1 l1 c1) → (x7 = .pointer (some ⟨gb, 2, none⟩)) → (x8 = .slice B2 m2 k2) → (W32 W x9 (n * e)) → (x10 = .pointer (some ⟨ga, 2, none⟩)) → (x11 = .slice A2 l2 c2) → (x12 = .pointer (some ⟨gb, 1, none⟩)) → (x13 = .slice B1 m1 k1) → (W32 W x14 (d * m)) → (NumV W x15 (s != t) (n * e) (d * m)) → Ext w W → wpList Try.prog (rops Try.f76 1).toArray Q ((rops Try.f76 1).drop 16) ((((((((((((((((a.put (some 5) x0).put (some 6) x1).put (some 7) x2).put (some 8) x3).put (some 9) x4).put (some 10) x5).put (some 11) x6).put (some 12) x7).put (some 13) x8).put (some 14) x9).put (some 15) x10).put (some 16) x11).put (some 17) x12).put (some 18) x13).put (some 19) x14).put (some 20) x15) W) :
    (Code.region 1 (rops Try.f76 1).toArray true).wp Try.prog Q a w := by
  have hmono : ∀ (W W' : World) (j : Nat) (u : Value), Ext W W' → (fun (i : Nat) (v : Value) (W : World) => match i with
    | 0 => v = .pointer (some ⟨ga, 0, none⟩)
    | 1 => v = .bool s
    | 2 => v = .pointer (some ⟨gb, 0, none⟩)
    | 3 => v = .bool t
    | 4 => v = .bool (s != t)
    | 5 => v = .pointer (some ⟨ga, 1, none⟩)
    | 6 => v = .slice A1 l1 c1
    | 7 => v = .pointer (some ⟨gb, 2, none⟩)
    | 8 => v = .slice B2 m2 k2
    | 9 => W32 W v (n * e)
    | 10 => v = .pointer (some ⟨ga, 2, none⟩)
    | 11 => v = .slice A2 l2 c2
    | 12 => v = .pointer (some ⟨gb, 1, none⟩)
    | 13 => v = .slice B1 m1 k1
    | 14 => W32 W v (d * m)
    | 15 => NumV W v (s != t) (n * e) (d * m)
    | _ => True) j u W → (fun (i : Nat) (v : Value) (W : World) => match i with
    | 0 => v = .pointer (some ⟨ga, 0, none⟩)
    | 1 => v = .bool s
    | 2 => v = .pointer (some ⟨gb, 0, none⟩)
    | 3 => v = .bool t
    | 4 => v = .bool (s != t)
    | 5 => v = .pointer (some ⟨ga, 1, none⟩)
    | 6 => v = .slice A1 l1 c1
    | 7 => v = .pointer (some ⟨gb, 2, none⟩)
    | 8 => v = .slice B2 m2 k2
    | 9 => W32 W v (n * e)
    | 10 => v = .pointer (some ⟨ga, 2, none⟩)
    | 11 => v = .slice A2 l2 c2
    | 12 => v = .pointer (some ⟨gb, 1, none⟩)
    | 13 => v = .slice B1 m1 k1
    | 14 => W32 W v (d * m)
    | 15 => NumV W v (s != t) (n * e) (d * m)
    | _ => True) j u W' := by
    intro W W' j u hX h
    match j, h with
    | 0, h => exact h
    | 1, h => exact h
    | 2, h => exact h
    | 3, h => exact h
    | 4, h => exact h
    | 5, h => exact h
    | 6, h => exact h
    | 7, h => exact h
    | 8, h => exact h
    | 9, h => exact W32.ext h hX
    | 10, h => exact h
    | 11, h => exact h
    | 12, h => exact h
    | 13, h => exact h
    | 14, h => exact W32.ext h hX
    | 15, h => exact NumV.ext h hX
    | _ + 16, h => exact h
  have hsz : ∀ d, some d ∈ ([some 5, some 6, some 7, some 8, some 9, some 10, some 11, some 12, some 13, some 14, some 15, some 16, some 17, some 18, some 19, some 20] : List (Option Tmp)) → d < a.tmps.size := slots_lt (by decide) hsize
  refine wp_region_j 16 [some 5, some 6, some 7, some 8, some 9, some 10, some 11, some 12, some 13, some 14, some 15, some 16, some 17, some 18, some 19, some 20] [[], [0], [], [2], [1, 3], [], [5], [], [7], [6, 8], [], [10], [], [12], [11, 13], [4, 9, 14]] [[], [], [], [], [], [], [], [], [], [], [], [], [], [], [], []] (fun (i : Nat) (v : Value) (W : World) => match i with
    | 0 => v = .pointer (some ⟨ga, 0, none⟩)
    | 1 => v = .bool s
    | 2 => v = .pointer (some ⟨gb, 0, none⟩)
    | 3 => v = .bool t
    | 4 => v = .bool (s != t)
    | 5 => v = .pointer (some ⟨ga, 1, none⟩)
    | 6 => v = .slice A1 l1 c1
    | 7 => v = .pointer (some ⟨gb, 2, none⟩)
    | 8 => v = .slice B2 m2 k2
    | 9 => W32 W v (n * e)
    | 10 => v = .pointer (some ⟨ga, 2, none⟩)
    | 11 => v = .slice A2 l2 c2
    | 12 => v = .pointer (some ⟨gb, 1, none⟩)
    | 13 => v = .slice B1 m1 k1
    | 14 => W32 W v (d * m)
    | 15 => NumV W v (s != t) (n * e) (d * m)
    | _ => True) (fun _ W => Ext w W) (by kernel_rfl) (by kernel_rfl) hsz (fun _ _ _ _ h => h) ((Ext.refl w).drew) ?_ ?_
  · clear hend
    simp only [rops, Try.f76, regOf, Option.bind_some, Nat.reduceBEq, if_true, if_false, Bool.false_eq_true, Option.getD_some]
    simp only [List.take_succ_cons, List.take_zero]
    refine ⟨?_, ?_, ?_, ?_, ?_, ?_, ?_, ?_, ?_, ?_, ?_, ?_, ?_, ?_, ?_, ?_, trivial⟩
    · intro done us W hJ hdep haft hnot b hb hb' K hK Q'
      have e2 := (hb' 2 (by simp)).trans s2
      clear hb hb'
      go_simp
      exact hK _ _ rfl (fun _ _ _ h => h) hJ
    · intro done us W hJ hdep haft hnot b hb hb' K hK Q'
      simp only [List.getD_cons_succ, List.getD_cons_zero, List.mem_cons, List.not_mem_nil, or_false, forall_eq] at hdep
      have e5 := hb 0 5 rfl
      have d0 := hdep
      rw [d0.1] at e5
      clear hb hb' hdep d0
      have q := Ext.cell hJ a0
      go_simp
      exact hK _ _ rfl (fun _ _ _ h => h) hJ
    · intro done us W hJ hdep haft hnot b hb hb' K hK Q'
      have e3 := (hb' 3 (by simp)).trans s3
      clear hb hb'
      go_simp
      exact hK _ _ rfl (fun _ _ _ h => h) hJ
    · intro done us W hJ hdep haft hnot b hb hb' K hK Q'
      simp only [List.getD_cons_succ, List.getD_cons_zero, List.mem_cons, List.not_mem_nil, or_false, forall_eq] at hdep
      have e7 := hb 2 7 rfl
      have d2 := hdep
      rw [d2.1] at e7
      clear hb hb' hdep d2
      have q := Ext.cell hJ b0
      go_simp
      exact hK _ _ rfl (fun _ _ _ h => h) hJ
    · intro done us W hJ hdep haft hnot b hb hb' K hK Q'
      simp only [List.getD_cons_succ, List.getD_cons_zero, List.mem_cons, List.not_mem_nil, or_false, forall_eq_or_imp, forall_eq] at hdep
      have e6 := hb 1 6 rfl
      have e8 := hb 3 8 rfl
      have d1 := hdep.1
      have d3 := hdep.2
      rw [d1.1] at e6
      rw [d3.1] at e8
      clear hb hb' hdep d1 d3
      go_simp
      exact hK _ _ rfl (fun _ _ _ h => h) hJ
    · intro done us W hJ hdep haft hnot b hb hb' K hK Q'
      have e2 := (hb' 2 (by simp)).trans s2
      clear hb hb'
      go_simp
      exact hK _ _ rfl (fun _ _ _ h => h) hJ
    · intro done us W hJ hdep haft hnot b hb hb' K hK Q'
      simp only [List.getD_cons_succ, List.getD_cons_zero, List.mem_cons, List.not_mem_nil, or_false, forall_eq] at hdep
      have e10 := hb 5 10 rfl
      have d5 := hdep
      rw [d5.1] at e10
      clear hb hb' hdep d5
      have q := Ext.cell hJ a1
      go_simp
      exact hK _ _ rfl (fun _ _ _ h => h) hJ
    · intro done us W hJ hdep haft hnot b hb hb' K hK Q'
      have e3 := (hb' 3 (by simp)).trans s3
      clear hb hb'
      go_simp
      exact hK _ _ rfl (fun _ _ _ h => h) hJ
    · intro done us W hJ hdep haft hnot b hb hb' K hK Q'
      simp only [List.getD_cons_succ, List.getD_cons_zero, List.mem_cons, List.not_mem_nil, or_false, forall_eq] at hdep
      have e12 := hb 7 12 rfl
      have d7 := hdep
      rw [d7.1] at e12
      clear hb hb' hdep d7
      have q := Ext.cell hJ b2
      go_simp
      exact hK _ _ rfl (fun _ _ _ h => h) hJ
    · intro done us W hJ hdep haft hnot b hb hb' K hK Q'
      simp only [List.getD_cons_succ, List.getD_cons_zero, List.mem_cons, List.not_mem_nil, or_false, forall_eq_or_imp, forall_eq] at hdep
      have e11 := hb 6 11 rfl
      have e13 := hb 8 13 rfl
      have d6 := hdep.1
      have d8 := hdep.2
      rw [d6.1] at e11
      rw [d8.1] at e13
      clear hb hb' hdep d6 d8
      go_simp
      refine (mul_any _ _ n e L M _ (W32.ext h1 hJ) (W32.ext h4 hJ) f1 f4 hL hM).mono ?_
      rintro e w' ⟨v, rfl, hv, hX⟩
      exact hK _ _ hv (fun j u _ h => hmono _ _ j u hX h) (Ext.trans hJ hX)
    · intro done us W hJ hdep haft hnot b hb hb' K hK Q'
      have e2 := (hb' 2 (by simp)).trans s2
      clear hb hb'
      go_simp
      exact hK _ _ rfl (fun _ _ _ h => h) hJ
    · intro done us W hJ hdep haft hnot b hb hb' K hK Q'
      simp only [List.getD_cons_succ, List.getD_cons_zero, List.mem_cons, List.not_mem_nil, or_false, forall_eq] at hdep
      have e15 := hb 10 15 rfl
      have d10 := hdep
      rw [d10.1] at e15
      clear hb hb' hdep d10
      have q := Ext.cell hJ a2
      go_simp
      exact hK _ _ rfl (fun _ _ _ h => h) hJ
    · intro done us W hJ hdep haft hnot b hb hb' K hK Q'
      have e3 := (hb' 3 (by simp)).trans s3
      clear hb hb'
      go_simp
      exact hK _ _ rfl (fun _ _ _ h => h) hJ
    · intro done us W hJ hdep haft hnot b hb hb' K hK Q'
      simp only [List.getD_cons_succ, List.getD_cons_zero, List.mem_cons, List.not_mem_nil, or_false, forall_eq] at hdep
      have e17 := hb 12 17 rfl
      have d12 := hdep
      rw [d12.1] at e17
      clear hb hb' hdep d12
      have q := Ext.cell hJ b1
      go_simp
      exact hK _ _ rfl (fun _ _ _ h => h) hJ
    · intro done us W hJ hdep haft hnot b hb hb' K hK Q'
      simp only [List.getD_cons_succ, List.getD_cons_zero, List.mem_cons, List.not_mem_nil, or_false, forall_eq_or_imp, forall_eq] at hdep
      have e16 := hb 11 16 rfl
      have e18 := hb 13 18 rfl
      have d11 := hdep.1
      have d13 := hdep.2
      rw [d11.1] at e16
      rw [d13.1] at e18
      clear hb hb' hdep d11 d13
      go_simp
      refine (mul_any _ _ d m L M _ (W32.ext h2 hJ) (W32.ext h3 hJ) f2 f3 hL hM).mono ?_
      rintro e w' ⟨v, rfl, hv, hX⟩
      exact hK _ _ hv (fun j u _ h => hmono _ _ j u hX h) (Ext.trans hJ hX)
    · intro done us W hJ hdep haft hnot b hb hb' K hK Q'
      simp only [List.getD_cons_succ, List.getD_cons_zero, List.mem_cons, List.not_mem_nil, or_false, forall_eq_or_imp, forall_eq] at hdep
      have e9 := hb 4 9 rfl
      have e14 := hb 9 14 rfl
      have e19 := hb 14 19 rfl
      have d4 := hdep.1
      have d9 := hdep.2.1
      have d14 := hdep.2.2
      rw [d4.1] at e9
      clear hb hb' hdep d4
      obtain ⟨P1, q1, r1, hv1, g1, _⟩ := W32.open d9.1
      obtain ⟨P2, q2, r2, hv2, g2, _⟩ := W32.open d14.1
      rw [hv1] at e14
      rw [hv2] at e19
      go_simp
      exact hK _ _ ⟨_, _, rfl, g1, g2⟩ (fun _ _ _ h => h) hJ
  · intro us W hV hJ
    exact hend (us 0) (us 1) (us 2) (us 3) (us 4) (us 5) (us 6) (us 7) (us 8) (us 9) (us 10) (us 11) (us 12) (us 13) (us 14) (us 15) W (hV 0 (by omega)) (hV 1 (by omega)) (hV 2 (by omega)) (hV 3 (by omega)) (hV 4 (by omega)) (hV 5 (by omega)) (hV 6 (by omega)) (hV 7 (by omega)) (hV 8 (by omega)) (hV 9 (by omega)) (hV 10 (by omega)) (hV 11 (by omega)) (hV 12 (by omega)) (hV 13 (by omega)) (hV 14 (by omega)) (hV 15 (by omega)) hJ

set_option maxRecDepth 100000 in
set_option maxHeartbeats 1000000 in
theorem rdiv_any (va vb : Value) (s t : Bool) (n d m e L M : Nat) (w : World) (ha : NumV w va s n d) (hb : NumV w vb t m e) (f1 : Fit 4294967296 n L) (f2 : Fit 4294967296 d L) (f3 : Fit 4294967296 m M) (f4 : Fit 4294967296 e M) (hL : L ≤ 1099511627776) (hM : M ≤ 1099511627776) :
    Calls Try.prog 76 #[va, vb] w (RetR w (s != t) (n * e) (d * m)) := by
  obtain ⟨A1, l1, c1, A2, l2, c2, rfl, h1, h2, _, _⟩ := ha.open
  obtain ⟨B1, m1, k1, B2, m2, k2, rfl, h3, h4, _, _⟩ := hb.open
  clear ha hb
  have H1 := Lib.hid h1
  have H2 := Lib.hid h2
  have H3 := Lib.hid h3
  have H4 := Lib.hid h4
  clear h1 h2 h3 h4
  go_enter Try.func76, Try.ntmps76
  go_wp2_with fail
  have hXw : Ext w (((w.alloc (.cells #[.bool s, .slice A1 l1 c1, .slice A2 l2 c2] 96)).alloc (.cells #[.bool t, .slice B1 m1 k1, .slice B2 m2 k2] 96)).alloc (.cells #[.bool false, .slice none 0 0, .slice none 0 0] 96)) := (((Ext.refl w).alloc _).alloc _).alloc _
  have hBA : Blk (((w.alloc (.cells #[.bool s, .slice A1 l1 c1, .slice A2 l2 c2] 96)).alloc (.cells #[.bool t, .slice B1 m1 k1, .slice B2 m2 k2] 96)).alloc (.cells #[.bool false, .slice none 0 0, .slice none 0 0] 96)) w.heap.size 96 #[.bool s, .slice A1 l1 c1, .slice A2 l2 c2] := ((Blk.new w _ _).alloc _).alloc _
  have hBB : Blk (((w.alloc (.cells #[.bool s, .slice A1 l1 c1, .slice A2 l2 c2] 96)).alloc (.cells #[.bool t, .slice B1 m1 k1, .slice B2 m2 k2] 96)).alloc (.cells #[.bool false, .slice none 0 0, .slice none 0 0] 96)) (w.heap.size + 1) 96 #[.bool t, .slice B1 m1 k1, .slice B2 m2 k2] := by
    have := (Blk.new (w.alloc (.cells #[.bool s, .slice A1 l1 c1, .slice A2 l2 c2] 96)) 96 #[.bool t, .slice B1 m1 k1, .slice B2 m2 k2]).alloc (.cells #[.bool false, .slice none 0 0, .slice none 0 0] 96)
    simpa using this
  have hBR : Blk (((w.alloc (.cells #[.bool s, .slice A1 l1 c1, .slice A2 l2 c2] 96)).alloc (.cells #[.bool t, .slice B1 m1 k1, .slice B2 m2 k2] 96)).alloc (.cells #[.bool false, .slice none 0 0, .slice none 0 0] 96)) (w.heap.size + 1 + 1) 96 #[.bool false, .slice none 0 0, .slice none 0 0] := by
    have := Blk.new ((w.alloc (.cells #[.bool s, .slice A1 l1 c1, .slice A2 l2 c2] 96)).alloc (.cells #[.bool t, .slice B1 m1 k1, .slice B2 m2 k2] 96)) 96 #[.bool false, .slice none 0 0, .slice none 0 0]
    simpa using this
  generalize ((w.alloc (.cells #[.bool s, .slice A1 l1 c1, .slice A2 l2 c2] 96)).alloc (.cells #[.bool t, .slice B1 m1 k1, .slice B2 m2 k2] 96)).alloc (.cells #[.bool false, .slice none 0 0, .slice none 0 0] 96) = w1 at hXw hBA hBB hBR ⊢
  obtain ⟨a0, a1, a2, _, _, _⟩ := hBA.three
  obtain ⟨b0, b1, b2, _, _, _⟩ := hBB.three
  have HXw := Lib.hid hXw
  have HBA := Lib.hid hBA
  have HBB := Lib.hid hBB
  have HBR := Lib.hid hBR
  replace H1 := Lib.hid (H1.out.ext hXw)
  replace H2 := Lib.hid (H2.out.ext hXw)
  replace H3 := Lib.hid (H3.out.ext hXw)
  replace H4 := Lib.hid (H4.out.ext hXw)
  clear hXw hBA hBB hBR
  refine rdiv_r1 w.heap.size (w.heap.size + 1) s t A1 A2 B1 B2 l1 c1 l2 c2 m1 k1 m2 k2 n d m e L M w1 a0 a1 a2 b0 b1 b2 H1.out H2.out H3.out H4.out f1 f2 f3 f4 hL hM _ _ (by simp) rfl rfl ?_
  rintro x0 x1 x2 x3 x4 x5 x6 x7 x8 x9 x10 x11 x12 x13 x14 x15 W rfl rfl rfl rfl rfl rfl rfl rfl rfl h9 rfl rfl rfl rfl h14 h15 hXW
  simp only [rops, Try.f76, regOf, Option.bind_some, Nat.reduceBEq, if_true, if_false, Bool.false_eq_true, Option.getD_some, List.drop_succ_cons, List.drop_zero]
  simp only [Act.put, List.setIfInBounds_toArray, List.set_cons_succ, List.set_cons_zero]
  obtain ⟨P1, q1, r1, P2, q2, r2, rfl, g1, g2, _, _⟩ := NumV.open h15
  clear h9 h14 h15
  obtain ⟨y0, y1, y2, f0, f1', f2'⟩ := (HBR.out.ext hXW).three
  have HNB := Lib.hid (NoInts.three (HBR.out.ext hXW))
  have G1 := Lib.hid g1
  have G2 := Lib.hid g2
  have HXW := Lib.hid hXW
  clear g1 g2 hXW a0 a1 a2 b0 b1 b2
  go_wp2
  refine bodyPost_ret (v := .agg #[.bool (s != t), .slice P1 q1 r1, .slice P2 q2 r2]) (by simp [results, Try.results76, go_sem, *]) rfl ?_
  exact ⟨_, rfl, ⟨_, _, rfl, G1.out.boxed HNB.out _ _ _ _ _ _ _, G2.out.boxed HNB.out _ _ _ _ _ _ _⟩, Ext.boxed (HXw.out.trans HXW.out) (by omega) _ _ _⟩

end Go.Proofs.Yteoijnaljkagfaa
