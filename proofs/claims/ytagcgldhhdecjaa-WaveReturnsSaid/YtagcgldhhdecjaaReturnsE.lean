/- Lemmas of the proof that follows (Returns, part 5): walks of functions by contract, and plain lemmas. Conditions: none. -/
import Derived.Test.YtagcgldhhdecjaaReturnsD
namespace Go.Proofs.Ytagcgldhhdecjaa
open Go.RowKit

theorem cut_ints {w : World} {A A' : Option Addr} {n k : Nat} {xs : List Int} (h : Ints .i64 w A n xs) (hA : ∀ w' vs, At w' A vs → vs.length = n * 1 → At w' A' (vs.drop (k * 1))) : Ints .i64 w A' (n - k) (xs.drop k) := by
  refine ⟨by rw [List.length_drop, h.1], fun x hx => h.2.1 x (List.mem_of_mem_drop hx), ?_⟩
  have := hA w _ h.2.2 (by rw [List.length_map, h.1, Nat.mul_one])
  rw [Nat.mul_one, ← List.map_drop] at this
  exact this
theorem top_pos {xs : List Int} {n k : Nat} {x : Int} (h : Rep 65536 xs n) (hl : xs.length = k + 1) (hx : xs[k]? = some x) : 0 < x := by
  obtain ⟨h0, h1⟩ := h.1.get hx
  obtain ⟨zs, z, e, hz⟩ := h.2.1.split (by intro e; rw [e] at hl; simp at hl)
  have h2 : zs.length = k := by rw [e] at hl; simp at hl; omega
  rw [e, List.getElem?_append_right (by omega), h2] at hx
  simp at hx
  omega
theorem ints_one' (xs : List Int) : ∀ u ∈ xs.map (Value.int .i64), u.oneCell' = true := by
  intro u hu
  obtain ⟨x, _, rfl⟩ := List.mem_map.1 hu
  rfl

set_option maxRecDepth 100000 in
set_option maxHeartbeats 4000000 in
theorem rdiv_long (va : Value) (B : Option Addr) (cb p : Nat) (ys : List Int) (n m L : Nat) (w : World) (ha : Z16 w va n) (hB : Ints .i64 w B (p + 2) ys) (hr : Rep 65536 ys m) (hcb : p + 2 ≤ cb ∧ cb ≤ 9223372036854775807) (fn : Fit 65536 n L) (hL : L ≤ 400000) (h : m ≤ n) :
    Calls Try.prog 116 #[va, .slice B (p + 2) cb] w (RetDR w (n / m) (n % m)) := by
  obtain ⟨hcb1, hcb2⟩ := hcb
  obtain ⟨A, la, ca, xs, rfl, hA⟩ := ha
  have fm := fn.le h
  have hpl : p + 2 ≤ L := by have := fm.len (by omega) hr; rw [hB.1] at this; exact this
  have HA : Hid (Z16 w (.slice A la ca) n) := ⟨A, la, ca, xs, rfl, hA⟩
  have HB : Hid (Z16 w (.slice B (p + 2) cb) m) := ⟨B, p + 2, cb, ys, rfl, hB, hr, hcb1, hcb2⟩
  have HFN := Lib.hid fn
  have HFM := Lib.hid fm
  have HMN := Lib.hid h
  obtain ⟨b, o, yt, rfl, hyt, hwf0, hc⟩ := hB.get (j := p + 1) (by omega)
  obtain ⟨hy0, hy1⟩ := hr.1.get hyt
  have hytp : 0 < yt := by
    have h1 : ys ≠ [] := by intro e; have := hB.1; rw [e] at this; simp at this
    obtain ⟨zs, z, e, hz⟩ := hr.2.1.split h1
    have h2 : zs.length = p + 1 := by have := hB.1; rw [e] at this; simp at this; omega
    rw [e, List.getElem?_append_right (by omega), h2] at hyt
    simp at hyt
    omega
  have hc0 : ¬ cmpI n m < 0 := by
    unfold cmpI
    rw [if_neg (by omega)]
    split <;> omega
  obtain ⟨ci, hci⟩ : ∃ c, cmpI n m = c := ⟨_, rfl⟩
  rw [hci] at hc0
  have HC := Lib.hid hci
  have HIB := Lib.hid hB
  have HRB := Lib.hid hr
  obtain ⟨f, hf⟩ : ∃ f, 65536 / (yt + 1) = f := ⟨_, rfl⟩
  have hf0 : 1 ≤ f := by rw [← hf]; exact (Int.le_ediv_iff_mul_le (by omega)).2 (by omega)
  have hf1 : f < 65536 := by rw [← hf]; exact (Int.ediv_lt_iff_lt_mul (by omega)).2 (by omega)
  have hyz : ¬ yt + 1 = 0 := by omega
  have HFE := Lib.hid hf
  clear hA hB h hci hr fn fm hyt hwf0
  go_enter Try.func116, Try.ntmps116
  go_wp2_with fail
  refine (compare_any _ _ n m _ HA.out HB.out).mono ?_
  rw [HC.out]
  rintro e w1 ⟨rfl, hX⟩
  have HX := Lib.hid hX
  have hc1 := hX.cell hc
  clear hX hc
  go_upto_region 7 with (fail)
  have HX2 := Lib.hid (HX.out.alloc (.cells #[.int .i64 f] 3))
  have HF1 : Hid (Z16 (w1.alloc (.cells #[.int .i64 f] 3)) (.slice (some ⟨w1.heap.size, 0, none⟩) 1 1) f.toNat) := ⟨_, 1, 1, [f], rfl, ints_one (wf16 (by omega)) _, Rep.small (by omega) (by omega), by omega, by omega⟩
  have HC1 : Hid ((w1.alloc (.cells #[.int .i64 f] 3)).cell? ⟨w1.heap.size, 0, none⟩ = some (.int .i64 f)) := (Blk.new w1 3 #[.int .i64 f]).cell 0
  clear hc1
  generalize w1.alloc (.cells #[.int .i64 f] 3) = w2 at HX2 HF1 HC1 ⊢
  generalize w1.heap.size = gf at HF1 HC1 ⊢
  have hff : Fit 65536 f.toNat 1 := by unfold Fit; rw [Int.pow_succ, Int.pow_zero]; omega
  have HFF := Lib.hid hff
  clear hff hf
  go_wp2_with fail
  refine (times16_any _ _ n f.toNat L 1 _ (HA.out.ext HX2.out) HF1.out HFN.out HFF.out (by omega) (by omega)).mono ?_
  rintro e w3 ⟨vu, rfl, hu, hX⟩
  have HX3 := Lib.hid (HX2.out.trans hX)
  have HU := Lib.hid hu
  have HF2 := Lib.hid (HF1.out.ext hX)
  have HC2 := Lib.hid (hX.cell HC1.out)
  clear hX hu HF1 HC1
  go_wp2_with fail
  refine (times16_any _ _ m f.toNat L 1 _ (HB.out.ext HX3.out) HF2.out HFM.out HFF.out (by omega) (by omega)).mono ?_
  rintro e w4 ⟨vv, rfl, hv, hX⟩
  have HX4 := Lib.hid (HX3.out.trans hX)
  have HU4 := Lib.hid (HU.out.ext hX)
  have HC4 := Lib.hid (hX.cell HC2.out)
  clear hX HU HF2 HC2
  obtain ⟨Au, lu, cu, us, rfl, hIu, hRu, hcu1, hcu2⟩ := HU4.out
  obtain ⟨Av, lv, cv, vs, rfl, hIv, hRv, hcv1, hcv2⟩ := hv
  have hfn : 0 < f.toNat := by omega
  have hvu : m * f.toNat ≤ n * f.toNat := Nat.mul_le_mul_right _ HMN.out
  have hFu : Fit 65536 (n * f.toNat) (L + 1) := HFN.out.mul (by omega) HFF.out
  have hlu : lu ≤ L + 1 := by have := hFu.len (by omega) hRu; rw [hIu.1] at this; exact this
  have hlen : lv ≤ lu := by
    apply Nat.le_of_not_lt
    intro h
    have := hRu.lt_of_len (by omega) hRv (by rw [hIu.1, hIv.1]; exact h)
    omega
  have hmv : m ≤ m * f.toNat := Nat.le_mul_of_pos_right _ hfn
  have hlv : p + 2 ≤ lv := by
    apply Nat.le_of_not_lt
    intro h
    have := hRv.lt_of_len (by omega) HRB.out (by rw [hIv.1, HIB.out.1]; exact h)
    omega
  obtain ⟨V, hV⟩ : ∃ V, m * f.toNat = V := ⟨_, rfl⟩
  obtain ⟨U, hU⟩ : ∃ U, n * f.toNat = U := ⟨_, rfl⟩
  rw [hU] at hvu hFu hRu
  rw [hV] at hvu hmv hRv
  have HVE := Lib.hid hV
  have HUE := Lib.hid hU
  have HIU := Lib.hid hIu
  have HRU := Lib.hid hRu
  have HIV := Lib.hid hIv
  have HRV := Lib.hid hRv
  have HFU := Lib.hid hFu
  have HVU := Lib.hid hvu
  clear hV hU hIu hRu hIv hRv HU4 hFu hvu hmv hfn
  obtain ⟨d, hd1, hd2⟩ : ∃ d, lu ≤ lv + d ∧ lv + d ≤ lu := ⟨lu - lv, by omega⟩
  obtain ⟨r, hr1, hr2⟩ : ∃ r, lv ≤ r + 2 ∧ r + 2 ≤ lv := ⟨lv - 2, by omega⟩
  have HYT := Lib.hid (And.intro hytp (And.intro hy0 hy1))
  clear hlen hlv hc0 hyz hytp hy0 hy1
  go_upto_region 9 with (at_make; refine wpList_mk _ elI rfl rfl _ _ rfl w4.heap.size _ _ _ _ (d + 1) (d + 1) rfl rfl (by omega) (by omega) (Nat.le_refl _) (by omega) (by unfold maxLen; omega) (Nat.le_refl _) ?_; intro w5 hown5 hext5 hsz5)
  have HQ5 := Lib.hid (OwnS.made hown5)
  have HX5 := Lib.hid hext5
  clear hown5 hext5
  have HU5 := Lib.hid (HIU.out.ext HX5.out)
  go_wp2_with (first | (refine wpList_cutL (o := ⟨some 69, _, _, _, _, _⟩) _ elI rfl _ _ rfl Au lu cu rfl _ _ (d + 1) rfl (by omega) (by omega) hcu1 ?_; intro A5 hA5; have HI5 := Lib.hid (cut_ints HU5.out hA5); clear hA5) | (at_builtin; refine wpList_app (o := ⟨some 70, _, _, _, _, _⟩) _ elI rfl _ _ rfl w5.heap.size (.slice (some ⟨w5.heap.size, 0, none⟩) 0 0) 0 [] rfl (World.ownsRow_lit w5 #[] 0 (Nat.le_refl _) (by unfold maxLen; omega) rfl) A5 (lu - (d + 1)) (cu - (d + 1)) ((us.drop (d + 1)).map (.int .i64)) rfl (by rw [List.length_map, Nat.mul_one]; exact HI5.out.1) (HI5.out.ext ((Ext.refl w5).alloc _)).2.2 (ints_one' _) (by omega) (by unfold maxLen; omega) (by simp) ?_; intro v6 w6 hown6 hgr6 hloc6; clear hloc6; have HO6 := Lib.hid hown6; have HG6 := Lib.hid (Ext.app ((Ext.refl w5).alloc _) (World.ownsRow_lit (size := 1) (e := 3) w5 #[] 0 (Nat.le_refl _) (by unfold maxLen; omega) rfl) hgr6); clear hown6 hgr6))
  obtain ⟨A6, c6, rfl⟩ := own_slice HO6.out
  have hw : Dg 65536 (us.drop (d + 1)) := HRU.out.1.drop _
  have hdl : (us.drop (d + 1)).length = lu - (d + 1) := by rw [List.length_drop, HIU.out.1]
  have HOS6 : Hid (OwnS .i64 3 w5.heap.size w6 A6 (0 + (lu - (d + 1))) c6 (us.drop (d + 1))) := ⟨by simpa using HO6.out, by rw [hdl]; omega, dg_wf hw⟩
  obtain ⟨R0, hR0⟩ : ∃ R : Nat, val 65536 (us.drop (d + 1)) = (R : Int) := ⟨(val 65536 (us.drop (d + 1))).toNat, by have := val_nonneg (B := 65536) (by omega) hw; omega⟩
  have hRV : (R0 : Int) < (V : Int) := by
    have h1 := val_lt (B := 65536) (by omega) hw
    rw [hdl, hR0] at h1
    have h2 := nm_low (B := 65536) (by omega) HRV.out.1 HRV.out.2.1 (by intro e; have := HIV.out.1; rw [e] at this; simp at this; omega)
    rw [HRV.out.2.2, HIV.out.1] at h2
    have h3 : lu - (d + 1) = lv - 1 := by omega
    rw [h3] at h1
    omega
  have HDW := Lib.hid hw
  have HR0 := Lib.hid hR0
  have HRV0 : Hid (R0 < V) := by show _ < _; omega
  clear hw hdl hR0 hRV HO6
  refine (trimO HOS6.out HDW.out HR0.out).mono ?_
  rintro e _ ⟨l7, zs7, rfl, hO7, hR7, rfl⟩
  have HO7 := Lib.hid hO7
  have HR7 := Lib.hid hR7
  clear hO7 hR7 HOS6
  have HQ6 := Lib.hid (HQ5.out.ext HG6.out)
  have HX6 := Lib.hid (HX5.out.trans HG6.out)
  have hsz : w4.heap.size + 1 ≤ w5.heap.size := by omega
  have HO7' := Lib.hid (HO7.out.mono hsz)
  obtain ⟨gq, hgq⟩ : ∃ g, w4.heap.size = g := ⟨_, rfl⟩
  rw [hgq] at HQ6 HO7' ⊢
  have HGQ := Lib.hid hgq
  clear hgq hsz hsz5 HQ5 HX5 HU5 HI5 HG6 HO7
  go_wp2_with fail
  go_loopg [12, 13] (d + 1) (fun g s12 s13 wr => ∃ (k R l : Nat) (Ar : Option Addr) (cr : Nat) (zs q : List Int), k = g ∧ k ≤ d + 1 ∧ s13 = .int .i64 ((k : Int) - 1) ∧ s12 = .slice Ar l cr ∧ Hid (OwnS .i64 3 (gq + 1) wr Ar l cr zs) ∧ Hid (Rep 65536 zs R) ∧ Hid (R < V) ∧ Hid (OwnS .i64 3 gq wr (some ⟨gq, 0, none⟩) (d + 1) (d + 1) q) ∧ Hid (Dg 65536 q) ∧ Hid (val 65536 (us.drop k) = val 65536 (q.drop k) * V + R) ∧ Hid (Ext w4 wr))
  case atStart => exact ⟨d + 1, R0, l7, A6, c6, zs7, _, rfl, Nat.le_refl _, congrArg (Value.int IntKind.i64) (by omega), rfl, HO7'.out, HR7.out, HRV0.out, HQ6.out, Dg.zeros (by omega) _, by show _ = _; rw [HR0.out, List.drop_eq_nil_of_le (by simp)]; simp [val], HX6.out⟩
  case round =>
    clear HO7' HR7 HRV0 HQ6 HR0 HX6 HDW
    obtain ⟨k, R, l, Ar, cr, zs, q, rfl, hk, rfl, rfl, HO, HR, HRV', HQ, HD, HI, HX'⟩ := hrel
    have hll : l ≤ lv := by
      have h1 := HRV.out.lt (by omega)
      rw [HIV.out.1] at h1
      have h2 := HR.out.len_le (by omega) (L := lv) (by have := HRV'.out; omega)
      rw [HO.out.len] at h2
      exact h2
    obtain ⟨hcr1, hcr2⟩ := HO.out.cap
    rcases Nat.eq_zero_or_pos k with h0 | h0
    · subst h0
      as_aux_lemma =>
        have hI := HI.out
        simp only [List.drop_zero] at hI
        rw [HRU.out.2.2] at hI
        have hvn := val_nonneg (B := 65536) (by omega) HD.out
        obtain ⟨Qq, hQq⟩ : ∃ Q : Nat, val 65536 q = (Q : Int) := ⟨_, (Int.toNat_of_nonneg hvn).symm⟩
        rw [hQq] at hI
        have hIn : U = Qq * V + R := by
          have : (U : Int) = ((Qq * V + R : Nat) : Int) := by rw [hI]; simp
          exact Int.ofNat.inj this
        have hend := quo_end (n := n) (m := m) (f := f.toNat) (Q := Qq) (R := R) (by rw [HUE.out, HVE.out]; exact hIn) (by rw [HVE.out]; exact HRV'.out) (by omega)
        have HEND := Lib.hid hend
        have HQq := Lib.hid hQq
        have hcf : wr.cell? ⟨gf, 0, none⟩ = some (.int .i64 f) := HX'.out.cell HC4.out
        have HFR := Lib.hid (HFU.out.le (show R ≤ U by have := HRV'.out; have := HVU.out; omega))
        clear hI hvn hQq hIn hend
        rw [show (((0 : Nat) : Int) - 1) = -1 by omega]
        go_wp2_with fail
        refine (rshort_any _ R (L + 1) f _ ⟨Ar, l, cr, zs, rfl, HO.out.ints, HR.out, hcr1, hcr2⟩ HFR.out (by omega) (by omega) (by omega)).mono ?_
        rintro e w8 ⟨v8, rfl, hv8, hX8⟩
        have HV8 := Lib.hid hv8
        have HX8 := Lib.hid (HX'.out.trans hX8)
        have HQ8 := Lib.hid (HQ.out.ext hX8)
        clear hv8 hX8 hcf
        generalize (R : Int) % f = rm
        go_wp2_with fail
        refine (trimN HQ8.out.ints HD.out HQq.out (by omega) (by omega)).mono ?_
        rintro e _ ⟨v9, rfl, hv9, rfl⟩
        have HV9 := Lib.hid hv9
        clear hv9
        go_wp2
        go_ret2
        exact ⟨_, _, rfl, by rw [← HEND.out.1]; exact HV9.out, by rw [← HEND.out.2]; exact HV8.out, HX4.out.trans HX8.out⟩
    · obtain ⟨j, rfl⟩ : ∃ j, k = j + 1 := ⟨k - 1, by omega⟩
      rw [show (((j + 1 : Nat) : Int) - 1) = (j : Int) by omega]
      have hj0 : (0 : Int) ≤ (j : Int) := by omega
      have hjl : (j : Int) < (lu : Int) := by omega
      obtain ⟨bu, ou, x, rfl, hx, hwf1, hcx⟩ := (HIU.out.ext HX'.out).get (show j < lu by omega)
      obtain ⟨hx0, hx1⟩ := HRU.out.1.get hx
      have HXU := Lib.hid hx
      have HIr := Lib.hid HO.out.ints
      clear hx hwf1
      go_wp2_with (first | (at_builtin; refine wpList_app (o := ⟨some 87, _, _, _, _, _⟩) _ elI rfl _ _ rfl wr.heap.size (.slice (some ⟨wr.heap.size, 0, none⟩) 1 1) 1 [.int .i64 x] rfl (World.ownsRow_lit (size := 1) (e := 3) wr #[.int .i64 x] 1 (Nat.le_refl _) (by unfold maxLen; omega) rfl) Ar l cr (zs.map (.int .i64)) rfl (by rw [List.length_map, Nat.mul_one]; exact HO.out.len) (HIr.out.ext ((Ext.refl wr).alloc _)).2.2 (ints_one' _) (by omega) (by unfold maxLen; omega) (by simp) ?_; intro v8 w8 hown8 hgr8 hloc8; clear hloc8; have HO8 := Lib.hid hown8; have HG8 := Lib.hid (Ext.app ((Ext.refl wr).alloc _) (World.ownsRow_lit (size := 1) (e := 3) wr #[.int .i64 x] 1 (Nat.le_refl _) (by unfold maxLen; omega) rfl) hgr8); clear hown8 hgr8))
      obtain ⟨A8, c8, rfl⟩ := own_slice HO8.out
      have hdx : Dg 65536 (x :: zs) := Dg.cons ⟨hx0, hx1⟩ HR.out.1
      have HOS8 : Hid (OwnS .i64 3 wr.heap.size w8 A8 (1 + l) c8 (x :: zs)) := ⟨by simpa using HO8.out, by rw [List.length_cons, HO.out.len]; omega, dg_wf hdx⟩
      obtain ⟨R', hR'⟩ : ∃ R' : Nat, (R : Int) * 65536 + x = (R' : Int) := ⟨R * 65536 + x.toNat, by omega⟩
      have HVR : Hid (val 65536 (x :: zs) = (R' : Int)) := by
        show x + 65536 * val 65536 zs = _
        rw [HR.out.2.2]; omega
      have HDX := Lib.hid hdx
      clear hdx HO8
      refine (trimO HOS8.out HDX.out HVR.out).mono ?_
      rintro e _ ⟨l9, zs9, rfl, hO9, hR9, rfl⟩
      have HO9 := Lib.hid hO9
      have HR9 := Lib.hid hR9
      have HX8 := Lib.hid (HX'.out.trans HG8.out)
      have HQ8 := Lib.hid (HQ.out.ext HG8.out)
      have HRR := Lib.hid hR'
      have HIV8 := Lib.hid (HIV.out.ext HX8.out)
      clear hO9 hR9 HOS8 hcx hR'
      go_upto_if 93 with (fail)
      have hV1 : 0 < V := by have := HRV'.out; omega
      have HLT : Hid ((R' : Int) < (V : Int) * 65536) := by
        show _ < _
        have h1 := HRV'.out
        have h2 := HRR.out
        omega
      have hl9 : l9 ≤ lv + 1 := by
        have h1 := HRV.out.lt (by omega)
        rw [HIV.out.1] at h1
        have h2 := HR9.out.len_le (by omega) (L := lv + 1) (by rw [Int.pow_succ]; have := HLT.out; omega)
        rw [HO9.out.len] at h2
        exact h2
      generalize hbb : decide (lv ≤ l9) = bb
      have HBB := Lib.hid hbb
      clear hbb
      go_cut [14] (fun s14 W => ∃ gs : Int, s14 = .int .i64 gs ∧ 0 ≤ gs ∧ gs ≤ 65535 ∧ Hid ((R' : Int) / (V : Int) ≤ gs) ∧ w8 = W)
      case first =>
        as_aux_lemma =>
          have hlow := nm_low (B := 65536) (by omega) HRV.out.1 HRV.out.2.1 (by intro e; have := HIV.out.1; rw [e] at this; simp at this; omega)
          rw [HRV.out.2.2, HIV.out.1] at hlow
          have hcc : (bb = false ∧ l9 < lv) ∨ (bb = true ∧ l9 = lv) ∨ (bb = true ∧ l9 = lv + 1) := by
            have h := HBB.out
            cases bb
            · left; exact ⟨rfl, by simpa using h⟩
            · right
              have : lv ≤ l9 := by simpa using h
              rcases (show l9 = lv ∨ l9 = lv + 1 by omega) with h | h
              · exact .inl ⟨rfl, h⟩
              · exact .inr ⟨rfl, h⟩
          clear HBB
          rcases hcc with ⟨rfl, hc⟩ | ⟨rfl, hc⟩ | ⟨rfl, hc⟩
          · have HZ0 : Hid ((R' : Int) / (V : Int) ≤ 0) := by
              show _ ≤ _
              have h1 := HR9.out.lt (by omega)
              rw [HO9.out.len] at h1
              have h2 := pow_le (B := 65536) (a := l9) (b := lv - 1) (by omega) (by omega)
              rw [Int.ediv_eq_zero_of_lt (by omega) (by omega)]
              omega
            clear hlow
            go_wp2
            go_meet
            exact ⟨0, rfl, by omega, by omega, HZ0.out, rfl⟩
          · obtain rfl : lv = r + 2 := by omega
            subst hc
            obtain ⟨bv, ov, vt, rfl, hvt, _, hcv⟩ := HIV8.out.get (j := r + 1) (by omega)
            obtain ⟨hv0, hv1⟩ := HRV.out.1.get hvt
            obtain ⟨g8, z, rfl, hz, _, hcz⟩ := HO9.out.get (j := r + 1) (by omega)
            obtain ⟨hz0, hz1⟩ := HR9.out.1.get hz
            have hvp := top_pos HRV.out (by rw [HIV.out.1]) hvt
            have hge := guess_ge (val_top HR9.out.1 (by rw [HO9.out.len]) hz).1 (by have := (val_top HRV.out.1 (by rw [HIV.out.1]) hvt).2; rw [HRV.out.2.2] at this; exact this) hvp (pow_pos' (by omega) _) (by rw [HR9.out.2.2]; omega)
            rw [HR9.out.2.2] at hge
            have HGE := Lib.hid hge
            have hq0 : 0 ≤ z / vt := Int.ediv_nonneg hz0 (by omega)
            have hq1 : z / vt ≤ z := Int.ediv_le_self _ hz0
            have hvz : ¬ vt = 0 := by omega
            clear hlow hvt hz hge
            have hbig : ¬ 65536 ≤ z / vt := by omega
            clear hq1
            go_wp2
            go_meet
            exact ⟨z / vt, rfl, hq0, by omega, HGE.out, rfl⟩
          · obtain rfl : lv = r + 2 := by omega
            obtain rfl : l9 = r + 3 := by omega
            clear hc
            obtain ⟨bv, ov, vt, rfl, hvt, _, hcv⟩ := HIV8.out.get (j := r + 1) (by omega)
            obtain ⟨hv0, hv1⟩ := HRV.out.1.get hvt
            obtain ⟨g8, z, rfl, hz, _, hcz⟩ := HO9.out.get (j := r + 2) (by omega)
            obtain ⟨hz0, hz1⟩ := HR9.out.1.get hz
            obtain ⟨g9, y, hg9, hy, _, hcy⟩ := HO9.out.get (j := r + 1) (by omega)
            obtain rfl : g8 = g9 := by injection hg9 with h; injection h
            obtain ⟨hy0, hy1⟩ := HR9.out.1.get hy
            have hvp := top_pos HRV.out (by rw [HIV.out.1]) hvt
            have hge := guess_ge (val_top2 HR9.out.1 (by rw [HO9.out.len]) hz hy) (by have := (val_top HRV.out.1 (by rw [HIV.out.1]) hvt).2; rw [HRV.out.2.2] at this; exact this) hvp (pow_pos' (by omega) _) (by rw [HR9.out.2.2]; omega)
            rw [HR9.out.2.2] at hge
            have HGE := Lib.hid hge
            have hq0 : 0 ≤ (z * 65536 + y) / vt := Int.ediv_nonneg (by omega) (by omega)
            have hq1 : (z * 65536 + y) / vt ≤ z * 65536 + y := Int.ediv_le_self _ (by omega)
            have hs0 : 0 ≤ z * 65536 + y := by omega
            have hvz : ¬ vt = 0 := by omega
            have HDG : Hid ((R' : Int) / (V : Int) ≤ 65535) := by
              show _ ≤ _
              have h1 := HLT.out
              have h2 : (R' : Int) / (V : Int) < 65536 := (Int.ediv_lt_iff_lt_mul (by omega)).2 (by omega)
              omega
            clear hlow hvt hz hy hge hg9
            by_cases hbig : 65536 ≤ (z * 65536 + y) / vt
            · go_wp2
              go_meet
              exact ⟨65535, rfl, by omega, by omega, HDG.out, rfl⟩
            · go_wp2
              go_meet
              exact ⟨(z * 65536 + y) / vt, rfl, hq0, by omega, HGE.out, rfl⟩
      case rest =>
        obtain ⟨gs, rfl, hgs0, hgs1, HGS, rfl⟩ := hcut
        clear HBB hl9
        obtain ⟨G0, hG0, hG1⟩ : ∃ G : Nat, gs = (G : Int) ∧ G ≤ 65535 := ⟨gs.toNat, by omega, by omega⟩
        subst hG0
        have HGD : Hid (R' / V ≤ G0) := by
          show _ ≤ _
          have := HGS.out
          rw [← Int.natCast_ediv] at this
          omega
        clear HGS hgs0 hgs1
        have HFV := Lib.hid (HFU.out.le HVU.out)
        have HFG : Hid (Fit 65536 65535 1) := by show Fit _ _ _; unfold Fit; rw [Int.pow_succ, Int.pow_zero]; omega
        have HONE : Hid (Ints .i64 (w8.alloc (.cells #[.int .i64 (G0 : Int)] 3)) (some ⟨w8.heap.size, 0, none⟩) 1 [(G0 : Int)]) := ints_one (wf16 (by omega)) _
        have HD1 : Hid (Dg 65536 [(G0 : Int)]) := Dg.one (by omega)
        have HV1' : Hid (val 65536 [(G0 : Int)] = (G0 : Int)) := val_one _
        go_wp2_with fail
        refine (trimN HONE.out HD1.out HV1'.out (by omega) (by omega)).mono ?_
        rintro e _ ⟨vg, rfl, hvg, rfl⟩
        have HVG := Lib.hid hvg
        clear hvg HONE
        have HXa := Lib.hid ((Ext.refl w8).alloc (.cells #[.int .i64 (G0 : Int)] 3))
        generalize w8.alloc (.cells #[.int .i64 (G0 : Int)] 3) = w9 at HVG HXa ⊢
        go_wp2_with fail
        refine (times16_any _ _ V G0 (L + 1) 1 _ ⟨Av, lv, cv, vs, rfl, HIV8.out.ext HXa.out, HRV.out, hcv1, hcv2⟩ HVG.out HFV.out (HFG.out.le hG1) (by omega) (by omega)).mono ?_
        rintro e w10 ⟨vp, rfl, hvp, hX10⟩
        have HVP := Lib.hid hvp
        have HX10 := Lib.hid (HXa.out.trans hX10)
        clear hvp hX10 HVG HXa
        go_wp2_with fail
        have HFR' := Lib.hid (show Fit 65536 R' (L + 2) from by
          have h1 := HFV.out
          have h2 := HLT.out
          unfold Fit at h1 ⊢
          rw [Int.pow_succ]; omega)
        have HFP : Hid (∀ G : Nat, G ≤ 65535 → Fit 65536 (V * G) (L + 2)) := fun G hG => (HFV.out.mul (by omega) (HFG.out.le hG)).mono (by omega) (by omega)
        go_loopg [14, 16] G0 (fun g s14 s16 wi => ∃ G : Nat, G = g ∧ s14 = .int .i64 (G : Int) ∧ G ≤ 65535 ∧ Hid (R' / V ≤ G) ∧ Hid (Z16 wi s16 (V * G)) ∧ Hid (Ext w8 wi))
        case atStart => exact ⟨G0, rfl, rfl, hG1, HGD.out, HVP.out, HX10.out⟩
        case round =>
          clear HGD HVP HX10 HD1 HV1'
          obtain ⟨G, rfl, rfl, hG, HGD, HP, HXi⟩ := hrel
          have HRi := Lib.hid (HO9.out.ext HXi.out)
          by_cases hgt : R' < V * G
          · as_aux_lemma =>
              have HC1 := Lib.hid (cmpI_gt hgt)
              have hGp : 0 < G := by
                rcases Nat.eq_zero_or_pos G with h | h
                · subst h; simp at hgt
                · exact h
              obtain ⟨H, rfl⟩ : ∃ H, G = H + 1 := ⟨G - 1, by omega⟩
              have HGD' : Hid (R' / V ≤ H) := by
                show _ ≤ _
                have h1 : R' / V < H + 1 := (Nat.div_lt_iff_lt_mul hV1).2 (by rw [Nat.mul_comm]; exact hgt)
                omega
              have HSUB : Hid (V * (H + 1) - V = V * H) := by show _ = _; rw [Nat.mul_succ]; omega
              have HLE : Hid (V ≤ V * (H + 1)) := Nat.le_mul_of_pos_right _ (by omega)
              clear hgt hGp
              go_wp2_with fail
              refine (compare_any _ _ (V * (H + 1)) R' _ HP.out ⟨A8, l9, c8, zs9, rfl, HRi.out.ints, HR9.out, HRi.out.cap.1, HRi.out.cap.2⟩).mono ?_
              rw [HC1.out]
              rintro e w11 ⟨rfl, hX⟩
              have HX11 := Lib.hid (HXi.out.trans hX)
              have HP11 := Lib.hid (HP.out.ext hX)
              clear hX
              go_wp2_with fail
              refine (less_any _ _ (V * (H + 1)) V (L + 2) _ HP11.out ⟨Av, lv, cv, vs, rfl, HIV8.out.ext HX11.out, HRV.out, hcv1, hcv2⟩ (HFP.out _ hG) (by omega) HLE.out).mono ?_
              rw [HSUB.out]
              rintro e w12 ⟨v12, rfl, hv12, hX⟩
              have HX12 := Lib.hid (HX11.out.trans hX)
              have HV12 := Lib.hid hv12
              clear hX hv12
              go_wp2
              go_roundg H
              case rel => exact ⟨H, rfl, by go_num, by omega, HGD'.out, HV12.out, HX12.out⟩
              case measure => omega
          · as_aux_lemma =>
              have hle : V * G ≤ R' := by omega
              have hcv : cmpI (V * G) R' = -1 ∨ cmpI (V * G) R' = 0 := by
                rcases Nat.lt_or_ge (V * G) R' with h | h
                · exact .inl (cmpI_lt h)
                · exact .inr (cmpI_eq (by omega))
              have HLE := Lib.hid hle
              have hGq : (G : Int) < 65536 := by omega
              clear hgt hle
              rcases hcv with hcv | hcv
              all_goals
                have HC2 := Lib.hid hcv
                clear hcv
                go_wp2_with fail
                refine (compare_any _ _ (V * G) R' _ HP.out ⟨A8, l9, c8, zs9, rfl, HRi.out.ints, HR9.out, HRi.out.cap.1, HRi.out.cap.2⟩).mono ?_
                rw [HC2.out]
                rintro e w11 ⟨rfl, hX⟩
                have HX11 := Lib.hid (HXi.out.trans hX)
                have HP11 := Lib.hid (HP.out.ext hX)
                have HR11 := Lib.hid (HRi.out.ext hX)
                clear hX HC2
                go_wp2_with fail
                refine (less_own _ _ R' (V * G) (L + 2) _ ⟨A8, l9, c8, zs9, rfl, HR11.out.ints, HR9.out, HR11.out.cap.1, HR11.out.cap.2⟩ HP11.out HFR'.out (by omega) HLE.out).mono ?_
                rintro e w12 ⟨A12, l12, c12, zs12, rfl, hO12, hR12, hX⟩
                have HX12 := Lib.hid (HX11.out.trans hX)
                have hqlt : gq < w11.heap.size := by
                  obtain ⟨g', x', hg', _, _, hcell⟩ := (HQ8.out.ext HX11.out).get (j := 0) (by omega)
                  obtain rfl : gq = g' := by injection hg' with h; injection h
                  exact World.block_lt_of_cell? _ _ hcell
                have HO12 := Lib.hid (hO12.mono (show gq + 1 ≤ w11.heap.size by omega))
                have HR12 := Lib.hid hR12
                have HQ12 := Lib.hid (HQ8.out.ext HX12.out)
                clear hX hO12 hR12 hqlt
                obtain ⟨g', z', hg', hz', _, hcz', hfz', _, hst⟩ := HQ12.out.store (j := j) (by omega)
                obtain rfl : gq = g' := by injection hg' with h; injection h
                have HS := Lib.hid (hst.out (G : Int) (wf16 (by omega)))
                have HDD := Lib.hid (HD.out.set (u := (G : Int)) (by omega) j)
                have HN := Lib.hid (quo_next (q := q) (d := (G : Int)) HXU.out (by rw [HQ12.out.len]; omega) HI.out)
                have HOO := Lib.hid (HO12.out.far (g := gq) (Nat.lt_succ_self gq) j (.int .i64 (G : Int)))
                have HRN : Hid (R' - V * G < V) := by
                  show _ < _
                  have h1 := (Nat.div_lt_iff_lt_mul hV1).1 (show R' / V < G + 1 by have := HGD.out; omega)
                  rw [Nat.add_mul, Nat.one_mul, Nat.mul_comm G V] at h1
                  have h2 := HLE.out
                  omega
                have HVN : Hid (val 65536 (us.drop j) = val 65536 ((q.set j (G : Int)).drop j) * V + ((R' - V * G : Nat) : Int)) := by
                  show _ = _
                  have h1 := HN.out
                  rw [HRR.out] at h1
                  rw [Int.natCast_sub HLE.out, Int.natCast_mul, Int.mul_comm (V : Int)]
                  exact h1
                have hjd : (j : Int) < ((d + 1 : Nat) : Int) := by omega
                clear hz' hg' hst
                go_wp2
                go_roundg j
                case rel => exact ⟨j, R' - V * G, l12, A12, c12, zs12, _, rfl, by omega, by go_num, rfl, HOO.out, HR12.out, HRN.out, HS.out, HDD.out, HVN.out, (HX8.out.trans HX12.out).setCell (by have := HGQ.out; show w4.heap.size ≤ gq; omega) _⟩
                case measure => omega
end Go.Proofs.Ytagcgldhhdecjaa
namespace Go.Proofs.Ytagcgldhhdecjaa
open Go.RowKit

theorem divide_any (va vb : Value) (n m L : Nat) (w : World) (ha : Z16 w va n) (hb : Z16 w vb m) (fn : Fit 65536 n L) (hL : L ≤ 400000) (hm : 0 < m) :
    Calls Try.prog 116 #[va, vb] w (RetDR w (n / m) (n % m)) := by
  rcases Nat.lt_or_ge n m with h | h
  · exact rdiv_less va vb n m w ha hb h
  · obtain ⟨B, lb, cb, ys, rfl, hB, hr, h1, h2⟩ := hb
    rcases (show lb = 0 ∨ lb = 1 ∨ 2 ≤ lb by omega) with rfl | rfl | h3
    · exfalso
      have : ys = [] := List.eq_nil_of_length_eq_zero hB.1
      have := (hr.pos (by omega)).2 this
      omega
    · obtain ⟨y, rfl⟩ : ∃ y, ys = [y] := List.length_eq_one_iff.1 hB.1
      exact rdiv_one va B cb y n m L w ha hB hr ⟨h1, h2⟩ fn (by omega) h
    · obtain ⟨p, rfl⟩ : ∃ p, lb = p + 2 := ⟨lb - 2, by omega⟩
      exact rdiv_long va B cb p ys n m L w ha hB hr ⟨h1, h2⟩ fn hL h

set_option maxRecDepth 100000 in
set_option maxHeartbeats 1000000 in
theorem gcd16_any (va vb : Value) (n m L : Nat) (w : World) (ha : Z16 w va n) (hb : Z16 w vb m) (fn : Fit 65536 n L) (fm : Fit 65536 m L) (hL : L ≤ 400000) :
    Calls Try.prog 115 #[va, vb] w (RetN .i64 65536 w (Nat.gcd n m)) := by
  have HA := Lib.hid ha
  have HB := Lib.hid hb
  have HFN := Lib.hid fn
  have HFM := Lib.hid fm
  clear ha hb fn fm
  go_enter Try.func115, Try.ntmps115
  go_wp2
  go_loopg [0, 1] m (fun g s0 s1 wr => ∃ a b : Nat, b = g ∧ Hid (Z16 wr s0 a) ∧ Hid (Z16 wr s1 b) ∧ Hid (Fit 65536 a L) ∧ Hid (Fit 65536 b L) ∧ Hid (Nat.gcd a b = Nat.gcd n m) ∧ Hid (Ext w wr))
  case atStart => exact ⟨n, m, rfl, HA.out, HB.out, HFN.out, HFM.out, rfl, Ext.refl w⟩
  case round =>
    clear HA HB HFN HFM
    obtain ⟨a, b, rfl, HA, HB, HFA, HFB, HG, HX⟩ := hrel
    obtain ⟨B, lb, cb, ys, rfl, hB, hr, hB3⟩ := HB.out
    have hp := hr.pos (by omega)
    rw [← List.length_eq_zero_iff, hB.1] at hp
    rcases Nat.eq_zero_or_pos b with h0 | h0
    · have hl := hp.1 h0
      subst hl h0
      have HGG : Hid (Nat.gcd n m = a) := by have := HG.out; rw [Nat.gcd_zero_right] at this; exact this.symm
      clear hp hB hr hB3
      go_wp2
      go_ret
      exact ⟨_, rfl, by rw [HGG.out]; exact HA.out, HX.out⟩
    · have hl : 0 < lb := by
        rcases Nat.eq_zero_or_pos lb with h | h
        · have := hp.2 h; omega
        · exact h
      have HGG : Hid (Nat.gcd b (a % b) = Nat.gcd n m) := by
        have := HG.out
        show _ = _
        rw [← this, Nat.gcd_comm a b, Nat.gcd_rec b a, Nat.gcd_comm]
      have hlt : a % b < b := Nat.mod_lt _ h0
      have HLT := Lib.hid hlt
      have HPB := Lib.hid h0
      clear hp hB hr hB3 hlt h0
      go_wp2_with fail
      refine (divide_any _ _ a b L _ HA.out HB.out HFA.out hL HPB.out).mono ?_
      rintro e w1 ⟨vq, vr, rfl, hq, hr, hX⟩
      have HR := Lib.hid hr
      have HX1 := Lib.hid (HX.out.trans hX)
      have HB1 := Lib.hid (HB.out.ext hX)
      clear hq hr hX
      go_wp2
      go_roundg (a % b)
      case rel => exact ⟨b, a % b, rfl, HB1.out, HR.out, HFB.out, HFB.out.le (Nat.le_of_lt HLT.out), HGG.out, HX1.out⟩
      case measure => exact HLT.out
end Go.Proofs.Ytagcgldhhdecjaa
namespace Go.Proofs.Ytagcgldhhdecjaa
open Go.RowKit

/-- A slice's words do not lie in the block 'row'. -/
def Sep (v : Value) (row : Option Nat) : Prop := ∀ A n c, v = .slice A n c → 0 < n → ∀ b off, A = some ⟨b, off, none⟩ → row ≠ some b
theorem Sep.nil (v : Value) : Sep v none := fun _ _ _ _ _ _ _ _ h => by cases h
theorem NatV.grown {k : IntKind} {B : Int} {w w' : World} {v : Value} {n : Nat} {row : Option Nat} (h : NatV k B w v n) (hg : w.grownBy w' row) (hs : Sep v row) : NatV k B w' v n := by
  obtain ⟨A, m, c, xs, rfl, ⟨h1, h2, h3⟩, h4⟩ := h
  refine ⟨A, m, c, xs, rfl, ⟨h1, h2, fun hn => ?_⟩, h4⟩
  obtain ⟨b, off, hA, hc⟩ := h3 hn
  have hm : 0 < m := by
    rw [← h1]; rcases xs with _ | ⟨x, xs⟩
    · simp at hn
    · simp
  refine ⟨b, off, hA, fun j v hv => ?_⟩
  have hcell := hc j v hv
  rw [← hcell]
  exact World.cell?_of_block (w := w) (hg.block b (World.block_lt_of_cell? w _ hcell) (fun e => hs A m c rfl hm b off hA e.symm))
theorem Sep.new {k : IntKind} {B : Int} {w : World} {v : Value} {n : Nat} (h : NatV k B w v n) {s : Nat} (hs : w.heap.size ≤ s) : Sep v (some s) := by
  obtain ⟨A, m, c, xs, rfl, ⟨h1, h2, h3⟩, h4⟩ := h
  intro A' n' c' e hn b off hA hb
  injection e with e1 e2 e3
  subst e1 e2 e3
  rcases xs with _ | ⟨x, xs⟩
  · simp at h1; omega
  · obtain ⟨b', off', hA', hc⟩ := h3 (by simp)
    rw [hA] at hA'
    injection hA' with hA'
    injection hA' with hb' _ _
    subst hb'
    have := World.block_lt_of_cell? w _ (hc 0 _ rfl)
    injection hb with hb
    simp only at this
    omega
end Go.Proofs.Ytagcgldhhdecjaa
namespace Go.Proofs.Ytagcgldhhdecjaa
open Go.RowKit

theorem FitQ.mono {q : Rat} {L M : Nat} (h : FitQ q L) (hl : L ≤ M) : FitQ q M := ⟨h.1.mono (by omega) hl, h.2.mono (by omega) hl⟩

section
variable {va vb : Value} {a b : Rat} {L M : Nat} {w : World}
end
end Go.Proofs.Ytagcgldhhdecjaa
namespace Go.Proofs.Ytagcgldhhdecjaa
open Go.RowKit

/-- The sign of an integer. -/
def sgI (n : Int) : Int := if n < 0 then -1 else if 0 < n then 1 else 0
end Go.Proofs.Ytagcgldhhdecjaa
namespace Go.Proofs.Ytagcgldhhdecjaa
open Go.RowKit

set_option maxHeartbeats 1000000 in
theorem rminus_neg (A : Option Addr) (l c : Nat) (w : World)  :
    Calls Try.prog 122 #[.agg #[.bool true, .slice A l c]] w fun e w' => e = .returned (.agg #[.bool false, .slice A l c]) ∧ Ext w w' := by
  have HX := Lib.hid (((Ext.refl w).alloc (.cells #[.bool true, .slice A l c] 99)).alloc (.cells #[.bool false, .slice A l c] 99))
  skip
  go_enter Try.func122, Try.ntmps122
  go_wp2
  refine bodyPost_ret (v := .agg #[.bool false, .slice A l c]) (by simp [results, Try.results122, go_sem, *]) rfl ?_
  exact ⟨rfl, HX.out⟩

set_option maxHeartbeats 1000000 in
theorem rminus_pos (A : Option Addr) (l c : Nat) (w : World) (hl : 0 < l) :
    Calls Try.prog 122 #[.agg #[.bool false, .slice A l c]] w fun e w' => e = .returned (.agg #[.bool true, .slice A l c]) ∧ Ext w w' := by
  have HX := Lib.hid (((Ext.refl w).alloc (.cells #[.bool false, .slice A l c] 99)).alloc (.cells #[.bool true, .slice A l c] 99))
  have hl2 : (0 : Int) < (l : Int) := by omega
  go_enter Try.func122, Try.ntmps122
  go_wp2
  refine bodyPost_ret (v := .agg #[.bool true, .slice A l c]) (by simp [results, Try.results122, go_sem, *]) rfl ?_
  exact ⟨rfl, HX.out⟩

set_option maxHeartbeats 1000000 in
theorem rminus_zero (A : Option Addr) (l c : Nat) (w : World) (hl : l = 0) :
    Calls Try.prog 122 #[.agg #[.bool false, .slice A l c]] w fun e w' => e = .returned (.agg #[.bool false, .slice A l c]) ∧ Ext w w' := by
  have HX := Lib.hid (((Ext.refl w).alloc (.cells #[.bool false, .slice A l c] 99)).alloc (.cells #[.bool false, .slice A l c] 99))
  subst hl
  go_enter Try.func122, Try.ntmps122
  go_wp2
  refine bodyPost_ret (v := .agg #[.bool false, .slice A 0 c]) (by simp [results, Try.results122, go_sem, *]) rfl ?_
  exact ⟨rfl, HX.out⟩

set_option maxHeartbeats 1000000 in
theorem rsign_neg (A : Option Addr) (l c : Nat) (w : World) (hl : 0 < l) :
    Calls Try.prog 118 #[.agg #[.bool true, .slice A l c]] w fun e w' => e = .returned (.int .i64 (-1)) ∧ Ext w w' := by
  have HX := Lib.hid ((Ext.refl w).alloc (.cells #[.bool true, .slice A l c] 99))
  have hl2 : ((l : Int) == 0) = false := by simp; omega
  go_enter Try.func118, Try.ntmps118
  go_wp2
  go_ret
  exact ⟨rfl, HX.out⟩

set_option maxHeartbeats 1000000 in
theorem rsign_pos (A : Option Addr) (l c : Nat) (w : World) (hl : 0 < l) :
    Calls Try.prog 118 #[.agg #[.bool false, .slice A l c]] w fun e w' => e = .returned (.int .i64 (1)) ∧ Ext w w' := by
  have HX := Lib.hid ((Ext.refl w).alloc (.cells #[.bool false, .slice A l c] 99))
  have hl2 : ((l : Int) == 0) = false := by simp; omega
  go_enter Try.func118, Try.ntmps118
  go_wp2
  go_ret
  exact ⟨rfl, HX.out⟩

set_option maxHeartbeats 1000000 in
theorem rsign_zero (A : Option Addr) (l c : Nat) (w : World) (hl : l = 0) :
    Calls Try.prog 118 #[.agg #[.bool false, .slice A l c]] w fun e w' => e = .returned (.int .i64 (0)) ∧ Ext w w' := by
  have HX := Lib.hid ((Ext.refl w).alloc (.cells #[.bool false, .slice A l c] 99))
  subst hl
  go_enter Try.func118, Try.ntmps118
  go_wp2
  go_ret
  exact ⟨rfl, HX.out⟩

theorem IntZ.parts {w : World} {v : Value} {z : Int} (h : IntZ w v z) : ∃ A l c, v = .agg #[.bool (decide (z < 0)), .slice A l c] ∧ Z16 w (.slice A l c) z.natAbs ∧ (z = 0 ↔ l = 0) := by
  obtain ⟨A, l, c, rfl, hz⟩ := h
  have hz' := hz
  obtain ⟨A', l', c', xs, e, hI, hr, _⟩ := hz'
  injection e with e1 e2 e3
  subst e1 e2 e3
  have hp := hr.pos (by omega)
  rw [← List.length_eq_zero_iff, hI.1] at hp
  exact ⟨A, l, c, rfl, hz, by rw [← hp]; omega⟩
theorem rsign_any (v : Value) (z : Int) (w : World) (h : IntZ w v z) : Calls Try.prog 118 #[v] w fun e w' => e = .returned (.int .i64 (sgI z)) ∧ Ext w w' := by
  obtain ⟨A, l, c, rfl, hz, hl⟩ := h.parts
  rcases Int.lt_trichotomy z 0 with h | h | h
  · rw [decide_eq_true h, show sgI z = -1 by simp [sgI, h]]
    exact rsign_neg A l c w (by rcases Nat.eq_zero_or_pos l with h0 | h0; have := hl.2 h0; omega; exact h0)
  · rw [decide_eq_false (by omega), h]
    exact rsign_zero A l c w (hl.1 h)
  · rw [decide_eq_false (by omega), show sgI z = 1 by simp [sgI, h, show ¬ z < 0 by omega]]
    exact rsign_pos A l c w (by rcases Nat.eq_zero_or_pos l with h0 | h0; have := hl.2 h0; omega; exact h0)

theorem rminus_any (v : Value) (z : Int) (w : World) (h : IntZ w v z) : Calls Try.prog 122 #[v] w (RetZ w (-z)) := by
  obtain ⟨A, l, c, rfl, hz⟩ := h
  have hz' := hz
  obtain ⟨A', l', c', xs, e, hI, hr, _⟩ := hz'
  injection e with e1 e2 e3
  subst e1 e2 e3
  have hp := hr.pos (by omega)
  rw [← List.length_eq_zero_iff, hI.1] at hp
  have hab : (-z).natAbs = z.natAbs := Int.natAbs_neg z
  rcases Int.lt_trichotomy z 0 with h | h | h
  · rw [decide_eq_true h]
    refine (rminus_neg A l c w).mono ?_
    rintro e w' ⟨rfl, hX⟩
    exact ⟨_, rfl, ⟨A, l, c, by rw [decide_eq_false (by omega)], by rw [hab]; exact hz.ext hX⟩, hX⟩
  · rw [decide_eq_false (by omega)]
    refine (rminus_zero A l c w (hp.1 (by omega))).mono ?_
    rintro e w' ⟨rfl, hX⟩
    exact ⟨_, rfl, ⟨A, l, c, by rw [decide_eq_false (by omega)], by rw [hab]; exact hz.ext hX⟩, hX⟩
  · rw [decide_eq_false (by omega)]
    refine (rminus_pos A l c w (by rcases Nat.eq_zero_or_pos l with h0 | h0; have := hp.2 h0; omega; exact h0)).mono ?_
    rintro e w' ⟨rfl, hX⟩
    exact ⟨_, rfl, ⟨A, l, c, by rw [decide_eq_true (by omega)], by rw [hab]; exact hz.ext hX⟩, hX⟩

end Go.Proofs.Ytagcgldhhdecjaa
namespace Go.Proofs.Ytagcgldhhdecjaa
open Go.RowKit

theorem Z16.two {w : World} {v : Value} {n g : Nat} (h : Z16 w v n) (hN : NoInts w g) (b : Bool) (A : Option Addr) (l c : Nat) : Z16 ((w.setCell ⟨g, 0, none⟩ (.bool b)).setCell ⟨g, 1, none⟩ (.slice A l c)) v n :=
  nats_past (nats_past h hN 0 _) (hN.set 0 (noInt_bool _)) 1 _
theorem Z16.box3 {w : World} {v : Value} {n g : Nat} (h : Z16 w v n) (hN : NoInts w g) (b : Bool) (A B : Option Addr) (l c m k : Nat) : Z16 (((w.setCell ⟨g, 0, none⟩ (.bool b)).setCell ⟨g, 1, none⟩ (.slice A l c)).setCell ⟨g, 2, none⟩ (.slice B m k)) v n :=
  nats_past (h.two hN b A l c) ((hN.set 0 (noInt_bool _)).set 1 (noInt_slice _ _ _)) 2 _
theorem Z16.open {w : World} {v : Value} {n : Nat} (h : Z16 w v n) : ∃ A l c, v = .slice A l c ∧ Z16 w (.slice A l c) n ∧ (l = 0 ↔ n = 0) := by
  obtain ⟨A, l, c, xs, rfl, hI, hr, h3⟩ := h
  have hp := hr.pos (by omega)
  rw [← List.length_eq_zero_iff, hI.1] at hp
  exact ⟨A, l, c, rfl, ⟨A, l, c, xs, rfl, hI, hr, h3⟩, by rw [← hp]⟩
/-- What a call returns that makes a sign and limbs. -/
def RetBn (w : World) (b : Bool) (n : Nat) (e : Ending) (w' : World) : Prop := ∃ A l c, e = .returned (.agg #[.bool b, .slice A l c]) ∧ Z16 w' (.slice A l c) n ∧ Ext w w'

set_option maxRecDepth 100000 in
set_option maxHeartbeats 2000000 in
theorem zadd_r2 (ga gb L : Nat) (s0 s1 : Bool) (A0 A1 : Option Addr) (l0 c0 l1 c1 n0 n1 : Nat) (w : World) (x0 : w.cell? ⟨ga, 0, none⟩ = some (.bool s0)) (x1 : w.cell? ⟨ga, 1, none⟩ = some (.slice A0 l0 c0)) (y0 : w.cell? ⟨gb, 0, none⟩ = some (.bool s1)) (y1 : w.cell? ⟨gb, 1, none⟩ = some (.slice A1 l1 c1)) (hx : Z16 w (.slice A0 l0 c0) n0) (hy : Z16 w (.slice A1 l1 c1) n1) (fn : Fit 65536 n0 L) (fm : Fit 65536 n1 L) (hL : L ≤ 1000000) (a : Act) (Q : Exit → Act → World → Prop) (hsize : 18 ≤ a.tmps.size)
    (s2 : a.tmps[2]? = some (.pointer (some ⟨ga, 0, none⟩)))
    (s3 : a.tmps[3]? = some (.pointer (some ⟨gb, 0, none⟩)))
    (hend : ∀ (xv0 xv1 xv2 xv3 xv4 xv5 xv6 : Value) (W : World), (xv0 = .pointer (some ⟨ga, 0, none⟩)) → (xv1 = .bool s0) → (xv2 = .pointer (some ⟨ga, 1, none⟩)) → (xv3 = .slice A0 l0 c0) → (xv4 = .pointer (some ⟨gb, 1, none⟩)) → (xv5 = .slice A1 l1 c1) → (Z16 W xv6 (n0 + n1)) → Ext w W → wpList Try.prog (rops Try.f113 2).toArray Q ((rops Try.f113 2).drop 7) (((((((a.put (some 11) xv0).put (some 12) xv1).put (some 13) xv2).put (some 14) xv3).put (some 15) xv4).put (some 16) xv5).put (some 17) xv6) W) :
    (Code.region 2 (rops Try.f113 2).toArray true).wp Try.prog Q a w := by
  have hmono : ∀ (W W' : World) (j : Nat) (u : Value), Ext W W' → (fun (i : Nat) (v : Value) (W : World) => match i with
    | 0 => v = .pointer (some ⟨ga, 0, none⟩)
    | 1 => v = .bool s0
    | 2 => v = .pointer (some ⟨ga, 1, none⟩)
    | 3 => v = .slice A0 l0 c0
    | 4 => v = .pointer (some ⟨gb, 1, none⟩)
    | 5 => v = .slice A1 l1 c1
    | 6 => Z16 W v (n0 + n1)
    | _ => True) j u W → (fun (i : Nat) (v : Value) (W : World) => match i with
    | 0 => v = .pointer (some ⟨ga, 0, none⟩)
    | 1 => v = .bool s0
    | 2 => v = .pointer (some ⟨ga, 1, none⟩)
    | 3 => v = .slice A0 l0 c0
    | 4 => v = .pointer (some ⟨gb, 1, none⟩)
    | 5 => v = .slice A1 l1 c1
    | 6 => Z16 W v (n0 + n1)
    | _ => True) j u W' := by
    intro W W' j u hX h
    match j, h with
    | 0, h => exact h
    | 1, h => exact h
    | 2, h => exact h
    | 3, h => exact h
    | 4, h => exact h
    | 5, h => exact h
    | 6, h => exact Z16.ext h hX
    | _ + 7, h => exact h
  have hsz : ∀ d, some d ∈ ([some 11, some 12, some 13, some 14, some 15, some 16, some 17] : List (Option Tmp)) → d < a.tmps.size := slots_lt (by decide) hsize
  refine wp_region_j 7 [some 11, some 12, some 13, some 14, some 15, some 16, some 17] [[], [0], [], [2], [], [4], [3, 5]] [[], [], [], [], [], [], []] (fun (i : Nat) (v : Value) (W : World) => match i with
    | 0 => v = .pointer (some ⟨ga, 0, none⟩)
    | 1 => v = .bool s0
    | 2 => v = .pointer (some ⟨ga, 1, none⟩)
    | 3 => v = .slice A0 l0 c0
    | 4 => v = .pointer (some ⟨gb, 1, none⟩)
    | 5 => v = .slice A1 l1 c1
    | 6 => Z16 W v (n0 + n1)
    | _ => True) (fun _ W => Ext w W) (by kernel_rfl) (by kernel_rfl) hsz (fun _ _ _ _ h => h) ((Ext.refl w).drew) ?_ ?_
  · clear hend
    simp only [rops, Try.f113, regOf, Option.bind_some, Nat.reduceBEq, if_true, if_false, Bool.false_eq_true, Option.getD_some]
    simp only [List.take_succ_cons, List.take_zero]
    refine ⟨?_, ?_, ?_, ?_, ?_, ?_, ?_, trivial⟩
    · intro done us W hJ hdep haft hnot b hb hb' K hK Q'
      have e2 := (hb' 2 (by simp)).trans s2
      clear hb hb'
      go_simp
      exact hK _ _ rfl (fun _ _ _ h => h) hJ
    · intro done us W hJ hdep haft hnot b hb hb' K hK Q'
      simp only [List.getD_cons_succ, List.getD_cons_zero, List.mem_cons, List.not_mem_nil, or_false, forall_eq_or_imp, forall_eq] at hdep
      have e11 := hb 0 11 rfl
      have d0 := hdep
      rw [d0.1] at e11
      clear hb hb' hdep d0
      have q := Ext.cell hJ x0
      go_simp
      exact hK _ _ rfl (fun _ _ _ h => h) hJ
    · intro done us W hJ hdep haft hnot b hb hb' K hK Q'
      have e2 := (hb' 2 (by simp)).trans s2
      clear hb hb'
      go_simp
      exact hK _ _ rfl (fun _ _ _ h => h) hJ
    · intro done us W hJ hdep haft hnot b hb hb' K hK Q'
      simp only [List.getD_cons_succ, List.getD_cons_zero, List.mem_cons, List.not_mem_nil, or_false, forall_eq_or_imp, forall_eq] at hdep
      have e13 := hb 2 13 rfl
      have d2 := hdep
      rw [d2.1] at e13
      clear hb hb' hdep d2
      have q := Ext.cell hJ x1
      go_simp
      exact hK _ _ rfl (fun _ _ _ h => h) hJ
    · intro done us W hJ hdep haft hnot b hb hb' K hK Q'
      have e3 := (hb' 3 (by simp)).trans s3
      clear hb hb'
      go_simp
      exact hK _ _ rfl (fun _ _ _ h => h) hJ
    · intro done us W hJ hdep haft hnot b hb hb' K hK Q'
      simp only [List.getD_cons_succ, List.getD_cons_zero, List.mem_cons, List.not_mem_nil, or_false, forall_eq_or_imp, forall_eq] at hdep
      have e15 := hb 4 15 rfl
      have d4 := hdep
      rw [d4.1] at e15
      clear hb hb' hdep d4
      have q := Ext.cell hJ y1
      go_simp
      exact hK _ _ rfl (fun _ _ _ h => h) hJ
    · intro done us W hJ hdep haft hnot b hb hb' K hK Q'
      simp only [List.getD_cons_succ, List.getD_cons_zero, List.mem_cons, List.not_mem_nil, or_false, forall_eq_or_imp, forall_eq] at hdep
      have e14 := hb 3 14 rfl
      have e16 := hb 5 16 rfl
      have d3 := hdep.1
      have d5 := hdep.2
      rw [d3.1] at e14
      rw [d5.1] at e16
      clear hb hb' hdep d3 d5
      go_simp
      refine (plus_any _ _ n0 n1 L _ (Z16.ext hx hJ) (Z16.ext hy hJ) fn fm hL).mono ?_
      rintro e w' ⟨v, rfl, hv, hX⟩
      exact hK _ _ hv (fun j u _ h => hmono _ _ j u hX h) (Ext.trans hJ hX)
  · intro us W hV hJ
    exact hend (us 0) (us 1) (us 2) (us 3) (us 4) (us 5) (us 6) W (hV 0 (by omega)) (hV 1 (by omega)) (hV 2 (by omega)) (hV 3 (by omega)) (hV 4 (by omega)) (hV 5 (by omega)) (hV 6 (by omega)) hJ
set_option maxRecDepth 100000 in
set_option maxHeartbeats 2000000 in
theorem zadd_r7 (ga gb L : Nat) (s0 s1 : Bool) (A0 A1 : Option Addr) (l0 c0 l1 c1 n0 n1 : Nat) (w : World) (x0 : w.cell? ⟨ga, 0, none⟩ = some (.bool s0)) (x1 : w.cell? ⟨ga, 1, none⟩ = some (.slice A0 l0 c0)) (y0 : w.cell? ⟨gb, 0, none⟩ = some (.bool s1)) (y1 : w.cell? ⟨gb, 1, none⟩ = some (.slice A1 l1 c1)) (hx : Z16 w (.slice A0 l0 c0) n0) (hy : Z16 w (.slice A1 l1 c1) n1) (fn : Fit 65536 n0 L) (fm : Fit 65536 n1 L) (hL : L ≤ 1000000) (hm : n1 ≤ n0) (a : Act) (Q : Exit → Act → World → Prop) (hsize : 36 ≤ a.tmps.size)
    (s2 : a.tmps[2]? = some (.pointer (some ⟨ga, 0, none⟩)))
    (s3 : a.tmps[3]? = some (.pointer (some ⟨gb, 0, none⟩)))
    (hend : ∀ (xv0 xv1 xv2 xv3 xv4 xv5 xv6 : Value) (W : World), (xv0 = .pointer (some ⟨ga, 0, none⟩)) → (xv1 = .bool s0) → (xv2 = .pointer (some ⟨ga, 1, none⟩)) → (xv3 = .slice A0 l0 c0) → (xv4 = .pointer (some ⟨gb, 1, none⟩)) → (xv5 = .slice A1 l1 c1) → (Z16 W xv6 (n0 - n1)) → Ext w W → wpList Try.prog (rops Try.f113 7).toArray Q ((rops Try.f113 7).drop 7) (((((((a.put (some 29) xv0).put (some 30) xv1).put (some 31) xv2).put (some 32) xv3).put (some 33) xv4).put (some 34) xv5).put (some 35) xv6) W) :
    (Code.region 7 (rops Try.f113 7).toArray true).wp Try.prog Q a w := by
  have hmono : ∀ (W W' : World) (j : Nat) (u : Value), Ext W W' → (fun (i : Nat) (v : Value) (W : World) => match i with
    | 0 => v = .pointer (some ⟨ga, 0, none⟩)
    | 1 => v = .bool s0
    | 2 => v = .pointer (some ⟨ga, 1, none⟩)
    | 3 => v = .slice A0 l0 c0
    | 4 => v = .pointer (some ⟨gb, 1, none⟩)
    | 5 => v = .slice A1 l1 c1
    | 6 => Z16 W v (n0 - n1)
    | _ => True) j u W → (fun (i : Nat) (v : Value) (W : World) => match i with
    | 0 => v = .pointer (some ⟨ga, 0, none⟩)
    | 1 => v = .bool s0
    | 2 => v = .pointer (some ⟨ga, 1, none⟩)
    | 3 => v = .slice A0 l0 c0
    | 4 => v = .pointer (some ⟨gb, 1, none⟩)
    | 5 => v = .slice A1 l1 c1
    | 6 => Z16 W v (n0 - n1)
    | _ => True) j u W' := by
    intro W W' j u hX h
    match j, h with
    | 0, h => exact h
    | 1, h => exact h
    | 2, h => exact h
    | 3, h => exact h
    | 4, h => exact h
    | 5, h => exact h
    | 6, h => exact Z16.ext h hX
    | _ + 7, h => exact h
  have hsz : ∀ d, some d ∈ ([some 29, some 30, some 31, some 32, some 33, some 34, some 35] : List (Option Tmp)) → d < a.tmps.size := slots_lt (by decide) hsize
  refine wp_region_j 7 [some 29, some 30, some 31, some 32, some 33, some 34, some 35] [[], [0], [], [2], [], [4], [3, 5]] [[], [], [], [], [], [], []] (fun (i : Nat) (v : Value) (W : World) => match i with
    | 0 => v = .pointer (some ⟨ga, 0, none⟩)
    | 1 => v = .bool s0
    | 2 => v = .pointer (some ⟨ga, 1, none⟩)
    | 3 => v = .slice A0 l0 c0
    | 4 => v = .pointer (some ⟨gb, 1, none⟩)
    | 5 => v = .slice A1 l1 c1
    | 6 => Z16 W v (n0 - n1)
    | _ => True) (fun _ W => Ext w W) (by kernel_rfl) (by kernel_rfl) hsz (fun _ _ _ _ h => h) ((Ext.refl w).drew) ?_ ?_
  · clear hend
    simp only [rops, Try.f113, regOf, Option.bind_some, Nat.reduceBEq, if_true, if_false, Bool.false_eq_true, Option.getD_some]
    simp only [List.take_succ_cons, List.take_zero]
    refine ⟨?_, ?_, ?_, ?_, ?_, ?_, ?_, trivial⟩
    · intro done us W hJ hdep haft hnot b hb hb' K hK Q'
      have e2 := (hb' 2 (by simp)).trans s2
      clear hb hb'
      go_simp
      exact hK _ _ rfl (fun _ _ _ h => h) hJ
    · intro done us W hJ hdep haft hnot b hb hb' K hK Q'
      simp only [List.getD_cons_succ, List.getD_cons_zero, List.mem_cons, List.not_mem_nil, or_false, forall_eq_or_imp, forall_eq] at hdep
      have e29 := hb 0 29 rfl
      have d0 := hdep
      rw [d0.1] at e29
      clear hb hb' hdep d0
      have q := Ext.cell hJ x0
      go_simp
      exact hK _ _ rfl (fun _ _ _ h => h) hJ
    · intro done us W hJ hdep haft hnot b hb hb' K hK Q'
      have e2 := (hb' 2 (by simp)).trans s2
      clear hb hb'
      go_simp
      exact hK _ _ rfl (fun _ _ _ h => h) hJ
    · intro done us W hJ hdep haft hnot b hb hb' K hK Q'
      simp only [List.getD_cons_succ, List.getD_cons_zero, List.mem_cons, List.not_mem_nil, or_false, forall_eq_or_imp, forall_eq] at hdep
      have e31 := hb 2 31 rfl
      have d2 := hdep
      rw [d2.1] at e31
      clear hb hb' hdep d2
      have q := Ext.cell hJ x1
      go_simp
      exact hK _ _ rfl (fun _ _ _ h => h) hJ
    · intro done us W hJ hdep haft hnot b hb hb' K hK Q'
      have e3 := (hb' 3 (by simp)).trans s3
      clear hb hb'
      go_simp
      exact hK _ _ rfl (fun _ _ _ h => h) hJ
    · intro done us W hJ hdep haft hnot b hb hb' K hK Q'
      simp only [List.getD_cons_succ, List.getD_cons_zero, List.mem_cons, List.not_mem_nil, or_false, forall_eq_or_imp, forall_eq] at hdep
      have e33 := hb 4 33 rfl
      have d4 := hdep
      rw [d4.1] at e33
      clear hb hb' hdep d4
      have q := Ext.cell hJ y1
      go_simp
      exact hK _ _ rfl (fun _ _ _ h => h) hJ
    · intro done us W hJ hdep haft hnot b hb hb' K hK Q'
      simp only [List.getD_cons_succ, List.getD_cons_zero, List.mem_cons, List.not_mem_nil, or_false, forall_eq_or_imp, forall_eq] at hdep
      have e32 := hb 3 32 rfl
      have e34 := hb 5 34 rfl
      have d3 := hdep.1
      have d5 := hdep.2
      rw [d3.1] at e32
      rw [d5.1] at e34
      clear hb hb' hdep d3 d5
      go_simp
      refine (less_any _ _ n0 n1 L _ (Z16.ext hx hJ) (Z16.ext hy hJ) fn hL hm).mono ?_
      rintro e w' ⟨v, rfl, hv, hX⟩
      exact hK _ _ hv (fun j u _ h => hmono _ _ j u hX h) (Ext.trans hJ hX)
  · intro us W hV hJ
    exact hend (us 0) (us 1) (us 2) (us 3) (us 4) (us 5) (us 6) W (hV 0 (by omega)) (hV 1 (by omega)) (hV 2 (by omega)) (hV 3 (by omega)) (hV 4 (by omega)) (hV 5 (by omega)) (hV 6 (by omega)) hJ
set_option maxRecDepth 100000 in
set_option maxHeartbeats 2000000 in
theorem zadd_r8 (ga gb L : Nat) (s0 s1 : Bool) (A0 A1 : Option Addr) (l0 c0 l1 c1 n0 n1 : Nat) (w : World) (x0 : w.cell? ⟨ga, 0, none⟩ = some (.bool s0)) (x1 : w.cell? ⟨ga, 1, none⟩ = some (.slice A0 l0 c0)) (y0 : w.cell? ⟨gb, 0, none⟩ = some (.bool s1)) (y1 : w.cell? ⟨gb, 1, none⟩ = some (.slice A1 l1 c1)) (hx : Z16 w (.slice A0 l0 c0) n0) (hy : Z16 w (.slice A1 l1 c1) n1) (fn : Fit 65536 n0 L) (fm : Fit 65536 n1 L) (hL : L ≤ 1000000) (hm : n0 ≤ n1) (a : Act) (Q : Exit → Act → World → Prop) (hsize : 44 ≤ a.tmps.size)
    (s2 : a.tmps[2]? = some (.pointer (some ⟨ga, 0, none⟩)))
    (s3 : a.tmps[3]? = some (.pointer (some ⟨gb, 0, none⟩)))
    (hend : ∀ (xv0 xv1 xv2 xv3 xv4 xv5 xv6 : Value) (W : World), (xv0 = .pointer (some ⟨gb, 0, none⟩)) → (xv1 = .bool s1) → (xv2 = .pointer (some ⟨gb, 1, none⟩)) → (xv3 = .slice A1 l1 c1) → (xv4 = .pointer (some ⟨ga, 1, none⟩)) → (xv5 = .slice A0 l0 c0) → (Z16 W xv6 (n1 - n0)) → Ext w W → wpList Try.prog (rops Try.f113 8).toArray Q ((rops Try.f113 8).drop 7) (((((((a.put (some 37) xv0).put (some 38) xv1).put (some 39) xv2).put (some 40) xv3).put (some 41) xv4).put (some 42) xv5).put (some 43) xv6) W) :
    (Code.region 8 (rops Try.f113 8).toArray true).wp Try.prog Q a w := by
  have hmono : ∀ (W W' : World) (j : Nat) (u : Value), Ext W W' → (fun (i : Nat) (v : Value) (W : World) => match i with
    | 0 => v = .pointer (some ⟨gb, 0, none⟩)
    | 1 => v = .bool s1
    | 2 => v = .pointer (some ⟨gb, 1, none⟩)
    | 3 => v = .slice A1 l1 c1
    | 4 => v = .pointer (some ⟨ga, 1, none⟩)
    | 5 => v = .slice A0 l0 c0
    | 6 => Z16 W v (n1 - n0)
    | _ => True) j u W → (fun (i : Nat) (v : Value) (W : World) => match i with
    | 0 => v = .pointer (some ⟨gb, 0, none⟩)
    | 1 => v = .bool s1
    | 2 => v = .pointer (some ⟨gb, 1, none⟩)
    | 3 => v = .slice A1 l1 c1
    | 4 => v = .pointer (some ⟨ga, 1, none⟩)
    | 5 => v = .slice A0 l0 c0
    | 6 => Z16 W v (n1 - n0)
    | _ => True) j u W' := by
    intro W W' j u hX h
    match j, h with
    | 0, h => exact h
    | 1, h => exact h
    | 2, h => exact h
    | 3, h => exact h
    | 4, h => exact h
    | 5, h => exact h
    | 6, h => exact Z16.ext h hX
    | _ + 7, h => exact h
  have hsz : ∀ d, some d ∈ ([some 37, some 38, some 39, some 40, some 41, some 42, some 43] : List (Option Tmp)) → d < a.tmps.size := slots_lt (by decide) hsize
  refine wp_region_j 7 [some 37, some 38, some 39, some 40, some 41, some 42, some 43] [[], [0], [], [2], [], [4], [3, 5]] [[], [], [], [], [], [], []] (fun (i : Nat) (v : Value) (W : World) => match i with
    | 0 => v = .pointer (some ⟨gb, 0, none⟩)
    | 1 => v = .bool s1
    | 2 => v = .pointer (some ⟨gb, 1, none⟩)
    | 3 => v = .slice A1 l1 c1
    | 4 => v = .pointer (some ⟨ga, 1, none⟩)
    | 5 => v = .slice A0 l0 c0
    | 6 => Z16 W v (n1 - n0)
    | _ => True) (fun _ W => Ext w W) (by kernel_rfl) (by kernel_rfl) hsz (fun _ _ _ _ h => h) ((Ext.refl w).drew) ?_ ?_
  · clear hend
    simp only [rops, Try.f113, regOf, Option.bind_some, Nat.reduceBEq, if_true, if_false, Bool.false_eq_true, Option.getD_some]
    simp only [List.take_succ_cons, List.take_zero]
    refine ⟨?_, ?_, ?_, ?_, ?_, ?_, ?_, trivial⟩
    · intro done us W hJ hdep haft hnot b hb hb' K hK Q'
      have e3 := (hb' 3 (by simp)).trans s3
      clear hb hb'
      go_simp
      exact hK _ _ rfl (fun _ _ _ h => h) hJ
    · intro done us W hJ hdep haft hnot b hb hb' K hK Q'
      simp only [List.getD_cons_succ, List.getD_cons_zero, List.mem_cons, List.not_mem_nil, or_false, forall_eq_or_imp, forall_eq] at hdep
      have e37 := hb 0 37 rfl
      have d0 := hdep
      rw [d0.1] at e37
      clear hb hb' hdep d0
      have q := Ext.cell hJ y0
      go_simp
      exact hK _ _ rfl (fun _ _ _ h => h) hJ
    · intro done us W hJ hdep haft hnot b hb hb' K hK Q'
      have e3 := (hb' 3 (by simp)).trans s3
      clear hb hb'
      go_simp
      exact hK _ _ rfl (fun _ _ _ h => h) hJ
    · intro done us W hJ hdep haft hnot b hb hb' K hK Q'
      simp only [List.getD_cons_succ, List.getD_cons_zero, List.mem_cons, List.not_mem_nil, or_false, forall_eq_or_imp, forall_eq] at hdep
      have e39 := hb 2 39 rfl
      have d2 := hdep
      rw [d2.1] at e39
      clear hb hb' hdep d2
      have q := Ext.cell hJ y1
      go_simp
      exact hK _ _ rfl (fun _ _ _ h => h) hJ
    · intro done us W hJ hdep haft hnot b hb hb' K hK Q'
      have e2 := (hb' 2 (by simp)).trans s2
      clear hb hb'
      go_simp
      exact hK _ _ rfl (fun _ _ _ h => h) hJ
    · intro done us W hJ hdep haft hnot b hb hb' K hK Q'
      simp only [List.getD_cons_succ, List.getD_cons_zero, List.mem_cons, List.not_mem_nil, or_false, forall_eq_or_imp, forall_eq] at hdep
      have e41 := hb 4 41 rfl
      have d4 := hdep
      rw [d4.1] at e41
      clear hb hb' hdep d4
      have q := Ext.cell hJ x1
      go_simp
      exact hK _ _ rfl (fun _ _ _ h => h) hJ
    · intro done us W hJ hdep haft hnot b hb hb' K hK Q'
      simp only [List.getD_cons_succ, List.getD_cons_zero, List.mem_cons, List.not_mem_nil, or_false, forall_eq_or_imp, forall_eq] at hdep
      have e40 := hb 3 40 rfl
      have e42 := hb 5 42 rfl
      have d3 := hdep.1
      have d5 := hdep.2
      rw [d3.1] at e40
      rw [d5.1] at e42
      clear hb hb' hdep d3 d5
      go_simp
      refine (less_any _ _ n1 n0 L _ (Z16.ext hy hJ) (Z16.ext hx hJ) fm hL hm).mono ?_
      rintro e w' ⟨v, rfl, hv, hX⟩
      exact hK _ _ hv (fun j u _ h => hmono _ _ j u hX h) (Ext.trans hJ hX)
  · intro us W hV hJ
    exact hend (us 0) (us 1) (us 2) (us 3) (us 4) (us 5) (us 6) W (hV 0 (by omega)) (hV 1 (by omega)) (hV 2 (by omega)) (hV 3 (by omega)) (hV 4 (by omega)) (hV 5 (by omega)) (hV 6 (by omega)) hJ
set_option maxRecDepth 100000 in
set_option maxHeartbeats 2000000 in
theorem zadd_same (s0 s1 : Bool) (A0 A1 : Option Addr) (l0 c0 l1 c1 n0 n1 : Nat) (L : Nat) (w : World) (hx : Z16 w (.slice A0 l0 c0) n0) (hy : Z16 w (.slice A1 l1 c1) n1) (fn : Fit 65536 n0 L) (fm : Fit 65536 n1 L) (hL : L ≤ 1000000) (hs : s0 = s1) :
    Calls Try.prog 113 #[.agg #[.bool s0, .slice A0 l0 c0], .agg #[.bool s1, .slice A1 l1 c1]] w (RetBn w s0 (n0 + n1)) := by
  have HXX := Lib.hid hx
  have HYY := Lib.hid hy
  have HFN := Lib.hid fn
  have HFM := Lib.hid fm
  clear hx hy fn fm
  have hb : (s0 == s1) = true := by simp [hs]
  have HS := Lib.hid hs
  clear hs
  have hXe : Ext w (((w.alloc (.cells #[.bool s0, .slice A0 l0 c0] 99)).alloc (.cells #[.bool s1, .slice A1 l1 c1] 99)).alloc (.cells #[.bool false, .slice none 0 0] 99)) := ((((Ext.refl w).alloc _).alloc _).alloc _)
  have kA : Blk (((w.alloc (.cells #[.bool s0, .slice A0 l0 c0] 99)).alloc (.cells #[.bool s1, .slice A1 l1 c1] 99)).alloc (.cells #[.bool false, .slice none 0 0] 99)) w.heap.size 99 #[.bool s0, .slice A0 l0 c0] := Blk.alloc (Blk.alloc (Blk.at_ (by simp)) _) _
  have kB : Blk (((w.alloc (.cells #[.bool s0, .slice A0 l0 c0] 99)).alloc (.cells #[.bool s1, .slice A1 l1 c1] 99)).alloc (.cells #[.bool false, .slice none 0 0] 99)) (w.heap.size + 1) 99 #[.bool s1, .slice A1 l1 c1] := Blk.alloc (Blk.at_ (by simp)) _
  have kR : Blk (((w.alloc (.cells #[.bool s0, .slice A0 l0 c0] 99)).alloc (.cells #[.bool s1, .slice A1 l1 c1] 99)).alloc (.cells #[.bool false, .slice none 0 0] 99)) (w.heap.size + 2) 99 #[.bool false, .slice none 0 0] := Blk.at_ (by simp)
  go_enter Try.func113, Try.ntmps113
  go_wp2_with fail
  generalize (((w.alloc (.cells #[.bool s0, .slice A0 l0 c0] 99)).alloc (.cells #[.bool s1, .slice A1 l1 c1] 99)).alloc (.cells #[.bool false, .slice none 0 0] 99)) = w1 at hXe kA kB kR ⊢
  have HX := Lib.hid hXe
  clear hXe
  have KA := Lib.hid kA
  clear kA
  have KB := Lib.hid kB
  clear kB
  have KR := Lib.hid kR
  clear kR
  replace HXX := Lib.hid (HXX.out.ext HX.out)
  replace HYY := Lib.hid (HYY.out.ext HX.out)
  have cA0 : w1.cell? ⟨w.heap.size, 0, none⟩ = some (.bool s0) := KA.out.cell 0
  have cA1 : w1.cell? ⟨w.heap.size, 1, none⟩ = some (.slice A0 l0 c0) := KA.out.cell 1
  have cB0 : w1.cell? ⟨(w.heap.size + 1), 0, none⟩ = some (.bool s1) := KB.out.cell 0
  have cB1 : w1.cell? ⟨(w.heap.size + 1), 1, none⟩ = some (.slice A1 l1 c1) := KB.out.cell 1
  go_upto_region 2 with (fail)
  clear cA0 cA1 cB0 cB1
  refine zadd_r2 w.heap.size (w.heap.size + 1) L s0 s1 A0 A1 l0 c0 l1 c1 n0 n1 w1 (KA.out.cell 0) (KA.out.cell 1) (KB.out.cell 0) (KB.out.cell 1) HXX.out HYY.out HFN.out HFM.out hL _ _ (by simp) rfl rfl ?_
  rintro xv0 xv1 xv2 xv3 xv4 xv5 xv6 w2 rfl rfl rfl rfl rfl rfl hv hXW
  simp only [rops, Try.f113, regOf, Option.bind_some, Nat.reduceBEq, if_true, if_false, Bool.false_eq_true, Option.getD_some, List.drop_succ_cons, List.drop_zero]
  simp only [Act.put, List.setIfInBounds_toArray, List.set_cons_succ, List.set_cons_zero]
  replace HX := Lib.hid (HX.out.trans hXW)
  replace HXX := Lib.hid (HXX.out.ext hXW)
  replace HYY := Lib.hid (HYY.out.ext hXW)
  replace KA := Lib.hid (KA.out.ext hXW)
  replace KB := Lib.hid (KB.out.ext hXW)
  replace KR := Lib.hid (KR.out.ext hXW)
  clear hXW
  obtain ⟨A9, l9, c9, rfl, hv9, _⟩ := Z16.open hv
  have HV := Lib.hid (Z16.two hv9 (NoInts.two KR.out) s0 A9 l9 c9)
  clear hv hv9
  have cR0 : w2.cell? ⟨(w.heap.size + 2), 0, none⟩ = some (.bool false) := KR.out.cell 0
  have fR0 : w2.frozen? ⟨(w.heap.size + 2), 0, none⟩ = false := KR.out.free 0
  have cR1 : w2.cell? ⟨(w.heap.size + 2), 1, none⟩ = some (.slice none 0 0) := KR.out.cell 1
  have fR1 : w2.frozen? ⟨(w.heap.size + 2), 1, none⟩ = false := KR.out.free 1
  go_wp2
  refine bodyPost_ret (v := .agg #[.bool s0, .slice A9 l9 c9]) (by simp [results, Try.results113, go_sem, *]) rfl ?_
  exact ⟨_, _, _, rfl, HV.out, HX.out.two (by omega) _ _⟩

set_option maxRecDepth 100000 in
set_option maxHeartbeats 2000000 in
theorem zadd_eq (s0 s1 : Bool) (A0 A1 : Option Addr) (l0 c0 l1 c1 n0 n1 : Nat) (L : Nat) (w : World) (hx : Z16 w (.slice A0 l0 c0) n0) (hy : Z16 w (.slice A1 l1 c1) n1) (fn : Fit 65536 n0 L) (fm : Fit 65536 n1 L) (hL : L ≤ 1000000) (hs : s0 ≠ s1) (hm : n0 = n1) :
    Calls Try.prog 113 #[.agg #[.bool s0, .slice A0 l0 c0], .agg #[.bool s1, .slice A1 l1 c1]] w (RetBn w false 0) := by
  have HXX := Lib.hid hx
  have HYY := Lib.hid hy
  have HFN := Lib.hid fn
  have HFM := Lib.hid fm
  clear hx hy fn fm
  have hb : (s0 == s1) = false := by simpa using hs
  have HC : Hid (cmpI n0 n1 = 0) := cmpI_eq hm
  have HM := Lib.hid hm
  clear hs hm
  have hXe : Ext w (((w.alloc (.cells #[.bool s0, .slice A0 l0 c0] 99)).alloc (.cells #[.bool s1, .slice A1 l1 c1] 99)).alloc (.cells #[.bool false, .slice none 0 0] 99)) := ((((Ext.refl w).alloc _).alloc _).alloc _)
  have kA : Blk (((w.alloc (.cells #[.bool s0, .slice A0 l0 c0] 99)).alloc (.cells #[.bool s1, .slice A1 l1 c1] 99)).alloc (.cells #[.bool false, .slice none 0 0] 99)) w.heap.size 99 #[.bool s0, .slice A0 l0 c0] := Blk.alloc (Blk.alloc (Blk.at_ (by simp)) _) _
  have kB : Blk (((w.alloc (.cells #[.bool s0, .slice A0 l0 c0] 99)).alloc (.cells #[.bool s1, .slice A1 l1 c1] 99)).alloc (.cells #[.bool false, .slice none 0 0] 99)) (w.heap.size + 1) 99 #[.bool s1, .slice A1 l1 c1] := Blk.alloc (Blk.at_ (by simp)) _
  have kR : Blk (((w.alloc (.cells #[.bool s0, .slice A0 l0 c0] 99)).alloc (.cells #[.bool s1, .slice A1 l1 c1] 99)).alloc (.cells #[.bool false, .slice none 0 0] 99)) (w.heap.size + 2) 99 #[.bool false, .slice none 0 0] := Blk.at_ (by simp)
  go_enter Try.func113, Try.ntmps113
  go_wp2_with fail
  generalize (((w.alloc (.cells #[.bool s0, .slice A0 l0 c0] 99)).alloc (.cells #[.bool s1, .slice A1 l1 c1] 99)).alloc (.cells #[.bool false, .slice none 0 0] 99)) = w1 at hXe kA kB kR ⊢
  have HX := Lib.hid hXe
  clear hXe
  have KA := Lib.hid kA
  clear kA
  have KB := Lib.hid kB
  clear kB
  have KR := Lib.hid kR
  clear kR
  replace HXX := Lib.hid (HXX.out.ext HX.out)
  replace HYY := Lib.hid (HYY.out.ext HX.out)
  have cA0 : w1.cell? ⟨w.heap.size, 0, none⟩ = some (.bool s0) := KA.out.cell 0
  have cA1 : w1.cell? ⟨w.heap.size, 1, none⟩ = some (.slice A0 l0 c0) := KA.out.cell 1
  have cB0 : w1.cell? ⟨(w.heap.size + 1), 0, none⟩ = some (.bool s1) := KB.out.cell 0
  have cB1 : w1.cell? ⟨(w.heap.size + 1), 1, none⟩ = some (.slice A1 l1 c1) := KB.out.cell 1
  go_wp2_with fail
  clear cA0 cA1 cB0 cB1
  refine (compare_any _ _ n0 n1 _ HXX.out HYY.out).mono ?_
  rw [HC.out]
  rintro e w2 ⟨rfl, hX⟩
  replace hX : Ext w1 w2 := by with_reducible exact hX
  replace HX := Lib.hid (HX.out.trans hX)
  replace HXX := Lib.hid (HXX.out.ext hX)
  replace HYY := Lib.hid (HYY.out.ext hX)
  replace KA := Lib.hid (KA.out.ext hX)
  replace KB := Lib.hid (KB.out.ext hX)
  replace KR := Lib.hid (KR.out.ext hX)
  clear hX
  have cR0 : w2.cell? ⟨(w.heap.size + 2), 0, none⟩ = some (.bool false) := KR.out.cell 0
  have fR0 : w2.frozen? ⟨(w.heap.size + 2), 0, none⟩ = false := KR.out.free 0
  have cR1 : w2.cell? ⟨(w.heap.size + 2), 1, none⟩ = some (.slice none 0 0) := KR.out.cell 1
  have fR1 : w2.frozen? ⟨(w.heap.size + 2), 1, none⟩ = false := KR.out.free 1
  go_wp2
  refine bodyPost_ret (v := .agg #[.bool false, .slice none 0 0]) (by simp [results, Try.results113, go_sem, *]) rfl ?_
  exact ⟨_, _, _, rfl, NatV.zero, HX.out.two (by omega) _ _⟩

set_option maxRecDepth 100000 in
set_option maxHeartbeats 2000000 in
theorem zadd_gt (s0 s1 : Bool) (A0 A1 : Option Addr) (l0 c0 l1 c1 n0 n1 : Nat) (L : Nat) (w : World) (hx : Z16 w (.slice A0 l0 c0) n0) (hy : Z16 w (.slice A1 l1 c1) n1) (fn : Fit 65536 n0 L) (fm : Fit 65536 n1 L) (hL : L ≤ 1000000) (hs : s0 ≠ s1) (hm : n1 < n0) :
    Calls Try.prog 113 #[.agg #[.bool s0, .slice A0 l0 c0], .agg #[.bool s1, .slice A1 l1 c1]] w (RetBn w s0 (n0 - n1)) := by
  have HXX := Lib.hid hx
  have HYY := Lib.hid hy
  have HFN := Lib.hid fn
  have HFM := Lib.hid fm
  clear hx hy fn fm
  have hb : (s0 == s1) = false := by simpa using hs
  have HC : Hid (cmpI n0 n1 = 1) := cmpI_gt hm
  have HM := Lib.hid hm
  clear hs hm
  have hXe : Ext w (((w.alloc (.cells #[.bool s0, .slice A0 l0 c0] 99)).alloc (.cells #[.bool s1, .slice A1 l1 c1] 99)).alloc (.cells #[.bool false, .slice none 0 0] 99)) := ((((Ext.refl w).alloc _).alloc _).alloc _)
  have kA : Blk (((w.alloc (.cells #[.bool s0, .slice A0 l0 c0] 99)).alloc (.cells #[.bool s1, .slice A1 l1 c1] 99)).alloc (.cells #[.bool false, .slice none 0 0] 99)) w.heap.size 99 #[.bool s0, .slice A0 l0 c0] := Blk.alloc (Blk.alloc (Blk.at_ (by simp)) _) _
  have kB : Blk (((w.alloc (.cells #[.bool s0, .slice A0 l0 c0] 99)).alloc (.cells #[.bool s1, .slice A1 l1 c1] 99)).alloc (.cells #[.bool false, .slice none 0 0] 99)) (w.heap.size + 1) 99 #[.bool s1, .slice A1 l1 c1] := Blk.alloc (Blk.at_ (by simp)) _
  have kR : Blk (((w.alloc (.cells #[.bool s0, .slice A0 l0 c0] 99)).alloc (.cells #[.bool s1, .slice A1 l1 c1] 99)).alloc (.cells #[.bool false, .slice none 0 0] 99)) (w.heap.size + 2) 99 #[.bool false, .slice none 0 0] := Blk.at_ (by simp)
  go_enter Try.func113, Try.ntmps113
  go_wp2_with fail
  generalize (((w.alloc (.cells #[.bool s0, .slice A0 l0 c0] 99)).alloc (.cells #[.bool s1, .slice A1 l1 c1] 99)).alloc (.cells #[.bool false, .slice none 0 0] 99)) = w1 at hXe kA kB kR ⊢
  have HX := Lib.hid hXe
  clear hXe
  have KA := Lib.hid kA
  clear kA
  have KB := Lib.hid kB
  clear kB
  have KR := Lib.hid kR
  clear kR
  replace HXX := Lib.hid (HXX.out.ext HX.out)
  replace HYY := Lib.hid (HYY.out.ext HX.out)
  have cA0 : w1.cell? ⟨w.heap.size, 0, none⟩ = some (.bool s0) := KA.out.cell 0
  have cA1 : w1.cell? ⟨w.heap.size, 1, none⟩ = some (.slice A0 l0 c0) := KA.out.cell 1
  have cB0 : w1.cell? ⟨(w.heap.size + 1), 0, none⟩ = some (.bool s1) := KB.out.cell 0
  have cB1 : w1.cell? ⟨(w.heap.size + 1), 1, none⟩ = some (.slice A1 l1 c1) := KB.out.cell 1
  go_wp2_with fail
  clear cA0 cA1 cB0 cB1
  refine (compare_any _ _ n0 n1 _ HXX.out HYY.out).mono ?_
  rw [HC.out]
  rintro e w2 ⟨rfl, hX⟩
  replace hX : Ext w1 w2 := by with_reducible exact hX
  replace HX := Lib.hid (HX.out.trans hX)
  replace HXX := Lib.hid (HXX.out.ext hX)
  replace HYY := Lib.hid (HYY.out.ext hX)
  replace KA := Lib.hid (KA.out.ext hX)
  replace KB := Lib.hid (KB.out.ext hX)
  replace KR := Lib.hid (KR.out.ext hX)
  clear hX
  have cA0 : w2.cell? ⟨w.heap.size, 0, none⟩ = some (.bool s0) := KA.out.cell 0
  have cA1 : w2.cell? ⟨w.heap.size, 1, none⟩ = some (.slice A0 l0 c0) := KA.out.cell 1
  have cB0 : w2.cell? ⟨(w.heap.size + 1), 0, none⟩ = some (.bool s1) := KB.out.cell 0
  have cB1 : w2.cell? ⟨(w.heap.size + 1), 1, none⟩ = some (.slice A1 l1 c1) := KB.out.cell 1
  go_upto_region 7 with (fail)
  clear cA0 cA1 cB0 cB1
  refine zadd_r7 w.heap.size (w.heap.size + 1) L s0 s1 A0 A1 l0 c0 l1 c1 n0 n1 w2 (KA.out.cell 0) (KA.out.cell 1) (KB.out.cell 0) (KB.out.cell 1) HXX.out HYY.out HFN.out HFM.out hL (Nat.le_of_lt HM.out) _ _ (by simp) rfl rfl ?_
  rintro xv0 xv1 xv2 xv3 xv4 xv5 xv6 w3 rfl rfl rfl rfl rfl rfl hv hXW
  simp only [rops, Try.f113, regOf, Option.bind_some, Nat.reduceBEq, if_true, if_false, Bool.false_eq_true, Option.getD_some, List.drop_succ_cons, List.drop_zero]
  simp only [Act.put, List.setIfInBounds_toArray, List.set_cons_succ, List.set_cons_zero]
  replace HX := Lib.hid (HX.out.trans hXW)
  replace HXX := Lib.hid (HXX.out.ext hXW)
  replace HYY := Lib.hid (HYY.out.ext hXW)
  replace KA := Lib.hid (KA.out.ext hXW)
  replace KB := Lib.hid (KB.out.ext hXW)
  replace KR := Lib.hid (KR.out.ext hXW)
  clear hXW
  obtain ⟨A9, l9, c9, rfl, hv9, _⟩ := Z16.open hv
  have HV := Lib.hid (Z16.two hv9 (NoInts.two KR.out) s0 A9 l9 c9)
  clear hv hv9
  have cR0 : w3.cell? ⟨(w.heap.size + 2), 0, none⟩ = some (.bool false) := KR.out.cell 0
  have fR0 : w3.frozen? ⟨(w.heap.size + 2), 0, none⟩ = false := KR.out.free 0
  have cR1 : w3.cell? ⟨(w.heap.size + 2), 1, none⟩ = some (.slice none 0 0) := KR.out.cell 1
  have fR1 : w3.frozen? ⟨(w.heap.size + 2), 1, none⟩ = false := KR.out.free 1
  go_wp2
  refine bodyPost_ret (v := .agg #[.bool s0, .slice A9 l9 c9]) (by simp [results, Try.results113, go_sem, *]) rfl ?_
  exact ⟨_, _, _, rfl, HV.out, HX.out.two (by omega) _ _⟩

set_option maxRecDepth 100000 in
set_option maxHeartbeats 2000000 in
theorem zadd_lt (s0 s1 : Bool) (A0 A1 : Option Addr) (l0 c0 l1 c1 n0 n1 : Nat) (L : Nat) (w : World) (hx : Z16 w (.slice A0 l0 c0) n0) (hy : Z16 w (.slice A1 l1 c1) n1) (fn : Fit 65536 n0 L) (fm : Fit 65536 n1 L) (hL : L ≤ 1000000) (hs : s0 ≠ s1) (hm : n0 < n1) :
    Calls Try.prog 113 #[.agg #[.bool s0, .slice A0 l0 c0], .agg #[.bool s1, .slice A1 l1 c1]] w (RetBn w s1 (n1 - n0)) := by
  have HXX := Lib.hid hx
  have HYY := Lib.hid hy
  have HFN := Lib.hid fn
  have HFM := Lib.hid fm
  clear hx hy fn fm
  have hb : (s0 == s1) = false := by simpa using hs
  have HC : Hid (cmpI n0 n1 = -1) := cmpI_lt hm
  have HM := Lib.hid hm
  clear hs hm
  have hXe : Ext w (((w.alloc (.cells #[.bool s0, .slice A0 l0 c0] 99)).alloc (.cells #[.bool s1, .slice A1 l1 c1] 99)).alloc (.cells #[.bool false, .slice none 0 0] 99)) := ((((Ext.refl w).alloc _).alloc _).alloc _)
  have kA : Blk (((w.alloc (.cells #[.bool s0, .slice A0 l0 c0] 99)).alloc (.cells #[.bool s1, .slice A1 l1 c1] 99)).alloc (.cells #[.bool false, .slice none 0 0] 99)) w.heap.size 99 #[.bool s0, .slice A0 l0 c0] := Blk.alloc (Blk.alloc (Blk.at_ (by simp)) _) _
  have kB : Blk (((w.alloc (.cells #[.bool s0, .slice A0 l0 c0] 99)).alloc (.cells #[.bool s1, .slice A1 l1 c1] 99)).alloc (.cells #[.bool false, .slice none 0 0] 99)) (w.heap.size + 1) 99 #[.bool s1, .slice A1 l1 c1] := Blk.alloc (Blk.at_ (by simp)) _
  have kR : Blk (((w.alloc (.cells #[.bool s0, .slice A0 l0 c0] 99)).alloc (.cells #[.bool s1, .slice A1 l1 c1] 99)).alloc (.cells #[.bool false, .slice none 0 0] 99)) (w.heap.size + 2) 99 #[.bool false, .slice none 0 0] := Blk.at_ (by simp)
  go_enter Try.func113, Try.ntmps113
  go_wp2_with fail
  generalize (((w.alloc (.cells #[.bool s0, .slice A0 l0 c0] 99)).alloc (.cells #[.bool s1, .slice A1 l1 c1] 99)).alloc (.cells #[.bool false, .slice none 0 0] 99)) = w1 at hXe kA kB kR ⊢
  have HX := Lib.hid hXe
  clear hXe
  have KA := Lib.hid kA
  clear kA
  have KB := Lib.hid kB
  clear kB
  have KR := Lib.hid kR
  clear kR
  replace HXX := Lib.hid (HXX.out.ext HX.out)
  replace HYY := Lib.hid (HYY.out.ext HX.out)
  have cA0 : w1.cell? ⟨w.heap.size, 0, none⟩ = some (.bool s0) := KA.out.cell 0
  have cA1 : w1.cell? ⟨w.heap.size, 1, none⟩ = some (.slice A0 l0 c0) := KA.out.cell 1
  have cB0 : w1.cell? ⟨(w.heap.size + 1), 0, none⟩ = some (.bool s1) := KB.out.cell 0
  have cB1 : w1.cell? ⟨(w.heap.size + 1), 1, none⟩ = some (.slice A1 l1 c1) := KB.out.cell 1
  go_wp2_with fail
  clear cA0 cA1 cB0 cB1
  refine (compare_any _ _ n0 n1 _ HXX.out HYY.out).mono ?_
  rw [HC.out]
  rintro e w2 ⟨rfl, hX⟩
  replace hX : Ext w1 w2 := by with_reducible exact hX
  replace HX := Lib.hid (HX.out.trans hX)
  replace HXX := Lib.hid (HXX.out.ext hX)
  replace HYY := Lib.hid (HYY.out.ext hX)
  replace KA := Lib.hid (KA.out.ext hX)
  replace KB := Lib.hid (KB.out.ext hX)
  replace KR := Lib.hid (KR.out.ext hX)
  clear hX
  have cA0 : w2.cell? ⟨w.heap.size, 0, none⟩ = some (.bool s0) := KA.out.cell 0
  have cA1 : w2.cell? ⟨w.heap.size, 1, none⟩ = some (.slice A0 l0 c0) := KA.out.cell 1
  have cB0 : w2.cell? ⟨(w.heap.size + 1), 0, none⟩ = some (.bool s1) := KB.out.cell 0
  have cB1 : w2.cell? ⟨(w.heap.size + 1), 1, none⟩ = some (.slice A1 l1 c1) := KB.out.cell 1
  go_upto_region 8 with (fail)
  clear cA0 cA1 cB0 cB1
  refine zadd_r8 w.heap.size (w.heap.size + 1) L s0 s1 A0 A1 l0 c0 l1 c1 n0 n1 w2 (KA.out.cell 0) (KA.out.cell 1) (KB.out.cell 0) (KB.out.cell 1) HXX.out HYY.out HFN.out HFM.out hL (Nat.le_of_lt HM.out) _ _ (by simp) rfl rfl ?_
  rintro xv0 xv1 xv2 xv3 xv4 xv5 xv6 w3 rfl rfl rfl rfl rfl rfl hv hXW
  simp only [rops, Try.f113, regOf, Option.bind_some, Nat.reduceBEq, if_true, if_false, Bool.false_eq_true, Option.getD_some, List.drop_succ_cons, List.drop_zero]
  simp only [Act.put, List.setIfInBounds_toArray, List.set_cons_succ, List.set_cons_zero]
  replace HX := Lib.hid (HX.out.trans hXW)
  replace HXX := Lib.hid (HXX.out.ext hXW)
  replace HYY := Lib.hid (HYY.out.ext hXW)
  replace KA := Lib.hid (KA.out.ext hXW)
  replace KB := Lib.hid (KB.out.ext hXW)
  replace KR := Lib.hid (KR.out.ext hXW)
  clear hXW
  obtain ⟨A9, l9, c9, rfl, hv9, _⟩ := Z16.open hv
  have HV := Lib.hid (Z16.two hv9 (NoInts.two KR.out) s1 A9 l9 c9)
  clear hv hv9
  have cR0 : w3.cell? ⟨(w.heap.size + 2), 0, none⟩ = some (.bool false) := KR.out.cell 0
  have fR0 : w3.frozen? ⟨(w.heap.size + 2), 0, none⟩ = false := KR.out.free 0
  have cR1 : w3.cell? ⟨(w.heap.size + 2), 1, none⟩ = some (.slice none 0 0) := KR.out.cell 1
  have fR1 : w3.frozen? ⟨(w.heap.size + 2), 1, none⟩ = false := KR.out.free 1
  go_wp2
  refine bodyPost_ret (v := .agg #[.bool s1, .slice A9 l9 c9]) (by simp [results, Try.results113, go_sem, *]) rfl ?_
  exact ⟨_, _, _, rfl, HV.out, HX.out.two (by omega) _ _⟩


theorem zadd_any (va vb : Value) (x y : Int) (L : Nat) (w : World) (ha : IntZ w va x) (hb : IntZ w vb y) (fn : Fit 65536 x.natAbs L) (fm : Fit 65536 y.natAbs L) (hL : L ≤ 1000000) :
    Calls Try.prog 113 #[va, vb] w (RetZ w (x + y)) := by
  obtain ⟨A0, l0, c0, rfl, hx⟩ := ha
  obtain ⟨A1, l1, c1, rfl, hy⟩ := hb
  have fin : ∀ (b : Bool) (n : Nat), b = decide (x + y < 0) → n = (x + y).natAbs → ∀ e w', RetBn w b n e w' → RetZ w (x + y) e w' := by
    rintro b n rfl rfl e w' ⟨A, l, c, rfl, hz, hX⟩
    exact ⟨_, rfl, ⟨A, l, c, rfl, hz⟩, hX⟩
  by_cases hs : decide (x < 0) = decide (y < 0)
  · refine (zadd_same _ _ A0 A1 l0 c0 l1 c1 _ _ L w hx hy fn fm hL hs).mono (fin _ _ ?_ ?_)
    · by_cases h : x < 0 <;> by_cases k : y < 0 <;> simp [h, k] at hs ⊢ <;> omega
    · by_cases h : x < 0 <;> by_cases k : y < 0 <;> simp [h, k] at hs <;> omega
  · rcases Nat.lt_trichotomy x.natAbs y.natAbs with h | h | h
    · refine (zadd_lt _ _ A0 A1 l0 c0 l1 c1 _ _ L w hx hy fn fm hL hs h).mono (fin _ _ ?_ ?_)
      · by_cases h : x < 0 <;> by_cases k : y < 0 <;> simp [h, k] at hs ⊢ <;> omega
      · by_cases h : x < 0 <;> by_cases k : y < 0 <;> simp [h, k] at hs <;> omega
    · refine (zadd_eq _ _ A0 A1 l0 c0 l1 c1 _ _ L w hx hy fn fm hL hs h).mono (fin _ _ ?_ ?_)
      · by_cases h : x < 0 <;> by_cases k : y < 0 <;> simp [h, k] at hs ⊢ <;> omega
      · by_cases h : x < 0 <;> by_cases k : y < 0 <;> simp [h, k] at hs <;> omega
    · refine (zadd_gt _ _ A0 A1 l0 c0 l1 c1 _ _ L w hx hy fn fm hL hs h).mono (fin _ _ ?_ ?_)
      · by_cases h : x < 0 <;> by_cases k : y < 0 <;> simp [h, k] at hs ⊢ <;> omega
      · by_cases h : x < 0 <;> by_cases k : y < 0 <;> simp [h, k] at hs <;> omega

set_option maxRecDepth 100000 in
set_option maxHeartbeats 2000000 in
theorem zmul_ss (s0 s1 : Bool) (A0 A1 : Option Addr) (l0 c0 l1 c1 n0 n1 : Nat) (L M : Nat) (w : World) (hx : Z16 w (.slice A0 l0 c0) n0) (hy : Z16 w (.slice A1 l1 c1) n1) (fn : Fit 65536 n0 L) (fm : Fit 65536 n1 M) (hL : L ≤ 1000000) (hM : M ≤ 1000000) (hs : s0 = s1) :
    Calls Try.prog 91 #[.agg #[.bool s0, .slice A0 l0 c0], .agg #[.bool s1, .slice A1 l1 c1]] w (RetBn w false (n0 * n1)) := by
  have HXX := Lib.hid hx
  have HYY := Lib.hid hy
  have HFN := Lib.hid fn
  have HFM := Lib.hid fm
  clear hx hy fn fm
  have hb : (s0 != s1) = false := by simp [hs]
  have hb2 : (s0 == s1) = true := by simp [hs]
  have hb3 : decide (s0 = s1) = true := by simp [hs]
  obtain ⟨N, hN⟩ : ∃ N, n0 * n1 = N := ⟨_, rfl⟩
  have HN := Lib.hid hN
  
  clear hs hN
  have hXe : Ext w (((w.alloc (.cells #[.bool s0, .slice A0 l0 c0] 99)).alloc (.cells #[.bool s1, .slice A1 l1 c1] 99)).alloc (.cells #[.bool false, .slice none 0 0] 99)) := ((((Ext.refl w).alloc _).alloc _).alloc _)
  have kA : Blk (((w.alloc (.cells #[.bool s0, .slice A0 l0 c0] 99)).alloc (.cells #[.bool s1, .slice A1 l1 c1] 99)).alloc (.cells #[.bool false, .slice none 0 0] 99)) w.heap.size 99 #[.bool s0, .slice A0 l0 c0] := Blk.alloc (Blk.alloc (Blk.at_ (by simp)) _) _
  have kB : Blk (((w.alloc (.cells #[.bool s0, .slice A0 l0 c0] 99)).alloc (.cells #[.bool s1, .slice A1 l1 c1] 99)).alloc (.cells #[.bool false, .slice none 0 0] 99)) (w.heap.size + 1) 99 #[.bool s1, .slice A1 l1 c1] := Blk.alloc (Blk.at_ (by simp)) _
  have kR : Blk (((w.alloc (.cells #[.bool s0, .slice A0 l0 c0] 99)).alloc (.cells #[.bool s1, .slice A1 l1 c1] 99)).alloc (.cells #[.bool false, .slice none 0 0] 99)) (w.heap.size + 2) 99 #[.bool false, .slice none 0 0] := Blk.at_ (by simp)
  go_enter Try.func91, Try.ntmps91
  go_wp2_with fail
  generalize (((w.alloc (.cells #[.bool s0, .slice A0 l0 c0] 99)).alloc (.cells #[.bool s1, .slice A1 l1 c1] 99)).alloc (.cells #[.bool false, .slice none 0 0] 99)) = w1 at hXe kA kB kR ⊢
  have HX := Lib.hid hXe
  clear hXe
  have KA := Lib.hid kA
  clear kA
  have KB := Lib.hid kB
  clear kB
  have KR := Lib.hid kR
  clear kR
  replace HXX := Lib.hid (HXX.out.ext HX.out)
  replace HYY := Lib.hid (HYY.out.ext HX.out)
  have cA0 : w1.cell? ⟨w.heap.size, 0, none⟩ = some (.bool s0) := KA.out.cell 0
  have cA1 : w1.cell? ⟨w.heap.size, 1, none⟩ = some (.slice A0 l0 c0) := KA.out.cell 1
  have cB0 : w1.cell? ⟨(w.heap.size + 1), 0, none⟩ = some (.bool s1) := KB.out.cell 0
  have cB1 : w1.cell? ⟨(w.heap.size + 1), 1, none⟩ = some (.slice A1 l1 c1) := KB.out.cell 1
  go_wp2_with fail
  clear cA0 cA1 cB0 cB1
  refine (times16_any _ _ n0 n1 L M _ HXX.out HYY.out HFN.out HFM.out hL hM).mono ?_
  rw [HN.out]
  rintro e w2 ⟨v9, rfl, hv, hX⟩
  replace hX : Ext w1 w2 := by with_reducible exact hX
  replace HX := Lib.hid (HX.out.trans hX)
  replace HXX := Lib.hid (HXX.out.ext hX)
  replace HYY := Lib.hid (HYY.out.ext hX)
  replace KA := Lib.hid (KA.out.ext hX)
  replace KB := Lib.hid (KB.out.ext hX)
  replace KR := Lib.hid (KR.out.ext hX)
  clear hX
  obtain ⟨A9, l9, c9, rfl, hv9, h0⟩ := Z16.open hv
  have HV := Lib.hid (Z16.two hv9 (NoInts.two KR.out) false A9 l9 c9)
  clear hv hv9
  clear h0
  have cA0 : w2.cell? ⟨w.heap.size, 0, none⟩ = some (.bool s0) := KA.out.cell 0
  have cA1 : w2.cell? ⟨w.heap.size, 1, none⟩ = some (.slice A0 l0 c0) := KA.out.cell 1
  have cB0 : w2.cell? ⟨(w.heap.size + 1), 0, none⟩ = some (.bool s1) := KB.out.cell 0
  have cB1 : w2.cell? ⟨(w.heap.size + 1), 1, none⟩ = some (.slice A1 l1 c1) := KB.out.cell 1
  have cR0 : w2.cell? ⟨(w.heap.size + 2), 0, none⟩ = some (.bool false) := KR.out.cell 0
  have fR0 : w2.frozen? ⟨(w.heap.size + 2), 0, none⟩ = false := KR.out.free 0
  have cR1 : w2.cell? ⟨(w.heap.size + 2), 1, none⟩ = some (.slice none 0 0) := KR.out.cell 1
  have fR1 : w2.frozen? ⟨(w.heap.size + 2), 1, none⟩ = false := KR.out.free 1
  go_wp2
  refine bodyPost_ret (v := .agg #[.bool false, .slice A9 l9 c9]) (by simp [results, Try.results91, go_sem, *]) rfl ?_
  exact ⟨_, _, _, rfl, by rw [HN.out]; exact HV.out, HX.out.two (by omega) _ _⟩

set_option maxRecDepth 100000 in
set_option maxHeartbeats 2000000 in
theorem zmul_nz (s0 s1 : Bool) (A0 A1 : Option Addr) (l0 c0 l1 c1 n0 n1 : Nat) (L M : Nat) (w : World) (hx : Z16 w (.slice A0 l0 c0) n0) (hy : Z16 w (.slice A1 l1 c1) n1) (fn : Fit 65536 n0 L) (fm : Fit 65536 n1 M) (hL : L ≤ 1000000) (hM : M ≤ 1000000) (hs : s0 ≠ s1) (hz : n0 * n1 ≠ 0) :
    Calls Try.prog 91 #[.agg #[.bool s0, .slice A0 l0 c0], .agg #[.bool s1, .slice A1 l1 c1]] w (RetBn w true (n0 * n1)) := by
  have HXX := Lib.hid hx
  have HYY := Lib.hid hy
  have HFN := Lib.hid fn
  have HFM := Lib.hid fm
  clear hx hy fn fm
  have hb : (s0 != s1) = true := by simp [hs]
  have hb2 : (s0 == s1) = false := by simp [hs]
  have hb3 : decide (s0 = s1) = false := by simp [hs]
  obtain ⟨N, hN⟩ : ∃ N, n0 * n1 = N := ⟨_, rfl⟩
  have HN := Lib.hid hN
  rw [hN] at hz
  clear hs hN
  have hXe : Ext w (((w.alloc (.cells #[.bool s0, .slice A0 l0 c0] 99)).alloc (.cells #[.bool s1, .slice A1 l1 c1] 99)).alloc (.cells #[.bool false, .slice none 0 0] 99)) := ((((Ext.refl w).alloc _).alloc _).alloc _)
  have kA : Blk (((w.alloc (.cells #[.bool s0, .slice A0 l0 c0] 99)).alloc (.cells #[.bool s1, .slice A1 l1 c1] 99)).alloc (.cells #[.bool false, .slice none 0 0] 99)) w.heap.size 99 #[.bool s0, .slice A0 l0 c0] := Blk.alloc (Blk.alloc (Blk.at_ (by simp)) _) _
  have kB : Blk (((w.alloc (.cells #[.bool s0, .slice A0 l0 c0] 99)).alloc (.cells #[.bool s1, .slice A1 l1 c1] 99)).alloc (.cells #[.bool false, .slice none 0 0] 99)) (w.heap.size + 1) 99 #[.bool s1, .slice A1 l1 c1] := Blk.alloc (Blk.at_ (by simp)) _
  have kR : Blk (((w.alloc (.cells #[.bool s0, .slice A0 l0 c0] 99)).alloc (.cells #[.bool s1, .slice A1 l1 c1] 99)).alloc (.cells #[.bool false, .slice none 0 0] 99)) (w.heap.size + 2) 99 #[.bool false, .slice none 0 0] := Blk.at_ (by simp)
  go_enter Try.func91, Try.ntmps91
  go_wp2_with fail
  generalize (((w.alloc (.cells #[.bool s0, .slice A0 l0 c0] 99)).alloc (.cells #[.bool s1, .slice A1 l1 c1] 99)).alloc (.cells #[.bool false, .slice none 0 0] 99)) = w1 at hXe kA kB kR ⊢
  have HX := Lib.hid hXe
  clear hXe
  have KA := Lib.hid kA
  clear kA
  have KB := Lib.hid kB
  clear kB
  have KR := Lib.hid kR
  clear kR
  replace HXX := Lib.hid (HXX.out.ext HX.out)
  replace HYY := Lib.hid (HYY.out.ext HX.out)
  have cA0 : w1.cell? ⟨w.heap.size, 0, none⟩ = some (.bool s0) := KA.out.cell 0
  have cA1 : w1.cell? ⟨w.heap.size, 1, none⟩ = some (.slice A0 l0 c0) := KA.out.cell 1
  have cB0 : w1.cell? ⟨(w.heap.size + 1), 0, none⟩ = some (.bool s1) := KB.out.cell 0
  have cB1 : w1.cell? ⟨(w.heap.size + 1), 1, none⟩ = some (.slice A1 l1 c1) := KB.out.cell 1
  go_wp2_with fail
  clear cA0 cA1 cB0 cB1
  refine (times16_any _ _ n0 n1 L M _ HXX.out HYY.out HFN.out HFM.out hL hM).mono ?_
  rw [HN.out]
  rintro e w2 ⟨v9, rfl, hv, hX⟩
  replace hX : Ext w1 w2 := by with_reducible exact hX
  replace HX := Lib.hid (HX.out.trans hX)
  replace HXX := Lib.hid (HXX.out.ext hX)
  replace HYY := Lib.hid (HYY.out.ext hX)
  replace KA := Lib.hid (KA.out.ext hX)
  replace KB := Lib.hid (KB.out.ext hX)
  replace KR := Lib.hid (KR.out.ext hX)
  clear hX
  obtain ⟨A9, l9, c9, rfl, hv9, h0⟩ := Z16.open hv
  have HV := Lib.hid (Z16.two hv9 (NoInts.two KR.out) true A9 l9 c9)
  clear hv hv9
  have hl : (0 : Int) < (l9 : Int) := by
    rcases Nat.eq_zero_or_pos l9 with h | h
    · exact absurd (h0.1 h) hz
    · omega
  have hl' : 0 < l9 := by omega
  clear h0
  have cA0 : w2.cell? ⟨w.heap.size, 0, none⟩ = some (.bool s0) := KA.out.cell 0
  have cA1 : w2.cell? ⟨w.heap.size, 1, none⟩ = some (.slice A0 l0 c0) := KA.out.cell 1
  have cB0 : w2.cell? ⟨(w.heap.size + 1), 0, none⟩ = some (.bool s1) := KB.out.cell 0
  have cB1 : w2.cell? ⟨(w.heap.size + 1), 1, none⟩ = some (.slice A1 l1 c1) := KB.out.cell 1
  have cR0 : w2.cell? ⟨(w.heap.size + 2), 0, none⟩ = some (.bool false) := KR.out.cell 0
  have fR0 : w2.frozen? ⟨(w.heap.size + 2), 0, none⟩ = false := KR.out.free 0
  have cR1 : w2.cell? ⟨(w.heap.size + 2), 1, none⟩ = some (.slice none 0 0) := KR.out.cell 1
  have fR1 : w2.frozen? ⟨(w.heap.size + 2), 1, none⟩ = false := KR.out.free 1
  go_wp2
  refine bodyPost_ret (v := .agg #[.bool true, .slice A9 l9 c9]) (by simp [results, Try.results91, go_sem, *]) rfl ?_
  exact ⟨_, _, _, rfl, by rw [HN.out]; exact HV.out, HX.out.two (by omega) _ _⟩

set_option maxRecDepth 100000 in
set_option maxHeartbeats 2000000 in
theorem zmul_zz (s0 s1 : Bool) (A0 A1 : Option Addr) (l0 c0 l1 c1 n0 n1 : Nat) (L M : Nat) (w : World) (hx : Z16 w (.slice A0 l0 c0) n0) (hy : Z16 w (.slice A1 l1 c1) n1) (fn : Fit 65536 n0 L) (fm : Fit 65536 n1 M) (hL : L ≤ 1000000) (hM : M ≤ 1000000) (hs : s0 ≠ s1) (hz : n0 * n1 = 0) :
    Calls Try.prog 91 #[.agg #[.bool s0, .slice A0 l0 c0], .agg #[.bool s1, .slice A1 l1 c1]] w (RetBn w false (n0 * n1)) := by
  have HXX := Lib.hid hx
  have HYY := Lib.hid hy
  have HFN := Lib.hid fn
  have HFM := Lib.hid fm
  clear hx hy fn fm
  have hb : (s0 != s1) = true := by simp [hs]
  have hb2 : (s0 == s1) = false := by simp [hs]
  have hb3 : decide (s0 = s1) = false := by simp [hs]
  obtain ⟨N, hN⟩ : ∃ N, n0 * n1 = N := ⟨_, rfl⟩
  have HN := Lib.hid hN
  rw [hN] at hz
  clear hs hN
  have hXe : Ext w (((w.alloc (.cells #[.bool s0, .slice A0 l0 c0] 99)).alloc (.cells #[.bool s1, .slice A1 l1 c1] 99)).alloc (.cells #[.bool false, .slice none 0 0] 99)) := ((((Ext.refl w).alloc _).alloc _).alloc _)
  have kA : Blk (((w.alloc (.cells #[.bool s0, .slice A0 l0 c0] 99)).alloc (.cells #[.bool s1, .slice A1 l1 c1] 99)).alloc (.cells #[.bool false, .slice none 0 0] 99)) w.heap.size 99 #[.bool s0, .slice A0 l0 c0] := Blk.alloc (Blk.alloc (Blk.at_ (by simp)) _) _
  have kB : Blk (((w.alloc (.cells #[.bool s0, .slice A0 l0 c0] 99)).alloc (.cells #[.bool s1, .slice A1 l1 c1] 99)).alloc (.cells #[.bool false, .slice none 0 0] 99)) (w.heap.size + 1) 99 #[.bool s1, .slice A1 l1 c1] := Blk.alloc (Blk.at_ (by simp)) _
  have kR : Blk (((w.alloc (.cells #[.bool s0, .slice A0 l0 c0] 99)).alloc (.cells #[.bool s1, .slice A1 l1 c1] 99)).alloc (.cells #[.bool false, .slice none 0 0] 99)) (w.heap.size + 2) 99 #[.bool false, .slice none 0 0] := Blk.at_ (by simp)
  go_enter Try.func91, Try.ntmps91
  go_wp2_with fail
  generalize (((w.alloc (.cells #[.bool s0, .slice A0 l0 c0] 99)).alloc (.cells #[.bool s1, .slice A1 l1 c1] 99)).alloc (.cells #[.bool false, .slice none 0 0] 99)) = w1 at hXe kA kB kR ⊢
  have HX := Lib.hid hXe
  clear hXe
  have KA := Lib.hid kA
  clear kA
  have KB := Lib.hid kB
  clear kB
  have KR := Lib.hid kR
  clear kR
  replace HXX := Lib.hid (HXX.out.ext HX.out)
  replace HYY := Lib.hid (HYY.out.ext HX.out)
  have cA0 : w1.cell? ⟨w.heap.size, 0, none⟩ = some (.bool s0) := KA.out.cell 0
  have cA1 : w1.cell? ⟨w.heap.size, 1, none⟩ = some (.slice A0 l0 c0) := KA.out.cell 1
  have cB0 : w1.cell? ⟨(w.heap.size + 1), 0, none⟩ = some (.bool s1) := KB.out.cell 0
  have cB1 : w1.cell? ⟨(w.heap.size + 1), 1, none⟩ = some (.slice A1 l1 c1) := KB.out.cell 1
  go_wp2_with fail
  clear cA0 cA1 cB0 cB1
  refine (times16_any _ _ n0 n1 L M _ HXX.out HYY.out HFN.out HFM.out hL hM).mono ?_
  rw [HN.out]
  rintro e w2 ⟨v9, rfl, hv, hX⟩
  replace hX : Ext w1 w2 := by with_reducible exact hX
  replace HX := Lib.hid (HX.out.trans hX)
  replace HXX := Lib.hid (HXX.out.ext hX)
  replace HYY := Lib.hid (HYY.out.ext hX)
  replace KA := Lib.hid (KA.out.ext hX)
  replace KB := Lib.hid (KB.out.ext hX)
  replace KR := Lib.hid (KR.out.ext hX)
  clear hX
  obtain ⟨A9, l9, c9, rfl, hv9, h0⟩ := Z16.open hv
  have HV := Lib.hid (Z16.two hv9 (NoInts.two KR.out) false A9 l9 c9)
  clear hv hv9
  obtain rfl : l9 = 0 := h0.2 hz
  clear h0
  have cA0 : w2.cell? ⟨w.heap.size, 0, none⟩ = some (.bool s0) := KA.out.cell 0
  have cA1 : w2.cell? ⟨w.heap.size, 1, none⟩ = some (.slice A0 l0 c0) := KA.out.cell 1
  have cB0 : w2.cell? ⟨(w.heap.size + 1), 0, none⟩ = some (.bool s1) := KB.out.cell 0
  have cB1 : w2.cell? ⟨(w.heap.size + 1), 1, none⟩ = some (.slice A1 l1 c1) := KB.out.cell 1
  have cR0 : w2.cell? ⟨(w.heap.size + 2), 0, none⟩ = some (.bool false) := KR.out.cell 0
  have fR0 : w2.frozen? ⟨(w.heap.size + 2), 0, none⟩ = false := KR.out.free 0
  have cR1 : w2.cell? ⟨(w.heap.size + 2), 1, none⟩ = some (.slice none 0 0) := KR.out.cell 1
  have fR1 : w2.frozen? ⟨(w.heap.size + 2), 1, none⟩ = false := KR.out.free 1
  go_wp2
  refine bodyPost_ret (v := .agg #[.bool false, .slice A9 0 c9]) (by simp [results, Try.results91, go_sem, *]) rfl ?_
  exact ⟨_, _, _, rfl, by rw [HN.out]; exact HV.out, HX.out.two (by omega) _ _⟩


theorem zmul_any (va vb : Value) (x y : Int) (L M : Nat) (w : World) (ha : IntZ w va x) (hb : IntZ w vb y) (fn : Fit 65536 x.natAbs L) (fm : Fit 65536 y.natAbs M) (hL : L ≤ 1000000) (hM : M ≤ 1000000) :
    Calls Try.prog 91 #[va, vb] w (RetZ w (x * y)) := by
  obtain ⟨A0, l0, c0, rfl, hx⟩ := ha
  obtain ⟨A1, l1, c1, rfl, hy⟩ := hb
  have fin : ∀ (b : Bool), b = decide (x * y < 0) → ∀ e w', RetBn w b (x.natAbs * y.natAbs) e w' → RetZ w (x * y) e w' := by
    rintro b rfl e w' ⟨A, l, c, rfl, hz, hX⟩
    exact ⟨_, rfl, ⟨A, l, c, rfl, by rw [Int.natAbs_mul]; exact hz⟩, hX⟩
  by_cases hs : decide (x < 0) = decide (y < 0)
  · refine (zmul_ss _ _ A0 A1 l0 c0 l1 c1 _ _ L M w hx hy fn fm hL hM hs).mono (fin _ ?_)
    symm
    rw [decide_eq_false_iff_not, Int.not_lt]
    by_cases h : x < 0
    · have k : y < 0 := by simpa [h] using hs
      exact Int.le_of_lt (Int.mul_pos_of_neg_of_neg h k)
    · have k : ¬ y < 0 := by simpa [h] using hs
      exact Int.mul_nonneg (by omega) (by omega)
  · by_cases hz : x.natAbs * y.natAbs = 0
    · refine (zmul_zz _ _ A0 A1 l0 c0 l1 c1 _ _ L M w hx hy fn fm hL hM hs hz).mono (fin _ ?_)
      have : x * y = 0 := by rw [← Int.natAbs_eq_zero, Int.natAbs_mul]; exact hz
      rw [this]; rfl
    · refine (zmul_nz _ _ A0 A1 l0 c0 l1 c1 _ _ L M w hx hy fn fm hL hM hs hz).mono (fin _ ?_)
      symm
      rw [decide_eq_true_iff]
      have h1 : x ≠ 0 := fun e => hz (by rw [e]; simp)
      have h2 : y ≠ 0 := fun e => hz (by rw [e]; simp)
      by_cases h : x < 0
      · have k : ¬ y < 0 := by simpa [h] using hs
        exact Int.mul_neg_of_neg_of_pos h (by omega)
      · have k : y < 0 := by simpa [h] using hs
        exact Int.mul_neg_of_pos_of_neg (by omega) k

end Go.Proofs.Ytagcgldhhdecjaa
