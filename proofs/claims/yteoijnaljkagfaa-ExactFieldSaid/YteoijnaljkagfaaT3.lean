/- Walk: text of a natural number (program). -/
import Derived.Test.YteoijnaljkagfaaT2
namespace Go.Proofs.Yteoijnaljkagfaa
open Go.RowKit

theorem elB : Elem Try.prog 148 5 1 1 (.int .u8 0) := Elem.mk' (by kernel_rfl) (by kernel_rfl) rfl (by decide)

/-- What text returns: the decimal digits. -/
def RetDec (w : World) (n : Nat) (e : Ending) (w' : World) : Prop := ∃ s, e = .returned (.string (strOfNums s)) ∧ Dec n s ∧ Ext w w'

theorem text_push {wr w1 : World} {o : Obj} {va v v' : Value} {q : Nat} (hW : W32 wr va q) (hS : Sep va v.ownBlock) (hg : (wr.alloc o).grownBy w1 v.ownBlock) (hb : v'.ownBlock = v.ownBlock ∨ v'.ownBlock = some (wr.alloc o).heap.size) : W32 w1 va q ∧ Sep va v'.ownBlock := by
  have h1 := hW.ext ((Ext.refl wr).alloc o)
  refine ⟨NatV.grown h1 hg hS, ?_⟩
  rcases hb with hb | hb
  · rw [hb]; exact hS
  · rw [hb]; exact Sep.new h1 (Nat.le_refl _)
theorem text_own {w1 : World} {base : Nat} {A : Option Addr} {c nd : Nat} {es : List Int} {d : Int} (hl : es.length = nd) (hd : Dg 10 (es ++ [d])) (h : w1.ownsRow base 5 1 (.slice A (nd + 1) c) (nd + 1) ((es.map (48 + ·)).map (Value.int .u8) ++ [.int .u8 (48 + d)])) : OwnS .u8 5 base w1 A (nd + 1) c ((es ++ [d]).map (48 + ·)) := by
  refine ⟨by simpa using h, by simp [hl], fun x hx => ?_⟩
  obtain ⟨y, hy, rfl⟩ := List.mem_map.1 hx
  have := hd y hy
  exact WalkArith.wf_u8 (by omega)
theorem dec_le {es : List Int} {n m : Nat} (hd : Dg 10 es) (h : val 10 es + 10 ^ es.length * (m : Int) = n) : m ≤ n := by
  have h0 := val_nonneg (B := 10) (by omega) hd
  have h1 : (1 : Int) ≤ 10 ^ es.length := Int.pow_pos (by omega)
  have h2 : 1 * (m : Int) ≤ 10 ^ es.length * (m : Int) := Int.mul_le_mul_of_nonneg_right h1 (by omega)
  omega
theorem word_split (m : Nat) : ∃ (q : Nat) (r : Int), Hid (m / (1000000000 : Int).toNat = q) ∧ Hid ((m : Int) % 1000000000 = r) ∧ 0 ≤ r ∧ r < 1000000000 ∧ Hid ((m : Int) = r + 10 ^ 9 * (q : Int)) ∧ (0 < m → q < m) :=
  ⟨_, _, rfl, rfl, by omega, by omega, by show _ = _; rw [show (1000000000 : Int).toNat = 1000000000 from rfl]; omega, by rw [show (1000000000 : Int).toNat = 1000000000 from rfl]; omega⟩
theorem ten_le {g : Nat} {r : Int} (hg : g ≤ 9) (h : r < 10 ^ g) : r < 1000000000 := by
  have := pow_le (B := 10) (a := g) (b := 9) (by omega) hg
  have e : (10 : Int) ^ 9 = 1000000000 := by decide
  omega

set_option maxHeartbeats 2000000 in
theorem text_any (va : Value) (n L : Nat) (w : World) (ha : W32 w va n) (hn : Fit 4294967296 n L) (hL : L ≤ 1000000000) :
    Calls Try.prog 122 #[va] w (RetDec w n) := by
  have HW := Lib.hid ha
  obtain ⟨A, la, ca, xs, rfl, hA, hrx, hca, hcam⟩ := ha
  rcases Nat.eq_zero_or_pos n with h0 | h0
  · subst h0
    obtain rfl := Rep.zero (by omega) hrx
    obtain rfl : la = 0 := by simpa using hA.1.symm
    clear HW hA hrx hn
    go_enter Try.func122, Try.ntmps122
    go_wp2
    go_ret
    exact ⟨[48], rfl, .inl ⟨rfl, rfl⟩, Ext.refl _⟩
  · have hla : 0 < la := by
      rcases Nat.eq_zero_or_pos la with h | h
      · have h1 := hA.1
        rw [h] at h1
        have := (Rep.pos (by omega) hrx).2 (List.eq_nil_of_length_eq_zero h1)
        omega
      · exact h
    have hlb : ((la : Int) == 0) = false := by simp; omega
    have HN := Lib.hid hn
    clear hA hrx hn
    go_enter Try.func122, Try.ntmps122
    go_wp2
    go_loopg [0, 3] n (fun g va vd wr => ∃ (m : Nat) (Aa : Option Addr) (na cq : Nat) (Ad : Option Addr) (nd cd : Nat) (es : List Int), m = g ∧ va = .slice Aa na cq ∧ vd = .slice Ad nd cd ∧ Hid (W32 wr (.slice Aa na cq) m) ∧ Hid (Sep (.slice Aa na cq) (Value.slice Ad nd cd).ownBlock) ∧ Hid (OwnS .u8 5 w.heap.size wr Ad nd cd (es.map (48 + ·))) ∧ Hid (Dg 10 es) ∧ Hid (val 10 es + 10 ^ es.length * (m : Int) = n) ∧ Hid (Ext w wr))
    case atStart => exact ⟨n, A, la, ca, none, 0, 0, [], rfl, rfl, rfl, HW.out, Sep.nil _, ⟨⟨rfl, .inl ⟨rfl, rfl⟩⟩, rfl, by simp⟩, Dg.nil, by simp [val, Hid], Ext.refl _⟩
    case round =>
      obtain ⟨m, Aa, na, cq, Ad, nd, cd, es, rfl, rfl, rfl, HWm, HSep, HO, HD, HV, HX⟩ := hrel
      obtain ⟨A2, n2, c2, zs, hz1, hz2, hz3, hz4, hz5⟩ := HWm.out
      injection hz1 with e1 e2 e3
      subst e1 e2 e3
      have HL : Hid (es.length = nd) := by have := HO.out.len; simpa [Hid] using this
      rcases Nat.eq_zero_or_pos m with hm0 | hm0
      · subst hm0
        obtain rfl := Rep.zero (by omega) hz3
        obtain rfl : na = 0 := by simpa using hz2.1.symm
        have HV' : Hid (val 10 es = (n : Int)) := by have := HV.out; simp at this; exact this
        clear hz2 hz3 hz4 hz5 HV HWm HSep
        go_wp2
        go_loopg [3] nd (fun g v wq => ∃ l, l = g ∧ l ≤ nd ∧ v = .slice Ad l cd ∧ Hid (val 10 (es.take l) = (n : Int)) ∧ wr = wq)
        case atStart => exact ⟨nd, rfl, Nat.le_refl _, rfl, by rw [List.take_of_length_le (by rw [HL.out]; exact Nat.le_refl _)]; exact HV'.out, rfl⟩
        case round =>
          obtain ⟨l, rfl, hl, rfl, HVl, rfl⟩ := hrel
          obtain ⟨k, rfl⟩ : ∃ k, l = k + 1 := by
            rcases l with _ | k
            · have := HVl.out
              simp [val] at this
              omega
            · exact ⟨k, rfl⟩
          obtain ⟨g, x, hAd, hx, hwf, hc⟩ := HO.out.get (j := k) (by omega)
          subst hAd
          obtain ⟨d, hd, hxd⟩ : ∃ d, es[k]? = some d ∧ 48 + d = x := by
            rw [List.getElem?_map] at hx
            rcases he : es[k]? with _ | d
            · rw [he] at hx; cases hx
            · rw [he] at hx; exact ⟨d, rfl, by simpa using hx⟩
          have hd0 := HD.out.get hd
          have HDk := Lib.hid hd
          have hcap := HO.out.cap
          clear hx hwf hd
          by_cases hz : d = 0
          · have hxe : (x == 48) = true := by simp; omega
            have HVk : Hid (val 10 (es.take k) = (n : Int)) := by
              have := HVl.out
              rw [val_take_succ HDk.out, hz] at this
              show _ = _
              omega
            clear hz hxd hd0
            go_wp2
            go_roundg k
            case rel => exact ⟨k, rfl, by omega, rfl, HVk, rfl⟩
            case measure => omega
          · have hxe : (x == 48) = false := by simp; omega
            have HR : Hid (Rep 10 (es.take (k + 1)) n) := ⟨HD.out.take _, Nm.take HDk.out hz, HVl.out⟩
            have hOk := HO.out.front (m := k + 1) hl
            rw [← List.map_take] at hOk
            obtain ⟨zs, hzs⟩ : ∃ zs, es.take (k + 1) = zs := ⟨_, rfl⟩
            rw [hzs] at HR hOk
            have HOk := Lib.hid hOk
            have HZL : Hid (zs.length = k + 1) := by have := hOk.len; simpa [Hid] using this
            clear hz hxd hd0 hOk hzs HDk HVl HV' HO
            go_wp2
            go_loopg [6, 7] (k + 1) (fun g' vi vj wq => ∃ (pi pj : Nat) (ys : List Int), g' = k + 1 - pi ∧ pi + pj = k ∧ pi ≤ pj + 1 ∧ vi = .int .i64 (pi : Int) ∧ vj = .int .i64 (pj : Int) ∧ Hid (OwnS .u8 5 w.heap.size wq (some ⟨g, 0, none⟩) (k + 1) cd ys) ∧ Hid (RevAt (zs.map (48 + ·)) ys pi) ∧ Hid (Ext w wq))
            case atStart => exact ⟨0, k, _, rfl, by omega, by omega, rfl, by go_num, HOk, RevAt.zero _, HX⟩
            case round =>
              obtain ⟨pi, pj, ys, rfl, hij, hij', rfl, rfl, HOy, HRy, HXy⟩ := hrel
              by_cases hlt : pi < pj
              · obtain ⟨g1, x1, hg1, hx1, hwf1, hc1, hf1, hb1, hst1⟩ := HOy.out.store (j := pi) (by omega)
                obtain ⟨g2, y1, hg2, hy1, hwf2, hc2, hf2, hb2, _⟩ := HOy.out.store (j := pj) (by omega)
                injection hg1 with hg1
                injection hg1 with hg1
                injection hg2 with hg2
                injection hg2 with hg2
                subst hg1 hg2
                have hO1 := hst1.out y1 hwf2
                obtain ⟨g3, y3, hg3, hy3, hwf3, hc3, hf3, hb3, hst3⟩ := hO1.store (j := pj) (by omega)
                injection hg3 with hg3
                injection hg3 with hg3
                subst hg3
                have hy13 : y3 = y1 := by
                  rw [List.getElem?_set_ne (by omega), hy1] at hy3
                  injection hy3 with hy3
                  exact hy3.symm
                subst hy13
                have HO3 := Lib.hid (hst3.out x1 hwf1)
                have HR3 := Lib.hid (HRy.out.step (j := pj) (by simp [HZL.out]; omega) hlt hx1 hy1)
                have HC3 := Lib.hid hc3
                have HF3 := Lib.hid hf2
                have hi0 : (0 : Int) ≤ (pi : Int) := by omega
                have hj0 : (0 : Int) ≤ (pj : Int) := by omega
                have hi1 : (pi : Int) < ((k + 1 : Nat) : Int) := by omega
                have hj1 : (pj : Int) < ((k + 1 : Nat) : Int) := by omega
                have hltI : (pi : Int) < (pj : Int) := by omega
                clear hst1 hst3 hO1 hy3 hx1 hy1 hc3 hf3 hf2 hwf1 hwf2 hwf3 hb2 hb3 HRy
                go_wp2_with fail
                refine text_r17 g (k + 1) cd pi pj x1 y3 _ hc1 hc2 hf1 HF3 HC3 hi0 hj0 hi1 hj1 _ _ (by simp) rfl rfl rfl ?_
                rintro _ _ _ _ _ _ _ _ _ _ _ _ _ x13 _ x15 _ rfl rfl rfl rfl rfl rfl rfl rfl rfl rfl rfl rfl rfl _ rfl _ rfl
                simp only [rops, Try.f122, regOf, Option.bind_some, Nat.reduceBEq, if_true, if_false, Bool.false_eq_true, Option.getD_some, List.drop_succ_cons, List.drop_zero]
                simp only [Act.put, List.setIfInBounds_toArray, List.set_cons_succ, List.set_cons_zero]
                go_wp2
                go_roundg (k + 1 - (pi + 1))
                case rel => exact ⟨pi + 1, pj - 1, _, rfl, by omega, by omega, by go_num, by go_num, HO3.out.ext ((Ext.refl _).drew), HR3.out, ((HXy.out.setCell hb1 _).setCell hb1 _).drew⟩
                case measure => omega
              · have hltI : ¬ (pi : Int) < (pj : Int) := by omega
                have hys := HRy.out.done (by simp [HZL.out]; omega)
                have hstr := run_str (P := Try.prog) _ (c := cd) Try.underlying148 Try.underlying5 Try.underlying9 HOy.out.ints
                have HY := Lib.hid hys
                clear hys
                go_wp2
                go_ret
                exact ⟨ys, rfl, .inr ⟨by omega, zs, HR.out, HY.out⟩, HXy.out⟩
      · have hna : 0 < na := by
          rcases Nat.eq_zero_or_pos na with h | h
          · have h1 := hz2.1
            rw [h] at h1
            have := (Rep.pos (by omega) hz3).2 (List.eq_nil_of_length_eq_zero h1)
            omega
          · exact h
        have hlen := dec_len HN.out HD.out HV.out hm0
        rw [HL.out] at hlen
        have hfit := HN.out.le (dec_le HD.out HV.out)
        obtain ⟨q, r, hq, hr, hr0, hr1, hqr, hqm⟩ := word_split m
        have hqm := hqm hm0
        have HF := Lib.hid hfit
        clear hz2 hz3 hfit
        go_wp2_with fail
        refine (word_sep (.slice Aa na cq) m L 1000000000 _ HWm.out HF.out (by omega) (by omega) (by omega)).mono ?_
        rintro e w2 ⟨mq, cq2, rfl, hW2, hX2⟩
        rw [hq.out] at hW2
        rw [hr.out]
        have hS2 : Sep (.slice (some ⟨_, 0, none⟩) mq cq2) (Value.slice Ad nd cd).ownBlock := Sep.fresh (m := mq) (c := cq2) HO.out.own
        obtain ⟨bq, hbq⟩ : ∃ b, wr.heap.size = b := ⟨_, rfl⟩
        rw [hbq] at hS2 hW2 ⊢
        have HS2 := Lib.hid hS2
        have HW2 := Lib.hid hW2
        have HO2 := Lib.hid (HO.out.ext hX2)
        have HX2 := Lib.hid (HX.out.trans hX2)
        have HV2 : Hid (val 10 es + 10 ^ es.length * (r + 10 ^ 9 * (q : Int)) = n) := by have := HV.out; rw [hqr.out] at this; exact this
        clear hW2 hX2 hS2 hq hr hbq HWm HF HO HX HV hqr HSep
        go_wp2
        go_loopg [3, 5, 20] 9 (fun g vd rv iv wr => ∃ (k : Nat) (r : Int) (Ad : Option Addr) (nd' cd : Nat) (es' : List Int), k = g ∧ k ≤ 9 ∧ vd = .slice Ad nd' cd ∧ rv = .int .u32 r ∧ iv = .int .i64 (9 - (k : Int)) ∧ Hid (W32 wr (.slice (some ⟨bq, 0, none⟩) mq cq2) q) ∧ Hid (Sep (.slice (some ⟨bq, 0, none⟩) mq cq2) (Value.slice Ad nd' cd).ownBlock) ∧ Hid (OwnS .u8 5 w.heap.size wr Ad nd' cd (es'.map (48 + ·))) ∧ Hid (Dg 10 es') ∧ 0 ≤ r ∧ Hid (r < 10 ^ k) ∧ Hid (val 10 es' + 10 ^ es'.length * (r + 10 ^ k * (q : Int)) = n) ∧ nd' + k ≤ nd + 9 ∧ Hid (Ext w wr))
        case atStart => exact ⟨9, r, Ad, nd, cd, es, rfl, by omega, rfl, rfl, rfl, HW2.out, HS2.out, HO2.out, HD.out, hr0, by show r < 10 ^ 9; rw [show (10 : Int) ^ 9 = 1000000000 by decide]; exact hr1, HV2.out, by omega, HX2.out⟩
        case round =>
          obtain ⟨k, r, Ad, nd', cd, es', rfl, hk9, rfl, rfl, rfl, HW3, HS3, HO3, HD3, hr0, HR3, HV3, hnd, HX3⟩ := hrel
          have hr1 := ten_le hk9 HR3.out
          have HL3 : Hid (es'.length = nd') := by have := HO3.out.len; simpa [Hid] using this
          rcases Nat.eq_zero_or_pos k with hk0 | hk0
          · subst hk0
            rw [show ((9 : Int) - ((0 : Nat) : Int)) = 9 by omega]
            have HV4 : Hid (val 10 es' + 10 ^ es'.length * (q : Int) = n) := by
              have h1 := HR3.out
              have h2 := HV3.out
              rw [Int.pow_zero] at h1 h2
              rw [show r = 0 by omega, Int.zero_add, Int.one_mul] at h2
              exact h2
            go_wp2
            go_roundg q
            case rel => exact ⟨q, _, mq, cq2, Ad, nd', cd, es', rfl, rfl, rfl, HW3, HS3, HO3, HD3, HV4, HX3⟩
            case measure => omega
          · obtain ⟨i, rfl⟩ : ∃ i, k = i + 1 := ⟨k - 1, by omega⟩
            rw [show ((9 : Int) - ((i + 1 : Nat) : Int)) = 8 - (i : Int) by omega]
            have hi9 : (8 : Int) - (i : Int) < 9 := by omega
            obtain ⟨hD4, hr40, hr41, hV4⟩ := dec_step HD3.out hr0 HR3.out HV3.out
            have HD4 := Lib.hid hD4
            have HR4 := Lib.hid hr41
            have HV4 := Lib.hid hV4
            clear hD4 hr41 hV4
            go_wp2_with (at_builtin; refine wpList_app _ elB rfl _ _ rfl w.heap.size _ _ _ rfl (HO3.out.own.alloc _) _ 1 1 [.int .u8 (48 + r % 10)] rfl rfl (At.new _ [_] _) (by simp [Value.oneCell']) (by omega) (by unfold maxLen; omega) (by have := HX3.out.size; simp; omega) ?_; intro v1 w1 hown1 hgr1 hbl1)
            go_roundg i
            case rel =>
              obtain ⟨A1, c1, rfl⟩ := own_slice hown1
              obtain ⟨hW5, hS5⟩ := text_push HW3.out HS3.out hgr1 hbl1
              exact ⟨i, r / 10, A1, nd' + 1, c1, es' ++ [r % 10], rfl, by omega, rfl, rfl, by go_num, hW5, hS5, text_own HL3.out HD4.out hown1, HD4.out, hr40, HR4.out, HV4.out, by omega, HX3.out.push HO3.out.own hgr1⟩
            case measure => omega
end Go.Proofs.Yteoijnaljkagfaa
