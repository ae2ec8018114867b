/- Lemmas of the proof that follows (Encodes, part 4): walks of functions by contract, and plain lemmas. Conditions: none. -/
import Derived.Test.YtagcgldhhdecjaaEncodesC
namespace Go.Proofs.Ytagcgldhhdecjaa
open Go.RowKit

theorem encO_yes {q : Pul} (h : PulOk q) : encO q = (encP q, 0) := if_pos h
theorem encO_no {q : Pul} (h : ¬ PulOk q) : encO q = ([], 30) := if_neg h
theorem StL.keeps {L : List Nat} {base : Nat} {w w' : World} {v : Value} {ss : List (Int × Int)} (h : StL base w v ss) (hk : Keeps L w w') (hL : ∀ k ∈ L, k < base) : StL base w' v ss := by
  refine ownsRow_keeps h hk fun g hg hl => ?_
  have := (World.ownsRow.lt h g hg).1
  have := hL g hl
  omega
theorem len_snoc {xs ys : List Int} {n c n' : Nat} {base' : Nat} {w' : World} {A' : Option Addr} (h : xs.length = n) (ho : OwnS .u8 5 base' w' A' n' c (xs ++ ys)) (hy : ys.length ≤ 10) : n' ≤ n + 10 := by
  have := ho.len
  rw [List.length_append] at this
  omega
theorem flat_step {ss : List (Int × Int)} {k : Nat} {d c : Int} (h : ss[k]? = some (d, c)) (xs : List Int) : xs ++ (ss.take k).flatMap stepB ++ enc (zig d) ++ enc (c - 1) = xs ++ (ss.take (k + 1)).flatMap stepB := by
  rw [List.take_add_one, h]
  simp [stepB, List.append_assoc]

set_option maxRecDepth 100000 in
set_option maxHeartbeats 6000000 in
theorem encodeP_any (p : Pul) (A : Option Addr) (n c : Nat) (w : World) (h : Ints .i64 w A n p.smp) :
    Calls Try.prog 47 #[p.val A n c] w (RetBytes w (encO p).1 (encO p).2) := by
  have HH := Lib.hid h
  obtain ⟨tm, x0, x1, x2, x3, l⟩ := p
  simp only [Pul.val]
  have hX0 := (Ext.refl w).alloc (.cells #[.int .i64 tm, .int .i64 x0, .int .i64 x1, .int .i64 x2, .int .i64 x3, .slice A n c] 71)
  have hB0 := Blk.new w 71 #[.int .i64 tm, .int .i64 x0, .int .i64 x1, .int .i64 x2, .int .i64 x3, .slice A n c]
  have HI := Lib.hid (h.ext hX0)
  have HB := Lib.hid hB0
  have HX := Lib.hid hX0
  clear hB0 hX0
  by_cases hv : ¬ PulOk ⟨tm, x0, x1, x2, x3, l⟩
  · have HV : Hid (decide (PulOk ⟨tm, x0, x1, x2, x3, l⟩) = false) := Lib.hid (decide_eq_false hv)
    have HO := Lib.hid (encO_no hv)
    clear hv h
    go_enter Try.func47, Try.ntmps47
    go_wp2_with fail
    refine (validP_any ⟨tm, x0, x1, x2, x3, l⟩ A n c _ HI.out).mono ?_
    rw [HV.out]
    rintro e w1 ⟨rfl, hX⟩
    replace HX := Lib.hid (HX.out.trans hX)
    clear hX
    go_wp2
    go_ret2
    exact ⟨none, 0, 0, by first | (rw [HO.out]; done) | (rw [HO.out]; rfl), by rw [HO.out]; exact ⟨World.ownsRow_nil _ _ _ _, rfl, by simp⟩, HX.out⟩
  have hv' := Decidable.not_not.1 hv
  have HV : Hid (decide (PulOk ⟨tm, x0, x1, x2, x3, l⟩) = true) := Lib.hid (decide_eq_true hv')
  have HO := Lib.hid (encO_yes hv')
  obtain ⟨t0, t1, _, hs, ⟨a0, a1⟩, ⟨b0, b1⟩, ⟨c0, c1⟩, ⟨d0, d1⟩⟩ := hv'
  simp only at t0 t1 hs a0 a1 b0 b1 c0 c1 d0 d1
  have hn256 : n ≤ 256 := by have := hs.1; have := h.1; simp only at this; omega
  have HS := Lib.hid hs
  have HRG := Lib.hid (diffF_range hs)
  obtain ⟨N, hN⟩ : ∃ N, (diffF l).length = N := ⟨_, rfl⟩
  have hN2 : N ≤ 256 := by have := diffF_len l; have := hs.1; omega
  have HN := Lib.hid hN
  clear hv hs h hN
  go_enter Try.func47, Try.ntmps47
  go_wp2_with fail
  refine (validP_any ⟨tm, x0, x1, x2, x3, l⟩ A n c _ HI.out).mono ?_
  rw [HV.out]
  rintro e w1 ⟨rfl, hX⟩
  replace HX := Lib.hid (HX.out.trans hX)
  replace HB := Lib.hid (HB.out.ext hX)
  replace HI := Lib.hid (HI.out.ext hX)
  clear hX
  clear HI
  go_upto_region 4 with (fail)
  have hz1 := HB.out.lt
  have hWn : WrB (w.heap.size + 1) (w1.alloc (.cells #[.slice none 0 0] 107)) w1.heap.size none 0 0 [] := ⟨Blk.new _ _ _, ⟨World.ownsRow_nil _ _ _ _, rfl, by simp⟩, by omega⟩
  have HW := Lib.hid hWn
  have hX1 := (Ext.refl w1).alloc (.cells #[.slice none 0 0] 107)
  replace HX := Lib.hid (HX.out.trans hX1)
  replace HB := Lib.hid (HB.out.ext hX1)
  obtain ⟨g, hg⟩ : ∃ g, w1.heap.size = g := ⟨_, rfl⟩
  rw [hg] at HW ⊢
  have hgw : w.heap.size < g := by omega
  clear hWn hX1 hz1 hg
  generalize w1.alloc (.cells #[.slice none 0 0] 107) = w2 at HX HB HW ⊢
  clear w1
  have c0 := HB.out.cell 0
  simp only [List.getElem?_toArray, List.getElem?_cons_zero, List.getElem?_cons_succ] at c0
  have hsz : w.heap.size + 1 ≤ w2.heap.size := by have := HB.out.lt; omega
  go_wp2_with fail
  clear c0
  refine (numW_any (w.heap.size + 1) g 0 0 none [] tm w2 HW.out (by simp) hsz t0 (by omega)).mono ?_
  rintro e w3 ⟨rfl, ⟨Aw, nb, cw, hw⟩, hk⟩
  rw [List.nil_append] at hw
  have hnb : nb ≤ 10 := by have := hw.own.len; have := enc_length tm; omega
  replace HW := Lib.hid hw
  replace HX := Lib.hid (hk.ext HX.out (by simp; omega))
  replace HB := Lib.hid (HB.out.keeps hk (by simp; omega))
  clear hw hk hsz
  clear w2
  have c1 := HB.out.cell 1
  have c2 := HB.out.cell 2
  have c3 := HB.out.cell 3
  have c4 := HB.out.cell 4
  simp only [List.getElem?_toArray, List.getElem?_cons_zero, List.getElem?_cons_succ] at c1 c2 c3 c4
  go_wp2_with fail
  clear c1 c2 c3 c4
  go_loopg [21] 4 (fun f iv wr => ∃ (k : Nat) (Aw : Option Addr) (nb cw : Nat), f = 4 - k ∧ k ≤ 4 ∧ iv = .int .i64 (k : Int) ∧ nb ≤ 10 * (k + 1) ∧ Hid (WrB (w.heap.size + 1) wr g Aw nb cw (enc tm ++ ([x0, x1, x2, x3].take k).flatMap (fun q => enc (zig q)))) ∧ Hid (Blk wr w.heap.size 71 #[.int .i64 tm, .int .i64 x0, .int .i64 x1, .int .i64 x2, .int .i64 x3, .slice A n c]) ∧ Hid (Ext w wr))
  case atStart => exact ⟨0, Aw, nb, cw, rfl, by omega, rfl, by omega, Lib.hid (by simpa using HW.out), HB, HX⟩
  case round =>
    clear HX HB HW hnb
    clear Aw nb cw
    obtain ⟨k, Aw, nb, cw, rfl, hk4, rfl, hnb, HW, HB, HX⟩ := hrel
    obtain ⟨ix0, ix1, ix2, ix3⟩ := idx4 x0 x1 x2 x3
    have hsz : w.heap.size + 1 ≤ wr.heap.size := by have := HB.out.lt; omega
    obtain rfl | rfl | rfl | rfl | rfl : k = 4 ∨ k = 0 ∨ k = 1 ∨ k = 2 ∨ k = 3 := by omega
    · replace HW : Hid (WrB (w.heap.size + 1) wr g Aw nb cw (headB ⟨tm, x0, x1, x2, x3, l⟩)) := Lib.hid (by have := HW.out; simpa [headB, List.append_assoc] using this)
      have c5 := HB.out.cell 5
      simp only [List.getElem?_toArray, List.getElem?_cons_zero, List.getElem?_cons_succ] at c5
      go_wp2_with fail
      clear c5
      refine (diffP_any A n c l wr (HH.out.ext HX.out) (by omega) (fun x hx => by have := HS.out.2 x hx; omega)).mono ?_
      rintro e w4 ⟨vd, rfl, hd, hX⟩
      obtain ⟨Ad, cd, rfl⟩ := own_slice hd
      rw [HN.out] at hd ⊢
      have HD := Lib.hid hd
      have hgd := HW.out.blk.lt
      obtain ⟨bs, hbs⟩ : ∃ bs, wr.heap.size = bs := ⟨_, rfl⟩
      rw [hbs] at HD hgd
      replace HX := Lib.hid (HX.out.trans hX)
      replace HW := Lib.hid (HW.out.ext hX)
      replace hsz : w.heap.size + 1 ≤ w4.heap.size := by have := hX.size; omega
      clear hd hX HB hbs
      go_wp2_with fail
      refine (numW_any (w.heap.size + 1) g nb cw Aw _ (N : Int) w4 HW.out (by have := HW.out.own.len; omega) hsz (by omega) (by omega)).mono ?_
      rintro e w5 ⟨rfl, ⟨Aw2, nb2, cw2, hw⟩, hk⟩
      have hnb2 : nb2 ≤ 60 := by have := len_snoc HW.out.own.len hw.own (enc_length _); omega
      replace HW := Lib.hid hw
      replace HX := Lib.hid (hk.ext HX.out (by simp; omega))
      replace HD := Lib.hid (HD.out.keeps hk (by simp; omega))
      clear hw hk hsz
      clear Aw nb cw hnb hk4
      go_wp2_with fail
      go_loopg [37] N (fun f iv wr => ∃ (k : Nat) (Aw : Option Addr) (nb cw : Nat), f = N - k ∧ k ≤ N ∧ iv = .int .i64 (k : Int) ∧ nb ≤ 60 + 20 * k ∧ Hid (WrB (w.heap.size + 1) wr g Aw nb cw (headB ⟨tm, x0, x1, x2, x3, l⟩ ++ enc (N : Int) ++ ((diffF l).take k).flatMap stepB)) ∧ Hid (StL bs wr (.slice Ad N cd) (diffF l)) ∧ Hid (Ext w wr))
      case atStart => exact ⟨0, Aw2, nb2, cw2, rfl, by omega, rfl, by omega, Lib.hid (by simpa using HW.out), HD, HX⟩
      case round =>
        clear HX HD HW hnb2
        clear Aw2 nb2 cw2
        obtain ⟨k, Aw, nb, cw, rfl, hkN, rfl, hnb, HW, HD, HX⟩ := hrel
        by_cases hlt : k < N
        · obtain ⟨gd, cd', ⟨d, cn⟩, hvd, hsk, s0, s1⟩ := HD.out.get (by rw [HN.out]; exact hlt)
          injection hvd with hvd hvd2 hvd3
          subst hvd
          clear hvd2 hvd3
          simp only at s0 s1
          obtain ⟨r0, r1, r2, r3⟩ := HRG.out (d, cn) (List.mem_of_getElem? hsk)
          simp only at r0 r1 r2 r3
          have HSK := Lib.hid hsk
          clear hsk
          have qw : IntKind.i64.wrap (cn - 1) = cn - 1 := IntWalk.i64_in _ (by omega)
          go_upto_region 15 with (fail)
          have hX8 := (Ext.refl wr).alloc (.cells #[.int .i64 d, .int .i64 cn] 94)
          have hS := Blk.new wr 94 #[.int .i64 d, .int .i64 cn]
          replace HX := Lib.hid (HX.out.trans hX8)
          replace HW := Lib.hid (HW.out.ext hX8)
          replace HD := Lib.hid (HD.out.ext hX8)
          have hgs := HW.out.blk.lt
          have hgs2 := HW.out.lo
          have HS4 := Lib.hid hS
          have hgn : g ≠ wr.heap.size := by
            intro e
            have h1 := HW.out.blk
            rw [e] at h1
            have := h1.symm.trans hS
            injection this with this
            injection this with _ this
            exact absurd this (by decide)
          clear s0 s1 hX8 hS
          generalize wr.heap.size = gs at HS4 hgn ⊢
          generalize wr.alloc (.cells #[.int .i64 d, .int .i64 cn] 94) = wr at HS4 HX HW HD hgs ⊢
          have e0 := HS4.out.cell 0
          simp only [List.getElem?_toArray, List.getElem?_cons_zero, List.getElem?_cons_succ] at e0
          have hsz : w.heap.size + 1 ≤ wr.heap.size := by omega
          go_wp2_with fail
          clear e0
          refine (sigW_any (w.heap.size + 1) g nb cw Aw _ d wr HW.out (by have := HW.out.own.len; omega) hsz (by omega) (by omega)).mono ?_
          rintro e w6 ⟨rfl, ⟨Aw3, nb3, cw3, hw⟩, hk⟩
          have hnb3 := len_snoc HW.out.own.len hw.own (enc_length _)
          replace hsz : w.heap.size + 1 ≤ w6.heap.size := by have := hk.size; omega
          replace HW := Lib.hid hw
          replace HX := Lib.hid (hk.ext HX.out (by simp; omega))
          replace HD := Lib.hid (HD.out.keeps hk (by simp; omega))
          replace HS4 := Lib.hid (HS4.out.keeps hk (by simp; omega))
          clear hw hk
          have e1 := HS4.out.cell 1
          simp only [List.getElem?_toArray, List.getElem?_cons_zero, List.getElem?_cons_succ] at e1
          go_wp2_with fail
          clear e1
          refine (numW_any (w.heap.size + 1) g nb3 cw3 Aw3 _ (cn - 1) w6 HW.out (by have := HW.out.own.len; omega) hsz (by omega) (by omega)).mono ?_
          rintro e w7 ⟨rfl, ⟨Aw4, nb4, cw4, hw⟩, hk⟩
          have hnb4 := len_snoc HW.out.own.len hw.own (enc_length _)
          rw [flat_step HSK.out] at hw
          replace HW := Lib.hid hw
          replace HX := Lib.hid (hk.ext HX.out (by simp; omega))
          replace HD := Lib.hid (HD.out.keeps hk (by simp; omega))
          clear hw hk HS4
          go_wp2
          go_roundg (N - (k + 1))
          case rel => exact ⟨k + 1, Aw4, nb4, cw4, rfl, by omega, by go_num, by omega, HW, HD, HX⟩
          case measure => omega
        · obtain rfl : k = N := by omega
          replace HW : Hid (WrB (w.heap.size + 1) wr g Aw nb cw (encP ⟨tm, x0, x1, x2, x3, l⟩)) := Lib.hid (by
            have := HW.out
            rw [List.take_of_length_le (by rw [HN.out]; omega)] at this
            unfold encP
            rw [HN.out]
            exact this)
          have hc := HW.out.blk.cell 0
          simp only [List.getElem?_toArray, List.getElem?_cons_zero] at hc
          go_wp2
          go_ret2
          exact ⟨Aw, nb, cw, by first | (rw [HO.out]; done) | (rw [HO.out]; rfl), by rw [HO.out]; exact HW.out.own.mono (by omega), HX.out⟩
    · go_wp2_with fail
      refine (sigW_any (w.heap.size + 1) g nb cw Aw _ x0 wr HW.out (by have := HW.out.own.len; omega) hsz (by omega) (by omega)).mono ?_
      rintro e w4 ⟨rfl, ⟨Aw2, nb2, cw2, hw⟩, hk⟩
      have hnb2 := len_snoc HW.out.own.len hw.own (enc_length _)
      replace HW := Lib.hid hw
      replace HX := Lib.hid (hk.ext HX.out (by simp; omega))
      replace HB := Lib.hid (HB.out.keeps hk (by simp; omega))
      clear hw hk
      go_wp2
      go_roundg (4 - (0 + 1))
      case rel => exact ⟨0 + 1, Aw2, nb2, cw2, rfl, by omega, by go_num, by omega, Lib.hid (by simpa [List.append_assoc] using HW.out), HB, HX⟩
      case measure => omega
    · go_wp2_with fail
      refine (sigW_any (w.heap.size + 1) g nb cw Aw _ x1 wr HW.out (by have := HW.out.own.len; omega) hsz (by omega) (by omega)).mono ?_
      rintro e w4 ⟨rfl, ⟨Aw2, nb2, cw2, hw⟩, hk⟩
      have hnb2 := len_snoc HW.out.own.len hw.own (enc_length _)
      replace HW := Lib.hid hw
      replace HX := Lib.hid (hk.ext HX.out (by simp; omega))
      replace HB := Lib.hid (HB.out.keeps hk (by simp; omega))
      clear hw hk
      go_wp2
      go_roundg (4 - (1 + 1))
      case rel => exact ⟨1 + 1, Aw2, nb2, cw2, rfl, by omega, by go_num, by omega, Lib.hid (by simpa [List.append_assoc] using HW.out), HB, HX⟩
      case measure => omega
    · go_wp2_with fail
      refine (sigW_any (w.heap.size + 1) g nb cw Aw _ x2 wr HW.out (by have := HW.out.own.len; omega) hsz (by omega) (by omega)).mono ?_
      rintro e w4 ⟨rfl, ⟨Aw2, nb2, cw2, hw⟩, hk⟩
      have hnb2 := len_snoc HW.out.own.len hw.own (enc_length _)
      replace HW := Lib.hid hw
      replace HX := Lib.hid (hk.ext HX.out (by simp; omega))
      replace HB := Lib.hid (HB.out.keeps hk (by simp; omega))
      clear hw hk
      go_wp2
      go_roundg (4 - (2 + 1))
      case rel => exact ⟨2 + 1, Aw2, nb2, cw2, rfl, by omega, by go_num, by omega, Lib.hid (by simpa [List.append_assoc] using HW.out), HB, HX⟩
      case measure => omega
    · go_wp2_with fail
      refine (sigW_any (w.heap.size + 1) g nb cw Aw _ x3 wr HW.out (by have := HW.out.own.len; omega) hsz (by omega) (by omega)).mono ?_
      rintro e w4 ⟨rfl, ⟨Aw2, nb2, cw2, hw⟩, hk⟩
      have hnb2 := len_snoc HW.out.own.len hw.own (enc_length _)
      replace HW := Lib.hid hw
      replace HX := Lib.hid (hk.ext HX.out (by simp; omega))
      replace HB := Lib.hid (HB.out.keeps hk (by simp; omega))
      clear hw hk
      go_wp2
      go_roundg (4 - (3 + 1))
      case rel => exact ⟨3 + 1, Aw2, nb2, cw2, rfl, by omega, by go_num, by omega, Lib.hid (by simpa [List.append_assoc] using HW.out), HB, HX⟩
      case measure => omega
set_option maxRecDepth 100000 in
set_option maxHeartbeats 6000000 in
theorem encodeR_any (p : Pul) (A : Option Addr) (n c : Nat) (w : World) (h : Ints .i64 w A n p.smp) :
    Calls Try.prog 48 #[p.val A n c] w (RetBytes w (encO p).1 (encO p).2) := by
  have HH := Lib.hid h
  obtain ⟨tm, x0, x1, x2, x3, l⟩ := p
  simp only [Pul.val]
  have hX0 := (Ext.refl w).alloc (.cells #[.int .i64 tm, .int .i64 x0, .int .i64 x1, .int .i64 x2, .int .i64 x3, .slice A n c] 71)
  have hB0 := Blk.new w 71 #[.int .i64 tm, .int .i64 x0, .int .i64 x1, .int .i64 x2, .int .i64 x3, .slice A n c]
  have HI := Lib.hid (h.ext hX0)
  have HB := Lib.hid hB0
  have HX := Lib.hid hX0
  clear hB0 hX0
  by_cases hv : ¬ PulOk ⟨tm, x0, x1, x2, x3, l⟩
  · have HV : Hid (decide (PulOk ⟨tm, x0, x1, x2, x3, l⟩) = false) := Lib.hid (decide_eq_false hv)
    have HO := Lib.hid (encO_no hv)
    clear hv h
    go_enter Try.func48, Try.ntmps48
    go_wp2_with fail
    refine (validR_any ⟨tm, x0, x1, x2, x3, l⟩ A n c _ HI.out).mono ?_
    rw [HV.out]
    rintro e w1 ⟨rfl, hX⟩
    replace HX := Lib.hid (HX.out.trans hX)
    clear hX
    go_wp2
    go_ret2
    exact ⟨none, 0, 0, by first | (rw [HO.out]; done) | (rw [HO.out]; rfl), by rw [HO.out]; exact ⟨World.ownsRow_nil _ _ _ _, rfl, by simp⟩, HX.out⟩
  have hv' := Decidable.not_not.1 hv
  have HV : Hid (decide (PulOk ⟨tm, x0, x1, x2, x3, l⟩) = true) := Lib.hid (decide_eq_true hv')
  have HO := Lib.hid (encO_yes hv')
  obtain ⟨t0, t1, _, hs, ⟨a0, a1⟩, ⟨b0, b1⟩, ⟨c0, c1⟩, ⟨d0, d1⟩⟩ := hv'
  simp only at t0 t1 hs a0 a1 b0 b1 c0 c1 d0 d1
  have hn256 : n ≤ 256 := by have := hs.1; have := h.1; simp only at this; omega
  have HS := Lib.hid hs
  have HRG := Lib.hid (diffF_range hs)
  obtain ⟨N, hN⟩ : ∃ N, (diffF l).length = N := ⟨_, rfl⟩
  have hN2 : N ≤ 256 := by have := diffF_len l; have := hs.1; omega
  have HN := Lib.hid hN
  clear hv hs h hN
  go_enter Try.func48, Try.ntmps48
  go_wp2_with fail
  refine (validR_any ⟨tm, x0, x1, x2, x3, l⟩ A n c _ HI.out).mono ?_
  rw [HV.out]
  rintro e w1 ⟨rfl, hX⟩
  replace HX := Lib.hid (HX.out.trans hX)
  replace HB := Lib.hid (HB.out.ext hX)
  replace HI := Lib.hid (HI.out.ext hX)
  clear hX
  clear HI
  have c0 := HB.out.cell 0
  simp only [List.getElem?_toArray, List.getElem?_cons_zero, List.getElem?_cons_succ] at c0
  go_wp2_with fail
  clear c0
  refine (numberR_ok none 0 0 [] tm w1 Ints.nil (by omega) (by omega) (by omega) t0 (by omega)).mono ?_
  rintro e w2 ⟨Aw, nb, cw, rfl, hw, hX⟩
  rw [List.nil_append] at hw
  have hnb : nb ≤ 10 := by have := hw.len; have := enc_length tm; omega
  have hz1 := HB.out.lt
  have HW := Lib.hid (hw.mono (base' := w.heap.size) (by omega))
  replace HX := Lib.hid (HX.out.trans hX)
  replace HB := Lib.hid (HB.out.ext hX)
  clear hw hX hz1
  clear w1
  go_wp2_with fail
  go_loopg [4, 6] 4 (fun f bv iv wr => ∃ (k : Nat) (Aw : Option Addr) (nb cw : Nat), f = 4 - k ∧ k ≤ 4 ∧ bv = .slice Aw nb cw ∧ iv = .int .i64 (k : Int) ∧ nb ≤ 10 * (k + 1) ∧ Hid (OwnS .u8 5 w.heap.size wr Aw nb cw (enc tm ++ ([x0, x1, x2, x3].take k).flatMap (fun q => enc (zig q)))) ∧ Hid (Blk wr w.heap.size 71 #[.int .i64 tm, .int .i64 x0, .int .i64 x1, .int .i64 x2, .int .i64 x3, .slice A n c]) ∧ Hid (Ext w wr))
  case atStart => exact ⟨0, Aw, nb, cw, rfl, by omega, rfl, rfl, by omega, Lib.hid (by simpa using HW.out), HB, HX⟩
  case round =>
    clear HX HB HW hnb
    obtain ⟨k, Aw, nb, cw, rfl, hk4, rfl, rfl, hnb, HW, HB, HX⟩ := hrel
    have hcp := HW.out.cap
    have hsz := HX.out.size
    obtain rfl | rfl | rfl | rfl | rfl : k = 4 ∨ k = 0 ∨ k = 1 ∨ k = 2 ∨ k = 3 := by omega
    · replace HW : Hid (OwnS .u8 5 w.heap.size wr Aw nb cw (headB ⟨tm, x0, x1, x2, x3, l⟩)) := Lib.hid (by have := HW.out; simpa [headB, List.append_assoc] using this)
      have c5 := HB.out.cell 5
      simp only [List.getElem?_toArray, List.getElem?_cons_zero, List.getElem?_cons_succ] at c5
      go_wp2_with fail
      clear c5
      refine (diffR_any A n c l wr (HH.out.ext HX.out) (by omega) (fun x hx => by have := HS.out.2 x hx; omega)).mono ?_
      rintro e w4 ⟨vd, rfl, hd, hX⟩
      obtain ⟨Ad, cd, rfl⟩ := own_slice hd
      rw [HN.out] at hd ⊢
      have HD := Lib.hid (StL.read hd HN.out)
      replace hsz : w.heap.size ≤ w4.heap.size := by have := hX.size; omega
      replace HX := Lib.hid (HX.out.trans hX)
      replace HW := Lib.hid (HW.out.ext hX)
      clear hd hX HB
      go_wp2_with fail
      refine (numberR_ok Aw nb cw _ (N : Int) w4 HW.out.ints hcp.1 hcp.2 (by omega) (by omega) (by omega)).mono ?_
      rintro e w5 ⟨Aw2, nb2, cw2, rfl, hw, hX⟩
      have hnb2 : nb2 ≤ 60 := by have := len_snoc HW.out.len hw (enc_length _); omega
      replace HW := Lib.hid (hw.mono (base' := w.heap.size) hsz)
      replace HX := Lib.hid (HX.out.trans hX)
      replace HD := Lib.hid (HD.out.ext hX)
      clear hw hX hsz hcp
      clear hnb hk4
      go_wp2_with fail
      go_loopg [4, 8] N (fun f bv iv wr => ∃ (k : Nat) (Aw : Option Addr) (nb cw : Nat), f = N - k ∧ k ≤ N ∧ bv = .slice Aw nb cw ∧ iv = .int .i64 (k : Int) ∧ nb ≤ 60 + 20 * k ∧ Hid (OwnS .u8 5 w.heap.size wr Aw nb cw (headB ⟨tm, x0, x1, x2, x3, l⟩ ++ enc (N : Int) ++ ((diffF l).take k).flatMap stepB)) ∧ Hid (StR wr Ad N (diffF l)) ∧ Hid (Ext w wr))
      case atStart => exact ⟨0, Aw2, nb2, cw2, rfl, by omega, rfl, rfl, by omega, Lib.hid (by simpa using HW.out), HD, HX⟩
      case round =>
        clear HX HD HW hnb2
        obtain ⟨k, Aw, nb, cw, rfl, hkN, rfl, rfl, hnb, HW, HD, HX⟩ := hrel
        have hcp := HW.out.cap
        have hsz := HX.out.size
        by_cases hlt : k < N
        · obtain ⟨bd, od, ⟨d, cn⟩, rfl, hsk, s0, s1⟩ := HD.out.get hlt
          simp only at s0 s1
          obtain ⟨r0, r1, r2, r3⟩ := HRG.out (d, cn) (List.mem_of_getElem? hsk)
          simp only at r0 r1 r2 r3
          have HSK := Lib.hid hsk
          clear hsk
          have qw : IntKind.i64.wrap (cn - 1) = cn - 1 := IntWalk.i64_in _ (by omega)
          go_wp2_with fail
          refine (signedR_ok Aw nb cw _ d wr HW.out.ints hcp.1 hcp.2 (by omega) (by omega) (by omega)).mono ?_
          rintro e w6 ⟨Aw3, nb3, cw3, rfl, hw, hX⟩
          have hnb3 := len_snoc HW.out.len hw (enc_length _)
          replace HW := Lib.hid (hw.mono (base' := w.heap.size) hsz)
          replace hsz : w.heap.size ≤ w6.heap.size := by have := hX.size; omega
          replace HX := Lib.hid (HX.out.trans hX)
          replace HD := Lib.hid (HD.out.ext hX)
          replace s1 := hX.cell s1
          replace hcp := HW.out.cap
          clear hw hX s0
          go_wp2_with fail
          clear s1
          refine (numberR_ok Aw3 nb3 cw3 _ (cn - 1) w6 HW.out.ints hcp.1 hcp.2 (by omega) (by omega) (by omega)).mono ?_
          rintro e w7 ⟨Aw4, nb4, cw4, rfl, hw, hX⟩
          have hnb4 := len_snoc HW.out.len hw (enc_length _)
          rw [flat_step HSK.out] at hw
          replace HW := Lib.hid (hw.mono (base' := w.heap.size) hsz)
          replace HX := Lib.hid (HX.out.trans hX)
          replace HD := Lib.hid (HD.out.ext hX)
          clear hw hX
          go_wp2
          go_roundg (N - (k + 1))
          case rel => exact ⟨k + 1, Aw4, nb4, cw4, rfl, by omega, rfl, by go_num, by omega, HW, HD, HX⟩
          case measure => omega
        · obtain rfl : k = N := by omega
          replace HW : Hid (OwnS .u8 5 w.heap.size wr Aw nb cw (encP ⟨tm, x0, x1, x2, x3, l⟩)) := Lib.hid (by
            have := HW.out
            rw [List.take_of_length_le (by rw [HN.out]; omega)] at this
            unfold encP
            rw [HN.out]
            exact this)
          go_wp2
          go_ret2
          exact ⟨Aw, nb, cw, by first | (rw [HO.out]; done) | (rw [HO.out]; rfl), by rw [HO.out]; exact HW.out, HX.out⟩
    · have c1 := HB.out.cell 1
      simp only [List.getElem?_toArray, List.getElem?_cons_zero, List.getElem?_cons_succ] at c1
      go_wp2_with fail
      clear c1
      refine (signedR_ok Aw nb cw _ x0 wr HW.out.ints hcp.1 hcp.2 (by omega) (by omega) (by omega)).mono ?_
      rintro e w4 ⟨Aw2, nb2, cw2, rfl, hw, hX⟩
      have hnb2 := len_snoc HW.out.len hw (enc_length _)
      replace HW := Lib.hid (hw.mono (base' := w.heap.size) hsz)
      replace HX := Lib.hid (HX.out.trans hX)
      replace HB := Lib.hid (HB.out.ext hX)
      clear hw hX
      go_wp2
      go_roundg (4 - (0 + 1))
      case rel => exact ⟨0 + 1, Aw2, nb2, cw2, rfl, by omega, rfl, by go_num, by omega, Lib.hid (by simpa [List.append_assoc] using HW.out), HB, HX⟩
      case measure => omega
    · have c2 := HB.out.cell 2
      simp only [List.getElem?_toArray, List.getElem?_cons_zero, List.getElem?_cons_succ] at c2
      go_wp2_with fail
      clear c2
      refine (signedR_ok Aw nb cw _ x1 wr HW.out.ints hcp.1 hcp.2 (by omega) (by omega) (by omega)).mono ?_
      rintro e w4 ⟨Aw2, nb2, cw2, rfl, hw, hX⟩
      have hnb2 := len_snoc HW.out.len hw (enc_length _)
      replace HW := Lib.hid (hw.mono (base' := w.heap.size) hsz)
      replace HX := Lib.hid (HX.out.trans hX)
      replace HB := Lib.hid (HB.out.ext hX)
      clear hw hX
      go_wp2
      go_roundg (4 - (1 + 1))
      case rel => exact ⟨1 + 1, Aw2, nb2, cw2, rfl, by omega, rfl, by go_num, by omega, Lib.hid (by simpa [List.append_assoc] using HW.out), HB, HX⟩
      case measure => omega
    · have c3 := HB.out.cell 3
      simp only [List.getElem?_toArray, List.getElem?_cons_zero, List.getElem?_cons_succ] at c3
      go_wp2_with fail
      clear c3
      refine (signedR_ok Aw nb cw _ x2 wr HW.out.ints hcp.1 hcp.2 (by omega) (by omega) (by omega)).mono ?_
      rintro e w4 ⟨Aw2, nb2, cw2, rfl, hw, hX⟩
      have hnb2 := len_snoc HW.out.len hw (enc_length _)
      replace HW := Lib.hid (hw.mono (base' := w.heap.size) hsz)
      replace HX := Lib.hid (HX.out.trans hX)
      replace HB := Lib.hid (HB.out.ext hX)
      clear hw hX
      go_wp2
      go_roundg (4 - (2 + 1))
      case rel => exact ⟨2 + 1, Aw2, nb2, cw2, rfl, by omega, rfl, by go_num, by omega, Lib.hid (by simpa [List.append_assoc] using HW.out), HB, HX⟩
      case measure => omega
    · have c4 := HB.out.cell 4
      simp only [List.getElem?_toArray, List.getElem?_cons_zero, List.getElem?_cons_succ] at c4
      go_wp2_with fail
      clear c4
      refine (signedR_ok Aw nb cw _ x3 wr HW.out.ints hcp.1 hcp.2 (by omega) (by omega) (by omega)).mono ?_
      rintro e w4 ⟨Aw2, nb2, cw2, rfl, hw, hX⟩
      have hnb2 := len_snoc HW.out.len hw (enc_length _)
      replace HW := Lib.hid (hw.mono (base' := w.heap.size) hsz)
      replace HX := Lib.hid (HX.out.trans hX)
      replace HB := Lib.hid (HB.out.ext hX)
      clear hw hX
      go_wp2
      go_roundg (4 - (3 + 1))
      case rel => exact ⟨3 + 1, Aw2, nb2, cw2, rfl, by omega, rfl, by go_num, by omega, Lib.hid (by simpa [List.append_assoc] using HW.out), HB, HX⟩
      case measure => omega
end Go.Proofs.Ytagcgldhhdecjaa
namespace Go.Proofs.Ytagcgldhhdecjaa
open Go.RowKit

set_option maxRecDepth 100000 in
set_option maxHeartbeats 2000000 in
theorem sameB_eq (A B : Option Addr) (n c d : Nat) (xs : List Int) (w : World) (hA : Ints .u8 w A n xs) (hB : Ints .u8 w B n xs) (hn : n ≤ 1000000) :
    Calls Try.prog 51 #[.slice A n c, .slice B n d] w fun e w' => e = .returned (.bool true) ∧ Ext w w' := by
  have HA := Lib.hid hA
  have HB := Lib.hid hB
  clear hA hB
  have hnn : ((n : Int) != (n : Int)) = false := by simp
  go_enter Try.func51, Try.ntmps51
  go_wp2_with fail
  go_loopg [5] n (fun g i wr => ∃ k : Nat, g = n - k ∧ k ≤ n ∧ i = .int .i64 (k : Int) ∧ Hid (Ext w wr))
  case atStart => exact ⟨0, rfl, by omega, rfl, Lib.hid (Ext.refl w)⟩
  case round =>
    obtain ⟨k, rfl, hk, rfl, HX⟩ := hrel
    by_cases hlt : k < n
    · have q1 : decide (k < n) = true := decide_eq_true hlt
      obtain ⟨ga, oa, x, rfl, hx, _, ha⟩ := (HA.out.ext HX.out).get hlt
      obtain ⟨gb, ob, y, rfl, hy, _, hb⟩ := (HB.out.ext HX.out).get hlt
      obtain rfl : x = y := by rw [hx] at hy; injection hy
      have qx : (x != x) = false := by simp
      clear hx hy
      go_wp2_with fail
      go_region
      go_wp2
      go_roundg (n - (k + 1))
      case rel => exact ⟨k + 1, rfl, by omega, by go_num, Lib.hid HX.out.drew⟩
      case measure => omega
    · obtain rfl : k = n := by omega
      go_wp2
      go_ret
      exact ⟨rfl, HX.out⟩


set_option maxRecDepth 100000 in
set_option maxHeartbeats 2000000 in
theorem lawEn_r5 (g N ca cb n cc : Nat) (A Aa Ab : Option Addr) (tm x0 x1 x2 x3 er : Int) (l bs : List Int) (bo : Bool) (w : World) (c0 : w.cell? ⟨g, 0, none⟩ = some (.int .i64 tm)) (c1 : w.cell? ⟨g, 1, none⟩ = some (.int .i64 x0)) (c2 : w.cell? ⟨g, 2, none⟩ = some (.int .i64 x1)) (c3 : w.cell? ⟨g, 3, none⟩ = some (.int .i64 x2)) (c4 : w.cell? ⟨g, 4, none⟩ = some (.int .i64 x3)) (c5 : w.cell? ⟨g, 5, none⟩ = some (.slice A n cc)) (hbo : Hid (decide (PulOk ⟨tm, x0, x1, x2, x3, l⟩) = bo)) (hI : Ints .i64 w A n l) (hEa : Ints .u8 w Aa N bs) (hEb : Ints .u8 w Ab N bs) (hN : N ≤ 1000000) (a : Act) (Q : Exit → Act → World → Prop) (hsize : 40 ≤ a.tmps.size)
    (s1 : a.tmps[1]? = some (.pointer (some ⟨g, 0, none⟩)))
    (s3 : a.tmps[3]? = some (.slice Aa N ca))
    (s4 : a.tmps[4]? = some (.int .i64 er))
    (s5 : a.tmps[5]? = some (.slice Ab N cb))
    (s6 : a.tmps[6]? = some (.int .i64 er))
    (hend : ∀ (xv0 xv1 xv2 xv3 xv4 xv5 xv6 xv7 xv8 xv9 xv10 xv11 xv12 xv13 xv14 xv15 xv16 xv17 xv18 : Value) (W : World), (xv0 = .agg #[.int .i64 tm, .int .i64 x0, .int .i64 x1, .int .i64 x2, .int .i64 x3, .slice A n cc]) → (xv1 = .bool bo) → (xv2 = .agg #[.int .i64 tm, .int .i64 x0, .int .i64 x1, .int .i64 x2, .int .i64 x3, .slice A n cc]) → (xv3 = .bool bo) → (xv4 = .bool true) → (xv5 = .bool true) → (xv6 = .int .i64 er) → (xv7 = .int .i64 er) → (xv8 = .bool true) → (xv9 = .bool true) → (xv10 = .bool true) → (xv11 = .slice Aa N ca) → (xv12 = .slice Ab N cb) → (xv13 = .bool true) → (xv14 = .bool true) → (xv15 = .bool true) → (xv16 = .bool true) → (xv17 = .bool true) → (xv18 = .bool true) → Ext w W → wpList Try.prog (rops Try.f15 5).toArray Q ((rops Try.f15 5).drop 19) (((((((((((((((((((a.put (some 22) xv0).put (some 23) xv1).put (some 24) xv2).put (some 25) xv3).put (some 26) xv4).put (some 27) xv5).put (some 28) xv6).put (some 29) xv7).put (some 30) xv8).put (some 31) xv9).put (some 32) xv10).put (some 33) xv11).put (some 34) xv12).put (some 35) xv13).put (some 36) xv14).put (some 37) xv15).put (some 38) xv16).put (some 39) xv17).put (some 2) xv18) W) :
    (Code.region 5 (rops Try.f15 5).toArray true).wp Try.prog Q a w := by
  have hmono : ∀ (W W' : World) (j : Nat) (u : Value), Ext W W' → (fun (i : Nat) (v : Value) (W : World) => match i with
    | 0 => v = .agg #[.int .i64 tm, .int .i64 x0, .int .i64 x1, .int .i64 x2, .int .i64 x3, .slice A n cc]
    | 1 => v = .bool bo
    | 2 => v = .agg #[.int .i64 tm, .int .i64 x0, .int .i64 x1, .int .i64 x2, .int .i64 x3, .slice A n cc]
    | 3 => v = .bool bo
    | 4 => v = .bool true
    | 5 => v = .bool true
    | 6 => v = .int .i64 er
    | 7 => v = .int .i64 er
    | 8 => v = .bool true
    | 9 => v = .bool true
    | 10 => v = .bool true
    | 11 => v = .slice Aa N ca
    | 12 => v = .slice Ab N cb
    | 13 => v = .bool true
    | 14 => v = .bool true
    | 15 => v = .bool true
    | 16 => v = .bool true
    | 17 => v = .bool true
    | 18 => v = .bool true
    | _ => True) j u W → (fun (i : Nat) (v : Value) (W : World) => match i with
    | 0 => v = .agg #[.int .i64 tm, .int .i64 x0, .int .i64 x1, .int .i64 x2, .int .i64 x3, .slice A n cc]
    | 1 => v = .bool bo
    | 2 => v = .agg #[.int .i64 tm, .int .i64 x0, .int .i64 x1, .int .i64 x2, .int .i64 x3, .slice A n cc]
    | 3 => v = .bool bo
    | 4 => v = .bool true
    | 5 => v = .bool true
    | 6 => v = .int .i64 er
    | 7 => v = .int .i64 er
    | 8 => v = .bool true
    | 9 => v = .bool true
    | 10 => v = .bool true
    | 11 => v = .slice Aa N ca
    | 12 => v = .slice Ab N cb
    | 13 => v = .bool true
    | 14 => v = .bool true
    | 15 => v = .bool true
    | 16 => v = .bool true
    | 17 => v = .bool true
    | 18 => v = .bool true
    | _ => True) j u W' := by
    intro W W' j u hX h
    match j, h with
    | 0, h => exact h
    | 1, h => exact h
    | 2, h => exact h
    | 3, h => exact h
    | 4, h => exact h
    | 5, h => exact h
    | 6, h => exact h
    | 7, h => exact h
    | 8, h => exact h
    | 9, h => exact h
    | 10, h => exact h
    | 11, h => exact h
    | 12, h => exact h
    | 13, h => exact h
    | 14, h => exact h
    | 15, h => exact h
    | 16, h => exact h
    | 17, h => exact h
    | 18, h => exact h
    | _ + 19, h => exact h
  have hsz : ∀ d, some d ∈ ([some 22, some 23, some 24, some 25, some 26, some 27, some 28, some 29, some 30, some 31, some 32, some 33, some 34, some 35, some 36, some 37, some 38, some 39, some 2] : List (Option Tmp)) → d < a.tmps.size := slots_lt (by decide) hsize
  refine wp_region_j 19 [some 22, some 23, some 24, some 25, some 26, some 27, some 28, some 29, some 30, some 31, some 32, some 33, some 34, some 35, some 36, some 37, some 38, some 39, some 2] [[], [0], [], [2], [1, 3], [4], [5], [5], [5, 6, 7], [5, 8], [9], [10], [10], [10, 11, 12], [10, 13], [14], [15], [15, 16], [17]] [[], [], [], [], [], [], [], [], [], [], [], [], [], [], [], [], [], [], []] (fun (i : Nat) (v : Value) (W : World) => match i with
    | 0 => v = .agg #[.int .i64 tm, .int .i64 x0, .int .i64 x1, .int .i64 x2, .int .i64 x3, .slice A n cc]
    | 1 => v = .bool bo
    | 2 => v = .agg #[.int .i64 tm, .int .i64 x0, .int .i64 x1, .int .i64 x2, .int .i64 x3, .slice A n cc]
    | 3 => v = .bool bo
    | 4 => v = .bool true
    | 5 => v = .bool true
    | 6 => v = .int .i64 er
    | 7 => v = .int .i64 er
    | 8 => v = .bool true
    | 9 => v = .bool true
    | 10 => v = .bool true
    | 11 => v = .slice Aa N ca
    | 12 => v = .slice Ab N cb
    | 13 => v = .bool true
    | 14 => v = .bool true
    | 15 => v = .bool true
    | 16 => v = .bool true
    | 17 => v = .bool true
    | 18 => v = .bool true
    | _ => True) (fun _ W => Ext w W) (by kernel_rfl) (by kernel_rfl) hsz (fun _ _ _ _ h => h) ((Ext.refl w).drew) ?_ ?_
  · clear hend
    simp only [rops, Try.f15, regOf, Option.bind_some, Nat.reduceBEq, if_true, if_false, Bool.false_eq_true, Option.getD_some]
    simp only [List.take_succ_cons, List.take_zero]
    refine ⟨?_, ?_, ?_, ?_, ?_, ?_, ?_, ?_, ?_, ?_, ?_, ?_, ?_, ?_, ?_, ?_, ?_, ?_, ?_, trivial⟩
    · intro done us W hJ hdep haft hnot b hb hb' K hK Q'
      have e1 := (hb' 1 (by simp)).trans s1
      clear hb hb'
      have q0 := Ext.cell hJ c0
      have q1 := Ext.cell hJ c1
      have q2 := Ext.cell hJ c2
      have q3 := Ext.cell hJ c3
      have q4 := Ext.cell hJ c4
      have q5 := Ext.cell hJ c5
      go_simp
      exact hK _ _ rfl (fun _ _ _ h => h) hJ
    · intro done us W hJ hdep haft hnot b hb hb' K hK Q'
      simp only [List.getD_cons_succ, List.getD_cons_zero, List.mem_cons, List.not_mem_nil, or_false, forall_eq] at hdep
      have e22 := hb 0 22 rfl
      have d0 := hdep
      rw [d0.1] at e22
      clear hb hb' hdep d0
      go_simp
      refine (validP_any ⟨tm, x0, x1, x2, x3, l⟩ A n cc W (hI.ext hJ)).mono ?_
      rw [hbo.out]
      rintro e w' ⟨rfl, hX⟩
      exact hK _ _ rfl (fun j u _ h => hmono _ _ j u hX h) (Ext.trans hJ hX)
    · intro done us W hJ hdep haft hnot b hb hb' K hK Q'
      have e1 := (hb' 1 (by simp)).trans s1
      clear hb hb'
      have q0 := Ext.cell hJ c0
      have q1 := Ext.cell hJ c1
      have q2 := Ext.cell hJ c2
      have q3 := Ext.cell hJ c3
      have q4 := Ext.cell hJ c4
      have q5 := Ext.cell hJ c5
      go_simp
      exact hK _ _ rfl (fun _ _ _ h => h) hJ
    · intro done us W hJ hdep haft hnot b hb hb' K hK Q'
      simp only [List.getD_cons_succ, List.getD_cons_zero, List.mem_cons, List.not_mem_nil, or_false, forall_eq] at hdep
      have e24 := hb 2 24 rfl
      have d2 := hdep
      rw [d2.1] at e24
      clear hb hb' hdep d2
      go_simp
      refine (validR_any ⟨tm, x0, x1, x2, x3, l⟩ A n cc W (hI.ext hJ)).mono ?_
      rw [hbo.out]
      rintro e w' ⟨rfl, hX⟩
      exact hK _ _ rfl (fun j u _ h => hmono _ _ j u hX h) (Ext.trans hJ hX)
    · intro done us W hJ hdep haft hnot b hb hb' K hK Q'
      simp only [List.getD_cons_succ, List.getD_cons_zero, List.mem_cons, List.not_mem_nil, or_false, forall_eq_or_imp, forall_eq] at hdep
      have e23 := hb 1 23 rfl
      have e25 := hb 3 25 rfl
      have d1 := hdep.1
      have d3 := hdep.2
      rw [d1.1] at e23
      rw [d3.1] at e25
      clear hb hb' hdep d1 d3
      have qq : (bo == bo) = true := by simp
      go_simp
      exact hK _ _ (by first | rfl | exact congrArg Value.bool qq) (fun _ _ _ h => h) hJ
    · intro done us W hJ hdep haft hnot b hb hb' K hK Q'
      simp only [List.getD_cons_succ, List.getD_cons_zero, List.mem_cons, List.not_mem_nil, or_false, forall_eq] at hdep
      have e26 := hb 4 26 rfl
      have d4 := hdep
      rw [d4.1] at e26
      clear hb hb' hdep d4
      go_simp
      exact hK _ _ rfl (fun _ _ _ h => h) hJ
    · intro done us W hJ hdep haft hnot b hb hb' K hK Q'
      simp only [List.getD_cons_succ, List.getD_cons_zero, List.mem_cons, List.not_mem_nil, or_false, forall_eq] at hdep
      have e4 := (hb' 4 (by simp)).trans s4
      have e27 := hb 5 27 rfl
      have d5 := hdep
      rw [d5.1] at e27
      clear hb hb' hdep d5
      go_simp
      exact hK _ _ rfl (fun _ _ _ h => h) hJ
    · intro done us W hJ hdep haft hnot b hb hb' K hK Q'
      simp only [List.getD_cons_succ, List.getD_cons_zero, List.mem_cons, List.not_mem_nil, or_false, forall_eq] at hdep
      have e6 := (hb' 6 (by simp)).trans s6
      have e27 := hb 5 27 rfl
      have d5 := hdep
      rw [d5.1] at e27
      clear hb hb' hdep d5
      go_simp
      exact hK _ _ rfl (fun _ _ _ h => h) hJ
    · intro done us W hJ hdep haft hnot b hb hb' K hK Q'
      simp only [List.getD_cons_succ, List.getD_cons_zero, List.mem_cons, List.not_mem_nil, or_false, forall_eq_or_imp, forall_eq] at hdep
      have e27 := hb 5 27 rfl
      have e28 := hb 6 28 rfl
      have e29 := hb 7 29 rfl
      have d5 := hdep.1
      have d6 := hdep.2.1
      have d7 := hdep.2.2
      rw [d5.1] at e27
      rw [d6.1] at e28
      rw [d7.1] at e29
      clear hb hb' hdep d5 d6 d7
      have qq : (er == er) = true := by simp
      go_simp
      exact hK _ _ (by first | rfl | exact congrArg Value.bool qq) (fun _ _ _ h => h) hJ
    · intro done us W hJ hdep haft hnot b hb hb' K hK Q'
      simp only [List.getD_cons_succ, List.getD_cons_zero, List.mem_cons, List.not_mem_nil, or_false, forall_eq_or_imp, forall_eq] at hdep
      have e27 := hb 5 27 rfl
      have e30 := hb 8 30 rfl
      have d5 := hdep.1
      have d8 := hdep.2
      rw [d5.1] at e27
      rw [d8.1] at e30
      clear hb hb' hdep d5 d8
      go_simp
      exact hK _ _ rfl (fun _ _ _ h => h) hJ
    · intro done us W hJ hdep haft hnot b hb hb' K hK Q'
      simp only [List.getD_cons_succ, List.getD_cons_zero, List.mem_cons, List.not_mem_nil, or_false, forall_eq] at hdep
      have e31 := hb 9 31 rfl
      have d9 := hdep
      rw [d9.1] at e31
      clear hb hb' hdep d9
      go_simp
      exact hK _ _ rfl (fun _ _ _ h => h) hJ
    · intro done us W hJ hdep haft hnot b hb hb' K hK Q'
      simp only [List.getD_cons_succ, List.getD_cons_zero, List.mem_cons, List.not_mem_nil, or_false, forall_eq] at hdep
      have e3 := (hb' 3 (by simp)).trans s3
      have e32 := hb 10 32 rfl
      have d10 := hdep
      rw [d10.1] at e32
      clear hb hb' hdep d10
      go_simp
      exact hK _ _ rfl (fun _ _ _ h => h) hJ
    · intro done us W hJ hdep haft hnot b hb hb' K hK Q'
      simp only [List.getD_cons_succ, List.getD_cons_zero, List.mem_cons, List.not_mem_nil, or_false, forall_eq] at hdep
      have e5 := (hb' 5 (by simp)).trans s5
      have e32 := hb 10 32 rfl
      have d10 := hdep
      rw [d10.1] at e32
      clear hb hb' hdep d10
      go_simp
      exact hK _ _ rfl (fun _ _ _ h => h) hJ
    · intro done us W hJ hdep haft hnot b hb hb' K hK Q'
      simp only [List.getD_cons_succ, List.getD_cons_zero, List.mem_cons, List.not_mem_nil, or_false, forall_eq_or_imp, forall_eq] at hdep
      have e32 := hb 10 32 rfl
      have e33 := hb 11 33 rfl
      have e34 := hb 12 34 rfl
      have d10 := hdep.1
      have d11 := hdep.2.1
      have d12 := hdep.2.2
      rw [d10.1] at e32
      rw [d11.1] at e33
      rw [d12.1] at e34
      clear hb hb' hdep d10 d11 d12
      go_simp
      refine (sameB_eq Aa Ab N ca cb bs W (hEa.ext hJ) (hEb.ext hJ) hN).mono ?_
      rintro e w' ⟨rfl, hX⟩
      exact hK _ _ rfl (fun j u _ h => hmono _ _ j u hX h) (Ext.trans hJ hX)
    · intro done us W hJ hdep haft hnot b hb hb' K hK Q'
      simp only [List.getD_cons_succ, List.getD_cons_zero, List.mem_cons, List.not_mem_nil, or_false, forall_eq_or_imp, forall_eq] at hdep
      have e32 := hb 10 32 rfl
      have e35 := hb 13 35 rfl
      have d10 := hdep.1
      have d13 := hdep.2
      rw [d10.1] at e32
      rw [d13.1] at e35
      clear hb hb' hdep d10 d13
      go_simp
      exact hK _ _ rfl (fun _ _ _ h => h) hJ
    · intro done us W hJ hdep haft hnot b hb hb' K hK Q'
      simp only [List.getD_cons_succ, List.getD_cons_zero, List.mem_cons, List.not_mem_nil, or_false, forall_eq] at hdep
      have e36 := hb 14 36 rfl
      have d14 := hdep
      rw [d14.1] at e36
      clear hb hb' hdep d14
      go_simp
      exact hK _ _ rfl (fun _ _ _ h => h) hJ
    · intro done us W hJ hdep haft hnot b hb hb' K hK Q'
      simp only [List.getD_cons_succ, List.getD_cons_zero, List.mem_cons, List.not_mem_nil, or_false, forall_eq] at hdep
      have e37 := hb 15 37 rfl
      have d15 := hdep
      rw [d15.1] at e37
      clear hb hb' hdep d15
      go_simp
      refine (firstW_any W).mono ?_
      rintro e w' ⟨rfl, hX⟩
      exact hK _ _ rfl (fun j u _ h => hmono _ _ j u hX h) (Ext.trans hJ hX)
    · intro done us W hJ hdep haft hnot b hb hb' K hK Q'
      simp only [List.getD_cons_succ, List.getD_cons_zero, List.mem_cons, List.not_mem_nil, or_false, forall_eq_or_imp, forall_eq] at hdep
      have e37 := hb 15 37 rfl
      have e38 := hb 16 38 rfl
      have d15 := hdep.1
      have d16 := hdep.2
      rw [d15.1] at e37
      rw [d16.1] at e38
      clear hb hb' hdep d15 d16
      go_simp
      exact hK _ _ rfl (fun _ _ _ h => h) hJ
    · intro done us W hJ hdep haft hnot b hb hb' K hK Q'
      simp only [List.getD_cons_succ, List.getD_cons_zero, List.mem_cons, List.not_mem_nil, or_false, forall_eq] at hdep
      have e39 := hb 17 39 rfl
      have d17 := hdep
      rw [d17.1] at e39
      clear hb hb' hdep d17
      go_simp
      exact hK _ _ rfl (fun _ _ _ h => h) hJ
  · intro us W hV hJ
    exact hend (us 0) (us 1) (us 2) (us 3) (us 4) (us 5) (us 6) (us 7) (us 8) (us 9) (us 10) (us 11) (us 12) (us 13) (us 14) (us 15) (us 16) (us 17) (us 18) W (hV 0 (by omega)) (hV 1 (by omega)) (hV 2 (by omega)) (hV 3 (by omega)) (hV 4 (by omega)) (hV 5 (by omega)) (hV 6 (by omega)) (hV 7 (by omega)) (hV 8 (by omega)) (hV 9 (by omega)) (hV 10 (by omega)) (hV 11 (by omega)) (hV 12 (by omega)) (hV 13 (by omega)) (hV 14 (by omega)) (hV 15 (by omega)) (hV 16 (by omega)) (hV 17 (by omega)) (hV 18 (by omega)) hJ

theorem encO_len {q : Pul} : (encO q).1.length ≤ 1000000 := by
  by_cases h : PulOk q
  · rw [encO_yes h]
    simp only
    have h1 : (diffF q.smp).length ≤ 256 := by have := diffF_len q.smp; have := h.2.2.2.1.1; omega
    have h2 : ∀ ss : List (Int × Int), (ss.flatMap stepB).length ≤ 20 * ss.length := by
      intro ss
      induction ss with
      | nil => simp
      | cons s ss ih =>
        rw [List.flatMap_cons, List.length_append, List.length_cons]
        have := enc_length (zig s.1)
        have := enc_length (s.2 - 1)
        simp only [stepB, List.length_append]
        omega
    have h3 := h2 (diffF q.smp)
    simp only [encP, headB, List.length_append]
    have := enc_length q.time
    have := enc_length (zig q.q0)
    have := enc_length (zig q.q1)
    have := enc_length (zig q.q2)
    have := enc_length (zig q.q3)
    have := enc_length ((diffF q.smp).length : Int)
    omega
  · rw [encO_no h]; simp
set_option maxRecDepth 100000 in
set_option maxHeartbeats 4000000 in
theorem waveEncodes_walk (q : Pul) (A : Option Addr) (n c : Nat) (w : World) (h : Ints .i64 w A n q.smp) :
    Calls Try.prog 15 #[q.val A n c] w (fun e w' => e = .returned (.bool true) ∧ Ext w w') := by
  obtain ⟨tm, x0, x1, x2, x3, l⟩ := q
  simp only [Pul.val]
  have hX0 := (Ext.refl w).alloc (.cells #[.int .i64 tm, .int .i64 x0, .int .i64 x1, .int .i64 x2, .int .i64 x3, .slice A n c] 71)
  have hB0 := Blk.new w 71 #[.int .i64 tm, .int .i64 x0, .int .i64 x1, .int .i64 x2, .int .i64 x3, .slice A n c]
  have HI := Lib.hid (h.ext hX0)
  have HB := Lib.hid hB0
  have HX := Lib.hid hX0
  clear h hX0 hB0
  by_cases hn : 1000 < n
  · have c5 := HB.out.cell 5
    simp only [List.getElem?_toArray, List.getElem?_cons_zero, List.getElem?_cons_succ] at c5
    go_enter Try.func15, Try.ntmps15
    go_wp2_with fail
    refine (firstW_any _).mono ?_
    rintro e w1 ⟨rfl, hX⟩
    replace HX := Lib.hid (HX.out.trans hX)
    clear hX
    go_wp2
    go_ret
    exact ⟨rfl, HX.out⟩
  obtain ⟨bo, hbo⟩ : ∃ bo, decide (PulOk ⟨tm, x0, x1, x2, x3, l⟩) = bo := ⟨_, rfl⟩
  have HBO := Lib.hid hbo
  have hlen := encO_len (q := ⟨tm, x0, x1, x2, x3, l⟩)
  generalize hef : encO ⟨tm, x0, x1, x2, x3, l⟩ = ef at hlen
  obtain ⟨bs, er⟩ := ef
  simp only at hlen
  have HEF := Lib.hid hef
  obtain ⟨N, hN⟩ : ∃ N, bs.length = N := ⟨_, rfl⟩
  have HN := Lib.hid hN
  rw [hN] at hlen
  clear hef hbo hN
  have c0 := HB.out.cell 0
  have c1 := HB.out.cell 1
  have c2 := HB.out.cell 2
  have c3 := HB.out.cell 3
  have c4 := HB.out.cell 4
  have c5 := HB.out.cell 5
  simp only [List.getElem?_toArray, List.getElem?_cons_zero, List.getElem?_cons_succ] at c0 c1 c2 c3 c4 c5
  go_enter Try.func15, Try.ntmps15
  go_wp2_with fail
  refine (encodeP_any ⟨tm, x0, x1, x2, x3, l⟩ A n c _ HI.out).mono ?_
  rw [HEF.out]
  rintro e w1 ⟨Aa, na, ca, rfl, hEa, hX⟩
  have hna : na = N := by have := hEa.len; have := HN.out; simp only at *; omega
  subst hna
  have HEA := Lib.hid hEa.ints
  replace HX := Lib.hid (HX.out.trans hX)
  replace HB := Lib.hid (HB.out.ext hX)
  replace HI := Lib.hid (HI.out.ext hX)
  clear hX hEa c0 c1 c2 c3 c4 c5
  have c0 := HB.out.cell 0
  have c1 := HB.out.cell 1
  have c2 := HB.out.cell 2
  have c3 := HB.out.cell 3
  have c4 := HB.out.cell 4
  have c5 := HB.out.cell 5
  simp only [List.getElem?_toArray, List.getElem?_cons_zero, List.getElem?_cons_succ] at c0 c1 c2 c3 c4 c5
  go_wp2_with fail
  refine (encodeR_any ⟨tm, x0, x1, x2, x3, l⟩ A n c _ HI.out).mono ?_
  rw [HEF.out]
  rintro e w2 ⟨Ab, nb, cb, rfl, hEb, hX⟩
  have hnb : nb = na := by have := hEb.len; have := HN.out; simp only at *; omega
  subst hnb
  have HEB := Lib.hid hEb.ints
  replace HX := Lib.hid (HX.out.trans hX)
  replace HB := Lib.hid (HB.out.ext hX)
  replace HI := Lib.hid (HI.out.ext hX)
  replace HEA := Lib.hid (HEA.out.ext hX)
  clear hX hEb c0 c1 c2 c3 c4 c5
  have c0 := HB.out.cell 0
  have c1 := HB.out.cell 1
  have c2 := HB.out.cell 2
  have c3 := HB.out.cell 3
  have c4 := HB.out.cell 4
  have c5 := HB.out.cell 5
  simp only [List.getElem?_toArray, List.getElem?_cons_zero, List.getElem?_cons_succ] at c0 c1 c2 c3 c4 c5
  go_upto_region 5 with (fail)
  refine lawEn_r5 w.heap.size nb ca cb n c A Aa Ab tm x0 x1 x2 x3 er l bs bo w2 c0 c1 c2 c3 c4 c5 HBO HI.out HEA.out HEB.out hlen _ _ (by simp) rfl rfl rfl rfl rfl ?_
  rintro xv0 xv1 xv2 xv3 xv4 xv5 xv6 xv7 xv8 xv9 xv10 xv11 xv12 xv13 xv14 xv15 xv16 xv17 xv18 W rfl rfl rfl rfl rfl rfl rfl rfl rfl rfl rfl rfl rfl rfl rfl rfl rfl rfl rfl hXW
  simp only [rops, Try.f15, regOf, Option.bind_some, Nat.reduceBEq, if_true, if_false, Bool.false_eq_true, Option.getD_some, List.drop_succ_cons, List.drop_zero]
  simp only [Act.put, List.setIfInBounds_toArray, List.set_cons_succ, List.set_cons_zero]
  replace HX := Lib.hid (HX.out.trans hXW)
  clear hXW c0 c1 c2 c3 c4 c5
  go_wp2
  go_ret
  exact ⟨rfl, HX.out⟩

end Go.Proofs.Ytagcgldhhdecjaa
