/- Lemmas of the proof that follows (Transfers, part 13): walks of functions by contract, and plain lemmas. Conditions: none. -/
import Derived.Test.YtekhmfliaojabaaTransfersL
namespace Go.Proofs.Ytekhmfliaojabaa
open Go.RowKit

theorem LO.mono {b' base : Nat} {w : World} {A : Option Addr} {n : Nat} {xss : List (List Int)} (h : LO base w A n xss) (hb : b' ≤ base) : LO b' w A n xss := by
  obtain ⟨c, vs, h1, h2⟩ := h
  exact ⟨c, vs, World.ownsRow.mono' h1 hb, h2.imp fun _ _ _ h => h.mono hb⟩
theorem LO.keeps {base : Nat} {w w' : World} {A : Option Addr} {n : Nat} {xss : List (List Int)} {L : List Nat} (h : LO base w A n xss) (hk : Keeps L w w') (n1 : ∀ k ∈ L, NoRow 22 w k) (n2 : ∀ k ∈ L, NoRow 5 w k) : LO base w' A n xss := by
  obtain ⟨c, vs, h1, h2⟩ := h
  exact ⟨c, vs, ownsRow_away h1 hk n1, h2.imp fun _ _ _ h => h.keeps hk n2⟩
theorem Dgs.lo {base : Nat} {w : World} {A : Option Addr} {n c : Nat} {gs : List (List Int)} (h : Dgs base w (.slice A n c) n gs) : LO base w A n gs := by
  obtain ⟨vs, h1, h2⟩ := h
  exact ⟨c, vs, h1, h2⟩
theorem scn_body (f : Nat) (xs : List Int) : ∀ r ∈ (scn f xs).1, r.body.length ≤ 1024 := by
  induction f generalizing xs with
  | zero => simp [scn]
  | succ f ih =>
    unfold scn
    split
    · simp
    · split
      · rename_i h
        have hg := unp_good h
        intro r hr
        simp only [preS, List.mem_append, List.mem_singleton] at hr
        rcases hr with rfl | hr
        · rw [hg.2.2.2, List.length_drop, List.length_take]; have := hg.1; omega
        · exact ih _ r hr
      · simpa [preS] using ih (xs.drop 1)
theorem scan_body {xs : List Int} : ∀ r ∈ (scan xs).1, r.body.length ≤ 1024 := scn_body _ _
theorem Grams.up {n k m m' : Nat} {xss : List (List Int)} (h : Grams n m xss) (hk : n ≤ k) (hm : m ≤ m') : Grams k m' xss := ⟨Nat.le_trans h.1 hk, fun x hx => ⟨Nat.le_trans (h.2 x hx).1 hm, (h.2 x hx).2⟩⟩
theorem Grams.up' {n i : Nat} {xss : List (List Int)} (h : Grams n 1036 xss) (hk : xss.length = i) : Grams i 1000000 xss := ⟨Nat.le_of_eq hk, fun x hx => ⟨Nat.le_trans (h.2 x hx).1 (by omega), (h.2 x hx).2⟩⟩
theorem FltLs.ext {w w' : World} {A : Option Addr} {n : Nat} {rs : List (List Flt)} (h : FltLs w A n rs) (he : Ext w w') : FltLs w' A n rs := by
  obtain ⟨hl, vs, h1, h2, h3⟩ := h
  exact ⟨hl, vs, h1, h2.ext he, fun j v fl hv hf => by obtain ⟨A', n', c', e, h4, h5⟩ := h3 j v fl hv hf; exact ⟨A', n', c', e, h4.ext he, h5⟩⟩


set_option maxRecDepth 100000 in
set_option maxHeartbeats 16000000 in
theorem transferE_any (A : Option Addr) (n c : Nat) (win : Int) (B : Option Addr) (m d : Nat) (xss : List (List Int)) (rs : List (List Flt)) (w : World) (hL : Lists .u8 w A n xss) (hn : n ≤ 200) (hR : FltLs w B m rs) (hm : m ≤ 1000) (hr8 : ∀ k, k < 64 → (rs.getD k []).length ≤ 1000) (hx : ∀ x ∈ xss, x.length ≤ 1000000 ∧ ∀ y ∈ x, (Lit.int .u8 y).wf = true) :
    Calls Try.prog 66 #[.slice A n c, .int .i64 win, .slice B m d] w (RetT w (transR xss win rs)) := by
  have HL := Lib.hid hL
  have HXL := Lib.hid hL.len
  have HR := Lib.hid hR
  have HRL := Lib.hid hR.1
  have HXX := Lib.hid hx
  have HR8 := Lib.hid hr8
  clear hL hR hx hr8
  have g1 : decide ((256 : Int) < (n : Int)) = false := decide_eq_false (by omega)
  by_cases hb1 : win < 1
  · have HE : Hid (transR xss win rs = ([], 0, 2)) := Lib.hid (by unfold transR; rw [if_pos]; omega)
    have q1 : decide (win < 1) = true := decide_eq_true hb1
    clear hb1
    go_enter Try.func66, Try.ntmps66
    go_wp2_with fail
    go_ret3
    rw [HE.out]
    exact ⟨none, 0, rfl, Dls.nil _ _, Ext.refl _⟩
  by_cases hb2 : 64 < win
  · have HE : Hid (transR xss win rs = ([], 0, 2)) := Lib.hid (by unfold transR; rw [if_pos]; omega)
    have q1 : decide (win < 1) = false := decide_eq_false hb1
    have q2 : decide (64 < win) = true := decide_eq_true hb2
    clear hb1 hb2
    go_enter Try.func66, Try.ntmps66
    go_wp2_with fail
    go_ret3
    rw [HE.out]
    exact ⟨none, 0, rfl, Dls.nil _ _, Ext.refl _⟩
  have hbad : ¬ BadS 0 win := by unfold BadS; omega
  have q1 : decide (win < 1) = false := decide_eq_false hb1
  have q2 : decide (64 < win) = false := decide_eq_false hb2
  have hw1 : 1 ≤ win ∧ win ≤ 64 := by omega
  have HWN := Lib.hid hw1
  clear hb1 hb2 hw1
  go_enter Try.func66, Try.ntmps66
  go_wp2_with fail
  go_loopg [41] n (fun f iv wr => ∃ k : Nat, f = n - k ∧ k ≤ n ∧ iv = .int .i64 (k : Int) ∧ Hid (∀ x ∈ xss.take k, x.length ≤ 1024) ∧ w = wr)
  case atStart => exact ⟨0, rfl, by omega, rfl, Lib.hid (by simp), rfl⟩
  case round =>
    obtain ⟨k, rfl, hk, rfl, HA, rfl⟩ := hrel
    by_cases hlt : k < n
    · obtain ⟨b, off, A6, n6, c6, x, rfl, hx6, hc6, hI6, hn6, hm6⟩ := HL.out.get hlt
      have HXK := Lib.hid hx6
      have HI1 := Lib.hid hI6.1
      clear hx6 hI6
      by_cases h6 : 1024 < n6
      · have HE : Hid (transR xss win rs = ([], 0, 2)) := Lib.hid (by unfold transR; rw [if_pos (.inr (.inr ⟨x, List.mem_of_getElem? HXK.out, by rw [HI1.out]; exact h6⟩))])
        go_wp2
        go_ret3
        rw [HE.out]
        exact ⟨none, 0, rfl, Dls.nil _ _, Ext.refl _⟩
      · go_wp2
        go_roundg (n - (k + 1))
        case rel =>
          refine ⟨k + 1, rfl, by omega, by go_num, Lib.hid fun y hy => ?_, rfl⟩
          rw [List.take_add_one, HXK.out] at hy
          rcases List.mem_append.1 hy with hy | hy
          · exact HA.out y hy
          · simp at hy; subst hy; rw [HI1.out]; omega
        case measure => omega
    · have HE : Hid (transR xss win rs = ((transF xss rs 64 0 (snd0 0 win) (rcv0 0 win 0) []).1, (transF xss rs 64 0 (snd0 0 win) (rcv0 0 win 0) []).2, 0)) := Lib.hid (by
        unfold transR
        rw [if_neg]
        have hw := HWN.out
        rintro (h | h | ⟨x, hx, h⟩)
        · omega
        · omega
        · have := HA.out x (by rw [List.take_of_length_le (by rw [HXL.out]; omega)]; exact hx)
          omega)
      clear HA q1 q2
      go_upto_region 11 with (fail)
      have HX1 : Ext w (w.alloc (.cells #[.int .i64 0, .int .i64 win, .int .i64 0, .slice none 0 0] 118)) := (Ext.refl _).alloc _
      have B1 := Blk.new w 118 #[.int .i64 0, .int .i64 win, .int .i64 0, .slice none 0 0]
      have hz1 : (w.alloc (.cells #[.int .i64 0, .int .i64 win, .int .i64 0, .slice none 0 0] 118)).heap.size = w.heap.size + 1 := by simp
      generalize w.alloc (.cells #[.int .i64 0, .int .i64 win, .int .i64 0, .slice none 0 0] 118) = w1 at HX1 B1 hz1 ⊢
      have HX2 : Ext w1 (w1.alloc (.cells #[.int .i64 0, .int .i64 win, .int .i64 0, .slice none 0 0] 126)) := (Ext.refl _).alloc _
      have B2 := Blk.new w1 126 #[.int .i64 0, .int .i64 win, .int .i64 0, .slice none 0 0]
      generalize w1.alloc (.cells #[.int .i64 0, .int .i64 win, .int .i64 0, .slice none 0 0] 126) = w2 at HX2 B2 ⊢
      rw [hz1] at B2
      obtain ⟨gr, hgr⟩ : ∃ gr, w.heap.size + 1 = gr := ⟨_, rfl⟩
      have hgr' : w.heap.size ≤ gr := by omega
      rw [hgr] at B2 ⊢
      obtain ⟨gs, hgs⟩ : ∃ gs, w.heap.size = gs := ⟨_, rfl⟩
      have HT0 : Hid (TrE w w2 gs (.slice none 0 0) gr (.slice none 0 0) (.slice none 0 0) w.heap.size w.heap.size (snd0 0 win) (rcv0 0 win 0) []) := Lib.hid ⟨⟨hgs ▸ B1.ext HX2, ⟨[], World.ownsRow_nil _ _ _ _, trivial⟩, by omega, snd0_ok hbad⟩, ⟨⟨B2, DlL.nil _ _ _, hgr'⟩, rcv0_ok (by unfold BadS at hbad; unfold BadR; omega)⟩, DlL.nil _ _ _, fun k hk => by simp [Value.ownBlock] at hk, Nat.le_refl _, Nat.le_refl _, HX1.trans HX2⟩
      have hsl : (Value.pointer (some ⟨w.heap.size, 0, none⟩)) = .pointer (some ⟨gs, 0, none⟩) := by rw [hgs]
      rw [hsl]
      have HST0 := Lib.hid (sndT0 xss hbad)
      clear HX1 HX2 B1 B2 hz1 hgr hgr' hgs hsl
      go_wp2_with fail
      go_loopg [12, 13] 64 (fun f ov nv wr => ∃ (k : Nat) (s : Snd) (r : Rcv) (ds : List Dlv) (vs vr : Value), f = 64 - k ∧ k ≤ 64 ∧ nv = .int .i64 (k : Int) ∧ Hid (TrE w wr gs vs gr vr ov w.heap.size w.heap.size s r ds) ∧ Hid (SndT xss s) ∧ Hid (r.next = (ds.length : Int)) ∧ Hid (transF xss rs (64 - k) k s r ds = transF xss rs 64 0 (snd0 0 win) (rcv0 0 win 0) []))
      case atStart => exact ⟨0, _, _, [], _, _, rfl, by omega, rfl, HT0, HST0, Lib.hid rfl, Lib.hid rfl⟩
      case round =>
        clear HT0 HST0
        obtain ⟨k, s, r, ds, vs, vr, rfl, hk, rfl, HT, HS, HD, HTR⟩ := hrel
        obtain ⟨A5, c5, hso⟩ := HT.out.outL.slice
        subst hso
        have y2 := HT.out.rcv.q.blk.cell 2
        by_cases hnx : r.next < n
        · have q1 : decide (r.next < (n : Int)) = true := decide_eq_true hnx
          have HNX : Hid (r.next < (xss.length : Int)) := Lib.hid (by rw [HXL.out]; exact hnx)
          by_cases hk64 : k < 64
          · have HTR2 : Hid (transF xss rs (64 - (k + 1)) (k + 1) (roundF xss s r (rs.getD k [])).1 (roundF xss s r (rs.getD k [])).2.1 (ds ++ (roundF xss s r (rs.getD k [])).2.2) = transF xss rs 64 0 (snd0 0 win) (rcv0 0 win 0) []) := Lib.hid (by
              have h1 := HTR.out
              rw [show 64 - k = (64 - (k + 1)) + 1 by omega] at h1
              unfold transF at h1
              rw [if_pos HNX.out] at h1
              exact h1)
            have HS2 := Lib.hid (HS.out.round (fun x hx => (HXX.out x hx).2) r (rs.getD k []))
            have HD2 : Hid ((roundF xss s r (rs.getD k [])).2.1.next = ((ds ++ (roundF xss s r (rs.getD k [])).2.2).length : Int)) := Lib.hid (by rw [roundF_next, HD.out, List.length_append]; omega)
            obtain ⟨fl, hfl⟩ : ∃ fl, rs.getD k [] = fl := ⟨_, rfl⟩
            rw [hfl] at HTR2 HS2 HD2
            have HFL := Lib.hid hfl
            obtain ⟨sF, hsF⟩ : ∃ sF, fillF xss (xss.length - s.bodies.length) s = sF := ⟨_, rfl⟩
            have hRF : roundF xss s r fl = ((ackS sF (takes r (framesF (carry1 (sentF sF) fl))).1.next).1, takes r (framesF (carry1 (sentF sF) fl))) := by unfold roundF; rw [hsF]
            have HRF := Lib.hid hRF
            have HSF : Hid (fillF xss (n - s.bodies.length) s = sF) := Lib.hid (by rw [← HXL.out]; exact hsF)
            have q64 : decide ((k : Int) < 64) = true := decide_eq_true (by omega)
            have HK64 := Lib.hid hk64
            clear hnx hfl hsF hRF hk64
            go_upto_block 4 with (fail)
            clear y2
            go_cut [] (fun W => ∃ vs' : Value, Hid (TrE w W gs vs' gr vr (.slice A5 ds.length c5) w.heap.size w.heap.size sF r ds) ∧ Hid (SndT xss sF))
            case first =>
              go_wp2_with fail
              go_loopg [] (n - s.bodies.length) (fun f wr => ∃ (s1 : Snd) (vs1 : Value), f = n - s1.bodies.length ∧ Hid (TrE w wr gs vs1 gr vr (.slice A5 ds.length c5) w.heap.size w.heap.size s1 r ds) ∧ Hid (SndT xss s1) ∧ Hid (fillF xss (n - s1.bodies.length) s1 = sF))
              case atStart => exact ⟨s, vs, rfl, HT, HS, HSF⟩
              case round =>
                clear HT HS HSF
                obtain ⟨s1, vs1, rfl, HT, HS, HSF⟩ := hrel
                have hsl : s1.bodies.length ≤ n := by have h1 := HS.out.le; have h2 := HXL.out; omega
                obtain ⟨A0, c0, hso⟩ := HT.out.snd.slice
                subst hso
                have y3 := HT.out.snd.blk.cell 3
                by_cases hlt : s1.bodies.length < n
                · obtain ⟨bb, ob, A6, n6, c6, xs, rfl, hx6, hc6, hI6, hn6, hm6⟩ := (HL.out.ext HT.out.ext).get hlt
                  have hxg : xss.getD s1.bodies.length [] = xs := by simp [List.getD, hx6]
                  have h6 := HXX.out xs (List.mem_of_getElem? hx6)
                  have h6n : n6 ≤ 1000000 := by have := hI6.1; omega
                  have hSO := HS.out.offer (fun x hx => (HXX.out x hx).2) (by have h2 := HXL.out; omega)
                  rw [hxg] at hSO
                  have HSO := Lib.hid hSO
                  have HXG := Lib.hid hxg
                  have HI6 := Lib.hid hI6
                  clear h6 hx6 hxg hSO hI6
                  go_wp2_with fail
                  refine (offerR_any w.heap.size gs _ s1 A6 n6 c6 xs _ HT.out.snd HI6.out hn6 hm6 h6n (by omega)).mono ?_
                  rintro e w3 ⟨u, vs3, rfl, hu, hS3, hk3⟩
                  obtain ⟨A7, n7, c7, rfl, hO7⟩ := hu
                  replace HT := Lib.hid (HT.out.sent hk3 hS3)
                  clear y3 hc6 HI6 hk3 hS3 hO7
                  by_cases he : (offerS s1 xs).2.2 = 0
                  · have hb1 := (offerS_zero he).1
                    have hbl : (offerS s1 xs).1.bodies.length = s1.bodies.length + 1 := by rw [hb1]; simp
                    have HBL := Lib.hid hbl
                    have HSF2 : Hid (fillF xss (n - (s1.bodies.length + 1)) (offerS s1 xs).1 = sF) := Lib.hid (by
                      have h1 := HSF.out
                      rw [show n - s1.bodies.length = (n - (s1.bodies.length + 1)) + 1 by omega] at h1
                      unfold fillF at h1
                      rw [HXG.out, if_pos he] at h1
                      exact h1)
                    rw [he]
                    clear he hb1 hbl
                    go_wp2
                    go_roundg (n - (s1.bodies.length + 1))
                    case rel => exact ⟨_, _, by rw [HBL.out], Lib.hid (HT.out.grow ((Ext.refl _).alloc _)), HSO, Lib.hid (by rw [HBL.out]; exact HSF2.out)⟩
                    case measure => omega
                  · have hs1 : (offerS s1 xs).1 = s1 := offerS_nz he
                    have hsf : sF = s1 := by
                      have h1 := HSF.out
                      rw [show n - s1.bodies.length = (n - (s1.bodies.length + 1)) + 1 by omega] at h1
                      unfold fillF at h1
                      rw [HXG.out, if_neg he] at h1
                      exact h1.symm
                    have hne : ((offerS s1 xs).2.2 != 0) = true := by simpa using he
                    have HS1 := Lib.hid hs1
                    have HSFE := Lib.hid hsf
                    clear he hs1 hsf
                    go_wp2
                    go_meet
                    have h1 := HT.out
                    rw [HS1.out, ← HSFE.out] at h1
                    exact ⟨_, Lib.hid (h1.grow ((Ext.refl _).alloc _)), by rw [HSFE.out]; exact HS⟩
                · have hsf : sF = s1 := by
                    have h1 := HSF.out
                    rw [show n - s1.bodies.length = 0 by omega] at h1
                    exact h1.symm
                  have HSFE := Lib.hid hsf
                  clear hsf
                  go_wp2
                  go_meet
                  exact ⟨_, by rw [HSFE.out]; exact HT, by rw [HSFE.out]; exact HS⟩
            case rest =>
              clear HT HS HSF
              obtain ⟨vs', HT, HS⟩ := hcut
              have HSZ : Hid (w.heap.size ≤ wc.heap.size) := Lib.hid HT.out.ext.size
              have hbl : sF.bodies.length ≤ n := by have h1 := HS.out.le; have h2 := HXL.out; omega
              have HGR := Lib.hid (sentF_grams HS.out.ok (by omega))
              have hpl : (pendS sF).length ≤ 64 := by
                have h1 := HGR.out.1
                unfold sentF at h1
                rw [List.length_map] at h1
                exact h1
              have HPO := Lib.hid (pendS_ok HS.out.ok (by omega))
              obtain ⟨N, hN⟩ : ∃ N, (pendS sF).length = N := ⟨_, rfl⟩
              have HN := Lib.hid hN
              rw [hN] at hpl
              clear hN
              go_wp2_with fail
              refine (pendR_any w.heap.size gs vs' sF _ HT.out.snd (by omega)).mono ?_
              rintro e w2 ⟨v, rfl, hv, hX2⟩
              obtain ⟨A4, c4, rfl, hf4, _, _⟩ := hv.frs
              rw [HN.out] at hf4 ⊢
              have HF4 := Lib.hid hf4
              replace HT := Lib.hid (HT.out.grow hX2)
              have HSZ2 := Lib.hid (Nat.le_trans HSZ.out hX2.size)
              have HVL : Hid (∀ k, vs'.ownBlock = some k → k < w2.heap.size) := Lib.hid fun k hk => (HT.out.snd.row_lt k hk).2
              clear hv hf4 hX2
              go_wp2_with fail
              go_loopg [16, 94] N (fun f vd iv wr => ∃ k : Nat, f = N - k ∧ k ≤ N ∧ iv = .int .i64 (k : Int) ∧ Hid (Dgs w2.heap.size wr vd k ((pendS sF).take k |>.map pck)) ∧ Hid (TrE w wr gs vs' gr vr (.slice A5 ds.length c5) w.heap.size w.heap.size sF r ds) ∧ Hid (Ext w2 wr))
              case atStart => exact ⟨0, rfl, by omega, rfl, Lib.hid ⟨[], World.ownsRow_nil _ _ _ _, trivial⟩, HT, Lib.hid (Ext.refl _)⟩
              case round =>
                clear HT
                obtain ⟨i, rfl, hi, rfl, HD, HT, HX⟩ := hrel
                obtain ⟨A8, c8, hsl⟩ := HD.out.slice
                subst hsl
                by_cases hlt : i < N
                · obtain ⟨b, off, f, A5', n5, c5', rfl, hf, a0, a1, a2, hI5, hc5, hm5⟩ := (HF4.out.ext HX.out).get hlt
                  obtain ⟨hok, hby⟩ := HPO.out f (List.mem_of_getElem? hf)
                  have h5 : n5 ≤ 1024 := by have h1 := hI5.1; have h2 := hok.2.2.2.2; omega
                  have HFI := Lib.hid hf
                  have HOK := Lib.hid hok
                  have HI5 := Lib.hid hI5
                  clear hf hok hby hI5
                  go_upto_region 21 with (fail)
                  clear a0 a1 a2
                  have hXa : Ext wr (wr.alloc (.cells #[.int .i64 f.stream, .int .i64 f.seq, .slice A5' n5 c5'] 38)) := (Ext.refl _).alloc _
                  have kb := Blk.new wr 38 #[.int .i64 f.stream, .int .i64 f.seq, .slice A5' n5 c5']
                  generalize wr.alloc (.cells #[.int .i64 f.stream, .int .i64 f.seq, .slice A5' n5 c5'] 38) = w3 at hXa kb ⊢
                  replace HT := Lib.hid (HT.out.grow hXa)
                  replace HD := Lib.hid (HD.out.ext hXa)
                  replace HX := Lib.hid (HX.out.trans hXa)
                  have hP := packR_ok f.stream f.seq A5' n5 c5' f.body w3 (HI5.out.ext hXa) hc5 hm5 HOK.out
                  have f0 := kb.cell 0
                  have f1 := kb.cell 1
                  have f2 := kb.cell 2
                  clear hXa
                  go_wp2_with fail
                  refine hP.mono ?_
                  rintro e w4 ⟨A6, n6, c6, rfl, hO6, hX4⟩
                  have hs3 := HX.out.size
                  replace HT := Lib.hid (HT.out.grow hX4)
                  replace HX := Lib.hid (HX.out.trans hX4)
                  obtain ⟨vs, hown, hF2⟩ := HD.out.ext hX4
                  have HF2 := Lib.hid hF2
                  have HO6 := Lib.hid (hO6.mono hs3)
                  have hs4 := HX.out.size
                  clear hP hO6 hX4 f0 f1 f2 hF2 HD kb
                  go_wp2_with (at_builtin; refine wpList_app _ elL rfl _ _ rfl w2.heap.size (.slice A8 i c8) i vs rfl (hown.alloc _) _ 1 1 [.slice A6 n6 c6] rfl rfl (At.new' _ [_] _ rfl) (by simp [Value.oneCell']) (by omega) (by unfold maxLen; omega) (by simp; omega) ?_; intro v5 w5 hown5 hgr5 _)
                  go_roundg (N - (i + 1))
                  case rel =>
                    have hXb : Ext w4 (w4.alloc (.cells #[.slice A6 n6 c6] 22)) := (Ext.refl _).alloc _
                    have hown0 := World.ownsRow.ext' hown hXb
                    have hk5 : Keeps (Value.slice A8 i c8).ownBlock.toList (w4.alloc (.cells #[.slice A6 n6 c6] 22)) w5 := Keeps.of_grown hgr5 fun k hk => by rw [hk]; simp
                    have hn5 : ∀ k' ∈ (Value.slice A8 i c8).ownBlock.toList, NoRow 5 (w4.alloc (.cells #[.slice A6 n6 c6] 22)) k' := fun k' hk' => NoRow.of_own hown0 (Option.mem_toList.1 hk') (by decide)
                    refine ⟨i + 1, rfl, by omega, by go_num, Lib.hid ⟨_, hown5, ?_⟩, Lib.hid ((HT.out.grow hXb).row hown0 HSZ2.out HVL.out hgr5), Lib.hid ((HX.out.trans hXb).grown hgr5 fun k' hk' => (hown0.lt k' hk').1)⟩
                    rw [List.take_add_one, HFI.out, Option.toList_some, List.map_append]
                    refine (HF2.out.imp fun p q _ h => (h.ext hXb).keeps hk5 hn5).snoc ?_
                    exact BodyV.keeps ⟨A6, n6, c6, rfl, HO6.out.ext hXb⟩ hk5 hn5
                  case measure => omega
                · obtain rfl : i = N := by omega
                  have HD1 : Hid (Dgs w2.heap.size wr (.slice A8 i c8) i (sentF sF)) := Lib.hid (by
                    have h1 := HD.out
                    rw [List.take_of_length_le (by rw [HN.out]; omega)] at h1
                    exact h1)
                  have HLO := Lib.hid (HD1.out.lo.mono HSZ2.out)
                  have HLN := Lib.hid HLO.out.len
                  obtain ⟨gs', hgs'⟩ : ∃ gs', carry1 (sentF sF) fl = gs' := ⟨_, rfl⟩
                  have HGS := Lib.hid hgs'
                  have HFLL : Hid (fl.length ≤ 1000) := Lib.hid (by have h1 := HR8.out k HK64.out; rwa [HFL.out] at h1)
                  have HCG : Hid (Grams 2000 1036 gs') := Lib.hid (by
                    rw [← hgs']
                    exact (HGR.out.carry fl).up (by have := HFLL.out; omega) (Nat.le_refl _))
                  clear hgs' HD
                  go_upto_if 111 with (fail)
                  go_cut [16] (fun v W => ∃ (A9 : Option Addr) (n9 c9 : Nat), v = .slice A9 n9 c9 ∧ Hid (LO w.heap.size W A9 n9 gs') ∧ Hid (TrE w W gs vs' gr vr (.slice A5 ds.length c5) w.heap.size w.heap.size sF r ds))
                  case first =>
                    by_cases hkm : k < m
                    · obtain ⟨b, off, A6, n6, c6, fl', rfl, hf6, hc6, hF6⟩ := (FltLs.ext HR.out HT.out.ext).get hkm
                      have hfg : fl' = fl := by
                        have h2 := HFL.out
                        simp only [List.getD, hf6, Option.getD_some] at h2
                        exact h2
                      subst hfg
                      have hl6 := hF6.1
                      have hl7 := HFLL.out
                      have HF6 := Lib.hid hF6
                      clear hf6 hF6
                      go_wp2_with fail
                      refine (carryO_any A8 i c8 A6 n6 c6 (sentF sF) fl' _ HLO.out.lists (by omega) HF6.out (by omega) (HGR.out.up' HLN.out)).mono ?_
                      rintro e w5 ⟨A9, n9, c9, rfl, h9, _, _, hX5⟩
                      rw [HGS.out] at h9
                      have HL9 := Lib.hid (h9.mono HT.out.ext.size)
                      replace HT := Lib.hid (HT.out.grow hX5)
                      clear h9 hX5 hc6
                      go_wp2
                      go_meet
                      exact ⟨_, _, _, rfl, HL9, HT⟩
                    · have hfg : fl = [] := by
                        have h2 := HFL.out
                        simp only [List.getD, List.getElem?_eq_none (by rw [HRL.out]; omega : rs.length ≤ k), Option.getD_none] at h2
                        exact h2.symm
                      subst hfg
                      have HL9 : Hid (LO w.heap.size wr A8 i gs') := Lib.hid (by rw [← HGS.out]; exact HLO.out)
                      go_wp2
                      go_meet
                      exact ⟨_, _, _, rfl, HL9, HT⟩
                  case rest =>
                    clear HT HLO HD1 HX
                    obtain ⟨A9, n9, c9, rfl, HLO, HT⟩ := hcut
                    have h9l : n9 ≤ 2000 := by have h1 := HLO.out.len; have h2 := HCG.out.1; omega
                    go_wp2_with fail
                    go_loopg [12, 120] n9 (fun f ov jv wr => ∃ (j : Nat) (r1 : Rcv) (es : List Dlv) (vr1 : Value), f = n9 - j ∧ j ≤ n9 ∧ jv = .int .i64 (j : Int) ∧ Hid (takes r (framesF (gs'.take j)) = (r1, es)) ∧ Hid (TrE w wr gs vs' gr vr1 ov w.heap.size w.heap.size sF r1 (ds ++ es)) ∧ Hid (LO w.heap.size wr A9 n9 gs'))
                    case atStart => exact ⟨0, r, [], vr, rfl, by omega, rfl, Lib.hid (by simp [framesF, takes]), Lib.hid (by rw [List.append_nil]; exact HT.out), HLO⟩
                    case round =>
                      clear HT HLO
                      obtain ⟨j, r1, es, vr1, rfl, hj, rfl, HTK, HT, HLO⟩ := hrel
                      obtain ⟨D1, hD1⟩ : ∃ D1, ds ++ es = D1 := ⟨_, rfl⟩
                      rw [hD1] at HT
                      have HDD1 := Lib.hid hD1
                      clear hD1
                      obtain ⟨Ao, co, hso⟩ := HT.out.outL.slice
                      subst hso
                      by_cases hjl : j < n9
                      · obtain ⟨b9, o9, A6, n6, c6, x, rfl, hx, hcx, hO6⟩ := HLO.out.get hjl
                        have hg6 := HCG.out.2 x (List.mem_of_getElem? hx)
                        have hl6 := hO6.len
                        have h6 : n6 ≤ 1036 := by omega
                        obtain ⟨fs, sk, lf, hsc⟩ : ∃ fs sk lf, scan x = (fs, sk, lf) := ⟨_, _, _, rfl⟩
                        have hS := scanR_any A6 n6 c6 x wr hO6.ints hO6.cap.1 hO6.cap.2 (by omega)
                        rw [hsc] at hS
                        have HXJ := Lib.hid hx
                        have HSC := Lib.hid hsc
                        have hfsl : fs.length ≤ 1036 := by
                          have h1 := scan_len x
                          rw [hsc] at h1
                          simp only at h1
                          omega
                        clear hx hg6 hl6 hsc
                        go_wp2_with fail
                        refine hS.mono ?_
                        rintro e w6 ⟨A7, n7, c7, us, rfl, hu1, hu2, hu3, hX6⟩
                        simp only at hu2 hu3 ⊢
                        subst hu3
                        have HFL7 : Hid (FrL wr.heap.size w6 (.slice A7 fs.length c7) fs) := Lib.hid ⟨us, hu1, hu2⟩
                        replace HT := Lib.hid (HT.out.grow hX6)
                        replace HLO := Lib.hid (HLO.out.ext hX6)
                        clear hS hu1 hu2 hX6 hcx hO6
                        go_wp2_with fail
                        go_loopg [12, 134] fs.length (fun f ov iv wq => ∃ (i : Nat) (r2 : Rcv) (es2 : List Dlv) (vr2 : Value), f = fs.length - i ∧ i ≤ fs.length ∧ iv = .int .i64 (i : Int) ∧ Hid (takes r1 (fs.take i) = (r2, es2)) ∧ Hid (TrE w wq gs vs' gr vr2 ov w.heap.size w.heap.size sF r2 (D1 ++ es2)) ∧ Hid (LO w.heap.size wq (some ⟨b9, o9, none⟩) n9 gs') ∧ Hid (FrL wr.heap.size wq (.slice A7 fs.length c7) fs))
                        case atStart => exact ⟨0, r1, [], vr1, rfl, by omega, rfl, Lib.hid (by simp [takes]), Lib.hid (by rw [List.append_nil]; exact HT.out), HLO, HFL7⟩
                        case round =>
                          clear HT HLO HFL7
                          obtain ⟨i, r2, es2, vr2, rfl, hi, rfl, HTK2, HT, HLO, HFL7⟩ := hrel
                          obtain ⟨D, hD⟩ : ∃ D, D1 ++ es2 = D := ⟨_, rfl⟩
                          rw [hD] at HT
                          have HDD := Lib.hid hD
                          clear hD
                          obtain ⟨A1, c1, hso⟩ := HT.out.outL.slice
                          subst hso
                          by_cases hil : i < fs.length
                          · obtain ⟨A7', c7', e, hfr, _, _⟩ := HFL7.out.frs
                            injection e with e1 e2 e3
                            subst e1 e3
                            obtain ⟨b, off, f, A5', n5, c5', rfl, hf, a0, a1, a2, hI5, hc5, hm5⟩ := hfr.get hil
                            have h5 : n5 ≤ 1000000 := by
                              have h1 := scan_body (xs := x) f (by rw [HSC.out]; exact List.mem_of_getElem? hf)
                              have h2 := hI5.1
                              omega
                            have HFI := Lib.hid hf
                            have HI5 := Lib.hid hI5
                            clear hf hI5 hfr
                            go_wp2_with fail
                            refine (takeE_any w.heap.size gr vr2 r2 f A5' n5 c5' _ HT.out.rcv HI5.out hc5 hm5 h5).mono ?_
                            rintro e w8 ⟨u, vr3, rfl, hdl, hR8, hk8, hn8⟩
                            have HLO8 := Lib.hid (HLO.out.keeps hk8 (HT.out.rcv.q.far _ (by decide) (by decide)) (HT.out.rcv.q.far _ (by decide) (by decide)))
                            have HFL8 := Lib.hid (HFL7.out.keeps hk8 (HT.out.rcv.q.far _ (by decide) (by decide)) (HT.out.rcv.q.far _ (by decide) (by decide)))
                            have HT8 := Lib.hid (HT.out.took hk8 hR8 hn8)
                            have HDL := Lib.hid hdl
                            have HTK3 : Hid (takes r1 (fs.take (i + 1)) = ((takeR r2 f).1, es2 ++ (takeR r2 f).2.1)) := Lib.hid (by
                              rw [List.take_add_one, HFI.out, Option.toList_some, takes_snoc, HTK2.out])
                            have HRO2 := Lib.hid HT.out.rcv.ok
                            have hDl : D.length ≤ 4294967296 := by
                              rw [← HDD.out, ← HDD1.out]
                              have h1 := takes_next r1 (fs.take i)
                              rw [HTK2.out] at h1
                              have h2 := takes_next r (framesF (gs'.take j))
                              rw [HTK.out] at h2
                              have h3 := HT.out.rcv.ok.next
                              simp only at h1 h2
                              simp only [List.length_append]
                              have h4 := HD.out
                              omega
                            have htl := takeR_len r2 f HRO2.out
                            clear hR8 hk8 hn8 hdl HT HLO HFL7 HTK2 a0 a1 a2
                            obtain ⟨r3, hr3⟩ : ∃ r3, (takeR r2 f).1 = r3 := ⟨_, rfl⟩
                            obtain ⟨es3, hes3⟩ : ∃ es3, (takeR r2 f).2.1 = es3 := ⟨_, rfl⟩
                            obtain ⟨er3, her3⟩ : ∃ er3, (takeR r2 f).2.2 = er3 := ⟨_, rfl⟩
                            rw [hr3] at HT8 HTK3
                            rw [hes3] at HTK3 HDL htl
                            rw [her3]
                            clear hr3 hes3 her3
                            obtain ⟨A3, c3, hsl⟩ := HDL.out.slice
                            subst hsl
                            obtain ⟨us, hu1, hu2⟩ := HDL.out
                            obtain ⟨vs, hv1, hv2⟩ := HT8.out.outL
                            have HV1 := Lib.hid hv1
                            have HV2 := Lib.hid hv2
                            have HU2 := Lib.hid hu2
                            have hsz8 := HT8.out.ext.size
                            clear hv2
                            go_wp2_with (at_builtin; (refine wpList_app _ elD rfl _ _ rfl w.heap.size (.slice A1 D.length c1) D.length vs rfl hv1 A3 es3.length c3 us rfl hu1.1 (At.of_own hu1) (hu2.one (fun _ _ h => h.one)) (by omega) (by unfold maxLen; omega) hsz8 ?_; intro v9 w9 hown9 hgr9 hdj; have hk9 : Keeps (Value.slice A1 D.length c1).ownBlock.toList w8 w9 := Keeps.of_grown hgr9 (fun k hk => by rw [hk]; simp); have hn9 : ∀ t, 72 ≠ t → ∀ k ∈ (Value.slice A1 D.length c1).ownBlock.toList, NoRow t w8 k := (fun t ht k hk => NoRow.of_own HV1.out (Option.mem_toList.1 hk) ht); have HT9 := Lib.hid (HT8.out.more HV1.out HV2.out HU2.out hown9 hgr9 hdj); have HLO9 := Lib.hid (HLO8.out.keeps hk9 (hn9 _ (by decide)) (hn9 _ (by decide))); have HFL9 := Lib.hid (HFL8.out.keeps hk9 (hn9 _ (by decide)) (hn9 _ (by decide))); obtain ⟨A0, c0, hsv⟩ := own_slice hown9; subst hsv; clear hv1 hu1 hu2 hk9 hn9 hown9 hgr9 hdj))
                            go_roundg (fs.length - (i + 1))
                            case rel =>
                              refine ⟨i + 1, r3, es2 ++ es3, vr3, rfl, by omega, by go_num, HTK3, Lib.hid ?_, HLO9, HFL9⟩
                              have e9 : D1 ++ (es2 ++ es3) = D ++ es3 := by rw [← HDD.out]; simp
                              rw [e9]
                              exact HT9.out
                            case measure => omega
                          · obtain rfl : i = fs.length := by omega
                            go_wp2
                            go_roundg (n9 - (j + 1))
                            case rel =>
                              refine ⟨j + 1, r2, es ++ es2, vr2, rfl, by omega, by go_num, Lib.hid ?_, Lib.hid (by rw [← List.append_assoc, HDD1.out, HDD.out]; exact HT.out), HLO⟩
                              have h1 := HTK2.out
                              rw [List.take_of_length_le (Nat.le_refl _)] at h1
                              rw [framesF_take HXJ.out, takes_append, HTK.out, HSC.out]
                              simp only
                              rw [h1]
                            case measure => omega
                      · obtain rfl : j = n9 := by omega
                        have htk : takes r (framesF gs') = (r1, es) := by
                          have h1 := HTK.out
                          rwa [List.take_of_length_le (by rw [HLO.out.len]; omega)] at h1
                        have hrf : roundF xss s r fl = ((ackS sF r1.next).1, r1, es) := by rw [HRF.out, HGS.out, htk]
                        rw [hrf] at HTR2 HS2 HD2
                        simp only at HTR2 HS2 HD2
                        rw [HDD1.out] at HTR2 HD2
                        have y2 := HT.out.rcv.q.blk.cell 2
                        clear htk hrf
                        go_wp2_with fail
                        refine (ackR_any w.heap.size gs vs' sF r1.next _ HT.out.snd (by omega)).mono ?_
                        rintro e w8 ⟨rfl, hS8, hk8⟩
                        have HT8 := Lib.hid (HT.out.sent hk8 hS8)
                        clear hS8 hk8 y2
                        go_wp2
                        go_roundg (64 - (k + 1))
                        case rel => exact ⟨k + 1, _, _, _, _, _, rfl, by have := HK64.out; omega, by go_num, HT8, HS2, HD2, HTR2⟩
                        case measure => have := HK64.out; omega
          · obtain rfl : k = 64 := by omega
            have HTE : Hid (transF xss rs 64 0 (snd0 0 win) (rcv0 0 win 0) [] = (ds, 64)) := HTR.out.symm
            go_wp2
            go_ret3
            rw [HE.out, HTE.out]
            obtain ⟨A', c', e, h, _⟩ := HT.out.outL.dls
            injection e with e1 e2 e3
            subst e1 e3
            exact ⟨_, _, rfl, h, HT.out.ext⟩
        · have q1 : decide (r.next < (n : Int)) = false := decide_eq_false hnx
          have HTE : Hid (transF xss rs 64 0 (snd0 0 win) (rcv0 0 win 0) [] = (ds, k)) := Lib.hid (by rw [← HTR.out, transF_stop]; rw [HXL.out]; exact hnx)
          clear hnx
          go_wp2
          go_ret3
          rw [HE.out, HTE.out]
          obtain ⟨A', c', e, h, _⟩ := HT.out.outL.dls
          injection e with e1 e2 e3
          subst e1 e3
          exact ⟨_, _, rfl, h, HT.out.ext⟩

end Go.Proofs.Ytekhmfliaojabaa
namespace Go.Proofs.Ytekhmfliaojabaa
open Go.RowKit

/-- Whether a transfer is too large for a statement. -/
def wideB (xss : List (List Int)) (rs : List (List Flt)) : Bool := longB xss 24 1032 || decide (70 < rs.length ∨ ∃ fl ∈ rs, 8 < fl.length)
theorem wideB_long {xss : List (List Int)} {rs : List (List Flt)} (h : longB xss 24 1032 = true) : wideB xss rs = true := by unfold wideB; rw [h]; rfl
theorem wideB_yes {xss : List (List Int)} {rs : List (List Flt)} (h : 70 < rs.length ∨ ∃ fl ∈ rs, 8 < fl.length) : wideB xss rs = true := by unfold wideB; rw [decide_eq_true h, Bool.or_true]
theorem wideB_no {xss : List (List Int)} {rs : List (List Flt)} (h : wideB xss rs = false) : xss.length ≤ 24 ∧ (∀ x ∈ xss, x.length ≤ 1032) ∧ rs.length ≤ 70 ∧ ∀ fl ∈ rs, fl.length ≤ 8 := by
  unfold wideB at h
  rw [Bool.or_eq_false_iff] at h
  obtain ⟨h1, h2⟩ := h
  obtain ⟨h3, h4⟩ := longB_no h1
  have h2 := of_decide_eq_false h2
  refine ⟨by omega, fun x hx => by have := h4 x hx; omega, by omega, fun fl hf => ?_⟩
  apply Classical.byContradiction
  intro hc
  exact h2 (.inr ⟨fl, hf, by omega⟩)
theorem getD_short {rs : List (List Flt)} {z : Nat} (h : ∀ fl ∈ rs, fl.length ≤ z) (k : Nat) : (rs.getD k []).length ≤ z := by
  rcases Nat.lt_or_ge k rs.length with hk | hk
  · simp only [List.getD, List.getElem?_eq_getElem hk, Option.getD_some]
    exact h _ (List.getElem_mem hk)
  · simp [List.getD, List.getElem?_eq_none hk]
theorem lists_byte {w : World} {A : Option Addr} {n : Nat} {xss : List (List Int)} (h : Lists .u8 w A n xss) : ∀ x ∈ xss, ∀ y ∈ x, (Lit.int .u8 y).wf = true := by
  intro x hx
  obtain ⟨vs, hv, _, _⟩ := h.lv
  obtain ⟨j, hj⟩ := List.getElem?_of_mem hx
  have hjv : j < vs.length := by rw [hv.1]; exact (List.getElem?_eq_some_iff.1 hj).1
  obtain ⟨_, _, _, _, hI, _⟩ := hv.2 j _ x (List.getElem?_eq_getElem hjv) hj
  exact hI.2.1
set_option maxRecDepth 100000 in
set_option maxHeartbeats 2000000 in
theorem wide_any (A : Option Addr) (n c : Nat) (B : Option Addr) (m d : Nat) (xss : List (List Int)) (rs : List (List Flt)) (w : World) (hL : Lists .u8 w A n xss) (hnc : n ≤ c) (hcm : c ≤ 9223372036854775807) (hR : FltLs w B m rs) :
    Calls Try.prog 64 #[.slice A n c, .slice B m d] w fun e w' => e = .returned (.bool (wideB xss rs)) ∧ Ext w w' := by
  have H := Lib.hid hL
  have HR := Lib.hid hR
  have HRL := Lib.hid hR.1
  clear hL hR
  cases hb : longB xss 24 1032 with
  | true =>
    have HB := Lib.hid hb
    clear hb
    go_enter Try.func64, Try.ntmps64
    go_wp2_with fail
    refine (long_any A n c 24 1032 xss _ H.out hnc hcm).mono ?_
    rw [HB.out]
    rintro e w1 ⟨rfl, hext⟩
    have HX := Lib.hid hext
    clear hext
    go_wp2
    go_ret
    exact ⟨by rw [wideB_long HB.out]; rfl, HX.out⟩
  | false =>
    have HB := Lib.hid hb
    clear hb
    by_cases hm : 70 < m
    · have q1 : decide ((70 : Int) < (m : Int)) = true := decide_eq_true (by omega)
      have HM := Lib.hid hm
      clear hm
      go_enter Try.func64, Try.ntmps64
      go_wp2_with fail
      refine (long_any A n c 24 1032 xss _ H.out hnc hcm).mono ?_
      rw [HB.out]
      rintro e w1 ⟨rfl, hext⟩
      have HX := Lib.hid hext
      clear hext
      go_wp2
      go_ret
      exact ⟨by rw [wideB_yes (.inl (by rw [HRL.out]; exact HM.out))]; rfl, HX.out⟩
    · have q1 : decide ((70 : Int) < (m : Int)) = false := decide_eq_false (by omega)
      go_enter Try.func64, Try.ntmps64
      go_wp2_with fail
      refine (long_any A n c 24 1032 xss _ H.out hnc hcm).mono ?_
      rw [HB.out]
      rintro e w1 ⟨rfl, hext⟩
      have HX := Lib.hid hext
      clear hext
      go_wp2_with fail
      go_loopg [15] m (fun f iv wr => ∃ k : Nat, f = m - k ∧ k ≤ m ∧ iv = .int .i64 (k : Int) ∧ Hid (∀ fl ∈ rs.take k, fl.length ≤ 8) ∧ w1 = wr)
      case atStart => exact ⟨0, rfl, by omega, rfl, Lib.hid (by simp), rfl⟩
      case round =>
        obtain ⟨k, rfl, hk, rfl, HA, rfl⟩ := hrel
        by_cases hlt : k < m
        · obtain ⟨b, off, A6, n6, c6, fl, rfl, hf6, hc6, hF6⟩ := (FltLs.ext HR.out HX.out).get hlt
          have HXK := Lib.hid hf6
          have HI1 := Lib.hid hF6.1
          clear hf6 hF6
          by_cases h6 : 8 < n6
          · have HE : Hid (wideB xss rs = true) := Lib.hid (wideB_yes (.inr ⟨fl, List.mem_of_getElem? HXK.out, by rw [HI1.out]; exact h6⟩))
            go_wp2
            go_ret
            exact ⟨by rw [HE.out]; rfl, HX.out⟩
          · go_wp2
            go_roundg (m - (k + 1))
            case rel =>
              refine ⟨k + 1, rfl, by omega, by go_num, Lib.hid fun y hy => ?_, rfl⟩
              rw [List.take_add_one, HXK.out] at hy
              rcases List.mem_append.1 hy with hy | hy
              · exact HA.out y hy
              · simp at hy; subst hy; rw [HI1.out]; omega
            case measure => omega
        · have HE : Hid (wideB xss rs = false) := Lib.hid (by
            unfold wideB
            rw [HB.out, Bool.false_or]
            refine decide_eq_false ?_
            rintro (h | ⟨fl, hf, h⟩)
            · have := HRL.out; omega
            · have := HA.out fl (by rw [List.take_of_length_le (by rw [HRL.out]; omega)]; exact hf)
              omega)
          go_wp2
          go_ret
          exact ⟨by rw [HE.out]; rfl, HX.out⟩
theorem transF_len (xss : List (List Int)) (rs : List (List Flt)) (k n : Nat) (s : Snd) (r : Rcv) (out : List Dlv) (hr : RcvOk r) (ho : r.next = (out.length : Int)) : (transF xss rs k n s r out).1.length ≤ 4294967296 := by
  induction k generalizing n s r out with
  | zero => have := hr.next; simp only [transF]; omega
  | succ k ih =>
    unfold transF
    split
    · exact ih _ _ _ _ (takes_ok hr _) (by rw [roundF_next, ho, List.length_append]; omega)
    · have := hr.next; simp only; omega
theorem transR_len (xss : List (List Int)) (win : Int) (rs : List (List Flt)) : (transR xss win rs).1.length ≤ 4294967296 := by
  unfold transR
  split
  · simp
  · exact transF_len _ _ _ _ _ _ _ (rcv0_ok (by unfold BadR; omega)) rfl
set_option maxRecDepth 100000 in
set_option maxHeartbeats 2000000 in
theorem linkTransfers_walk (A : Option Addr) (n c : Nat) (win : Int) (B : Option Addr) (m d : Nat) (xss : List (List Int)) (rs : List (List Flt)) (w : World) (hL : Lists .u8 w A n xss ∧ n ≤ c ∧ c ≤ 9223372036854775807) (hR : FltLs w B m rs ∧ m ≤ d ∧ d ≤ 9223372036854775807) :
    Calls Try.prog 16 #[.slice A n c, .int .i64 win, .slice B m d] w fun e w' => e = .returned (.bool true) ∧ Ext w w' := by
  obtain ⟨hL, hnc, hcm⟩ := hL
  obtain ⟨hR, _, _⟩ := hR
  have H := Lib.hid hL
  have HR := Lib.hid hR
  clear hL hR
  cases hb : wideB xss rs with
  | true =>
    have HB := Lib.hid hb
    clear hb
    go_enter Try.func16, Try.ntmps16
    go_wp2_with fail
    refine (wide_any A n c B m d xss rs _ H.out hnc hcm HR.out).mono ?_
    rw [HB.out]
    rintro e w1 ⟨rfl, hext⟩
    have HX := Lib.hid hext
    clear hext
    go_wp2_with fail
    refine (awake _).mono ?_
    rintro e w2 ⟨rfl, hext⟩
    have HX2 := Lib.hid hext
    clear hext
    go_wp2
    go_ret
    exact ⟨rfl, HX.out.trans HX2.out⟩
  | false =>
    have HB := Lib.hid hb
    have hw := wideB_no hb
    clear hb
    have hn24 : n ≤ 24 := by have := H.out.len; omega
    have hm70 : m ≤ 70 := by have := HR.out.1; omega
    have HW := Lib.hid hw
    have HXX : Hid (∀ x ∈ xss, x.length ≤ 1000000 ∧ ∀ y ∈ x, (Lit.int .u8 y).wf = true) := Lib.hid fun x hx => ⟨by have := HW.out.2.1 x hx; omega, lists_byte H.out x hx⟩
    have HR8 : Hid (∀ k, k < 64 → (rs.getD k []).length ≤ 1000) := Lib.hid fun k _ => by have := getD_short HW.out.2.2.2 k; omega
    clear hw
    obtain ⟨r, hr⟩ : ∃ r, transR xss win rs = r := ⟨_, rfl⟩
    have HT := Lib.hid hr
    clear hr
    go_enter Try.func16, Try.ntmps16
    go_wp2_with fail
    refine (wide_any A n c B m d xss rs _ H.out hnc hcm HR.out).mono ?_
    rw [HB.out]
    rintro e w1 ⟨rfl, hext⟩
    have HX := Lib.hid hext
    clear hext
    go_wp2_with fail
    refine (transferP_any A n c win B m d xss rs _ (H.out.ext HX.out) (by omega) (HR.out.ext HX.out) (by omega) HR8.out HXX.out).mono ?_
    rw [HT.out]
    rintro e w2 ⟨A5, c5, rfl, hD5, hX2⟩
    have HD5 := Lib.hid hD5
    replace HX := Lib.hid (HX.out.trans hX2)
    clear hD5 hX2
    go_wp2_with fail
    refine (transferE_any A n c win B m d xss rs _ (H.out.ext HX.out) (by omega) (HR.out.ext HX.out) (by omega) HR8.out HXX.out).mono ?_
    rw [HT.out]
    rintro e w3 ⟨A6, c6, rfl, hD6, hX3⟩
    replace HD5 := Lib.hid (HD5.out.ext hX3)
    have HD6 := Lib.hid hD6
    replace HX := Lib.hid (HX.out.trans hX3)
    clear hD6 hX3
    have e1 : (r.2.2 == r.2.2) = true := by simp
    have e2 : ((r.2.1 : Int) == (r.2.1 : Int)) = true := by simp
    go_wp2_with fail
    refine (sameDlv_eq A5 A6 r.1.length c5 c6 r.1 _ HD5.out HD6.out ?_).mono ?_
    · rw [← HT.out]; exact transR_len _ _ _
    rintro e w4 ⟨rfl, hX4⟩
    replace HX := Lib.hid (HX.out.trans hX4)
    clear hX4
    go_wp2_with fail
    refine (awake _).mono ?_
    rintro e w5 ⟨rfl, hX5⟩
    replace HX := Lib.hid (HX.out.trans hX5)
    clear hX5
    go_wp2
    go_ret
    exact ⟨rfl, HX.out⟩
end Go.Proofs.Ytekhmfliaojabaa
