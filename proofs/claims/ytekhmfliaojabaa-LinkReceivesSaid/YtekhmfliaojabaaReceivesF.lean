/- Lemmas of the proof that follows (Receives, part 6): walks of functions by contract, and plain lemmas. Conditions: none. -/
import Derived.Test.YtekhmfliaojabaaReceivesE
namespace Go.Proofs.Ytekhmfliaojabaa
open Go.RowKit

theorem RcvQ.keepsG {base : Nat} {w w' : World} {g m : Nat} {st wn n : Int} {h : List Dlv} {L : List Nat} (hq : RcvQ base w g m st wn n h) (hk : Keeps L w w') (n1 : g ∉ L) (n2 : m ∉ L) (n3 : ∀ k ∈ L, NoRow 5 w k) : RcvQ base w' g m st wn n h := by
  obtain ⟨h1, ⟨l, h2, h3⟩, h4⟩ := hq
  exact ⟨h1.keeps hk n1, ⟨l, h2.keeps hk n2, h3.imp fun _ _ _ h => ⟨h.1, h.2.keeps hk n3⟩⟩, h4⟩
/-- The receiver that was left for its copy, if there is one: it stands as it stood. -/
def LeftV (W : World) (ga ma : Nat) (lf nx hd : Value) : Prop := lf = .pointer none ∨ ∃ gl ml rl bl, lf = .pointer (some ⟨gl, 0, none⟩) ∧ nx = .int .i64 rl.next ∧ hd = .int .i64 (rl.held.length : Int) ∧ RcvP bl W gl ml rl ∧ gl ∉ [ga, ma] ∧ ml ∉ [ga, ma]
section
variable {W W' : World} {ga ma : Nat} {lf nx hd : Value}
theorem LeftV.ext (h : LeftV W ga ma lf nx hd) (he : Ext W W') : LeftV W' ga ma lf nx hd := by
  rcases h with h | ⟨gl, ml, rl, bl, h1, h2, h3, h4, h5⟩
  · exact .inl h
  · exact .inr ⟨gl, ml, rl, bl, h1, h2, h3, h4.ext he, h5⟩
theorem LeftV.keepP {base : Nat} {st wn n : Int} {l : List Dlv} (h : LeftV W ga ma lf nx hd) (hq : RcvQ base W ga ma st wn n l) (hk : Keeps [ga, ma] W W') : LeftV W' ga ma lf nx hd := by
  rcases h with h | ⟨gl, ml, rl, bl, h1, h2, h3, h4, h5, h6⟩
  · exact .inl h
  · exact .inr ⟨gl, ml, rl, bl, h1, h2, h3, ⟨h4.q.keepsG hk h5 h6 (hq.far _ (by decide)), h4.ok⟩, h5, h6⟩
theorem LeftV.keepR {base gb : Nat} {v : Value} {st wn n : Int} {l : List Dlv} (h : LeftV W ga ma lf nx hd) (hr : RecQ base W gb v st wn n l) (hk : Keeps (gb :: v.ownBlock.toList) W W') : LeftV W' ga ma lf nx hd := by
  rcases h with h | ⟨gl, ml, rl, bl, h1, h2, h3, h4, h5⟩
  · exact .inl h
  · exact .inr ⟨gl, ml, rl, bl, h1, h2, h3, ⟨h4.q.away hr hk, h4.ok⟩, h5⟩
end
theorem RecQ.all_lt {base : Nat} {w : World} {g : Nat} {v : Value} {st wn n : Int} {h : List Dlv} (hq : RecQ base w g v st wn n h) : ∀ k ∈ g :: v.ownBlock.toList, k < w.heap.size := by
  intro k hk
  simp only [List.mem_cons, Option.mem_toList] at hk
  rcases hk with rfl | hk
  · exact hq.lt
  · exact (hq.row.lt k hk).2
theorem takeR_len (r : Rcv) (f : Fr) (h : RcvOk r) : (takeR r f).2.1.length ≤ 65 := by
  have key : ∀ d : Dlv, (keepR r d).2.1.length ≤ 65 := fun d => by
    unfold keepR
    split
    · simp
    · rename_i hr
      have hr0 : refuse r d.seq = 0 := by simpa using hr
      simp only
      have hd : ∀ (f : Nat) (n : Int) (l : List Dlv), (deliv f n l).1.length ≤ l.length := by
        intro f
        induction f with
        | zero => intro n l; simp [deliv]
        | succ f ih =>
          intro n l
          cases hf : findD l n with
          | none => rw [deliv_none hf]; simp
          | some d =>
            rw [deliv_some hf]
            have := ih (n + 1) (wipe l n)
            have := wipe_lt hf
            simp only [List.length_cons]; omega
      have := hd (r.held.length + 1) r.next (r.held ++ [d])
      have e : kept r d = deliv (r.held.length + 1) r.next (r.held ++ [d]) := rfl
      rw [e]
      have := h.room
      simp at *
      omega
  unfold takeR
  split
  · simp
  · split
    · simp
    · exact key _
theorem keepR_len (r : Rcv) (d : Dlv) (h : RcvOk r) : (keepR r d).2.1.length ≤ 65 := by
  unfold keepR
  split
  · simp
  · simp only
    have hd : ∀ (f : Nat) (n : Int) (l : List Dlv), (deliv f n l).1.length ≤ l.length := by
      intro f
      induction f with
      | zero => intro n l; simp [deliv]
      | succ f ih =>
        intro n l
        cases hf : findD l n with
        | none => rw [deliv_none hf]; simp
        | some d =>
          rw [deliv_some hf]
          have := ih (n + 1) (wipe l n)
          have := wipe_lt hf
          simp only [List.length_cons]; omega
    have := hd (r.held.length + 1) r.next (r.held ++ [d])
    have e : kept r d = deliv (r.held.length + 1) r.next (r.held ++ [d]) := rfl
    rw [e]
    have := h.room
    simp at *
    omega
theorem giveR_len (r : Rcv) (s : Int) (h : RcvOk r) : (giveR r s).2.1.length ≤ 65 := by
  unfold giveR
  split
  · simp
  · exact keepR_len r _ h
theorem Dls.nil (w : World) (A : Option Addr) : Dls w A 0 [] := ⟨rfl, [], rfl, At.nil⟩


theorem tmod3 (x : Int) : (IntKind.u64.wrap x).tmod 3 = 0 ∨ (IntKind.u64.wrap x).tmod 3 = 1 ∨ (IntKind.u64.wrap x).tmod 3 = 2 := by
  have h : 0 ≤ IntKind.u64.wrap x := by simp [IntKind.wrap, IntKind.signed, IntKind.bits]; omega
  rw [Int.tmod_eq_emod_of_nonneg h]
  omega
set_option maxRecDepth 100000 in
set_option maxHeartbeats 8000000 in
theorem linkReceives_walk (st wn nx : Int) (A : Option Addr) (n c : Nat) (fs : List (Int × Int × Int × List Int)) (w : World) (hE : Els CallE w A n fs) :
    Calls Try.prog 14 #[.agg #[.int .i64 st, .int .i64 wn, .int .i64 nx], .slice A n c] w fun e w' => e = .returned (.bool true) ∧ Ext w w' := by
  have HE := Lib.hid hE
  clear hE
  have hXe : Ext w (w.alloc (.cells #[.int .i64 st, .int .i64 wn, .int .i64 nx] 62)) := (Ext.refl w).alloc _
  by_cases hn : 80 < n
  · go_enter Try.func14, Try.ntmps14
    go_wp2_with fail
    generalize w.alloc (.cells #[.int .i64 st, .int .i64 wn, .int .i64 nx] 62) = w1 at hXe ⊢
    have HX := Lib.hid hXe
    refine (awake _).mono ?_
    rintro e w9 ⟨rfl, hX9⟩
    have HX9 := Lib.hid (HX.out.trans hX9)
    clear hX9
    go_wp2
    go_ret
    exact ⟨rfl, HX9.out⟩
  by_cases hbad : BadR st wn nx
  · go_enter Try.func14, Try.ntmps14
    go_upto_region 3 with (fail)
    have kb := Blk.new w 62 #[.int .i64 st, .int .i64 wn, .int .i64 nx]
    generalize w.alloc (.cells #[.int .i64 st, .int .i64 wn, .int .i64 nx] 62) = w1 at hXe kb ⊢
    have HX := Lib.hid hXe
    have KB := Lib.hid kb
    clear hXe kb
    have c0 := KB.out.cell 0
    have c1 := KB.out.cell 1
    have c2 := KB.out.cell 2
    go_wp2_with fail
    refine (newQ_bad st wn nx _ hbad).mono ?_
    rintro e w2 ⟨rfl, hX1⟩
    replace HX := Lib.hid (HX.out.trans hX1)
    replace KB := Lib.hid (KB.out.ext hX1)
    clear hX1 c0 c1 c2
    have c0 := KB.out.cell 0
    have c1 := KB.out.cell 1
    have c2 := KB.out.cell 2
    go_wp2_with fail
    refine (newE_bad st wn nx _ hbad).mono ?_
    rintro e w3 ⟨rfl, hX1⟩
    replace HX := Lib.hid (HX.out.trans hX1)
    clear hX1 c0 c1 c2
    go_wp2_with fail
    refine (awake _).mono ?_
    rintro e w9 ⟨rfl, hX9⟩
    have HX9 := Lib.hid (HX.out.trans hX9)
    clear hX9
    go_wp2
    go_ret
    exact ⟨rfl, HX9.out⟩
  go_enter Try.func14, Try.ntmps14
  go_upto_region 3 with (fail)
  have kb := Blk.new w 62 #[.int .i64 st, .int .i64 wn, .int .i64 nx]
  generalize w.alloc (.cells #[.int .i64 st, .int .i64 wn, .int .i64 nx] 62) = w1 at hXe kb ⊢
  have HX := Lib.hid hXe
  have KB := Lib.hid kb
  have hb1 := hXe.size
  clear hXe kb
  have c0 := KB.out.cell 0
  have c1 := KB.out.cell 1
  have c2 := KB.out.cell 2
  go_wp2_with fail
  refine (newQ_any st wn nx _ hbad).mono ?_
  rintro e w2 ⟨ga, ma, rfl, hP, hX1⟩
  have HP := Lib.hid hP
  replace HX := Lib.hid (HX.out.trans hX1)
  replace KB := Lib.hid (KB.out.ext hX1)
  clear hP hX1 c0 c1 c2
  have c0 := KB.out.cell 0
  have c1 := KB.out.cell 1
  have c2 := KB.out.cell 2
  go_wp2_with fail
  refine (newE_any st wn nx _ hbad).mono ?_
  rintro e w3 ⟨gb, vb, rfl, hR, hX1⟩
  have HR := Lib.hid hR
  replace HP := Lib.hid (HP.out.ext hX1)
  have hb2 := HX.out.size
  replace HX := Lib.hid (HX.out.trans hX1)
  clear hR hX1 c0 c1 c2 KB
  obtain ⟨b2, hb2'⟩ : ∃ b, b = w2.heap.size := ⟨_, rfl⟩
  rw [← hb2'] at HR hb2
  clear hb2' hbad
  go_wp2_with fail
  go_loopg [5, 6, 8, 9, 10, 11, 55] n (fun f a e0 e1 lf nx hd i wr => ∃ (k : Nat) (r : Rcv) (b1 ga ma : Nat) (vb : Value) (er : Int), f = n - k ∧ k ≤ n ∧ a = .pointer (some ⟨ga, 0, none⟩) ∧ e0 = .int .i64 er ∧ e1 = .int .i64 er ∧ i = .int .i64 (k : Int) ∧ w.heap.size ≤ b1 ∧ Hid (RcvP b1 wr ga ma r) ∧ Hid (RecR b2 wr gb vb r) ∧ Hid (LeftV wr ga ma lf nx hd) ∧ Hid (Ext w wr))
  case atStart => exact ⟨0, _, _, ga, ma, vb, 0, rfl, by omega, rfl, rfl, rfl, rfl, hb1, HP, HR, Lib.hid (.inl rfl), HX⟩
  case round =>
    clear HX HP HR vb hb1
    obtain ⟨k, r, b1, ga, ma, vb, er, rfl, hk, rfl, rfl, rfl, rfl, hb1, HP, HR, HLV, HX⟩ := hrel
    by_cases hlt : k < n
    · obtain ⟨b, off, f, cs, rfl, hf, ⟨A2, l2, m2, rfl, hq0, hq1, hq2, hI2, hl2, hm2⟩, hc⟩ := HE.out.get CallE.len (by omega) hlt
      obtain ⟨kd, st', sq, body⟩ := f
      simp only at hq0 hq1 hq2 hI2 hc
      have q0 := HX.out.cell (hc 0 _ rfl)
      have q1 := HX.out.cell (hc 1 _ rfl)
      have q2 := HX.out.cell (hc 2 _ rfl)
      have q3 := HX.out.cell (hc 3 _ rfl)
      rw [Nat.add_zero] at q0
      have HI2 := Lib.hid hI2
      clear hI2 hf hc
      by_cases h1 : 2048 < l2
      · go_wp2_with fail
        refine (awake _).mono ?_
        rintro e w9 ⟨rfl, hX9⟩
        have HX9 := Lib.hid ((HX.out.alloc _).trans hX9)
        clear hX9
        go_wp2
        go_ret
        exact ⟨rfl, HX9.out⟩
      rcases tmod3 kd with h0 | h0 | h0
      · have hr0 : (IntKind.u64.wrap kd).tmod 3 = 0 := h0
        clear h0
        go_upto_region 19 with (fail)
        clear q0 q1 q2 q3
        have hXa : Ext wr (wr.alloc (.cells #[.int .i64 kd, .int .i64 st', .int .i64 sq, .slice A2 l2 m2] 91)) := (Ext.refl _).alloc _
        have kb := Blk.new wr 91 #[.int .i64 kd, .int .i64 st', .int .i64 sq, .slice A2 l2 m2]
        generalize wr.alloc (.cells #[.int .i64 kd, .int .i64 st', .int .i64 sq, .slice A2 l2 m2] 91) = w3 at hXa kb ⊢
        replace HP := Lib.hid (HP.out.ext hXa)
        replace HR := Lib.hid (HR.out.ext hXa)
        replace HLV := Lib.hid (HLV.out.ext hXa)
        replace HX := Lib.hid (HX.out.trans hXa)
        have KC := Lib.hid kb
        clear hXa kb
        have c1 := KC.out.cell 1
        have c2 := KC.out.cell 2
        have c3 := KC.out.cell 3
        go_wp2_with fail
        obtain ⟨res, hres⟩ : ∃ res, takeR r ⟨st', sq, body⟩ = res := ⟨_, rfl⟩
        have hlen := takeR_len r ⟨st', sq, body⟩ HP.out.ok
        rw [hres] at hlen
        obtain ⟨r', ds, er'⟩ := res
        simp only at hlen
        have HRES := Lib.hid hres
        have hP := takeP_any b1 ga ma r ⟨st', sq, body⟩ A2 l2 m2 w3 HP.out (HI2.out.ext HX.out) (by omega)
        rw [hres] at hP
        refine hP.mono ?_
        rintro e w4 ⟨v, rfl, hd, hP4, hk⟩
        simp only at hd hP4 ⊢
        have hrl := HR.out.q.all_lt
        have HD := Lib.hid hd
        have hszd := Lib.hid hk.size
        replace HR := Lib.hid (RecR.mk (HR.out.q.away HP.out.q hk) HR.out.ok)
        replace HLV := Lib.hid (HLV.out.keepP HP.out.q hk)
        replace HX := Lib.hid (hk.ext HX.out (HP.out.q.new hb1))
        replace KC := Lib.hid (KC.out.away hk (HP.out.q.far _ (by decide)))
        replace HP := Lib.hid hP4
        have HRL := Lib.hid hrl
        clear hP hP4 hk hd hres c1 c2 c3 hrl
        obtain ⟨A4, c4, rfl⟩ := HD.out.slice
        have c1 := KC.out.cell 1
        have c2 := KC.out.cell 2
        have c3 := KC.out.cell 3
        go_wp2_with fail
        have hR := takeE_any b2 gb vb r ⟨st', sq, body⟩ A2 l2 m2 w4 HR.out (HI2.out.ext HX.out) hl2 hm2 (by omega)
        rw [HRES.out] at hR
        refine hR.mono ?_
        rintro e w5 ⟨u, vb', rfl, hd5, hR5, hk⟩
        simp only at hd5 hR5 ⊢
        have HD5 := Lib.hid hd5
        replace HD := Lib.hid (HD.out.keepsA hk (fun k hv hl => by have h1 := (HD.out.lt k hv).1; have h2 := HRL.out k hl; omega) (HR.out.q.far _ (by decide) (by decide)))
        replace HLV := Lib.hid (HLV.out.keepR HR.out.q hk)
        replace HX := Lib.hid (hk.ext HX.out (HR.out.q.new hb2))
        replace HP := Lib.hid (RcvP.mk (HP.out.q.away HR.out.q hk) HP.out.ok)
        replace HR := Lib.hid hR5
        clear hR hR5 hk hd5 KC c1 c2 c3 HRL hszd
        obtain ⟨A5, c5, rfl⟩ := HD5.out.slice
        have HDA : Hid (Dls w5 A4 ds.length ds) := Lib.hid (by obtain ⟨A, c, e, h, _⟩ := HD.out.dls; injection e with e; subst e; exact h)
        have HDB : Hid (Dls w5 A5 ds.length ds) := Lib.hid (by obtain ⟨A, c, e, h, _⟩ := HD5.out.dls; injection e with e; subst e; exact h)
        clear HD HD5
        go_wp2_with fail
        refine (sameDlv_eq A4 A5 ds.length c4 c5 ds _ HDA.out HDB.out (by omega)).mono ?_
        rintro e w6 ⟨rfl, hX6⟩
        replace HP := Lib.hid (HP.out.ext hX6)
        replace HR := Lib.hid (HR.out.ext hX6)
        replace HLV := Lib.hid (HLV.out.ext hX6)
        replace HX := Lib.hid (HX.out.trans hX6)
        clear hX6 HDA HDB
        go_wp2_with fail
        refine (alike_any _ b2 ga ma gb _ r' _ HP.out HR.out).mono ?_
        rintro e w7 ⟨rfl, hX7⟩
        replace HP := Lib.hid (HP.out.ext hX7)
        replace HR := Lib.hid (HR.out.ext hX7)
        replace HLV := Lib.hid (HLV.out.ext hX7)
        replace HX := Lib.hid (HX.out.trans hX7)
        clear hX7
        go_wp2
        go_roundg (n - (k + 1))
        case rel => exact ⟨k + 1, r', b1, ga, ma, vb', er', rfl, by omega, rfl, rfl, rfl, by go_num, hb1, HP, HR, HLV, HX⟩
        case measure => omega
      · have hr0 : (IntKind.u64.wrap kd).tmod 3 = 1 := h0
        clear h0
        go_upto_region 22 with (fail)
        clear q0 q1 q2 q3
        have hXa : Ext wr (wr.alloc (.cells #[.int .i64 kd, .int .i64 st', .int .i64 sq, .slice A2 l2 m2] 91)) := (Ext.refl _).alloc _
        have kb := Blk.new wr 91 #[.int .i64 kd, .int .i64 st', .int .i64 sq, .slice A2 l2 m2]
        generalize wr.alloc (.cells #[.int .i64 kd, .int .i64 st', .int .i64 sq, .slice A2 l2 m2] 91) = w3 at hXa kb ⊢
        replace HP := Lib.hid (HP.out.ext hXa)
        replace HR := Lib.hid (HR.out.ext hXa)
        replace HLV := Lib.hid (HLV.out.ext hXa)
        replace HX := Lib.hid (HX.out.trans hXa)
        have KC := Lib.hid kb
        clear hXa kb
        have c1 := KC.out.cell 1
        have c2 := KC.out.cell 2
        have c3 := KC.out.cell 3
        go_wp2_with fail
        obtain ⟨res, hres⟩ : ∃ res, giveR r sq = res := ⟨_, rfl⟩
        have hlen := giveR_len r sq HP.out.ok
        rw [hres] at hlen
        obtain ⟨r', ds, er'⟩ := res
        simp only at hlen
        have HRES := Lib.hid hres
        have hP := giveP_any b1 ga ma r sq w3 HP.out hq2
        rw [hres] at hP
        refine hP.mono ?_
        rintro e w4 ⟨v, rfl, hd, hP4, hk⟩
        simp only at hd hP4 ⊢
        have hrl := HR.out.q.all_lt
        have HD := Lib.hid hd
        have hszd := Lib.hid hk.size
        replace HR := Lib.hid (RecR.mk (HR.out.q.away HP.out.q hk) HR.out.ok)
        replace HLV := Lib.hid (HLV.out.keepP HP.out.q hk)
        replace HX := Lib.hid (hk.ext HX.out (HP.out.q.new hb1))
        replace KC := Lib.hid (KC.out.away hk (HP.out.q.far _ (by decide)))
        replace HP := Lib.hid hP4
        have HRL := Lib.hid hrl
        clear hP hP4 hk hd hres c1 c2 c3 hrl
        obtain ⟨A4, c4, rfl⟩ := HD.out.slice
        have c1 := KC.out.cell 1
        have c2 := KC.out.cell 2
        have c3 := KC.out.cell 3
        go_wp2_with fail
        have hR := giveE_any b2 gb vb r sq w4 HR.out
        rw [HRES.out] at hR
        refine hR.mono ?_
        rintro e w5 ⟨u, vb', rfl, hd5, hR5, hk⟩
        simp only at hd5 hR5 ⊢
        have HD5 := Lib.hid hd5
        replace HD := Lib.hid (HD.out.keepsA hk (fun k hv hl => by have h1 := (HD.out.lt k hv).1; have h2 := HRL.out k hl; omega) (HR.out.q.far _ (by decide) (by decide)))
        replace HLV := Lib.hid (HLV.out.keepR HR.out.q hk)
        replace HX := Lib.hid (hk.ext HX.out (HR.out.q.new hb2))
        replace HP := Lib.hid (RcvP.mk (HP.out.q.away HR.out.q hk) HP.out.ok)
        replace HR := Lib.hid hR5
        clear hR hR5 hk hd5 KC c1 c2 c3 HRL hszd
        obtain ⟨A5, c5, rfl⟩ := HD5.out.slice
        have HDA : Hid (Dls w5 A4 ds.length ds) := Lib.hid (by obtain ⟨A, c, e, h, _⟩ := HD.out.dls; injection e with e; subst e; exact h)
        have HDB : Hid (Dls w5 A5 ds.length ds) := Lib.hid (by obtain ⟨A, c, e, h, _⟩ := HD5.out.dls; injection e with e; subst e; exact h)
        clear HD HD5
        go_wp2_with fail
        refine (sameDlv_eq A4 A5 ds.length c4 c5 ds _ HDA.out HDB.out (by omega)).mono ?_
        rintro e w6 ⟨rfl, hX6⟩
        replace HP := Lib.hid (HP.out.ext hX6)
        replace HR := Lib.hid (HR.out.ext hX6)
        replace HLV := Lib.hid (HLV.out.ext hX6)
        replace HX := Lib.hid (HX.out.trans hX6)
        clear hX6 HDA HDB
        go_wp2_with fail
        refine (alike_any _ b2 ga ma gb _ r' _ HP.out HR.out).mono ?_
        rintro e w7 ⟨rfl, hX7⟩
        replace HP := Lib.hid (HP.out.ext hX7)
        replace HR := Lib.hid (HR.out.ext hX7)
        replace HLV := Lib.hid (HLV.out.ext hX7)
        replace HX := Lib.hid (HX.out.trans hX7)
        clear hX7
        go_wp2
        go_roundg (n - (k + 1))
        case rel => exact ⟨k + 1, r', b1, ga, ma, vb', er', rfl, by omega, rfl, rfl, rfl, by go_num, hb1, HP, HR, HLV, HX⟩
        case measure => omega
      · have hr0 : (IntKind.u64.wrap kd).tmod 3 = 2 := h0
        clear h0
        go_upto_region 25 with (fail)
        clear q0 q1 q2 q3
        have hXa : Ext wr (wr.alloc (.cells #[.int .i64 kd, .int .i64 st', .int .i64 sq, .slice A2 l2 m2] 91)) := (Ext.refl _).alloc _
        have kb := Blk.new wr 91 #[.int .i64 kd, .int .i64 st', .int .i64 sq, .slice A2 l2 m2]
        generalize wr.alloc (.cells #[.int .i64 kd, .int .i64 st', .int .i64 sq, .slice A2 l2 m2] 91) = w3 at hXa kb ⊢
        replace HP := Lib.hid (HP.out.ext hXa)
        replace HR := Lib.hid (HR.out.ext hXa)
        replace HLV := Lib.hid (HLV.out.ext hXa)
        replace HX := Lib.hid (HX.out.trans hXa)
        have KC := Lib.hid kb
        clear hXa kb
        have c1 := KC.out.cell 1
        have c2 := KC.out.cell 2
        have c3 := KC.out.cell 3
        go_wp2_with fail
        refine (nextP_any b1 ga ma r _ HP.out).mono ?_
        rintro e _ ⟨rfl, rfl⟩
        go_wp2_with fail
        refine (heldP_any b1 ga ma r _ HP.out).mono ?_
        rintro e _ ⟨rfl, rfl⟩
        go_wp2_with fail
        refine (copyP_any b1 ga ma r _ HP.out).mono ?_
        rintro e w4 ⟨g', m', rfl, hP4, hX4⟩
        have HLV4 : Hid (LeftV w4 g' m' (.pointer (some ⟨ga, 0, none⟩)) (.int .i64 r.next) (.int .i64 (r.held.length : Int))) := Lib.hid (.inr ⟨ga, ma, r, b1, rfl, rfl, rfl, HP.out.ext hX4, by
          have h1 := HP.out.q.lt
          have h2 := hP4.q.lo
          simp; omega, by
          have h1 := HP.out.q.lt
          have h2 := hP4.q.lo
          simp; omega⟩)
        have hb4 : w.heap.size ≤ w3.heap.size := HX.out.size
        replace HR := Lib.hid (HR.out.ext hX4)
        replace HX := Lib.hid (HX.out.trans hX4)
        have HP4 := Lib.hid hP4
        clear hP4 hX4 HP HLV KC c1 c2 c3
        go_wp2_with fail
        refine (sameDlv_eq none none 0 0 0 [] _ (Dls.nil _ _) (Dls.nil _ _) (by omega)).mono ?_
        rintro e w6 ⟨rfl, hX6⟩
        replace HP4 := Lib.hid (HP4.out.ext hX6)
        replace HR := Lib.hid (HR.out.ext hX6)
        replace HLV4 := Lib.hid (HLV4.out.ext hX6)
        replace HX := Lib.hid (HX.out.trans hX6)
        clear hX6
        go_wp2_with fail
        refine (alike_any _ b2 g' m' gb _ r _ HP4.out HR.out).mono ?_
        rintro e w7 ⟨rfl, hX7⟩
        replace HP4 := Lib.hid (HP4.out.ext hX7)
        replace HR := Lib.hid (HR.out.ext hX7)
        replace HLV4 := Lib.hid (HLV4.out.ext hX7)
        replace HX := Lib.hid (HX.out.trans hX7)
        clear hX7
        go_wp2
        go_roundg (n - (k + 1))
        case rel => exact ⟨k + 1, r, w3.heap.size, g', m', vb, er, rfl, by omega, rfl, rfl, rfl, by go_num, hb4, HP4, HR, HLV4, HX⟩
        case measure => omega
    · rcases HLV.out with rfl | ⟨gl, ml, rl, bl, rfl, rfl, rfl, hPl, _, _⟩
      · go_wp2_with fail
        refine (awake _).mono ?_
        rintro e w9 ⟨rfl, hX9⟩
        have HX9 := Lib.hid (HX.out.trans hX9)
        clear hX9
        go_wp2
        go_ret
        exact ⟨rfl, HX9.out⟩
      · have HPL := Lib.hid hPl
        clear hPl
        go_wp2_with fail
        refine (nextP_any bl gl ml rl _ HPL.out).mono ?_
        rintro e _ ⟨rfl, rfl⟩
        go_wp2_with fail
        refine (heldP_any bl gl ml rl _ HPL.out).mono ?_
        rintro e _ ⟨rfl, rfl⟩
        go_wp2_with fail
        refine (awake _).mono ?_
        rintro e w9 ⟨rfl, hX9⟩
        have HX9 := Lib.hid (HX.out.trans hX9)
        clear hX9
        go_wp2
        go_ret
        exact ⟨rfl, HX9.out⟩

end Go.Proofs.Ytekhmfliaojabaa
