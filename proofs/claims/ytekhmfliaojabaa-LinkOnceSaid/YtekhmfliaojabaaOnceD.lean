/- Lemmas of the proof that follows (Once, part 4): walks of functions by contract, and plain lemmas. Conditions: none. -/
import Derived.Test.YtekhmfliaojabaaOnceC
namespace Go.Proofs.Ytekhmfliaojabaa
open Go.RowKit

/-- Three cells that hold a delivery. -/
def DlC (w : World) (cs : List Value) (d : Dlv) : Prop := ∃ A n c, cs = [.int .i64 d.seq, .slice A n c, .bool d.lost] ∧ Ints .u8 w A n d.body ∧ n ≤ c ∧ c ≤ 9223372036854775807
/-- A slice of deliveries reads as 'ds'. -/
def Dls (w : World) (A : Option Addr) (n : Nat) (ds : List Dlv) : Prop := ds.length = n ∧ ∃ vs, CsR (DlC w) vs ds ∧ At w A vs
section
variable {w w' : World} {cs : List Value} {d : Dlv} {A : Option Addr} {n : Nat} {ds : List Dlv}
theorem DlC.ext (h : DlC w cs d) (he : Ext w w') : DlC w' cs d := by obtain ⟨A, n, c, h1, h2, h3⟩ := h; exact ⟨A, n, c, h1, h2.ext he, h3⟩
theorem DlC.len (h : DlC w cs d) : cs.length = 3 := by obtain ⟨A, n, c, rfl, _⟩ := h; rfl
theorem Dls.ext (h : Dls w A n ds) (he : Ext w w') : Dls w' A n ds := by obtain ⟨h1, vs, h2, h3⟩ := h; exact ⟨h1, vs, h2.imp fun _ _ h => h.ext he, h3.ext he⟩
theorem Dls.get (h : Dls w A n ds) {j : Nat} (hj : j < n) : ∃ b off d A' n' c', A = some ⟨b, off, none⟩ ∧ ds[j]? = some d ∧ w.cell? ⟨b, off + j * 3, none⟩ = some (.int .i64 d.seq) ∧ w.cell? ⟨b, off + j * 3 + 1, none⟩ = some (.slice A' n' c') ∧ w.cell? ⟨b, off + j * 3 + 2, none⟩ = some (.bool d.lost) ∧ Ints .u8 w A' n' d.body ∧ n' ≤ c' ∧ c' ≤ 9223372036854775807 := by
  obtain ⟨h1, vs, h2, h3⟩ := h
  have hf : ds[j]? = some ds[j] := List.getElem?_eq_getElem (by omega)
  obtain ⟨cs, ⟨A', n', c', rfl, h4⟩, h5⟩ := h2.get (fun _ _ h => h.len) hf
  obtain ⟨b, off, hA, hc⟩ := h3 (by intro e; subst e; have := h5 0 _ rfl; simp at this)
  refine ⟨b, off, _, A', n', c', hA, hf, hc _ _ (h5 0 _ rfl), ?_, ?_, h4⟩
  · rw [Nat.add_assoc]; exact hc _ _ (h5 1 _ rfl)
  · rw [Nat.add_assoc]; exact hc _ _ (h5 2 _ rfl)
end

end Go.Proofs.Ytekhmfliaojabaa
namespace Go.Proofs.Ytekhmfliaojabaa
open Go.RowKit

theorem RcvQ.keepsG {base : Nat} {w w' : World} {g m : Nat} {st wn n : Int} {h : List Dlv} {L : List Nat} (hq : RcvQ base w g m st wn n h) (hk : Keeps L w w') (n1 : g ∉ L) (n2 : m ∉ L) (n3 : ∀ k ∈ L, NoRow 5 w k) : RcvQ base w' g m st wn n h := by
  obtain ⟨h1, ⟨l, h2, h3⟩, h4⟩ := hq
  exact ⟨h1.keeps hk n1, ⟨l, h2.keeps hk n2, h3.imp fun _ _ _ h => ⟨h.1, h.2.keeps hk n3⟩⟩, h4⟩
/-- The receiver that was left for its copy, if there is one: it stands as it stood. -/
def LeftV (W : World) (ga ma : Nat) (lf nx hd : Value) : Prop := lf = .pointer none ∨ ∃ gl ml rl bl, lf = .pointer (some ⟨gl, 0, none⟩) ∧ nx = .int .i64 rl.next ∧ hd = .int .i64 (rl.held.length : Int) ∧ RcvP bl W gl ml rl ∧ gl ∉ [ga, ma] ∧ ml ∉ [ga, ma]
section
variable {W W' : World} {ga ma : Nat} {lf nx hd : Value}
theorem LeftV.ext (h : LeftV W ga ma lf nx hd) (he : Ext W W') : LeftV W' ga ma lf nx hd := by
  rcases h with h | ⟨gl, ml, rl, bl, h1, h2, h3, h4, h5⟩
  · exact .inl h
  · exact .inr ⟨gl, ml, rl, bl, h1, h2, h3, h4.ext he, h5⟩
theorem LeftV.keepR {base gb : Nat} {v : Value} {st wn n : Int} {l : List Dlv} (h : LeftV W ga ma lf nx hd) (hr : RecQ base W gb v st wn n l) (hk : Keeps (gb :: v.ownBlock.toList) W W') : LeftV W' ga ma lf nx hd := by
  rcases h with h | ⟨gl, ml, rl, bl, h1, h2, h3, h4, h5⟩
  · exact .inl h
  · exact .inr ⟨gl, ml, rl, bl, h1, h2, h3, ⟨h4.q.away hr hk, h4.ok⟩, h5⟩
end
theorem takeR_len (r : Rcv) (f : Fr) (h : RcvOk r) : (takeR r f).2.1.length ≤ 65 := by
  have key : ∀ d : Dlv, (keepR r d).2.1.length ≤ 65 := fun d => by
    unfold keepR
    split
    · simp
    · rename_i hr
      have hr0 : refuse r d.seq = 0 := by simpa using hr
      simp only
      have hd : ∀ (f : Nat) (n : Int) (l : List Dlv), (deliv f n l).1.length ≤ l.length := by
        intro f
        induction f with
        | zero => intro n l; simp [deliv]
        | succ f ih =>
          intro n l
          cases hf : findD l n with
          | none => rw [deliv_none hf]; simp
          | some d =>
            rw [deliv_some hf]
            have := ih (n + 1) (wipe l n)
            have := wipe_lt hf
            simp only [List.length_cons]; omega
      have := hd (r.held.length + 1) r.next (r.held ++ [d])
      have e : kept r d = deliv (r.held.length + 1) r.next (r.held ++ [d]) := rfl
      rw [e]
      have := h.room
      simp at *
      omega
  unfold takeR
  split
  · simp
  · split
    · simp
    · exact key _
theorem Dls.nil (w : World) (A : Option Addr) : Dls w A 0 [] := ⟨rfl, [], rfl, At.nil⟩


end Go.Proofs.Ytekhmfliaojabaa
namespace Go.Proofs.Ytekhmfliaojabaa
open Go.RowKit

theorem und_mapT : Try.prog.underlying 66 = some (.map 3 9) := by kernel_rfl
theorem zero_T (w : World) : (zeroValue 9).run Try.prog w = .ok (.string ByteArray.empty) w := by kernel_rfl
theorem onceI_start (st wn n : Int) : OnceI (rcv0 st wn n) [] := ⟨fun x hx => by simp [look_nil] at hx, fun d hd => by simp [rcv0] at hd⟩


set_option maxRecDepth 100000 in
set_option maxHeartbeats 8000000 in
theorem linkOnce_walk (st wn nx : Int) (A : Option Addr) (n c : Nat) (fs : List (Int × Int × List Int)) (w : World) (hE : Els FrameE w A n fs) :
    Calls Try.prog 8 #[.agg #[.int .i64 st, .int .i64 wn, .int .i64 nx], .slice A n c] w fun e w' => e = .returned (.bool true) ∧ Ext w w' := by
  have HE := Lib.hid hE
  clear hE
  have hXe : Ext w (w.alloc (.cells #[.int .i64 st, .int .i64 wn, .int .i64 nx] 62)) := (Ext.refl w).alloc _
  by_cases hn : 80 < n
  · go_enter Try.func8, Try.ntmps8
    go_wp2_with fail
    generalize w.alloc (.cells #[.int .i64 st, .int .i64 wn, .int .i64 nx] 62) = w1 at hXe ⊢
    have HX := Lib.hid hXe
    refine (awake _).mono ?_
    rintro e w9 ⟨rfl, hX9⟩
    have HX9 := Lib.hid (HX.out.trans hX9)
    clear hX9
    go_wp2
    go_ret
    exact ⟨rfl, HX9.out⟩
  by_cases hbad : BadR st wn nx
  · go_enter Try.func8, Try.ntmps8
    go_upto_region 3 with (fail)
    have kb := Blk.new w 62 #[.int .i64 st, .int .i64 wn, .int .i64 nx]
    generalize w.alloc (.cells #[.int .i64 st, .int .i64 wn, .int .i64 nx] 62) = w1 at hXe kb ⊢
    have HX := Lib.hid hXe
    have KB := Lib.hid kb
    have hb1 := hXe.size
    clear hXe kb
    have c0 := KB.out.cell 0
    have c1 := KB.out.cell 1
    have c2 := KB.out.cell 2
    go_wp2_with fail
    refine (newQ_bad st wn nx _ hbad).mono ?_
    rintro e w2 ⟨rfl, hX1⟩
    replace HX := Lib.hid (HX.out.trans hX1)
    replace KB := Lib.hid (KB.out.ext hX1)
    clear hX1 c0 c1 c2
    have c0 := KB.out.cell 0
    have c1 := KB.out.cell 1
    have c2 := KB.out.cell 2
    unfold BadR at hbad
    by_cases g0 : st < 0
    · have z0 : decide (st < 0) = true := decide_eq_true g0
      clear hbad
      go_wp2_with fail
      refine (awake _).mono ?_
      rintro e w9 ⟨rfl, hX9⟩
      have HX9 := Lib.hid (HX.out.trans hX9)
      clear hX9
      go_wp2
      go_ret
      exact ⟨rfl, HX9.out⟩
    · have z0 : decide (st < 0) = false := decide_eq_false g0
      by_cases g1 : 255 < st
      · have z1 : decide (255 < st) = true := decide_eq_true g1
        clear hbad
        go_wp2_with fail
        refine (awake _).mono ?_
        rintro e w9 ⟨rfl, hX9⟩
        have HX9 := Lib.hid (HX.out.trans hX9)
        clear hX9
        go_wp2
        go_ret
        exact ⟨rfl, HX9.out⟩
      · have z1 : decide (255 < st) = false := decide_eq_false g1
        by_cases g2 : wn < 1
        · have z2 : decide (wn < 1) = true := decide_eq_true g2
          clear hbad
          go_wp2_with fail
          refine (awake _).mono ?_
          rintro e w9 ⟨rfl, hX9⟩
          have HX9 := Lib.hid (HX.out.trans hX9)
          clear hX9
          go_wp2
          go_ret
          exact ⟨rfl, HX9.out⟩
        · have z2 : decide (wn < 1) = false := decide_eq_false g2
          by_cases g3 : 64 < wn
          · have z3 : decide (64 < wn) = true := decide_eq_true g3
            clear hbad
            go_wp2_with fail
            refine (awake _).mono ?_
            rintro e w9 ⟨rfl, hX9⟩
            have HX9 := Lib.hid (HX.out.trans hX9)
            clear hX9
            go_wp2
            go_ret
            exact ⟨rfl, HX9.out⟩
          · have z3 : decide (64 < wn) = false := decide_eq_false g3
            by_cases g4 : nx < 0
            · have z4 : decide (nx < 0) = true := decide_eq_true g4
              clear hbad
              go_wp2_with fail
              refine (awake _).mono ?_
              rintro e w9 ⟨rfl, hX9⟩
              have HX9 := Lib.hid (HX.out.trans hX9)
              clear hX9
              go_wp2
              go_ret
              exact ⟨rfl, HX9.out⟩
            · have z4 : decide (nx < 0) = false := decide_eq_false g4
              have z5 : decide (4294967295 < nx) = true := decide_eq_true (by omega)
              clear hbad
              go_wp2_with fail
              refine (awake _).mono ?_
              rintro e w9 ⟨rfl, hX9⟩
              have HX9 := Lib.hid (HX.out.trans hX9)
              clear hX9
              go_wp2
              go_ret
              exact ⟨rfl, HX9.out⟩
  go_enter Try.func8, Try.ntmps8
  go_upto_region 3 with (fail)
  have kb := Blk.new w 62 #[.int .i64 st, .int .i64 wn, .int .i64 nx]
  generalize w.alloc (.cells #[.int .i64 st, .int .i64 wn, .int .i64 nx] 62) = w1 at hXe kb ⊢
  have HX := Lib.hid hXe
  have KB := Lib.hid kb
  have hb1 := hXe.size
  clear hXe kb
  have c0 := KB.out.cell 0
  have c1 := KB.out.cell 1
  have c2 := KB.out.cell 2
  go_wp2_with fail
  refine (newQ_any st wn nx _ hbad).mono ?_
  rintro e w2 ⟨ga, ma, rfl, hP, hX1⟩
  have HP := Lib.hid hP
  replace HX := Lib.hid (HX.out.trans hX1)
  replace KB := Lib.hid (KB.out.ext hX1)
  clear hP hX1 c0 c1 c2
  have c2 := KB.out.cell 2
  go_upto_region 7 with (fail)
  have hmm := @run_makeMap Try.prog
  have hlo := HP.out.q.lo
  have hlt := HP.out.q.lt
  obtain ⟨mb, hmbe⟩ : ∃ mb, w2.heap.size = mb := ⟨_, rfl⟩
  have hXm : Ext w2 (w2.alloc (.map #[] 0)) := (Ext.refl _).alloc _
  have hMM := MapL.made w2 Try.prog 3
  have hmb0 := HX.out.size
  rw [hmbe] at hMM hlt hmb0
  go_wp2_with fail
  clear c2 hmm hmbe
  generalize w2.alloc (.map #[] 0) = w3 at hXm hMM ⊢
  replace HP := Lib.hid (HP.out.ext hXm)
  replace KB := Lib.hid (KB.out.ext hXm)
  replace HX := Lib.hid (HX.out.trans hXm)
  have HM := Lib.hid hMM
  have hmb : mb ∉ [ga, ma] := by simp; omega
  have HRW : Hid ((rcv0 st wn nx).stream = st ∧ (rcv0 st wn nx).window = wn) := Lib.hid ⟨rfl, rfl⟩
  clear hXm hMM hlo hlt hbad
  obtain ⟨b1, hb1'⟩ : ∃ b, b = w1.heap.size := ⟨_, rfl⟩
  rw [← hb1'] at HP hb1
  clear hb1'
  go_loopg [7, 77] n (fun f nv i wr => ∃ (k : Nat) (r : Rcv) (l : List (Int × Value)), f = n - k ∧ k ≤ n ∧ l.length ≤ k ∧ nv = .int .i64 r.next ∧ i = .int .i64 (k : Int) ∧ Hid (r.stream = st ∧ r.window = wn) ∧ Hid (RcvP b1 wr ga ma r) ∧ Hid (MapL Try.prog 3 wr mb l) ∧ Hid (OnceI r l) ∧ Hid (Blk wr w.heap.size 62 #[.int .i64 st, .int .i64 wn, .int .i64 nx]) ∧ Hid (Ext w wr))
  case atStart => exact ⟨0, _, [], rfl, by omega, by simp, rfl, rfl, HRW, HP, HM, Lib.hid (onceI_start _ _ _), KB, HX⟩
  case round =>
    clear HX HP HM KB HRW
    obtain ⟨k, r, l, rfl, hk, hlk, rfl, rfl, HRW, HP, HM, HOI, KB, HX⟩ := hrel
    by_cases hlt : k < n
    · obtain ⟨b, off, f, cs, rfl, hf, ⟨A2, l2, m2, rfl, hq0, hq1, hI2, hl2, hm2⟩, hc⟩ := HE.out.get FrameE.len (by omega) hlt
      obtain ⟨st', sq, body⟩ := f
      simp only at hq0 hq1 hI2 hc
      have q0 := HX.out.cell (hc 0 _ rfl)
      have q1 := HX.out.cell (hc 1 _ rfl)
      have q2 := HX.out.cell (hc 2 _ rfl)
      rw [Nat.add_zero] at q0
      have HI2 := Lib.hid hI2
      clear hI2 hf hc
      go_upto_region 11 with (fail)
      clear q0 q1 q2
      have hXa : Ext wr (wr.alloc (.cells #[.int .i64 st', .int .i64 sq, .slice A2 l2 m2] 38)) := (Ext.refl _).alloc _
      have kb := Blk.new wr 38 #[.int .i64 st', .int .i64 sq, .slice A2 l2 m2]
      generalize wr.alloc (.cells #[.int .i64 st', .int .i64 sq, .slice A2 l2 m2] 38) = w3 at hXa kb ⊢
      replace HP := Lib.hid (HP.out.ext hXa)
      replace HM := Lib.hid (HM.out.ext hXa)
      replace KB := Lib.hid (KB.out.ext hXa)
      replace HX := Lib.hid (HX.out.trans hXa)
      have KF := Lib.hid kb
      clear hXa kb
      obtain ⟨res, hres⟩ : ∃ res, takeR r ⟨st', sq, body⟩ = res := ⟨_, rfl⟩
      have hlen := takeR_len r ⟨st', sq, body⟩ HP.out.ok
      rw [hres] at hlen
      obtain ⟨r', ds, er⟩ := res
      simp only at hlen
      have hst := HOI.out.step ⟨st', sq, body⟩ hres
      have hP := takeP_any b1 ga ma r ⟨st', sq, body⟩ A2 l2 m2 w3 HP.out (HI2.out.ext HX.out)
      rw [hres] at hP
      have f0 := KF.out.cell 0
      have f1 := KF.out.cell 1
      have f2 := KF.out.cell 2
      go_wp2_with fail
      refine hP.mono ?_
      rintro e w4 ⟨v, rfl, hd, hP4, hk⟩
      simp only at hd hP4 ⊢
      have HD := Lib.hid hd
      have hn0 := HP.out.ok.next
      replace KF := Lib.hid (KF.out.away hk (HP.out.q.far _ (by decide)))
      replace KB := Lib.hid (KB.out.away hk (HP.out.q.far _ (by decide)))
      replace HM := Lib.hid (HM.out.keeps hk hmb)
      replace HX := Lib.hid (hk.ext HX.out (HP.out.q.new hb1))
      replace HP := Lib.hid hP4
      have hn1 := HP.out.ok.next
      clear hP hP4 hk hd hres f0 f1 f2
      have f0 := KF.out.cell 0
      have f1 := KF.out.cell 1
      have f2 := KF.out.cell 2
      have c0 := KB.out.cell 0
      have c1 := KB.out.cell 1
      have q := HM.out.run_look keyed_int und_mapT (zero_T _) (keyOf_i64 und_int (x := sq) hq1)
      have qs := str_any _ (c := m2) (HI2.out.ext HX.out)
      obtain ⟨sb, hsb⟩ : ∃ sb, strOfNums body = sb := ⟨_, rfl⟩
      rw [hsb] at qs
      rcases hst with ⟨her, rfl, rfl⟩ | ⟨rfl, k1, k2, k3, k4, k5, k6, k7, k8, k9, k10⟩
      · obtain ⟨vl, hvl⟩ : ∃ vl, (look l sq).getD (.string ByteArray.empty) = vl := ⟨_, rfl⟩
        obtain ⟨hb, hhb⟩ : ∃ hb, (look l sq).isSome = hb := ⟨_, rfl⟩
        rw [hvl, hhb] at q
        have her0 : (er == 0) = false := by simpa using her
        have HDS : Hid (∀ (j : Nat) (d : Dlv), ([] : List Dlv)[j]? = some d → d.seq = r'.next + j ∧ d.lost = false ∧ look l d.seq = some (.string (strOfNums d.body))) := Lib.hid (by simp)
        have HNX : Hid (r'.next + (([] : List Dlv).length : Int) = r'.next) := Lib.hid (by simp)
        obtain ⟨ds, hds⟩ : ∃ ds : List Dlv, ds = [] := ⟨_, rfl⟩
        rw [← hds] at HD HDS HNX
        have hdl : ds.length ≤ 65 := by rw [hds]; simp
        clear hds hvl hhb her
        obtain ⟨A4, c4, rfl⟩ := HD.out.slice
        go_wp2_with fail
        clear q qs f0 f1 f2 c0 c1
        go_loopg [7, 131] ds.length (fun f nv jv wq => ∃ j : Nat, f = ds.length - j ∧ j ≤ ds.length ∧ nv = .int .i64 (r'.next + (j : Int)) ∧ jv = .int .i64 (j : Int) ∧ Hid (DlL w3.heap.size b1 wq (.slice A4 ds.length c4) ds) ∧ Hid (RcvP b1 wq ga ma r') ∧ Hid (MapL Try.prog 3 wq mb l) ∧ Hid (Blk wq w.heap.size 62 #[.int .i64 st, .int .i64 wn, .int .i64 nx]) ∧ Hid (Ext w wq))
        case atStart => exact ⟨0, rfl, by omega, by simp, rfl, HD, HP, HM, KB, HX⟩
        case round =>
          clear HD HP HM KB HX
          obtain ⟨j, rfl, hj, rfl, rfl, HD, HP, HM, KB, HX⟩ := hrel
          by_cases hjl : j < ds.length
          · obtain ⟨gd, cd, d, A6, n6, c6, e, hd, e0, e1, e2, hO⟩ := HD.out.get hjl
            injection e with e5 e6 e7
            subst e5 e7
            obtain ⟨hs1, hs2, hs3⟩ := HDS.out j d hd
            have hXq : Ext wr (wr.alloc (.cells #[.int .i64 d.seq, .slice A6 n6 c6, .bool d.lost] 72)) := (Ext.refl _).alloc _
            have q := (HM.out.ext hXq).run_look keyed_int und_mapT (zero_T _) (keyOf_i64 und_int (x := d.seq) (by omega))
            rw [hs3] at q
            simp only [Option.getD_some, Option.isSome_some] at q
            have qs := str_any _ (c := c6) (hO.ints.ext hXq)
            obtain ⟨sb, hsb⟩ : ∃ sb, strOfNums d.body = sb := ⟨_, rfl⟩
            rw [hsb] at q qs
            have hns : (d.seq != r'.next + (j : Int)) = false := by simp [hs1]
            obtain ⟨dl, hdl'⟩ : ∃ dl, d.lost = dl := ⟨_, rfl⟩
            rw [hdl'] at e2 hs2 q qs
            subst hs2
            clear hd hs1 hs3 hO hsb hdl' hXq
            go_wp2
            go_roundg (ds.length - (j + 1))
            case rel => exact ⟨j + 1, rfl, by omega, by first | rfl | (congr 1; omega) | (simp; omega), by go_num, Lib.hid (HD.out.ext ((Ext.refl _).alloc _)), Lib.hid (HP.out.ext ((Ext.refl _).alloc _)), Lib.hid (HM.out.ext ((Ext.refl _).alloc _)), Lib.hid (KB.out.ext ((Ext.refl _).alloc _)), Lib.hid (HX.out.alloc _)⟩
            case measure => omega
          · obtain rfl : j = ds.length := by omega
            go_wp2
            go_roundg (n - (k + 1))
            case rel => exact ⟨k + 1, r', l, rfl, by omega, by first | omega | (simp only [List.length_append, List.length_cons, List.length_nil]; omega), by first | rfl | exact congrArg (Value.int .i64) (by have := HNX.out; omega), by go_num, HRW, HP, HM, HOI, KB, HX⟩
            case measure => omega
      · rw [k5] at q
        simp only [Option.getD_none, Option.isSome_none] at q
        try simp only at k1 k2 k3 k4
        have z1 : decide (sq < r.next) = false := decide_eq_false (by omega)
        have z2 : decide (wn ≤ sq - r.next) = false := decide_eq_false (by have := HRW.out.2; omega)
        have z3 : (st' != st) = false := by have := HRW.out.1; simp; omega
        have qw : IntKind.i64.wrap (sq - r.next) = sq - r.next := IntWalk.i64_in _ (by omega)
        have HDS := Lib.hid k10
        have HNX : Hid (r.next + (ds.length : Int) = r'.next) := Lib.hid k7.symm
        have HOI2 := Lib.hid k6
        have HK5 := Lib.hid k5
        have HRW2 : Hid (r'.stream = st ∧ r'.window = wn) := Lib.hid ⟨k8.trans HRW.out.1, k9.trans HRW.out.2⟩
        have hM := HM.out
        rw [hsb] at k6 k10
        have HSB := Lib.hid hsb
        clear k3 k5 k6 k7 k8 k9 k10 hsb
        obtain ⟨A4, c4, rfl⟩ := HD.out.slice
        go_wp2_with (at_mapUpdate; refine wpList_put_new _ rfl _ _ _ 66 rfl 9 keyed_int und_int und_mapT rfl hM (by unfold maxLen; omega) sq (.string sb) rfl rfl hq1 HK5.out ?_; intro w5 hM5 hG5; clear q qs f0 f1 f2 c0 c1 hM; have hk5 : Keeps [mb] w4 w5 := Keeps.of_grown hG5 (by rintro k ⟨⟩; simp); have hn5 : ∀ t, ∀ k ∈ [mb], NoRow t w4 k := (by intro t k hk; simp at hk; subst hk; exact HM.out.notRow _); have hga : ga ∉ [mb] := (by simp; intro e; exact hmb (by simp [e])); have hma : ma ∉ [mb] := (by simp; intro e; exact hmb (by simp [e])); replace KB := Lib.hid (KB.out.away hk5 (hn5 _)); replace HD := Lib.hid (HD.out.keeps hk5 (hn5 _) (hn5 _)); replace HP := Lib.hid (RcvP.mk (HP.out.q.keepsG hk5 hga hma (hn5 _)) HP.out.ok); replace HX := Lib.hid (HX.out.grown hG5 (fun k hk => by injection hk with hk; omega)); replace HM := Lib.hid (by rw [← HSB.out] at hM5; exact hM5); clear hM5 hG5 hk5 hn5 hga hma)
        replace HRW := HRW2
        replace HOI := HOI2
        go_loopg [7, 131] ds.length (fun f nv jv wq => ∃ j : Nat, f = ds.length - j ∧ j ≤ ds.length ∧ nv = .int .i64 (r.next + (j : Int)) ∧ jv = .int .i64 (j : Int) ∧ Hid (DlL w3.heap.size b1 wq (.slice A4 ds.length c4) ds) ∧ Hid (RcvP b1 wq ga ma r') ∧ Hid (MapL Try.prog 3 wq mb (l ++ [(sq, .string (strOfNums body))])) ∧ Hid (Blk wq w.heap.size 62 #[.int .i64 st, .int .i64 wn, .int .i64 nx]) ∧ Hid (Ext w wq))
        case atStart => exact ⟨0, rfl, by omega, by simp, rfl, HD, HP, HM, KB, HX⟩
        case round =>
          clear HD HP HM KB HX
          obtain ⟨j, rfl, hj, rfl, rfl, HD, HP, HM, KB, HX⟩ := hrel
          by_cases hjl : j < ds.length
          · obtain ⟨gd, cd, d, A6, n6, c6, e, hd, e0, e1, e2, hO⟩ := HD.out.get hjl
            injection e with e5 e6 e7
            subst e5 e7
            obtain ⟨hs1, hs2, hs3⟩ := HDS.out j d hd
            have hXq : Ext wr (wr.alloc (.cells #[.int .i64 d.seq, .slice A6 n6 c6, .bool d.lost] 72)) := (Ext.refl _).alloc _
            have q := (HM.out.ext hXq).run_look keyed_int und_mapT (zero_T _) (keyOf_i64 und_int (x := d.seq) (by omega))
            rw [hs3] at q
            simp only [Option.getD_some, Option.isSome_some] at q
            have qs := str_any _ (c := c6) (hO.ints.ext hXq)
            obtain ⟨sb, hsb⟩ : ∃ sb, strOfNums d.body = sb := ⟨_, rfl⟩
            rw [hsb] at q qs
            have hns : (d.seq != r.next + (j : Int)) = false := by simp [hs1]
            obtain ⟨dl, hdl'⟩ : ∃ dl, d.lost = dl := ⟨_, rfl⟩
            rw [hdl'] at e2 hs2 q qs
            subst hs2
            clear hd hs1 hs3 hO hsb hdl' hXq
            go_wp2
            go_roundg (ds.length - (j + 1))
            case rel => exact ⟨j + 1, rfl, by omega, by first | rfl | (congr 1; omega) | (simp; omega), by go_num, Lib.hid (HD.out.ext ((Ext.refl _).alloc _)), Lib.hid (HP.out.ext ((Ext.refl _).alloc _)), Lib.hid (HM.out.ext ((Ext.refl _).alloc _)), Lib.hid (KB.out.ext ((Ext.refl _).alloc _)), Lib.hid (HX.out.alloc _)⟩
            case measure => omega
          · obtain rfl : j = ds.length := by omega
            go_wp2
            go_roundg (n - (k + 1))
            case rel => exact ⟨k + 1, r', (l ++ [(sq, .string (strOfNums body))]), rfl, by omega, by first | omega | (simp only [List.length_append, List.length_cons, List.length_nil]; omega), by first | rfl | exact congrArg (Value.int .i64) (by have := HNX.out; omega), by go_num, HRW, HP, HM, HOI, KB, HX⟩
            case measure => omega
    · have hz := HOI.out.end_ HP.out.ok
      have q := HM.out.run_look keyed_int und_mapT (zero_T _) (keyOf_i64 und_int (x := r.next) (by have := HP.out.ok.next; omega))
      rw [hz] at q
      simp only [Option.getD_none, Option.isSome_none] at q
      clear hz
      go_wp2_with fail
      refine (nextP_any b1 ga ma r _ HP.out).mono ?_
      rintro e _ ⟨rfl, rfl⟩
      go_wp2_with fail
      refine (awake _).mono ?_
      rintro e w9 ⟨rfl, hX9⟩
      have HX9 := Lib.hid (HX.out.trans hX9)
      clear hX9
      go_wp2
      go_ret
      exact ⟨rfl, HX9.out⟩

end Go.Proofs.Ytekhmfliaojabaa
