/- Lemmas of the proof that follows (Outliers, part 13): walks of functions by contract, and plain lemmas. Conditions: none. -/
import Derived.Test.YtikhlcgnlbinfaaOutliersL
namespace Go.Proofs.Ytikhlcgnlbinfaa
open Go.RowKit

theorem keyed_int : Maps.Keyed Try.prog 3 := Maps.int_keyed Try.underlying3
theorem und_int : Try.prog.underlying 3 = some (.int .i64) := by kernel_rfl
theorem und_mapG : Try.prog.underlying 223 = some (.map 3 4) := by kernel_rfl
theorem zero_G (w : World) : (zeroValue 4).run Try.prog w = .ok (.bool false) w := by kernel_rfl
theorem elMt2 : Elem Try.prog 74 90 7 56 (.agg #[.int .i64 0, .int .i64 0, .int .i64 0, .int .i64 0, .int .i64 0, .int .i64 0, .int .i64 0]) := Elem.mk' (by kernel_rfl) (by kernel_rfl) rfl (by decide)
/-- What the map of dropped indexes holds. -/
def gl (l : List Int) : List (Int × Value) := l.map fun d => (d, Value.bool true)
theorem gl_snoc (l : List Int) (d : Int) : gl (l ++ [d]) = gl l ++ [(d, .bool true)] := by unfold gl; rw [List.map_append]; rfl
theorem gl_len (l : List Int) : (gl l).length = l.length := by unfold gl; simp
theorem gl_keys (l : List Int) : (gl l).map Prod.fst = l := by unfold gl; rw [List.map_map]; exact List.map_id' l
theorem look_gl (l : List Int) (x : Int) : (look (gl l) x).getD (.bool false) = .bool (l.contains x) := by
  by_cases h : x ∈ l
  · have hc : l.contains x = true := by simpa using h
    rw [hc]
    cases hl : look (gl l) x with
    | none =>
      rw [look_none, gl_keys] at hl
      exact absurd h hl
    | some v =>
      have := look_mem hl
      unfold gl at this
      obtain ⟨d, _, hd⟩ := List.mem_map.1 this
      injection hd with _ hd
      rw [← hd]
      rfl
  · have hc : l.contains x = false := by simpa using h
    rw [hc, look_none.2 (by rw [gl_keys]; exact h)]
    rfl
theorem look_new {l : List Int} {x : Int} (h : x ∉ l) : look (gl l) x = none := look_none.2 (by rw [gl_keys]; exact h)
theorem dropOk_take {n : Nat} {ds : List Int} (h : DropOk n ds) (k : Nat) : DropOk n (ds.take k) := ⟨fun i hi => h.1 i (List.mem_of_mem_take hi), h.2.sublist (List.take_sublist _ _)⟩
theorem dropOk_snoc {n : Nat} {ds : List Int} {k : Nat} {d : Int} (hd : ds[k]? = some d) : DropOk n (ds.take (k + 1)) ↔ DropOk n (ds.take k) ∧ 0 ≤ d ∧ d < n ∧ d ∉ ds.take k := by
  have e : ds.take (k + 1) = ds.take k ++ [d] := by rw [List.take_add_one, hd]; rfl
  unfold DropOk
  rw [e, List.nodup_append]
  constructor
  · rintro ⟨h1, h2, _, h3⟩
    refine ⟨⟨fun i hi => h1 i (List.mem_append_left _ hi), h2⟩, (h1 d (by simp)).1, (h1 d (by simp)).2, fun hm => h3 d hm d (by simp) rfl⟩
  · rintro ⟨⟨h1, h2⟩, h3, h4, h5⟩
    refine ⟨fun i hi => ?_, h2, by simp, fun a ha b hb => ?_⟩
    · rcases List.mem_append.1 hi with h | h
      · exact h1 i h
      · simp at h; subst h; exact ⟨h3, h4⟩
    · simp at hb; subst hb; intro e; subst e; exact h5 ha
theorem keepI_map (ms : List Mt) (ds : List Int) (k : Nat) : (keepI ds (k + 1)).map (mtAt ms) = (keepI ds k).map (mtAt ms) ++ (if ds.contains (k : Int) then [] else [mtAt ms k]) := by
  rw [keepI_succ, List.map_append]
  split <;> rfl
theorem keepI_le (ds : List Int) (k : Nat) : (keepI ds k).length ≤ k := by
  have := List.length_filter_le (fun i => !ds.contains ((i : Nat) : Int)) (List.range k)
  unfold keepI
  rw [List.length_range] at this
  exact this

set_option maxRecDepth 100000 in
set_option maxHeartbeats 16000000 in
theorem without_ok (S : Nat) (A : Option Addr) (n c : Nat) (ms : List Mt) (Ad : Option Addr) (nd cd : Nat) (ds : List Int) (w : World) (h : MsAt w A n ms) (hv : VP (S : Int) ms) (hn : ds.length = nd) (hI : Ints .i64 w Ad nd ds) (hnd : nd ≤ 1000) (hb : DropOk n ds) :
    Calls Try.prog 51 #[.agg #[.int .i64 (S : Int), .slice A n c], .slice Ad nd cd] w (fun e w' => ∃ v, e = .returned (.tuple #[.agg #[.int .i64 (S : Int), v], .int .i64 0]) ∧ w'.ownsRow w.heap.size 90 7 v (wout ms ds).length (mtV (wout ms ds)) ∧ Ext w w') := by
  have H := Lib.hid h
  have hXe : Ext w ((w.alloc (.cells #[.int .i64 (S : Int), .slice A n c] 76)).alloc (.cells #[.int .i64 0, .slice none 0 0] 76)) := ((Ext.refl w).alloc _).alloc _
  have kP : Blk ((w.alloc (.cells #[.int .i64 (S : Int), .slice A n c] 76)).alloc (.cells #[.int .i64 0, .slice none 0 0] 76)) w.heap.size 76 #[.int .i64 (S : Int), .slice A n c] := Blk.alloc (Blk.new w _ _) _
  have kR : Blk ((w.alloc (.cells #[.int .i64 (S : Int), .slice A n c] 76)).alloc (.cells #[.int .i64 0, .slice none 0 0] 76)) (w.heap.size + 1) 76 #[.int .i64 0, .slice none 0 0] := Blk.at_ (by simp)
  have HV := Lib.hid hv
  clear h hv
  go_enter Try.func51, Try.ntmps51
  go_upto_region 1 with (fail)
  generalize (w.alloc (.cells #[.int .i64 (S : Int), .slice A n c] 76)).alloc (.cells #[.int .i64 0, .slice none 0 0] 76) = w1 at hXe kP kR ⊢
  have HX := Lib.hid hXe
  have HP := Lib.hid kP
  have HR := Lib.hid kR
  clear hXe kP kR
  have p0 := HP.out.cell 0
  have p1 := HP.out.cell 1
  simp only [List.getElem?_toArray, List.getElem?_cons_zero, List.getElem?_cons_succ] at p0 p1
  go_wp2_with fail
  have HI := Lib.hid hI
  have HLD := Lib.hid hn
  have hn64 : n ≤ 64 := by have := HV.out.2.2.1; have := H.out.1; omega
  clear hI hn
  have HB := Lib.hid hb
  clear hb
  refine (valid5_any (S : Int) A n c ms _ (H.out.ext HX.out)).mono ?_
  rw [vpB_iff.2 HV.out]
  rintro e w2 ⟨rfl, hX⟩
  replace HX := Lib.hid (HX.out.trans hX)
  replace HP := Lib.hid (HP.out.ext hX)
  replace HR := Lib.hid (HR.out.ext hX)
  clear hX p0 p1
  have hmm := @run_makeMap Try.prog
  go_upto_region 4 with (fail)
  clear hmm
  have hXa : Ext w2 (w2.alloc (.map #[] 0)) := (Ext.refl _).alloc _
  have kM := MapL.made w2 Try.prog 3
  have hrl := HR.out.lt
  replace HX := Lib.hid (HX.out.trans hXa)
  replace HP := Lib.hid (HP.out.ext hXa)
  replace HR := Lib.hid (HR.out.ext hXa)
  clear hXa
  generalize w2.heap.size = gm at kM hrl ⊢
  generalize w2.alloc (.map #[] 0) = w3 at kM HX HP HR ⊢
  have HM := Lib.hid kM
  clear kM
  go_wp2_with fail
  go_loopg [19] nd (fun fu iv wr => ∃ j : Nat, fu = nd - j ∧ j ≤ nd ∧ iv = .int .i64 (j : Int) ∧ Hid (DropOk n (ds.take j)) ∧ Hid (MapL Try.prog 3 wr gm (gl (ds.take j))) ∧ Hid (Blk wr w.heap.size 76 #[.int .i64 (S : Int), .slice A n c]) ∧ Hid (Blk wr (w.heap.size + 1) 76 #[.int .i64 0, .slice none 0 0]) ∧ Hid (Ext w wr))
  case atStart => exact ⟨0, rfl, by omega, rfl, Lib.hid (DropOk.nil n), HM, HP, HR, HX⟩
  case round =>
    clear HM HP HR HX
    obtain ⟨j, rfl, hj, rfl, HOK, HM, HP, HR, HX⟩ := hrel
    have pl := HP.out
    have p0 := pl.cell 0
    have p1 := pl.cell 1
    simp only [List.getElem?_toArray, List.getElem?_cons_zero, List.getElem?_cons_succ] at p0 p1
    clear pl
    by_cases hlt : j < nd
    · have q1 : decide (j < nd) = true := decide_eq_true hlt
      obtain ⟨gd, od, d, hAd, hd, hwf, x0⟩ := (HI.out.ext HX.out).get hlt
      subst hAd
      have hdr : -9223372036854775808 ≤ d ∧ d ≤ 9223372036854775807 := by simp [Lit.wf, IntKind.min, IntKind.max, IntKind.bits, IntKind.signed] at hwf; omega
      have HSN := Lib.hid (dropOk_snoc (n := n) hd)
      have HD := Lib.hid hd
      clear hd hwf
      have r0 := HR.out.cell 0
      have r1 := HR.out.cell 1
      have f0 := HR.out.free 0
      have f1 := HR.out.free 1
      simp only [List.getElem?_toArray, List.getElem?_cons_zero, List.getElem?_cons_succ] at r0 r1
      by_cases h1 : d < 0
      · have q2 : decide (d < 0) = true := decide_eq_true h1
        have HN : Hid (¬ DropOk n ds) := Lib.hid (fun h => by have := (HSN.out.1 (dropOk_take h (j + 1))).2.1; omega)
        clear h1 hdr
        exact absurd HB.out HN.out
      · have q2 : decide (d < 0) = false := decide_eq_false h1
        by_cases h2 : (n : Int) ≤ d
        · have q3 : decide ((n : Int) ≤ d) = true := decide_eq_true h2
          have HN : Hid (¬ DropOk n ds) := Lib.hid (fun h => by have := (HSN.out.1 (dropOk_take h (j + 1))).2.2.1; omega)
          clear h1 h2 hdr
          exact absurd HB.out HN.out
        · have q3 : decide ((n : Int) ≤ d) = false := decide_eq_false h2
          have q := HM.out.run_at (t := 223) keyed_int und_mapG (zero_G _) (keyOf_i64 und_int (x := d) hdr)
          rw [look_gl] at q
          by_cases h3 : d ∈ ds.take j
          · rw [show (ds.take j).contains d = true by simpa using h3] at q
            have HN : Hid (¬ DropOk n ds) := Lib.hid (fun h => (HSN.out.1 (dropOk_take h (j + 1))).2.2.2 h3)
            clear h1 h2 h3 hdr
            exact absurd HB.out HN.out
          · rw [show (ds.take j).contains d = false by simpa using h3] at q
            have HO2 : Hid (DropOk n (ds.take (j + 1))) := Lib.hid (HSN.out.2 ⟨HOK.out, by omega, by omega, h3⟩)
            have HLN := Lib.hid (look_new h3)
            have hlen : (gl (ds.take j)).length ≤ j := by rw [gl_len, List.length_take]; omega
            clear h1 h2 h3 r0 r1 f0 f1
            go_upto_region 9 with (fail)
            clear q p0 p1 x0
            go_wp2_with (at_mapUpdate; refine wpList_put_new _ rfl _ _ _ 223 rfl 4 keyed_int und_int und_mapG rfl HM.out (by unfold maxLen; omega) d (.bool true) rfl rfl hdr HLN.out ?_; intro w8 hm8 hg8; have HM8 := Lib.hid hm8; have HG8 := Lib.hid hg8; clear hm8 hg8)
            go_roundg (nd - (j + 1))
            case rel =>
              refine ⟨j + 1, rfl, by omega, by go_num, HO2, Lib.hid ?_, Lib.hid (HP.out.grown HG8.out (by simp; omega)), Lib.hid (HR.out.grown HG8.out (by simp; omega)), Lib.hid (HX.out.grown HG8.out (fun b hb => by injection hb with hb; omega))⟩
              rw [show ds.take (j + 1) = ds.take j ++ [d] by rw [List.take_add_one, HD.out]; rfl, gl_snoc]
              exact HM8.out
            case measure => omega
    · obtain rfl : nd = j := by omega
      have q1 : decide (nd < nd) = false := by simp
      have HDT : Hid (ds.take nd = ds) := Lib.hid (List.take_of_length_le (by have := HLD.out; omega))
      rw [HDT.out] at HM
      clear HOK HDT
      go_upto_region 12 with (fail)
      have hXa : Ext wr (wr.alloc (.cells #[.int .i64 (S : Int), .slice none 0 0] 76)) := (Ext.refl _).alloc _
      have kQ := Blk.new wr 76 #[.int .i64 (S : Int), .slice none 0 0]
      have hml := HM.out.lt
      replace HX := Lib.hid (HX.out.trans hXa)
      replace HP := Lib.hid (HP.out.ext hXa)
      replace HR := Lib.hid (HR.out.ext hXa)
      replace HM := Lib.hid (HM.out.ext hXa)
      clear hXa p0 p1
      generalize wr.heap.size = gq at kQ hml ⊢
      generalize wr.alloc (.cells #[.int .i64 (S : Int), .slice none 0 0] 76) = w4 at kQ HX HP HR HM ⊢
      have HQ := Lib.hid kQ
      clear kQ
      have pl := HP.out
      have p0 := pl.cell 0
      have p1 := pl.cell 1
      simp only [List.getElem?_toArray, List.getElem?_cons_zero, List.getElem?_cons_succ] at p0 p1
      clear pl
      go_wp2_with fail
      clear p0 p1
      go_loopg [47] n (fun fu iv wz => ∃ (k : Nat) (ov : Value), fu = n - k ∧ k ≤ n ∧ iv = .int .i64 (k : Int) ∧ Hid (wz.ownsRow (gq + 1) 90 7 ov (keepI ds k).length (mtV ((keepI ds k).map (mtAt ms)))) ∧ Hid (Blk wz gq 76 #[.int .i64 (S : Int), ov]) ∧ Hid (MapL Try.prog 3 wz gm (gl ds)) ∧ Hid (Blk wz (w.heap.size + 1) 76 #[.int .i64 0, .slice none 0 0]) ∧ Hid (Ext w wz))
      case atStart => exact ⟨0, .slice none 0 0, rfl, by omega, rfl, Lib.hid (World.ownsRow_nil _ _ _ _), HQ, HM, HR, HX⟩
      case round =>
        clear HQ HM HR HX
        obtain ⟨k, ov, rfl, hk, rfl, HO, HQ, HM, HR, HX⟩ := hrel
        obtain ⟨Ao, co, rfl⟩ := own_slice HO.out
        by_cases hkn : k < n
        · have q2 : decide (k < n) = true := decide_eq_true hkn
          obtain ⟨gp, op, ⟨a, b, x, y, z, dd, ww⟩, rfl, hm, hmem, x0, x1, x2, x3, x4, x5, x6⟩ := (H.out.ext HX.out).get hkn
          simp only at x0 x1 x2 x3 x4 x5 x6
          have HMK : Hid (mtAt ms k = ⟨a, b, x, y, z, dd, ww⟩) := Lib.hid (by unfold mtAt; rw [hm]; rfl)
          have HKM := Lib.hid (keepI_map ms ds k)
          have HKL := Lib.hid (keepI_succ ds k)
          clear hm hmem
          go_upto_region 15 with (fail)
          have hXa : Ext wr (wr.alloc (.cells #[.int .i64 a, .int .i64 b, .int .i64 x, .int .i64 y, .int .i64 z, .int .i64 dd, .int .i64 ww] 90)) := (Ext.refl _).alloc _
          have kB := Blk.new wr 90 #[.int .i64 a, .int .i64 b, .int .i64 x, .int .i64 y, .int .i64 z, .int .i64 dd, .int .i64 ww]
          have hql := HQ.out.lt
          replace HX := Lib.hid (HX.out.trans hXa)
          replace HO := Lib.hid (World.ownsRow.ext' HO.out hXa)
          replace HQ := Lib.hid (HQ.out.ext hXa)
          replace HR := Lib.hid (HR.out.ext hXa)
          replace HM := Lib.hid (HM.out.ext hXa)
          clear hXa x0 x1 x2 x3 x4 x5 x6
          generalize wr.heap.size = gx at kB hql ⊢
          generalize wr.alloc (.cells #[.int .i64 a, .int .i64 b, .int .i64 x, .int .i64 y, .int .i64 z, .int .i64 dd, .int .i64 ww] 90) = w5 at kB HX HO HQ HR HM ⊢
          have HBX := Lib.hid kB
          clear kB
          have q := HM.out.run_at (t := 223) keyed_int und_mapG (zero_G _) (keyOf_i64 und_int (x := (k : Int)) (by omega))
          rw [look_gl] at q
          obtain ⟨cb, hcb⟩ : ∃ cb, ds.contains (k : Int) = cb := ⟨_, rfl⟩
          rw [hcb] at q HKM HKL
          clear hcb
          by_cases hc : cb = true
          · subst hc
            have HK1 : Hid ((keepI ds (k + 1)).map (mtAt ms) = (keepI ds k).map (mtAt ms)) := Lib.hid (by rw [HKM.out]; simp)
            have HK2 : Hid ((keepI ds (k + 1)).length = (keepI ds k).length) := Lib.hid (by rw [HKL.out]; simp)
            clear HKM HKL
            go_wp2
            go_roundg (n - (k + 1))
            case rel =>
              refine ⟨k + 1, _, rfl, by omega, by go_num, Lib.hid ?_, HQ, HM, HR, HX⟩
              rw [HK1.out, HK2.out]
              exact HO.out
            case measure => omega
          · obtain rfl : cb = false := by simpa using hc
            clear hc
            go_upto_region 16 with (fail)
            clear q
            have HK1 : Hid ((keepI ds (k + 1)).map (mtAt ms) = (keepI ds k).map (mtAt ms) ++ [⟨a, b, x, y, z, dd, ww⟩]) := Lib.hid (by rw [HKM.out, HMK.out]; rfl)
            have HK2 : Hid ((keepI ds (k + 1)).length = (keepI ds k).length + 1) := Lib.hid (by rw [HKL.out]; simp)
            obtain ⟨lk, hlk⟩ : ∃ lk, (keepI ds k).length = lk := ⟨_, rfl⟩
            have hlk64 : lk ≤ 64 := by have := keepI_le ds k; omega
            have HLK := Lib.hid hlk
            rw [hlk] at HO HQ HK2
            clear HKM HKL hlk
            have y0 := HBX.out.cell 0
            have y1 := HBX.out.cell 1
            have y2 := HBX.out.cell 2
            have y3 := HBX.out.cell 3
            have y4 := HBX.out.cell 4
            have y5 := HBX.out.cell 5
            have y6 := HBX.out.cell 6
            simp only [List.getElem?_toArray, List.getElem?_cons_zero, List.getElem?_cons_succ] at y0 y1 y2 y3 y4 y5 y6
            have o1 := HQ.out.cell 1
            have hgxw := HBX.out.lt
            simp only [List.getElem?_toArray, List.getElem?_cons_zero, List.getElem?_cons_succ] at o1
            go_wp2_with (at_builtin; refine wpList_app _ elMt2 rfl _ _ rfl (gq + 1) (.slice Ao lk co) lk _ rfl (HO.out.alloc _) _ 1 1 [.int .i64 a, .int .i64 b, .int .i64 x, .int .i64 y, .int .i64 z, .int .i64 dd, .int .i64 ww] rfl rfl (At.new' _ [_, _, _, _, _, _, _] _ rfl) (by simp [Value.oneCell']) (by omega) (by unfold maxLen; omega) (by simp; omega) ?_; intro v8 w8 hown8 hgr8 _; have HG8 := Lib.hid hgr8; have HO8 := Lib.hid hown8; have hB8 := (HQ.out.alloc _).grown hgr8 (fun e => own_blk_ne HO.out HQ.out (by decide) e.symm); have o0' := hB8.cell 1; have o1' := hB8.free 1; have HB8 := Lib.hid hB8; simp only [List.getElem?_toArray, List.getElem?_cons_zero, List.getElem?_cons_succ] at o0'; obtain ⟨Ao8, co8, rfl⟩ := own_slice hown8; clear hgr8 hown8 hB8)
            go_roundg (n - (k + 1))
            case rel =>
              have hkw : Keeps [gq] w8 (w8.setCell ⟨gq, 1, none⟩ (.slice Ao8 (lk + 1) co8)) := (Keeps.refl [gq] w8).setCell (.inl (by simp)) _
              have hgl : ∀ g, (Value.slice Ao lk co).ownBlock = some g → gq < g := fun g hg => by have := (HO.out.lt g hg).1; omega
              refine ⟨k + 1, .slice Ao8 (lk + 1) co8, rfl, by omega, by go_num, Lib.hid ?_, Lib.hid ?_, Lib.hid (((HM.out.ext ((Ext.refl _).alloc _)).kept HG8.out (fun e => by have := hgl _ e.symm; omega)).setCell (by simp only; omega) _), Lib.hid (((HR.out.alloc _).grown HG8.out (fun e => by have := hgl _ e.symm; omega)).far (by simp only; omega) _), Lib.hid (((HX.out.alloc _).grown HG8.out (fun b hb => by have := hgl _ hb; omega)).setCell (by simp only; omega) _)⟩
              · rw [HK1.out, HK2.out, mtV_snoc]
                exact ownsRow_keeps HO8.out hkw (fun g hg hl => by simp at hl; subst hl; exact own_blk_ne HO8.out HB8.out (by decide) hg)
              · have := HB8.out.set 1 (.slice Ao8 (lk + 1) co8)
                simpa using this
            case measure => omega
        · obtain rfl : n = k := by omega
          have q2 : decide (n < n) = false := by simp
          have HWO : Hid ((keepI ds n).map (mtAt ms) = wout ms ds ∧ (keepI ds n).length = (wout ms ds).length) := Lib.hid (by unfold wout; rw [H.out.1, List.length_map]; exact ⟨rfl, rfl⟩)
          rw [HWO.out.1, HWO.out.2] at HO
          obtain ⟨lk, hlk⟩ : ∃ lk, (wout ms ds).length = lk := ⟨_, rfl⟩
          rw [hlk] at HO
          rw [HWO.out.2, hlk] at HQ
          clear HWO
          have HLK := Lib.hid hlk
          clear hlk
          have r0 := HR.out.cell 0
          have r1 := HR.out.cell 1
          have f0 := HR.out.free 0
          have f1 := HR.out.free 1
          simp only [List.getElem?_toArray, List.getElem?_cons_zero, List.getElem?_cons_succ] at r0 r1
          have o0 := HQ.out.cell 0
          have o1 := HQ.out.cell 1
          simp only [List.getElem?_toArray, List.getElem?_cons_zero, List.getElem?_cons_succ] at o0 o1
          go_wp2
          refine bodyPost_ret (v := .tuple #[.agg #[.int .i64 (S : Int), .slice Ao lk co], .int .i64 0]) (by simp [results, Try.results51, go_sem, *]) rfl ?_
          refine ⟨.slice Ao lk co, rfl, ?_, (HX.out.setCell (p := ⟨w.heap.size + 1, 0, none⟩) (by simp only; omega) _).setCell (p := ⟨w.heap.size + 1, 1, none⟩) (by simp only; omega) _⟩
          have hkw : Keeps [w.heap.size + 1] wr ((wr.setCell ⟨w.heap.size + 1, 0, none⟩ (.int .i64 (S : Int))).setCell ⟨w.heap.size + 1, 1, none⟩ (.slice Ao lk co)) := ((Keeps.refl [w.heap.size + 1] wr).setCell (.inl (by simp)) _).setCell (.inl (by simp)) _
          rw [HLK.out]
          exact ownsRow_keeps (World.ownsRow.mono' HO.out (show w.heap.size ≤ gq + 1 by omega)) hkw (fun g hg hl => by have := (HO.out.lt g hg).1; simp at hl; omega)

end Go.Proofs.Ytikhlcgnlbinfaa
namespace Go.Proofs.Ytikhlcgnlbinfaa
open Go.RowKit

/-- x[:m:m]. -/
theorem run_cut3 {P : Program} {w : World} {t e : TypeId} {size bytes : Nat} {z : Value} (E : Elem P t e size bytes z) (A : Option Addr) (n c : Nat) (k k' : IntKind) (m : Nat) (hm : m ≤ c) :
    (Instr.sliceAt t (.slice A n c) none (some (.int k (m : Int))) (some (.int k' (m : Int)))).run P w = .ok (.slice A m m) w := by
  obtain ⟨i, hi, hz, hs, hby⟩ := E.info
  have e0 : A.map (·.add 0) = A := by cases A <;> simp [Addr.add]
  simp [Instr.sliceAt, Instr.slice, run_underlying E.und, Instr.sliceBounds, run_sliceBound, sizeOf, typeInfo, hi, hm, e0]
/-- The address of x[l:]. -/
def cutA (A : Option Addr) (c l size : Nat) : Option Addr := if c = l then A else A.map (·.add (l * size))
theorem run_cutL {P : Program} {w : World} {t e : TypeId} {size bytes : Nat} {z : Value} (E : Elem P t e size bytes z) (A : Option Addr) (n c : Nat) (k : IntKind) (l : Nat) (L : Int) (hL : L = l) (hl : l ≤ n) :
    (Instr.sliceAt t (.slice A n c) (some (.int k L)) none none).run P w = .ok (.slice (cutA A c l size) (n - l) (c - l)) w := by
  subst hL
  unfold cutA
  obtain ⟨i, hi, hz, hs, hby⟩ := E.info
  simp [Instr.sliceAt, Instr.slice, run_underlying E.und, Instr.sliceBounds, run_sliceBound, sizeOf, typeInfo, hi, hs, hl]
theorem run_app_zero {P : Program} {w : World} {t e : TypeId} {size bytes : Nat} {z : Value} (E : Elem P t e size bytes z) (ty : TypeId) (b : Addr) (s cc : Nat) (hs : s ≤ cc) (h63 : cc ≤ 9223372036854775807) (A2 : Option Addr) (c2 : Nat) :
    (Builtin.append_ #[t, t] ty #[.slice (some b) s cc, .slice A2 0 c2]).run P w = .ok (.slice (some b) s cc) w := by
  obtain ⟨i, hi, hz, hs', hby⟩ := E.info
  have h1 : ¬ (9223372036854775807 < (s : Int)) := by omega
  rcases A2 with _ | a
  · simp [Builtin.append_, run_underlying E.und, sizeOf, typeInfo, hi, Builtin.lenOf, Builtin.firstCells, hs, storeCells]
  · have hf := run_firstCells_some (P := P) (w := w) i.size 0 a 0 c2 [] (by simp) (by simp)
    simp [Builtin.append_, run_underlying E.und, sizeOf, typeInfo, hi, Builtin.lenOf, hf, hs, storeCells]
theorem Ints.cut {k : IntKind} {w : World} {g o n : Nat} {xs : List Int} (h : Ints k w (some ⟨g, o, none⟩) n xs) (m : Nat) (hm : m ≤ n) : Ints k w (some ⟨g, o, none⟩) m (xs.take m) := by
  obtain ⟨h1, h2, h3⟩ := h
  refine ⟨by rw [List.length_take]; omega, fun x hx => h2 x (List.mem_of_mem_take hx), fun hne => ?_⟩
  obtain ⟨b, off, hA, hc⟩ := h3 (by intro e; apply hne; rw [List.map_eq_nil_iff] at e ⊢; rw [e]; simp)
  injection hA with hA
  injection hA with e1 e2
  subst e1 e2
  refine ⟨_, _, rfl, fun j v hj => hc j v ?_⟩
  rw [List.map_take] at hj
  rw [List.getElem?_take] at hj
  split at hj
  · exact hj
  · cases hj
theorem Ints.tail {k : IntKind} {w : World} {g o n c : Nat} {xs : List Int} (h : Ints k w (some ⟨g, o, none⟩) n xs) (l : Nat) (hl : l ≤ n) (hc : n ≤ c) : Ints k w (cutA (some ⟨g, o, none⟩) c l 1) (n - l) (xs.drop l) := by
  obtain ⟨h1, h2, h3⟩ := h
  refine ⟨by rw [List.length_drop]; omega, fun x hx => h2 x (List.mem_of_mem_drop hx), fun hne => ?_⟩
  have hln : l < n := by
    rcases Nat.lt_or_ge l n with h | h
    · exact h
    · exfalso
      apply hne
      rw [List.map_eq_nil_iff, List.drop_eq_nil_iff]
      omega
  obtain ⟨b, off, hA, hcc⟩ := h3 (by intro e; apply hne; rw [List.map_eq_nil_iff] at e ⊢; rw [e]; simp)
  injection hA with hA
  injection hA with e1 e2
  subst e1 e2
  refine ⟨g, o + l, by unfold cutA; rw [if_neg (by omega)]; simp [Addr.add], fun j v hj => ?_⟩
  have := hcc (l + j) v (by rw [List.map_drop, List.getElem?_drop] at hj; exact hj)
  rw [← Nat.add_assoc] at this
  exact this
theorem Ints.of_ownI {w : World} {base n c : Nat} {A : Option Addr} {e : TypeId} {xs : List Int} (h : w.ownsRow base e 1 (.slice A n c) n (xs.map (Value.int .i64))) (hw : ∀ x ∈ xs, -9223372036854775808 ≤ x ∧ x ≤ 9223372036854775807) : Ints .i64 w A n xs := by
  refine ⟨by have := h.1; rw [List.length_map] at this; omega, fun x hx => ?_, At.of_own h⟩
  have := hw x hx
  simp [Lit.wf, IntKind.min, IntKind.max, IntKind.bits, IntKind.signed]
  omega
theorem Ints.keepsA {k : IntKind} {w w' : World} {A : Option Addr} {n : Nat} {xs : List Int} {L : List Nat} (h : Ints k w A n xs) (hk : Keeps L w w') (hn : ∀ ad, A = some ad → ad.block ∉ L) : Ints k w' A n xs := by
  obtain ⟨h1, h2, h3⟩ := h
  refine ⟨h1, h2, fun hne => ?_⟩
  obtain ⟨b, off, rfl, hc⟩ := h3 hne
  refine ⟨b, off, rfl, fun j v hj => ?_⟩
  have hx := hc j v hj
  rw [← hx]
  exact World.cell?_of_block (w := w) (hk.block b (World.block_lt_of_cell? w _ hx) (hn _ rfl))
theorem add_at (g o j : Nat) : Addr.add ⟨g, o, none⟩ j = ⟨g, o + j, none⟩ := by
  by_cases h : j = 0
  · subst h; simp [Addr.add]
  · simp [Addr.add, h]
/-- append(x, y...) where x has no room: nothing that was there changes. -/
theorem run_join {P : Program} {w : World} {t e : TypeId} {bytes : Nat} {z : Value} (E : Elem P t e 1 bytes z) (ty : TypeId) (g o s : Nat) (xs : List Int) (A2 : Option Addr) (m c2 : Nat) (ys : List Int)
    (hx : Ints .i64 w (some ⟨g, o, none⟩) s xs) (hy : Ints .i64 w A2 m ys) (hb : (s + m) * bytes ≤ 140737488355328) (h63 : s + m ≤ 9223372036854775807) :
    ∃ g' o' c' w', (Builtin.append_ #[t, t] ty #[.slice (some ⟨g, o, none⟩) s s, .slice A2 m c2]).run P w = .ok (.slice (some ⟨g', o', none⟩) (s + m) c') w' ∧ s + m ≤ c' ∧ Ints .i64 w' (some ⟨g', o', none⟩) (s + m) (xs ++ ys) ∧ Ext w w' ∧ (g' = g ∨ w.heap.size ≤ g') ∧ (g < w.heap.size → g' < w'.heap.size) := by
  rcases Nat.eq_zero_or_pos m with rfl | hm
  · have hy0 : ys = [] := List.eq_nil_of_length_eq_zero hy.1
    subst hy0
    exact ⟨g, o, s, w, by rw [run_app_zero E ty _ _ _ (Nat.le_refl _) (by omega)]; rfl, by omega, by simpa using hx, Ext.refl _, .inl rfl, id⟩
  · obtain ⟨i, hi, hz, hs', hby⟩ := E.info
    obtain ⟨b2, o2, y0, rfl, _⟩ := hy.get (j := 0) (by omega)
    have hax : ∀ j v, (xs.map (Value.int .i64))[j]? = some v → w.cell? (Addr.add ⟨g, o, none⟩ j) = some v := fun j v hj => by
      have hne : xs.map (Value.int .i64) ≠ [] := fun e => by rw [e] at hj; simp at hj
      obtain ⟨b, off, hA, hc⟩ := hx.2.2 hne
      injection hA with hA
      injection hA with e1 e2
      subst e1 e2
      rw [add_at]; exact hc j v hj
    have hay : ∀ j v, (ys.map (Value.int .i64))[j]? = some v → w.cell? (Addr.add ⟨b2, o2, none⟩ j) = some v := fun j v hj => by
      have hne : ys.map (Value.int .i64) ≠ [] := fun e => by rw [e] at hj; simp at hj
      obtain ⟨b, off, hA, hc⟩ := hy.2.2 hne
      injection hA with hA
      injection hA with e1 e2
      subst e1 e2
      rw [add_at]; exact hc j v hj
    have hr := run_append_grow (P := P) (w := w) t ty e i z E.und hi hz ⟨g, o, none⟩ s s (xs.map (Value.int .i64)) (by rw [hs', List.length_map, hx.1]; omega) hax ⟨b2, o2, none⟩ m c2 (ys.map (Value.int .i64)) (by rw [hs', List.length_map, hy.1]; omega) hay (by omega) (by omega) (by rw [hby]; exact growslice_fits (by omega) hb)
    refine ⟨w.heap.size, 0, grownCap w (s + m) s e, _, hr, ?_, ⟨by rw [List.length_append, hx.1, hy.1], fun x hxm => ?_, fun hne => ⟨w.heap.size, 0, rfl, fun j v hj => ?_⟩⟩, (Ext.refl w).drew.alloc _, .inr (Nat.le_refl _), fun _ => by simp⟩
    · exact grownCap_ge w _ _ e
    · rcases List.mem_append.1 hxm with h | h
      · exact hx.2.1 x h
      · exact hy.2.1 x h
    · rw [Nat.zero_add]
      have hB : Blk (w.drew.alloc (.cells ((xs.map (Value.int .i64)).toArray ++ (ys.map (Value.int .i64)).toArray ++ Builtin.zeroCells z.cells (grownCap w (s + m) s e - (s + m))) e)) w.heap.size e ((xs.map (Value.int .i64)).toArray ++ (ys.map (Value.int .i64)).toArray ++ Builtin.zeroCells z.cells (grownCap w (s + m) s e - (s + m))) := Blk.new w.drew e _
      refine (hB.cell j).trans ?_
      rw [List.map_append] at hj
      have hl := (List.getElem?_eq_some_iff.1 hj).1
      have : ((xs.map (Value.int .i64)).toArray ++ (ys.map (Value.int .i64)).toArray ++ Builtin.zeroCells z.cells (grownCap w (s + m) s e - (s + m)))[j]? = ((xs.map (Value.int .i64)).toArray ++ (ys.map (Value.int .i64)).toArray)[j]? := by
        rw [Array.getElem?_append_left (by simpa using hl)]
      rw [this]
      simpa using hj
end Go.Proofs.Ytikhlcgnlbinfaa
namespace Go.Proofs.Ytikhlcgnlbinfaa
open Go.RowKit

section
variable {P : Program}
/-- An operation that is always done, whose value is known. -/
theorem jop_run {ops : Array Oper} {o : Oper} {b : Act} {W W' : World} {K : Act → World → Prop} {Q' : Exit → Act → World → Prop} {v' : Value} (hg : o.guard = none) (hrun : (execOp b.eval o).run P W = .ok (.value v') W') (hK : K (b.put o.dst v') W') :
    if Region.wanted o (yielded ops b.tmps) then o.wp P b W K Q' else K (b.put o.dst undef) W := by
  simp only [Region.wanted, hg, if_true, Oper.wp, hrun]
  exact hK
/-- 'append(s, x...)' in a region that draws its order. -/
theorem jop_app {ops : Array Oper} {o : Oper} {b : Act} {W W' : World} {K : Act → World → Prop} {Q' : Exit → Act → World → Prop} {t : TypeId} {i j : Tmp} {v u v' : Value} (hg : o.guard = none)
    (ho : o.op = .call { callee := .builtin .append, args := #[.tmp i, .tmp j], argTypes := #[t, t] }) (hi : b.tmps[i]? = some v) (hj : b.tmps[j]? = some u)
    (hrun : (Builtin.append_ #[t, t] o.type #[v, u]).run P W = .ok v' W') (hK : K (b.put o.dst v') W') :
    if Region.wanted o (yielded ops b.tmps) then o.wp P b W K Q' else K (b.put o.dst undef) W := by
  refine jop_run hg ?_ hK
  have e1 : b.eval (.tmp i) = v := by simp [Act.eval, hi]
  have e2 : b.eval (.tmp j) = u := by simp [Act.eval, hj]
  unfold execOp
  simp only [ho, resolve, invoke, builtin, Sem.run_bind, Sem.run_pure, Result.andThen_ok, List.map_toArray, List.map_cons, List.map_nil, e1, e2, hrun]
end
end Go.Proofs.Ytikhlcgnlbinfaa
namespace Go.Proofs.Ytikhlcgnlbinfaa
open Go.RowKit

theorem adj_count {n : Nat} {ms : List Mt} {limit : Int} : ∀ r : Nat, (∀ k, k < r → ¬ adjEnd n ms limit (adjD n ms k)) → (keepI (adjD n ms r) ms.length).length + r = ms.length
  | 0, _ => by
    show (keepI [] ms.length).length + 0 = ms.length
    unfold keepI
    rw [List.filter_eq_self.2 (by simp)]
    simp
  | r + 1, h => by
    have ih := adj_count r fun k hk => h k (by omega)
    have hr := h r (by omega)
    cases hk : (adjW n ms (adjD n ms r)).1 with
    | none => exact absurd (.inl hk) hr
    | some k =>
      obtain ⟨h1, _, h3⟩ := adj_left hk
      show (keepI (adjNext n ms (adjD n ms r)) ms.length).length + (r + 1) = ms.length
      rw [h3, List.length_eraseIdx, if_pos h1]
      omega
theorem wout_len {ms : List Mt} {ds : List Int} : (wout ms ds).length = (keepI ds ms.length).length := by unfold wout; rw [List.length_map]
theorem wout_vp {S : Int} {ms : List Mt} (h : VP S ms) (ds : List Int) : VP S (wout ms ds) := ⟨h.1, h.2.1, Nat.le_trans (wout_le ms ds) h.2.2.1, fun m hm => h.2.2.2 m (wout_mem hm)⟩
theorem erase_join {l : List Nat} {k : Nat} (_hk : k < l.length) : ((l.map fun i : Nat => (i : Int)).take k ++ (l.map fun i : Nat => (i : Int)).drop (k + 1)) = (l.eraseIdx k).map fun i : Nat => (i : Int) := by
  rw [List.eraseIdx_eq_take_drop_succ, List.map_append, List.map_take, List.map_drop]
theorem sgn_le {q r : Rat} : sgnQ (q - r) ≤ 0 ↔ q ≤ r := by
  rcases sgnQ_cases (q - r) with ⟨h1, h2⟩ | ⟨h1, h2⟩ | ⟨h1, h2⟩
  · rw [h2]; exact ⟨fun _ => by grind, fun _ => by omega⟩
  · rw [h2]; exact ⟨fun _ => by grind, fun _ => by omega⟩
  · rw [h2]; exact ⟨fun h => by omega, fun h => absurd h1 (by grind)⟩
/-- What is left: a list of integers in a slice. -/
def LeftA (W : World) (v : Value) (lo gl nl : Nat) (zs : List Int) : Prop := ∃ g' o' c', v = .slice (some ⟨g', o', none⟩) nl c' ∧ nl ≤ c' ∧ Ints .i64 W (some ⟨g', o', none⟩) nl zs ∧ (g' = gl ∨ lo ≤ g') ∧ (gl < lo → g' < W.heap.size)
theorem LeftA.ext {W W' : World} {v : Value} {lo gl nl : Nat} {zs : List Int} (h : LeftA W v lo gl nl zs) (he : Ext W W') : LeftA W' v lo gl nl zs := by
  obtain ⟨g', o', c', h1, h2, h3, h4, h5⟩ := h
  exact ⟨g', o', c', h1, h2, h3.ext he, h4, fun h => Nat.lt_of_lt_of_le (h5 h) he.size⟩

set_option maxRecDepth 100000 in
set_option maxHeartbeats 2000000 in
theorem adu_r14a (gm : Nat) (li : Int) (w : World)  (a : Act) (Q : Exit → Act → World → Prop) (hsize : 56 ≤ a.tmps.size)
    (s1 : a.tmps[1]? = some (.int .i64 (li)))
    (s13 : a.tmps[13]? = some (.int .i64 (-1)))
    (s14 : a.tmps[14]? = some (.pointer (some ⟨gm, 0, none⟩)))
    (hend : ∀ (xv0 xv1 xv2 xv3 xv4 xv5 xv6 xv7 xv8 : Value) (W : World), (xv0 = .int .i64 (-1)) → (xv1 = .bool true) → (xv2 = .bool true) → (xv3 = undef) → (xv4 = undef) → (xv5 = undef) → (xv6 = undef) → (xv7 = undef) → (xv8 = .bool true) → Ext w W → wpList Try.prog (rops Try.f79 14).toArray Q ((rops Try.f79 14).drop 9) (((((((((a.put (some 47) xv0).put (some 48) xv1).put (some 49) xv2).put (some 50) xv3).put (some 51) xv4).put (some 52) xv5).put (some 53) xv6).put (some 54) xv7).put (some 55) xv8) W) :
    (Code.region 14 (rops Try.f79 14).toArray true).wp Try.prog Q a w := by
  have hmono : ∀ (W W' : World) (j : Nat) (u : Value), Ext W W' → (fun (i : Nat) (v : Value) (W : World) => match i with
    | 0 => v = .int .i64 (-1)
    | 1 => v = .bool true
    | 2 => v = .bool true
    | 3 => v = undef
    | 4 => v = undef
    | 5 => v = undef
    | 6 => v = undef
    | 7 => v = undef
    | 8 => v = .bool true
    | _ => True) j u W → (fun (i : Nat) (v : Value) (W : World) => match i with
    | 0 => v = .int .i64 (-1)
    | 1 => v = .bool true
    | 2 => v = .bool true
    | 3 => v = undef
    | 4 => v = undef
    | 5 => v = undef
    | 6 => v = undef
    | 7 => v = undef
    | 8 => v = .bool true
    | _ => True) j u W' := by
    intro W W' j u hX h
    match j, h with
    | 0, h => exact h
    | 1, h => exact h
    | 2, h => exact h
    | 3, h => exact h
    | 4, h => exact h
    | 5, h => exact h
    | 6, h => exact h
    | 7, h => exact h
    | 8, h => exact h
    | _ + 9, h => exact h
  have hsz : ∀ d, some d ∈ ([some 47, some 48, some 49, some 50, some 51, some 52, some 53, some 54, some 55] : List (Option Tmp)) → d < a.tmps.size := slots_lt (by decide) hsize
  refine wp_region_j 9 [some 47, some 48, some 49, some 50, some 51, some 52, some 53, some 54, some 55] [[], [0], [1], [2], [2], [2, 4], [2, 3, 5], [2, 6], [2, 7]] [[], [], [], [], [], [], [], [], []] (fun (i : Nat) (v : Value) (W : World) => match i with
    | 0 => v = .int .i64 (-1)
    | 1 => v = .bool true
    | 2 => v = .bool true
    | 3 => v = undef
    | 4 => v = undef
    | 5 => v = undef
    | 6 => v = undef
    | 7 => v = undef
    | 8 => v = .bool true
    | _ => True) (fun _ W => Ext w W) (by kernel_rfl) (by kernel_rfl) hsz (fun _ _ _ _ h => h) ((Ext.refl w).drew) ?_ ?_
  · clear hend
    simp only [rops, Try.f79, regOf, Option.bind_some, Nat.reduceBEq, if_true, if_false, Bool.false_eq_true, Option.getD_some]
    simp only [List.take_succ_cons, List.take_zero]
    refine ⟨?_, ?_, ?_, ?_, ?_, ?_, ?_, ?_, ?_, trivial⟩
    · intro done us W hJ hdep haft hnot b hb hb' K hK Q'
      have e13 := (hb' 13 (by simp)).trans s13
      clear hb hb'
      go_simp
      exact hK _ _ rfl (fun _ _ _ h => h) hJ
    · intro done us W hJ hdep haft hnot b hb hb' K hK Q'
      simp only [List.getD_cons_succ, List.getD_cons_zero, List.mem_cons, List.not_mem_nil, or_false, forall_eq] at hdep
      have e47 := hb 0 47 rfl
      have d0 := hdep
      rw [d0.1] at e47
      clear hb hb' hdep d0
      go_simp
      exact hK _ _ rfl (fun _ _ _ h => h) hJ
    · intro done us W hJ hdep haft hnot b hb hb' K hK Q'
      simp only [List.getD_cons_succ, List.getD_cons_zero, List.mem_cons, List.not_mem_nil, or_false, forall_eq] at hdep
      have e48 := hb 1 48 rfl
      have d1 := hdep
      rw [d1.1] at e48
      clear hb hb' hdep d1
      go_simp
      exact hK _ _ rfl (fun _ _ _ h => h) hJ
    · intro done us W hJ hdep haft hnot b hb hb' K hK Q'
      simp only [List.getD_cons_succ, List.getD_cons_zero, List.mem_cons, List.not_mem_nil, or_false, forall_eq] at hdep
      have e14 := (hb' 14 (by simp)).trans s14
      have e49 := hb 2 49 rfl
      have d2 := hdep
      rw [d2.1] at e49
      clear hb hb' hdep d2
      go_simp
      exact hK _ _ rfl (fun _ _ _ h => h) hJ
    · intro done us W hJ hdep haft hnot b hb hb' K hK Q'
      simp only [List.getD_cons_succ, List.getD_cons_zero, List.mem_cons, List.not_mem_nil, or_false, forall_eq] at hdep
      have e1 := (hb' 1 (by simp)).trans s1
      have e49 := hb 2 49 rfl
      have d2 := hdep
      rw [d2.1] at e49
      clear hb hb' hdep d2
      go_simp
      exact hK _ _ rfl (fun _ _ _ h => h) hJ
    · intro done us W hJ hdep haft hnot b hb hb' K hK Q'
      simp only [List.getD_cons_succ, List.getD_cons_zero, List.mem_cons, List.not_mem_nil, or_false, forall_eq_or_imp, forall_eq] at hdep
      have e49 := hb 2 49 rfl
      have e51 := hb 4 51 rfl
      have d2 := hdep.1
      have d4 := hdep.2
      rw [d2.1] at e49
      rw [d4.1] at e51
      clear hb hb' hdep d2 d4
      go_simp
      exact hK _ _ rfl (fun _ _ _ h => h) hJ
    · intro done us W hJ hdep haft hnot b hb hb' K hK Q'
      simp only [List.getD_cons_succ, List.getD_cons_zero, List.mem_cons, List.not_mem_nil, or_false, forall_eq_or_imp, forall_eq] at hdep
      have e49 := hb 2 49 rfl
      have e50 := hb 3 50 rfl
      have e52 := hb 5 52 rfl
      have d2 := hdep.1
      have d3 := hdep.2.1
      have d5 := hdep.2.2
      rw [d2.1] at e49
      rw [d3.1] at e50
      rw [d5.1] at e52
      clear hb hb' hdep d2 d3 d5
      go_simp
      exact hK _ _ rfl (fun _ _ _ h => h) hJ
    · intro done us W hJ hdep haft hnot b hb hb' K hK Q'
      simp only [List.getD_cons_succ, List.getD_cons_zero, List.mem_cons, List.not_mem_nil, or_false, forall_eq_or_imp, forall_eq] at hdep
      have e49 := hb 2 49 rfl
      have e53 := hb 6 53 rfl
      have d2 := hdep.1
      have d6 := hdep.2
      rw [d2.1] at e49
      rw [d6.1] at e53
      clear hb hb' hdep d2 d6
      go_simp
      exact hK _ _ rfl (fun _ _ _ h => h) hJ
    · intro done us W hJ hdep haft hnot b hb hb' K hK Q'
      simp only [List.getD_cons_succ, List.getD_cons_zero, List.mem_cons, List.not_mem_nil, or_false, forall_eq_or_imp, forall_eq] at hdep
      have e49 := hb 2 49 rfl
      have e54 := hb 7 54 rfl
      have d2 := hdep.1
      have d7 := hdep.2
      rw [d2.1] at e49
      rw [d7.1] at e54
      clear hb hb' hdep d2 d7
      go_simp
      exact hK _ _ rfl (fun _ _ _ h => h) hJ
  · intro us W hV hJ
    exact hend (us 0) (us 1) (us 2) (us 3) (us 4) (us 5) (us 6) (us 7) (us 8) W (hV 0 (by omega)) (hV 1 (by omega)) (hV 2 (by omega)) (hV 3 (by omega)) (hV 4 (by omega)) (hV 5 (by omega)) (hV 6 (by omega)) (hV 7 (by omega)) (hV 8 (by omega)) hJ
set_option maxRecDepth 100000 in
set_option maxHeartbeats 2000000 in
theorem adu_r14b (gm aa : Nat) (li : Int) (le : Bool) (q : Rat) (su : Bool) (Au Bu : Option Addr) (lu cu mu ku : Nat) (w : World) (x0 : w.cell? ⟨gm, 0, none⟩ = some (.bool su)) (x1 : w.cell? ⟨gm, 1, none⟩ = some (.slice Au lu cu)) (x2 : w.cell? ⟨gm, 2, none⟩ = some (.slice Bu mu ku)) (hx : NumX w (.agg #[.bool su, .slice Au lu cu, .slice Bu mu ku]) q 3102) (h0 : decide ((aa : Int) < 0) = false) (hl : -9223372036854775808 ≤ li ∧ li ≤ 9223372036854775807) (hle : Hid (decide ((sgnQ (q - ((li : Int) : Rat))) ≤ 0) = le)) (a : Act) (Q : Exit → Act → World → Prop) (hsize : 56 ≤ a.tmps.size)
    (s1 : a.tmps[1]? = some (.int .i64 (li)))
    (s13 : a.tmps[13]? = some (.int .i64 (aa : Int)))
    (s14 : a.tmps[14]? = some (.pointer (some ⟨gm, 0, none⟩)))
    (hend : ∀ (xv0 xv1 xv2 xv3 xv4 xv5 xv6 xv7 xv8 : Value) (W : World), (xv0 = .int .i64 (aa : Int)) → (xv1 = .bool false) → (xv2 = .bool false) → (xv3 = .agg #[.bool su, .slice Au lu cu, .slice Bu mu ku]) → (xv4 = .int .i64 (li)) → (NumX W xv5 (((li : Int) : Rat)) (2)) → (xv6 = .int .i64 (sgnQ (q - ((li : Int) : Rat)))) → (xv7 = .bool le) → (xv8 = .bool le) → Ext w W → wpList Try.prog (rops Try.f79 14).toArray Q ((rops Try.f79 14).drop 9) (((((((((a.put (some 47) xv0).put (some 48) xv1).put (some 49) xv2).put (some 50) xv3).put (some 51) xv4).put (some 52) xv5).put (some 53) xv6).put (some 54) xv7).put (some 55) xv8) W) :
    (Code.region 14 (rops Try.f79 14).toArray true).wp Try.prog Q a w := by
  have hmono : ∀ (W W' : World) (j : Nat) (u : Value), Ext W W' → (fun (i : Nat) (v : Value) (W : World) => match i with
    | 0 => v = .int .i64 (aa : Int)
    | 1 => v = .bool false
    | 2 => v = .bool false
    | 3 => v = .agg #[.bool su, .slice Au lu cu, .slice Bu mu ku]
    | 4 => v = .int .i64 (li)
    | 5 => NumX W v (((li : Int) : Rat)) (2)
    | 6 => v = .int .i64 (sgnQ (q - ((li : Int) : Rat)))
    | 7 => v = .bool le
    | 8 => v = .bool le
    | _ => True) j u W → (fun (i : Nat) (v : Value) (W : World) => match i with
    | 0 => v = .int .i64 (aa : Int)
    | 1 => v = .bool false
    | 2 => v = .bool false
    | 3 => v = .agg #[.bool su, .slice Au lu cu, .slice Bu mu ku]
    | 4 => v = .int .i64 (li)
    | 5 => NumX W v (((li : Int) : Rat)) (2)
    | 6 => v = .int .i64 (sgnQ (q - ((li : Int) : Rat)))
    | 7 => v = .bool le
    | 8 => v = .bool le
    | _ => True) j u W' := by
    intro W W' j u hX h
    match j, h with
    | 0, h => exact h
    | 1, h => exact h
    | 2, h => exact h
    | 3, h => exact h
    | 4, h => exact h
    | 5, h => exact NumX.ext h hX
    | 6, h => exact h
    | 7, h => exact h
    | 8, h => exact h
    | _ + 9, h => exact h
  have hsz : ∀ d, some d ∈ ([some 47, some 48, some 49, some 50, some 51, some 52, some 53, some 54, some 55] : List (Option Tmp)) → d < a.tmps.size := slots_lt (by decide) hsize
  refine wp_region_j 9 [some 47, some 48, some 49, some 50, some 51, some 52, some 53, some 54, some 55] [[], [0], [1], [2], [2], [2, 4], [2, 3, 5], [2, 6], [2, 7]] [[], [], [], [], [], [], [], [], []] (fun (i : Nat) (v : Value) (W : World) => match i with
    | 0 => v = .int .i64 (aa : Int)
    | 1 => v = .bool false
    | 2 => v = .bool false
    | 3 => v = .agg #[.bool su, .slice Au lu cu, .slice Bu mu ku]
    | 4 => v = .int .i64 (li)
    | 5 => NumX W v (((li : Int) : Rat)) (2)
    | 6 => v = .int .i64 (sgnQ (q - ((li : Int) : Rat)))
    | 7 => v = .bool le
    | 8 => v = .bool le
    | _ => True) (fun _ W => Ext w W) (by kernel_rfl) (by kernel_rfl) hsz (fun _ _ _ _ h => h) ((Ext.refl w).drew) ?_ ?_
  · clear hend
    simp only [rops, Try.f79, regOf, Option.bind_some, Nat.reduceBEq, if_true, if_false, Bool.false_eq_true, Option.getD_some]
    simp only [List.take_succ_cons, List.take_zero]
    refine ⟨?_, ?_, ?_, ?_, ?_, ?_, ?_, ?_, ?_, trivial⟩
    · intro done us W hJ hdep haft hnot b hb hb' K hK Q'
      have e13 := (hb' 13 (by simp)).trans s13
      clear hb hb'
      go_simp
      exact hK _ _ rfl (fun _ _ _ h => h) hJ
    · intro done us W hJ hdep haft hnot b hb hb' K hK Q'
      simp only [List.getD_cons_succ, List.getD_cons_zero, List.mem_cons, List.not_mem_nil, or_false, forall_eq] at hdep
      have e47 := hb 0 47 rfl
      have d0 := hdep
      rw [d0.1] at e47
      clear hb hb' hdep d0
      go_simp
      exact hK _ _ rfl (fun _ _ _ h => h) hJ
    · intro done us W hJ hdep haft hnot b hb hb' K hK Q'
      simp only [List.getD_cons_succ, List.getD_cons_zero, List.mem_cons, List.not_mem_nil, or_false, forall_eq] at hdep
      have e48 := hb 1 48 rfl
      have d1 := hdep
      rw [d1.1] at e48
      clear hb hb' hdep d1
      go_simp
      exact hK _ _ rfl (fun _ _ _ h => h) hJ
    · intro done us W hJ hdep haft hnot b hb hb' K hK Q'
      simp only [List.getD_cons_succ, List.getD_cons_zero, List.mem_cons, List.not_mem_nil, or_false, forall_eq] at hdep
      have e14 := (hb' 14 (by simp)).trans s14
      have e49 := hb 2 49 rfl
      have d2 := hdep
      rw [d2.1] at e49
      clear hb hb' hdep d2
      have z0 := Ext.cell hJ x0
      have z1 := Ext.cell hJ x1
      have z2 := Ext.cell hJ x2
      go_simp
      exact hK _ _ rfl (fun _ _ _ h => h) hJ
    · intro done us W hJ hdep haft hnot b hb hb' K hK Q'
      simp only [List.getD_cons_succ, List.getD_cons_zero, List.mem_cons, List.not_mem_nil, or_false, forall_eq] at hdep
      have e1 := (hb' 1 (by simp)).trans s1
      have e49 := hb 2 49 rfl
      have d2 := hdep
      rw [d2.1] at e49
      clear hb hb' hdep d2
      go_simp
      exact hK _ _ rfl (fun _ _ _ h => h) hJ
    · intro done us W hJ hdep haft hnot b hb hb' K hK Q'
      simp only [List.getD_cons_succ, List.getD_cons_zero, List.mem_cons, List.not_mem_nil, or_false, forall_eq_or_imp, forall_eq] at hdep
      have e49 := hb 2 49 rfl
      have e51 := hb 4 51 rfl
      have d2 := hdep.1
      have d4 := hdep.2
      rw [d2.1] at e49
      rw [d4.1] at e51
      clear hb hb' hdep d2 d4
      go_simp
      refine (intX li _ hl.1 hl.2).mono ?_
      rintro e w' ⟨v, rfl, hv, hX⟩
      exact hK _ _ hv (fun j u _ h => hmono _ _ j u hX h) (Ext.trans hJ hX)
    · intro done us W hJ hdep haft hnot b hb hb' K hK Q'
      simp only [List.getD_cons_succ, List.getD_cons_zero, List.mem_cons, List.not_mem_nil, or_false, forall_eq_or_imp, forall_eq] at hdep
      have e49 := hb 2 49 rfl
      have e50 := hb 3 50 rfl
      have e52 := hb 5 52 rfl
      have d2 := hdep.1
      have d3 := hdep.2.1
      have d5 := hdep.2.2
      rw [d2.1] at e49
      rw [d3.1] at e50
      clear hb hb' hdep d2 d3
      go_simp
      refine (cmpX (hx.ext hJ) d5.1 (by omega)).mono ?_
      rintro e w' ⟨rfl, hX⟩
      exact hK _ _ rfl (fun j u _ h => hmono _ _ j u hX h) (Ext.trans hJ hX)
    · intro done us W hJ hdep haft hnot b hb hb' K hK Q'
      simp only [List.getD_cons_succ, List.getD_cons_zero, List.mem_cons, List.not_mem_nil, or_false, forall_eq_or_imp, forall_eq] at hdep
      have e49 := hb 2 49 rfl
      have e53 := hb 6 53 rfl
      have d2 := hdep.1
      have d6 := hdep.2
      rw [d2.1] at e49
      rw [d6.1] at e53
      clear hb hb' hdep d2 d6
      go_simp
      exact hK _ _ (by first | rfl | exact congrArg Value.bool hle.out) (fun _ _ _ h => h) hJ
    · intro done us W hJ hdep haft hnot b hb hb' K hK Q'
      simp only [List.getD_cons_succ, List.getD_cons_zero, List.mem_cons, List.not_mem_nil, or_false, forall_eq_or_imp, forall_eq] at hdep
      have e49 := hb 2 49 rfl
      have e54 := hb 7 54 rfl
      have d2 := hdep.1
      have d7 := hdep.2
      rw [d2.1] at e49
      rw [d7.1] at e54
      clear hb hb' hdep d2 d7
      go_simp
      exact hK _ _ rfl (fun _ _ _ h => h) hJ
  · intro us W hV hJ
    exact hend (us 0) (us 1) (us 2) (us 3) (us 4) (us 5) (us 6) (us 7) (us 8) W (hV 0 (by omega)) (hV 1 (by omega)) (hV 2 (by omega)) (hV 3 (by omega)) (hV 4 (by omega)) (hV 5 (by omega)) (hV 6 (by omega)) (hV 7 (by omega)) (hV 8 (by omega)) hJ
set_option maxRecDepth 100000 in
set_option maxHeartbeats 2000000 in
theorem adu_r18 (gl ol nl cl aa mm kk : Nat) (zs : List Int) (w : World) (hzs : Ints .i64 w (some ⟨gl, ol, none⟩) nl zs) (han : aa < nl) (hnc : nl ≤ cl) (hn64 : nl ≤ 64) (hmm : Hid (nl - (aa + 1) = mm)) (hkk : Hid (cl - (aa + 1) = kk)) (a : Act) (Q : Exit → Act → World → Prop) (hsize : 80 ≤ a.tmps.size)
    (s8 : a.tmps[8]? = some (.slice (some ⟨gl, ol, none⟩) nl cl))
    (s13 : a.tmps[13]? = some (.int .i64 (aa : Int)))
    (hend : ∀ (xv0 xv1 xv2 xv3 xv4 xv5 xv6 xv7 xv8 : Value) (W : World), (xv0 = .slice (some ⟨gl, ol, none⟩) nl cl) → (xv1 = .int .i64 (aa : Int)) → (xv2 = .int .i64 (aa : Int)) → (xv3 = .slice (some ⟨gl, ol, none⟩) aa aa) → (xv4 = .slice (some ⟨gl, ol, none⟩) nl cl) → (xv5 = .int .i64 (aa : Int)) → (xv6 = .int .i64 ((aa : Int) + 1)) → (xv7 = .slice (cutA (some ⟨gl, ol, none⟩) cl (aa + 1) 1) mm kk) → (LeftA W xv8 w.heap.size gl (nl - 1) (zs.take aa ++ zs.drop (aa + 1))) → Ext w W → wpList Try.prog (rops Try.f79 18).toArray Q ((rops Try.f79 18).drop 9) (((((((((a.put (some 71) xv0).put (some 72) xv1).put (some 73) xv2).put (some 74) xv3).put (some 75) xv4).put (some 76) xv5).put (some 77) xv6).put (some 78) xv7).put (some 79) xv8) W) :
    (Code.region 18 (rops Try.f79 18).toArray true).wp Try.prog Q a w := by
  have hmono : ∀ (W W' : World) (j : Nat) (u : Value), Ext W W' → (fun (i : Nat) (v : Value) (W : World) => match i with
    | 0 => v = .slice (some ⟨gl, ol, none⟩) nl cl
    | 1 => v = .int .i64 (aa : Int)
    | 2 => v = .int .i64 (aa : Int)
    | 3 => v = .slice (some ⟨gl, ol, none⟩) aa aa
    | 4 => v = .slice (some ⟨gl, ol, none⟩) nl cl
    | 5 => v = .int .i64 (aa : Int)
    | 6 => v = .int .i64 ((aa : Int) + 1)
    | 7 => v = .slice (cutA (some ⟨gl, ol, none⟩) cl (aa + 1) 1) mm kk
    | 8 => LeftA W v w.heap.size gl (nl - 1) (zs.take aa ++ zs.drop (aa + 1))
    | _ => True) j u W → (fun (i : Nat) (v : Value) (W : World) => match i with
    | 0 => v = .slice (some ⟨gl, ol, none⟩) nl cl
    | 1 => v = .int .i64 (aa : Int)
    | 2 => v = .int .i64 (aa : Int)
    | 3 => v = .slice (some ⟨gl, ol, none⟩) aa aa
    | 4 => v = .slice (some ⟨gl, ol, none⟩) nl cl
    | 5 => v = .int .i64 (aa : Int)
    | 6 => v = .int .i64 ((aa : Int) + 1)
    | 7 => v = .slice (cutA (some ⟨gl, ol, none⟩) cl (aa + 1) 1) mm kk
    | 8 => LeftA W v w.heap.size gl (nl - 1) (zs.take aa ++ zs.drop (aa + 1))
    | _ => True) j u W' := by
    intro W W' j u hX h
    match j, h with
    | 0, h => exact h
    | 1, h => exact h
    | 2, h => exact h
    | 3, h => exact h
    | 4, h => exact h
    | 5, h => exact h
    | 6, h => exact h
    | 7, h => exact h
    | 8, h => exact LeftA.ext h hX
    | _ + 9, h => exact h
  have hsz : ∀ d, some d ∈ ([some 71, some 72, some 73, some 74, some 75, some 76, some 77, some 78, some 79] : List (Option Tmp)) → d < a.tmps.size := slots_lt (by decide) hsize
  refine wp_region_j 9 [some 71, some 72, some 73, some 74, some 75, some 76, some 77, some 78, some 79] [[], [], [], [0, 1, 2], [], [], [5], [4, 6], [3, 7]] [[], [], [], [], [], [], [], [], []] (fun (i : Nat) (v : Value) (W : World) => match i with
    | 0 => v = .slice (some ⟨gl, ol, none⟩) nl cl
    | 1 => v = .int .i64 (aa : Int)
    | 2 => v = .int .i64 (aa : Int)
    | 3 => v = .slice (some ⟨gl, ol, none⟩) aa aa
    | 4 => v = .slice (some ⟨gl, ol, none⟩) nl cl
    | 5 => v = .int .i64 (aa : Int)
    | 6 => v = .int .i64 ((aa : Int) + 1)
    | 7 => v = .slice (cutA (some ⟨gl, ol, none⟩) cl (aa + 1) 1) mm kk
    | 8 => LeftA W v w.heap.size gl (nl - 1) (zs.take aa ++ zs.drop (aa + 1))
    | _ => True) (fun _ W => Ext w W) (by kernel_rfl) (by kernel_rfl) hsz (fun _ _ _ _ h => h) ((Ext.refl w).drew) ?_ ?_
  · clear hend
    simp only [rops, Try.f79, regOf, Option.bind_some, Nat.reduceBEq, if_true, if_false, Bool.false_eq_true, Option.getD_some]
    simp only [List.take_succ_cons, List.take_zero]
    refine ⟨?_, ?_, ?_, ?_, ?_, ?_, ?_, ?_, ?_, trivial⟩
    · intro done us W hJ hdep haft hnot b hb hb' K hK Q'
      have e8 := (hb' 8 (by simp)).trans s8
      clear hb hb'
      go_simp
      exact hK _ _ rfl (fun _ _ _ h => h) hJ
    · intro done us W hJ hdep haft hnot b hb hb' K hK Q'
      have e13 := (hb' 13 (by simp)).trans s13
      clear hb hb'
      go_simp
      exact hK _ _ rfl (fun _ _ _ h => h) hJ
    · intro done us W hJ hdep haft hnot b hb hb' K hK Q'
      have e13 := (hb' 13 (by simp)).trans s13
      clear hb hb'
      go_simp
      exact hK _ _ rfl (fun _ _ _ h => h) hJ
    · intro done us W hJ hdep haft hnot b hb hb' K hK Q'
      simp only [List.getD_cons_succ, List.getD_cons_zero, List.mem_cons, List.not_mem_nil, or_false, forall_eq_or_imp, forall_eq] at hdep
      have e71 := hb 0 71 rfl
      have e72 := hb 1 72 rfl
      have e73 := hb 2 73 rfl
      have d0 := hdep.1
      have d1 := hdep.2.1
      have d2 := hdep.2.2
      rw [d0.1] at e71
      rw [d1.1] at e72
      rw [d2.1] at e73
      clear hb hb' hdep d0 d1 d2
      have q := run_cut3 (P := Try.prog) (w := W) elI (some ⟨gl, ol, none⟩) nl cl .i64 .i64 aa (by omega)
      go_simp
      exact hK _ _ rfl (fun _ _ _ h => h) hJ
    · intro done us W hJ hdep haft hnot b hb hb' K hK Q'
      have e8 := (hb' 8 (by simp)).trans s8
      clear hb hb'
      go_simp
      exact hK _ _ rfl (fun _ _ _ h => h) hJ
    · intro done us W hJ hdep haft hnot b hb hb' K hK Q'
      have e13 := (hb' 13 (by simp)).trans s13
      clear hb hb'
      go_simp
      exact hK _ _ rfl (fun _ _ _ h => h) hJ
    · intro done us W hJ hdep haft hnot b hb hb' K hK Q'
      simp only [List.getD_cons_succ, List.getD_cons_zero, List.mem_cons, List.not_mem_nil, or_false, forall_eq] at hdep
      have e76 := hb 5 76 rfl
      have d5 := hdep
      rw [d5.1] at e76
      clear hb hb' hdep d5
      have qw : IntKind.i64.wrap ((aa : Int) + 1) = (aa : Int) + 1 := IntWalk.i64_in _ (by omega)
      go_simp
      exact hK _ _ rfl (fun _ _ _ h => h) hJ
    · intro done us W hJ hdep haft hnot b hb hb' K hK Q'
      simp only [List.getD_cons_succ, List.getD_cons_zero, List.mem_cons, List.not_mem_nil, or_false, forall_eq_or_imp, forall_eq] at hdep
      have e75 := hb 4 75 rfl
      have e77 := hb 6 77 rfl
      have d4 := hdep.1
      have d6 := hdep.2
      rw [d4.1] at e75
      rw [d6.1] at e77
      clear hb hb' hdep d4 d6
      have q := run_cutL (P := Try.prog) (w := W) elI (some ⟨gl, ol, none⟩) nl cl .i64 (aa + 1) ((aa : Int) + 1) (by omega) (by omega)
      rw [hmm.out, hkk.out] at q
      go_simp
      exact hK _ _ rfl (fun _ _ _ h => h) hJ
    · intro done us W hJ hdep haft hnot b hb hb' K hK Q'
      simp only [List.getD_cons_succ, List.getD_cons_zero, List.mem_cons, List.not_mem_nil, or_false, forall_eq_or_imp, forall_eq] at hdep
      have e74 := hb 3 74 rfl
      have e78 := hb 7 78 rfl
      have d3 := hdep.1
      have d7 := hdep.2
      rw [d3.1] at e74
      rw [d7.1] at e78
      clear hb hb' hdep d3 d7
      have hz := hzs.ext hJ
      have hy := hz.tail (c := cl) (aa + 1) (by omega) (by omega)
      rw [hmm.out] at hy
      obtain ⟨g', o', c', w', hr, hc', hi', hX, hg, hg2⟩ := run_join (P := Try.prog) (w := W) elI 61 gl ol aa _ _ mm kk _ (hz.cut aa (by omega)) hy (by have := hmm.out; omega) (by have := hmm.out; omega)
      have hlo := Ext.size hJ
      have e9 : aa + mm = nl - 1 := by have := hmm.out; omega
      rw [e9] at hr hc' hi'
      exact jop_app rfl rfl e74 e78 hr (hK _ _ ⟨g', o', c', rfl, hc', hi', by omega, fun h => hg2 (by omega)⟩ (fun j u _ h => hmono _ _ j u hX h) (Ext.trans hJ hX))
  · intro us W hV hJ
    exact hend (us 0) (us 1) (us 2) (us 3) (us 4) (us 5) (us 6) (us 7) (us 8) W (hV 0 (by omega)) (hV 1 (by omega)) (hV 2 (by omega)) (hV 3 (by omega)) (hV 4 (by omega)) (hV 5 (by omega)) (hV 6 (by omega)) (hV 7 (by omega)) (hV 8 (by omega)) hJ
set_option maxRecDepth 100000 in
set_option maxHeartbeats 16000000 in
theorem adjust_ok (S : Nat) (A : Option Addr) (n c : Nat) (ms : List Mt) (li : Int) (w : World) (h : MsAt w A n ms) (hv : VP (S : Int) ms) (hl : 0 ≤ li ∧ li ≤ 9223372036854775807) :
    Calls Try.prog 79 #[.agg #[.int .i64 (S : Int), .slice A n c], .int .i64 li] w (fun e w' => ∃ r go rv, (∀ k, k < r → ¬ adjEnd (3 * S) ms li (adjD (3 * S) ms k)) ∧ adjEnd (3 * S) ms li (adjD (3 * S) ms r) ∧ e = .returned (.tuple #[.slice (some ⟨go, 0, none⟩) S S, rv, .int .i64 0]) ∧ ShP RatC w' go 0 S (solP (3 * S) (wout ms (adjD (3 * S) ms r))) ∧ w'.ownsRow w.heap.size 3 1 rv r ((adjD (3 * S) ms r).map (Value.int .i64)) ∧ Ext w w') := by
  have H := Lib.hid h
  have HV := Lib.hid hv
  clear h hv
  have HX := Lib.hid ((Ext.refl w).alloc (.cells #[.int .i64 (S : Int), .slice A n c] 76))
  have HP := Lib.hid (Blk.new w 76 #[.int .i64 (S : Int), .slice A n c])
  go_enter Try.func79, Try.ntmps79
  go_upto_region 1 with (fail)
  generalize w.alloc (.cells #[.int .i64 (S : Int), .slice A n c] 76) = w1 at HX HP ⊢
  have p0 := HP.out.cell 0
  have p1 := HP.out.cell 1
  simp only [List.getElem?_toArray, List.getElem?_cons_zero, List.getElem?_cons_succ] at p0 p1
  go_wp2_with fail
  refine (valid5_any (S : Int) A n c ms _ (H.out.ext HX.out)).mono ?_
  rw [vpB_iff.2 HV.out]
  rintro e w2 ⟨rfl, hX⟩
  have hS1 : 1 ≤ S := by have := HV.out.1; omega
  have hS8 : S ≤ 8 := by have := HV.out.2.1; omega
  have HML := Lib.hid H.out.1
  have hn64 : n ≤ 64 := by have := HV.out.2.2.1; have := HML.out; omega
  replace HX := Lib.hid (HX.out.trans hX)
  replace HP := Lib.hid (HP.out.ext hX)
  have q1 : decide (li < 0) = false := decide_eq_false (by omega)
  clear hX p0 p1
  have p0 := HP.out.cell 0
  have p1 := HP.out.cell 1
  simp only [List.getElem?_toArray, List.getElem?_cons_zero, List.getElem?_cons_succ] at p0 p1
  go_wp2_with fail
  clear p0 p1 q1
  go_loopg [8, 25] n (fun fu lv iv wr => ∃ j : Nat, fu = n - j ∧ j ≤ n ∧ iv = .int .i64 (j : Int) ∧ Hid (wr.ownsRow w.heap.size 3 1 lv j ((List.range j).map fun i => .int .i64 ((i : Nat) : Int))) ∧ Hid (Blk wr w.heap.size 76 #[.int .i64 (S : Int), .slice A n c]) ∧ Hid (Ext w wr))
  case atStart => exact ⟨0, rfl, by omega, rfl, Lib.hid (World.ownsRow_nil _ _ _ _), HP, HX⟩
  case round =>
    clear HP HX
    obtain ⟨j, rfl, hj, rfl, HO, HP, HX⟩ := hrel
    obtain ⟨Ao, co, rfl⟩ := own_slice HO.out
    by_cases hlt : j < n
    · have q1 : decide (j < n) = true := decide_eq_true hlt
      have hsz := HX.out.size
      go_wp2_with (at_builtin; refine wpList_app _ elI rfl _ _ rfl w.heap.size (.slice Ao j co) j _ rfl (HO.out.alloc _) _ 1 1 [.int .i64 (j : Int)] rfl rfl (At.new' _ [_] _ rfl) (by simp [Value.oneCell']) (by omega) (by unfold maxLen; omega) (by simp; omega) ?_; intro v8 w8 hown8 hgr8 _; have HG8 := Lib.hid hgr8; have HO8 := Lib.hid hown8; clear hgr8 hown8)
      go_roundg (n - (j + 1))
      case rel =>
        refine ⟨j + 1, rfl, by omega, by go_num, Lib.hid ?_, Lib.hid ((HP.out.alloc _).grown HG8.out (fun e => own_blk_ne HO.out HP.out (by decide) e.symm)), Lib.hid ((HX.out.alloc _).grown HG8.out (fun b hb => (HO.out.lt b hb).1))⟩
        rw [List.range_succ, List.map_append]
        exact HO8.out
      case measure => omega
    · obtain rfl : n = j := by omega
      have q1 : decide (n < n) = false := by simp
      have hcap := (own_cap HO.out).1
      have hIn : Ints .i64 wr Ao n ((keepI (adjD (3 * S) ms 0) n).map fun i : Nat => (i : Int)) := by
        refine Ints.of_ownI (c := co) (xs := ((keepI (adjD (3 * S) ms 0) n).map fun i : Nat => (i : Int))) (base := w.heap.size) (e := 3) ?_ ?_
        · rw [List.map_map]
          have e : keepI (adjD (3 * S) ms 0) n = List.range n := by show keepI [] n = _; unfold keepI; exact List.filter_eq_self.2 (by simp)
          rw [e]
          exact HO.out
        · intro x hx
          obtain ⟨i, hi, rfl⟩ := List.mem_map.1 hx
          have := (keepI_mem.1 hi).1
          omega
      have hAl : ∀ ad, Ao = some ad → ad.block < wr.heap.size := fun ad e => by
        subst e
        exact (HO.out.lt ad.block (by simp [Value.ownBlock])).2
      have HIN := Lib.hid hIn
      have HAL := Lib.hid hAl
      clear hIn hAl HO
      go_upto_region 11 with (fail)
      go_loopg [7, 8] (n + 1) (fun fu rv lv wz => ∃ (r nl cl : Nat) (Al : Option Addr), fu = n - r + 1 ∧ r ≤ n ∧ lv = .slice Al nl cl ∧ nl + r = n ∧ nl ≤ cl ∧ Hid (∀ k, k < r → ¬ adjEnd (3 * S) ms li (adjD (3 * S) ms k)) ∧ Hid (wz.ownsRow w.heap.size 3 1 rv r ((adjD (3 * S) ms r).map (Value.int .i64))) ∧ Hid (Ints .i64 wz Al nl ((keepI (adjD (3 * S) ms r) n).map fun i : Nat => (i : Int))) ∧ Hid (∀ ad, Al = some ad → rv.ownBlock ≠ some ad.block ∧ ad.block < wz.heap.size) ∧ Hid (Blk wz w.heap.size 76 #[.int .i64 (S : Int), .slice A n c]) ∧ Hid (Ext w wz))
      case atStart => exact ⟨0, n, co, Ao, by omega, by omega, rfl, by omega, hcap, Lib.hid (fun k hk => by omega), Lib.hid (World.ownsRow_nil _ _ _ _), HIN, Lib.hid (fun ad e => ⟨by simp [Value.ownBlock], HAL.out ad e⟩), HP, HX⟩
      case round =>
        clear HIN HAL HP HX hcap
        obtain ⟨r, nl, cl, Al, rfl, hr, rfl, hnl, hcap, HNE, HO, HIL, HAP, HP, HX⟩ := hrel
        obtain ⟨Ar, cr, rfl⟩ := own_slice HO.out
        have p0 := HP.out.cell 0
        have p1 := HP.out.cell 1
        simp only [List.getElem?_toArray, List.getElem?_cons_zero, List.getElem?_cons_succ] at p0 p1
        have HDO : Hid (DropOk n (adjD (3 * S) ms r)) := Lib.hid (by have := adjD_ok (3 * S) ms r; rw [HML.out] at this; exact this)
        have HDL : Hid ((adjD (3 * S) ms r).length = r) := Lib.hid (adjD_len HNE.out)
        have HDI : Hid (Ints .i64 wr Ar r (adjD (3 * S) ms r)) := Lib.hid (Ints.of_ownI HO.out (fun x hx => by have := HDO.out.1 x hx; omega))
        have HWL : Hid ((wout ms (adjD (3 * S) ms r)).length = nl) := Lib.hid (by have := adj_count r HNE.out; rw [wout_len]; have := HML.out; omega)
        have HKL : Hid ((keepI (adjD (3 * S) ms r) n).length = nl) := Lib.hid (by have := HWL.out; rw [wout_len, HML.out] at this; exact this)
        have HVW := Lib.hid (wout_vp HV.out (adjD (3 * S) ms r))
        go_wp2_with fail
        refine (without_ok S A n c ms Ar r cr (adjD (3 * S) ms r) _ (H.out.ext HX.out) HV.out HDL.out HDI.out (by omega) HDO.out).mono ?_
        rintro e w5 ⟨vq, rfl, hW, hX⟩
        rw [HWL.out] at hW
        obtain ⟨Aw, cw, rfl⟩ := own_slice hW
        have HMW : Hid (MsAt w5 Aw nl (wout ms (adjD (3 * S) ms r))) := Lib.hid (MsAt.of_own hW HWL.out)
        replace HX := Lib.hid (HX.out.trans hX)
        replace HP := Lib.hid (HP.out.ext hX)
        replace HO := Lib.hid (World.ownsRow.ext' HO.out hX)
        replace HIL := Lib.hid (HIL.out.ext hX)
        replace HAP : Hid (∀ ad, Al = some ad → (Value.slice Ar r cr).ownBlock ≠ some ad.block ∧ ad.block < w5.heap.size) := Lib.hid (fun ad e => ⟨(HAP.out ad e).1, Nat.lt_of_lt_of_le (HAP.out ad e).2 hX.size⟩)
        clear hW hX p0 p1 HDI
        go_upto_region 12 with (fail)
        have hXa : Ext w5 (w5.alloc (.cells #[.int .i64 (S : Int), .slice Aw nl cw] 76)) := (Ext.refl _).alloc _
        have kB := Blk.new w5 76 #[.int .i64 (S : Int), .slice Aw nl cw]
        replace HX := Lib.hid (HX.out.trans hXa)
        replace HP := Lib.hid (HP.out.ext hXa)
        replace HO := Lib.hid (World.ownsRow.ext' HO.out hXa)
        replace HIL := Lib.hid (HIL.out.ext hXa)
        replace HMW := Lib.hid (HMW.out.ext hXa)
        replace HAP : Hid (∀ ad, Al = some ad → (Value.slice Ar r cr).ownBlock ≠ some ad.block ∧ ad.block < (w5.alloc (.cells #[.int .i64 (S : Int), .slice Aw nl cw] 76)).heap.size) := Lib.hid (fun ad e => ⟨(HAP.out ad e).1, Nat.lt_of_lt_of_le (HAP.out ad e).2 hXa.size⟩)
        clear hXa
        generalize w5.heap.size = gn at kB ⊢
        generalize w5.alloc (.cells #[.int .i64 (S : Int), .slice Aw nl cw] 76) = w6 at kB HX HP HO HIL HMW HAP ⊢
        have KN := Lib.hid kB
        clear kB
        have n0 := KN.out.cell 0
        have n1 := KN.out.cell 1
        simp only [List.getElem?_toArray, List.getElem?_cons_zero, List.getElem?_cons_succ] at n0 n1
        go_wp2_with fail
        refine (solve_ok S Aw nl cw (wout ms (adjD (3 * S) ms r)) _ HMW.out HVW.out).mono ?_
        rintro e w7 ⟨gs, rfl, _, hS, hX⟩
        replace HX := Lib.hid (HX.out.trans hX)
        replace HP := Lib.hid (HP.out.ext hX)
        replace HO := Lib.hid (World.ownsRow.ext' HO.out hX)
        replace HIL := Lib.hid (HIL.out.ext hX)
        replace HMW := Lib.hid (HMW.out.ext hX)
        replace KN := Lib.hid (KN.out.ext hX)
        replace HAP : Hid (∀ ad, Al = some ad → (Value.slice Ar r cr).ownBlock ≠ some ad.block ∧ ad.block < w7.heap.size) := Lib.hid (fun ad e => ⟨(HAP.out ad e).1, Nat.lt_of_lt_of_le (HAP.out ad e).2 hX.size⟩)
        have HSS := Lib.hid hS
        clear hX n0 n1 hS
        have n0 := KN.out.cell 0
        have n1 := KN.out.cell 1
        simp only [List.getElem?_toArray, List.getElem?_cons_zero, List.getElem?_cons_succ] at n0 n1
        go_wp2_with fail
        refine (worst_any S Aw nl cw (wout ms (adjD (3 * S) ms r)) gs 0 S (solP (3 * S) (wout ms (adjD (3 * S) ms r))) _ HMW.out HVW.out.2.2.2 (by omega) hS1 (HSS.out.imp (fun v q h => h.mono (by omega)))).mono ?_
        rw [show worstP (3 * S) (solP (3 * S) (wout ms (adjD (3 * S) ms r))) (wout ms (adjD (3 * S) ms r)) = adjW (3 * S) ms (adjD (3 * S) ms r) from rfl]
        obtain ⟨oa, hoa⟩ : ∃ oa, (adjW (3 * S) ms (adjD (3 * S) ms r)).1 = oa := ⟨_, rfl⟩
        rw [hoa]
        have HOA := Lib.hid hoa
        clear hoa
        rintro e w8 ⟨v8, rfl, hv, hX⟩
        obtain ⟨s1, A1, l1, c1, B1, m1, k1, rfl⟩ := NumX.open hv
        replace HX := Lib.hid (HX.out.trans hX)
        replace HP := Lib.hid (HP.out.ext hX)
        replace HO := Lib.hid (World.ownsRow.ext' HO.out hX)
        replace HIL := Lib.hid (HIL.out.ext hX)
        replace HSS := Lib.hid (HSS.out.ext (growsNum 53) hX)
        replace HAP : Hid (∀ ad, Al = some ad → (Value.slice Ar r cr).ownBlock ≠ some ad.block ∧ ad.block < w8.heap.size) := Lib.hid (fun ad e => ⟨(HAP.out ad e).1, Nat.lt_of_lt_of_le (HAP.out ad e).2 hX.size⟩)
        have HWV := Lib.hid hv
        clear hX n0 n1 hv KN HMW
        go_upto_region 14 with (fail)
        have hXa : Ext w8 (w8.alloc (.cells #[.bool s1, .slice A1 l1 c1, .slice B1 m1 k1] 217)) := (Ext.refl _).alloc _
        have kB := Blk.new w8 217 #[.bool s1, .slice A1 l1 c1, .slice B1 m1 k1]
        replace HX := Lib.hid (HX.out.trans hXa)
        replace HP := Lib.hid (HP.out.ext hXa)
        replace HO := Lib.hid (World.ownsRow.ext' HO.out hXa)
        replace HIL := Lib.hid (HIL.out.ext hXa)
        replace HSS := Lib.hid (HSS.out.ext (growsNum 53) hXa)
        replace HWV := Lib.hid (HWV.out.ext hXa)
        replace HAP : Hid (∀ ad, Al = some ad → (Value.slice Ar r cr).ownBlock ≠ some ad.block ∧ ad.block < (w8.alloc (.cells #[.bool s1, .slice A1 l1 c1, .slice B1 m1 k1] 217)).heap.size) := Lib.hid (fun ad e => ⟨(HAP.out ad e).1, Nat.lt_of_lt_of_le (HAP.out ad e).2 hXa.size⟩)
        clear hXa
        generalize w8.heap.size = gw at kB ⊢
        generalize w8.alloc (.cells #[.bool s1, .slice A1 l1 c1, .slice B1 m1 k1] 217) = w9 at kB HX HP HO HIL HSS HWV HAP ⊢
        have KW := Lib.hid kB
        clear kB
        by_cases hno : oa = none
        · subst hno
          have HEN : Hid (adjEnd (3 * S) ms li (adjD (3 * S) ms r)) := Lib.hid (.inl HOA.out)
          rw [show atI none = (-1 : Int) from rfl]
          refine adu_r14a gw li w9 _ _ (by simp) rfl rfl rfl ?_
          rintro xv0 xv1 xv2 xv3 xv4 xv5 xv6 xv7 xv8 W rfl rfl rfl rfl rfl rfl rfl rfl rfl hX
          simp only [rops, Try.f79, regOf, Option.bind_some, Nat.reduceBEq, if_true, if_false, Bool.false_eq_true, Option.getD_some, List.drop_succ_cons, List.drop_zero]
          simp only [Act.put, List.setIfInBounds_toArray, List.set_cons_succ, List.set_cons_zero]
          replace HX := Lib.hid (HX.out.trans hX)
          replace HP := Lib.hid (HP.out.ext hX)
          replace HO := Lib.hid (World.ownsRow.ext' HO.out hX)
          replace HIL := Lib.hid (HIL.out.ext hX)
          replace HSS := Lib.hid (HSS.out.ext (growsNum 53) hX)
          replace HAP : Hid (∀ ad, Al = some ad → (Value.slice Ar r cr).ownBlock ≠ some ad.block ∧ ad.block < W.heap.size) := Lib.hid (fun ad e => ⟨(HAP.out ad e).1, Nat.lt_of_lt_of_le (HAP.out ad e).2 hX.size⟩)
          clear hX HWV KW
          have HFT : Hid (∀ j, j < 3 * S → FitQW (solP (3 * S) (wout ms (adjD (3 * S) ms r)) j)) := Lib.hid (fun j _ => FitQW.of4 (solP_fit HVW.out.2.2.2 HVW.out.2.2.1 (by omega) j) (by omega))
          go_wp2_with fail
          refine (done_S 53 gs 0 S S _ _ HSS.out (by omega) HFT.out (by omega)).mono ?_
          rintro e w12 ⟨gd, rfl, _, hD, hX⟩
          replace HX := Lib.hid (HX.out.trans hX)
          replace HO := Lib.hid (World.ownsRow.ext' HO.out hX)
          have HDD := Lib.hid hD
          clear hX hD
          go_wp2
          go_ret3
          exact ⟨r, gd, _, HNE.out, HEN.out, rfl, HDD.out, HO.out, HX.out⟩
        · obtain ⟨aa, rfl⟩ : ∃ aa, oa = some aa := by
            cases oa with
            | none => exact absurd rfl hno
            | some aa => exact ⟨aa, rfl⟩
          clear hno
          rw [show atI (some aa) = (aa : Int) from rfl]
          have h0 : decide ((aa : Int) < 0) = false := decide_eq_false (by omega)
          obtain ⟨le, hle⟩ : ∃ le, decide (sgnQ ((adjW (3 * S) ms (adjD (3 * S) ms r)).2 - ((li : Int) : Rat)) ≤ 0) = le := ⟨_, rfl⟩
          have HLE := Lib.hid hle
          clear hle
          refine adu_r14b gw aa li le _ s1 A1 B1 l1 c1 m1 k1 w9 (KW.out.cell 0) (KW.out.cell 1) (KW.out.cell 2) HWV.out h0 (by omega) HLE _ _ (by simp) rfl rfl rfl ?_
          rintro xv0 xv1 xv2 xv3 xv4 xv5 xv6 xv7 xv8 W rfl rfl rfl rfl rfl _ _ _ rfl hX
          simp only [rops, Try.f79, regOf, Option.bind_some, Nat.reduceBEq, if_true, if_false, Bool.false_eq_true, Option.getD_some, List.drop_succ_cons, List.drop_zero]
          simp only [Act.put, List.setIfInBounds_toArray, List.set_cons_succ, List.set_cons_zero]
          clear h0
          replace HX := Lib.hid (HX.out.trans hX)
          replace HP := Lib.hid (HP.out.ext hX)
          replace HO := Lib.hid (World.ownsRow.ext' HO.out hX)
          replace HIL := Lib.hid (HIL.out.ext hX)
          replace HSS := Lib.hid (HSS.out.ext (growsNum 53) hX)
          replace HAP : Hid (∀ ad, Al = some ad → (Value.slice Ar r cr).ownBlock ≠ some ad.block ∧ ad.block < W.heap.size) := Lib.hid (fun ad e => ⟨(HAP.out ad e).1, Nat.lt_of_lt_of_le (HAP.out ad e).2 hX.size⟩)
          clear hX HWV KW
          by_cases hl2 : le = true
          · subst hl2
            have HEN : Hid (adjEnd (3 * S) ms li (adjD (3 * S) ms r)) := Lib.hid (.inr (sgn_le.1 (of_decide_eq_true HLE.out)))
            have HFT : Hid (∀ j, j < 3 * S → FitQW (solP (3 * S) (wout ms (adjD (3 * S) ms r)) j)) := Lib.hid (fun j _ => FitQW.of4 (solP_fit HVW.out.2.2.2 HVW.out.2.2.1 (by omega) j) (by omega))
            go_wp2_with fail
            refine (done_S 53 gs 0 S S _ _ HSS.out (by omega) HFT.out (by omega)).mono ?_
            rintro e w12 ⟨gd, rfl, _, hD, hX⟩
            replace HX := Lib.hid (HX.out.trans hX)
            replace HO := Lib.hid (World.ownsRow.ext' HO.out hX)
            have HDD := Lib.hid hD
            clear hX hD
            go_wp2
            go_ret3
            exact ⟨r, gd, _, HNE.out, HEN.out, rfl, HDD.out, HO.out, HX.out⟩
          · obtain rfl : le = false := by simpa using hl2
            clear hl2
            have HNX : Hid (∀ k, k < r + 1 → ¬ adjEnd (3 * S) ms li (adjD (3 * S) ms k)) := Lib.hid (fun k hk => by
              by_cases e : k = r
              · subst e
                rintro (h | h)
                · rw [HOA.out] at h; cases h
                · exact absurd (sgn_le.2 h) (of_decide_eq_false HLE.out)
              · exact HNE.out k (by omega))
            obtain ⟨hak, hnx, hke⟩ := adj_left HOA.out
            simp only [HML.out] at hak hnx hke
            have hanl : aa < nl := by have := HKL.out; omega
            obtain ⟨zz, hzz⟩ : ∃ zz : Nat, (keepI (adjD (3 * S) ms r) n)[aa] = zz := ⟨_, rfl⟩
            rw [hzz] at hnx
            have hD1 : (adjD (3 * S) ms (r + 1)) = (adjD (3 * S) ms r) ++ [((zz : Nat) : Int)] := hnx
            have HD1 := Lib.hid hD1
            have HK1 : Hid (keepI (adjD (3 * S) ms (r + 1)) n = (keepI (adjD (3 * S) ms r) n).eraseIdx aa) := Lib.hid hke
            have HER := Lib.hid (erase_join hak)
            obtain ⟨gl, ol, x, hAl, hx, _, x0⟩ := HIL.out.get hanl
            obtain rfl : x = (zz : Int) := by
              rw [List.getElem?_map, List.getElem?_eq_getElem hak, hzz] at hx
              injection hx with hx
              exact hx.symm
            subst hAl
            have hz64 : zz < n := by rw [← hzz]; exact (keepI_mem.1 (List.getElem_mem hak)).1
            have hsz := HX.out.size
            clear hx hnx hD1 hke hak hzz
            obtain ⟨hap1, hap2⟩ := HAP.out _ rfl
            simp only at hap1 hap2
            have HAP1 := Lib.hid hap1
            clear hap1
            go_upto_region 18 with (at_builtin; refine wpList_app _ elI rfl _ _ rfl w.heap.size (.slice Ar r cr) r _ rfl (HO.out.alloc _) _ 1 1 [.int .i64 ((zz : Nat) : Int)] rfl rfl (At.new' _ [_] _ rfl) (by simp [Value.oneCell']) (by omega) (by unfold maxLen; omega) (by simp; omega) ?_; intro v8 w8 hown8 hgr8 hbl8; have HG8 := Lib.hid hgr8; have HO8 := Lib.hid hown8; have HB8 := Lib.hid hbl8; clear hgr8 hown8 hbl8)
            clear x0
            have hkp := keeps_own HG8.out
            have HIL8 := Lib.hid ((HIL.out.ext ((Ext.refl W).alloc (.cells #[.int .i64 ((zz : Nat) : Int)] 3))).keepsA hkp (fun ad e => by injection e with e; subst e; simp only [Option.mem_toList]; exact HAP1.out))
            have HX8 := Lib.hid ((HX.out.alloc (.cells #[.int .i64 ((zz : Nat) : Int)] 3)).grown HG8.out (fun b hb => (HO.out.lt b hb).1))
            have HP8 := Lib.hid ((HP.out.alloc (.cells #[.int .i64 ((zz : Nat) : Int)] 3)).grown HG8.out (fun e => own_blk_ne HO.out HP.out (by decide) e.symm))
            have hs8 : W.heap.size + 1 ≤ w8.heap.size := by have := hkp.size; simpa using this
            have HV8 : Hid (v8.ownBlock ≠ some gl) := Lib.hid (fun e => by
              rcases HB8.out with h | h
              · rw [h] at e; exact HAP1.out e
              · rw [h] at e; injection e with e; simp at e; omega)
            obtain ⟨A8, c8, rfl⟩ := own_slice HO8.out
            have HLO8 : Hid (∀ g, (Value.slice A8 (r + 1) c8).ownBlock = some g → g < w8.heap.size) := Lib.hid (fun g hg => (HO8.out.lt g hg).2)
            clear hkp HO HIL HX HP HG8 HB8
            obtain ⟨mm, hmm⟩ : ∃ mm, nl - (aa + 1) = mm := ⟨_, rfl⟩
            obtain ⟨kk, hkk⟩ : ∃ kk, cl - (aa + 1) = kk := ⟨_, rfl⟩
            have HMM := Lib.hid hmm
            have HKK := Lib.hid hkk
            clear hmm hkk
            refine adu_r18 gl ol nl cl aa mm kk _ w8 HIL8.out hanl hcap (by omega) HMM HKK _ _ (by simp) rfl rfl ?_
            rintro xv0 xv1 xv2 xv3 xv4 xv5 xv6 xv7 xv8 W2 rfl rfl rfl rfl rfl rfl rfl rfl ⟨g9, o9, c9, rfl, hc9, hI9, hg9, hz9⟩ hX
            simp only [rops, Try.f79, regOf, Option.bind_some, Nat.reduceBEq, if_true, if_false, Bool.false_eq_true, Option.getD_some, List.drop_succ_cons, List.drop_zero]
            simp only [Act.put, List.setIfInBounds_toArray, List.set_cons_succ, List.set_cons_zero]
            have HI9 := Lib.hid hI9
            have hsz8 := hX.size
            have hlt9 := hz9 (by omega)
            replace HX8 := Lib.hid (HX8.out.trans hX)
            replace HP8 := Lib.hid (HP8.out.ext hX)
            replace HO8 := Lib.hid (World.ownsRow.ext' HO8.out hX)
            clear hX hI9
            go_wp2
            go_roundg (n - (r + 1) + 1)
            case rel =>
              refine ⟨r + 1, nl - 1, c9, _, by omega, by omega, rfl, by omega, hc9, HNX, Lib.hid ?_, Lib.hid ?_, Lib.hid (fun ad e => ?_), HP8, HX8⟩
              · rw [HD1.out, List.map_append]
                exact HO8.out
              · rw [HK1.out, ← HER.out]
                exact HI9.out
              · injection e with e
                subst e
                refine ⟨fun e => ?_, ?_⟩
                · simp only at e
                  rcases hg9 with rfl | h
                  · exact HV8.out e
                  · have := HLO8.out _ e; omega
                · exact hlt9
            case measure => omega
        

end Go.Proofs.Ytikhlcgnlbinfaa
