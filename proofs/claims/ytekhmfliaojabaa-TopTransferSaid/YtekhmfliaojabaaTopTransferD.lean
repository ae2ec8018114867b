/- Lemmas of the proof that follows (TopTransfer, part 4): walks of functions by contract, and plain lemmas. Conditions: none. -/
import Derived.Test.YtekhmfliaojabaaTopTransferC
namespace Go.Proofs.Ytekhmfliaojabaa
open Go.RowKit

set_option maxHeartbeats 400000 in
theorem unpack_none (A : Option Addr) (c : Nat) (w : World) : Calls Try.prog 31 #[.slice A 0 c] w (RetF w (unp [])) := by
  go_enter Try.func31, Try.ntmps31
  go_wp2
  refine bodyPost_ret (v := .tuple #[.agg #[.int .i64 0, .int .i64 0, .slice none 0 0], .int .i64 0, .int .i64 21]) (by simp [results, Try.results31, go_sem]) rfl ?_
  exact RetF.bad (unp_none rfl) rfl ((Ext.refl w).alloc _)

set_option maxHeartbeats 400000 in
theorem unpack_mark (b off n c : Nat) (xs : List Int) (x : Int) (w : World) (H : Hid (Ints .u8 w (some ⟨b, off, none⟩) n xs)) (hn : 0 < n) (hx : Hid (xs.getD 0 0 = x)) (hne : (x != 165) = true) (hc0 : w.cell? ⟨b, off, none⟩ = some (.int .u8 x)) :
    Calls Try.prog 31 #[.slice (some ⟨b, off, none⟩) n c] w (RetF w (unp xs)) := by
  have hb := World.block_lt_of_cell? w _ hc0
  have h0 : ((n : Int) == 0) = false := by simp; omega
  have e0 : (0 : Int) < (n : Int) := by omega
  simp only at hb
  go_enter Try.func31, Try.ntmps31
  go_wp2
  refine bodyPost_ret (v := .tuple #[.agg #[.int .i64 0, .int .i64 0, .slice none 0 0], .int .i64 0, .int .i64 22]) (by simp [results, Try.results31, go_sem]) rfl ?_
  exact RetF.bad (unp_mark (by rw [H.out.1]; omega) (by rw [hx.out]; simpa using hne)) rfl ((Ext.refl w).alloc _)

set_option maxHeartbeats 400000 in
theorem unpack_short (b off n c : Nat) (xs : List Int) (w : World) (H : Hid (Ints .u8 w (some ⟨b, off, none⟩) n xs)) (hn : 0 < n) (hn8 : n < 8) (hx : Hid (xs.getD 0 0 = 165)) (hc0 : w.cell? ⟨b, off, none⟩ = some (.int .u8 165)) :
    Calls Try.prog 31 #[.slice (some ⟨b, off, none⟩) n c] w (RetF w (unp xs)) := by
  have hb := World.block_lt_of_cell? w _ hc0
  have h0 : ((n : Int) == 0) = false := by simp; omega
  have e0 : (0 : Int) < (n : Int) := by omega
  simp only at hb
  go_enter Try.func31, Try.ntmps31
  go_wp2
  refine bodyPost_ret (v := .tuple #[.agg #[.int .i64 0, .int .i64 0, .slice none 0 0], .int .i64 0, .int .i64 21]) (by simp [results, Try.results31, go_sem]) rfl ?_
  exact RetF.bad (unp_short (by rw [H.out.1]; omega) hx.out (by rw [H.out.1]; omega)) rfl ((Ext.refl w).alloc _)

set_option maxRecDepth 100000 in
set_option maxHeartbeats 2000000 in
theorem unpack_big (b off n c s : Nat) (xs : List Int) (x1 x6 x7 : Int) (w : World) (H : Hid (Ints .u8 w (some ⟨b, off, none⟩) n xs)) (hnc : n ≤ c) (hcm : c ≤ 9223372036854775807) (hn : 8 ≤ n) (hx : Hid (xs.getD 0 0 = 165)) (h1x : Hid (xs.getD 1 0 = x1)) (hb1 : 0 ≤ x1 ∧ x1 ≤ 255) (hs : Hid (szN xs = s)) (hor : bits .or .i64 (x6 * 256) x7 = (s : Int)) (hb6 : 0 ≤ x6 ∧ x6 ≤ 255) (hb7 : 0 ≤ x7 ∧ x7 ≤ 255)
    (hc0 : w.cell? ⟨b, off, none⟩ = some (.int .u8 165)) (hc1 : w.cell? ⟨b, off + 1, none⟩ = some (.int .u8 x1)) (hc6 : w.cell? ⟨b, off + 6, none⟩ = some (.int .u8 x6)) (hc7 : w.cell? ⟨b, off + 7, none⟩ = some (.int .u8 x7)) :
    Calls Try.prog 31 #[.slice (some ⟨b, off, none⟩) n c] w (RetF w (unp xs)) := by
  have hb := World.block_lt_of_cell? w _ hc0
  have h0 : ((n : Int) == 0) = false := by simp; omega
  have e0 : (0 : Int) < (n : Int) := by omega
  have e1 : (1 : Int) < (n : Int) := by omega
  have e6 : (6 : Int) < (n : Int) := by omega
  have e7 : (7 : Int) < (n : Int) := by omega
  obtain ⟨ha6, hb6⟩ := hb6
  obtain ⟨ha7, hb7⟩ := hb7
  simp only at hb
  go_enter Try.func31, Try.ntmps31
  go_wp2
  go_quiet (fail)
  have hX1 : Ext w ((w.alloc (.cells #[.int .i64 0, .int .i64 0, .slice none 0 0] 38)).drewN nq) := ((Ext.refl w).alloc _).drewN _
  have hB1 : Blk ((w.alloc (.cells #[.int .i64 0, .int .i64 0, .slice none 0 0] 38)).drewN nq) w.heap.size 38 #[.int .i64 0, .int .i64 0, .slice none 0 0] := (Blk.new w _ _).drewN _
  generalize (w.alloc (.cells #[.int .i64 0, .int .i64 0, .slice none 0 0] 38)).drewN nq = w1 at hX1 hB1 ⊢
  obtain ⟨r0, r1, r2, f0, f1, f2⟩ := hB1.three
  replace hc1 := hX1.cell hc1
  clear hc0 hc6 hc7
  have HX1 := Lib.hid hX1
  have HB1 := Lib.hid hB1
  clear hX1 hB1
  by_cases h3 : 1024 < s
  · go_wp2
    refine bodyPost_ret (v := .tuple #[.agg #[.int .i64 0, .int .i64 0, .slice none 0 0], .int .i64 0, .int .i64 23]) (by simp [results, Try.results31, go_sem, *]) rfl ?_
    exact RetF.bad (unp_long hx.out (by rw [H.out.1]; omega) (by rw [hs.out]; omega)) rfl (((HX1.out.setCell (Nat.le_refl _) _).setCell (Nat.le_refl _) _).setCell (Nat.le_refl _) _)
  by_cases h4 : n < 12 + s
  · have h4' : (n : Int) < 8 + (s : Int) + 4 := by omega
    go_wp2
    refine bodyPost_ret (v := .tuple #[.agg #[.int .i64 0, .int .i64 0, .slice none 0 0], .int .i64 0, .int .i64 21]) (by simp [results, Try.results31, go_sem, *]) rfl ?_
    exact RetF.bad (unp_cut hx.out (by rw [H.out.1]; omega) (by rw [hs.out]; omega) (by rw [hs.out, H.out.1]; omega)) rfl (((HX1.out.setCell (Nat.le_refl _) _).setCell (Nat.le_refl _) _).setCell (Nat.le_refl _) _)
  have hI := H.out.ext HX1.out
  have hIt : Ints .u8 w1 (some ⟨b, off, none⟩) (8 + s) (xs.take (8 + s)) := hI.take (by omega)
  have hId : Ints .u8 w1 (some ⟨b, off + (8 + s), none⟩) (n - (8 + s)) (xs.drop (8 + s)) := hI.drop (8 + s) (fun _ b' off' e => by injection e with e; injection e with e1 e2; subst e1 e2; rfl)
  have HIt := Lib.hid hIt
  have HId := Lib.hid hId
  clear hI hIt hId
  have hne : ¬ c = 8 + s := by omega
  have hl1 : (8 : Int) + (s : Int) ≤ (n : Int) := by omega
  have hl2 : (8 : Int) + (s : Int) ≤ (c : Int) := by omega
  go_wp2
  have e8 : (0 : Int) ≤ 8 + (s : Int) := by omega
  have e9 : ((8 : Int) + (s : Int)).toNat = 8 + s := by omega
  obtain ⟨q1, hq1⟩ : ∃ q, bigN ((xs.drop (8 + s)).take 4) = q := ⟨_, rfl⟩
  obtain ⟨q2, hq2⟩ : ∃ q, crc (xs.take (8 + s)) = q := ⟨_, rfl⟩
  have H1 : Hid (∀ m, Calls Try.prog 72 #[.slice (some ⟨b, off + (8 + s), none⟩) (n - (8 + s)) (c - (8 + s))] (w1.drewN m) fun e w' => e = .returned (.int .u32 q1) ∧ ∃ k, w' = (w1.drewN m).drewN k) := fun m => by
    rw [← hq1]; exact number32_any _ _ _ _ _ (HId.out.ext ((Ext.refl w1).drewN m)) (by omega)
  have H2 : Hid (∀ m, Calls Try.prog 51 #[.slice (some ⟨b, off, none⟩) (8 + s) c] (w1.drewN m) fun e w' => e = .returned (.int .u32 q2) ∧ w1.drewN m = w') := fun m => by
    rw [← hq2]; exact checksum_any _ _ _ _ _ (HIt.out.ext ((Ext.refl w1).drewN m)) (by omega)
  have HQ1 := Lib.hid hq1
  have HQ2 := Lib.hid hq2
  clear hq1 hq2
  go_quiet ((first | (go_at_call 72; exact Calls.quiet_of (H1.out _)) | (go_at_call 51; exact quiet_left (H2.out _))))
  have hX2 : Ext w (w1.drewN nq) := HX1.out.drewN _
  have hB2 : Blk (w1.drewN nq) w.heap.size 38 #[.int .i64 0, .int .i64 0, .slice none 0 0] := HB1.out.drewN _
  replace hc1 : (w1.drewN nq).cell? ⟨b, off + 1, none⟩ = some (.int .u8 x1) := hc1
  have hId2 : Ints .u8 (w1.drewN nq) (some ⟨b, off + 2, none⟩) (n - 2) (xs.drop 2) := (H.out.ext hX2).drop 2 (fun _ b' off' e => by injection e with e; injection e with e1 e2; subst e1 e2; rfl)
  have hIb : Ints .u8 (w1.drewN nq) (some ⟨b, off, none⟩) n xs := H.out.ext hX2
  generalize w1.drewN nq = w2 at hX2 hB2 hc1 hId2 hIb ⊢
  have HId2 := Lib.hid hId2
  have HIb := Lib.hid hIb
  clear r0 r1 r2 f0 f1 f2 HIt HId H1 H2 HB1 HX1 hId2 hIb
  obtain ⟨r0, r1, r2, f0, f1, f2⟩ := hB2.three
  have HX2 := Lib.hid hX2
  have HB2 := Lib.hid hB2
  clear hX2 hB2
  by_cases hq : q1 = q2
  · subst hq
    go_wp2
    have hc2 : ¬ c = 2 := by omega
    have e2 : (2 : Int) ≤ (n : Int) := by omega
    obtain ⟨q3, hq3⟩ : ∃ q, bigN ((xs.drop 2).take 4) = q := ⟨_, rfl⟩
    have hq3r : 0 ≤ q3 ∧ q3 ≤ 4294967295 := by
      have h1 := bigN_range (xs := (xs.drop 2).take 4) (fun x hx => u8_bounds (H.out.2.1 x (List.mem_of_mem_drop (List.mem_of_mem_take hx))))
      have h2 : ((xs.drop 2).take 4).length = 4 := by rw [List.length_take, List.length_drop, H.out.1]; omega
      rw [h2, hq3] at h1
      have : (256 : Int) ^ 4 = 4294967296 := by decide
      omega
    have H1 : Hid (∀ W, Ext w2 W → Calls Try.prog 72 #[.slice (some ⟨b, off + 2, none⟩) (n - 2) (c - 2)] W fun e w' => e = .returned (.int .u32 q3) ∧ Ext w2 w' ∧ Ext W w') := fun W hW => by
      rw [← hq3]; exact (number32_any _ _ _ _ _ (HId2.out.ext hW) (by omega)).mono fun e w' ⟨he, k, hk⟩ => ⟨he, by rw [hk]; exact hW.drewN _, by rw [hk]; exact (Ext.refl _).drewN _⟩
    have HQ3 := Lib.hid hq3
    clear hq3
    obtain ⟨hq30, hq31⟩ := hq3r
    obtain ⟨hb10, hb11⟩ := hb1
    have hblt := World.block_lt_of_cell? w2 _ hc1
    simp only at hblt
    have hw1 : IntKind.i64.wrap x1 = x1 := IntWalk.i64_in _ (by omega)
    have hw3 : IntKind.i64.wrap q3 = q3 := IntWalk.i64_in _ (by omega)
    go_upto_region 15 with (fail)
    go_cut [7] (fun s7 wx => ∃ g : Nat, s7 = .pointer (some ⟨g, 0, none⟩) ∧ w2.heap.size ≤ g ∧ Blk wx g 38 #[.int .i64 x1, .int .i64 q3, .slice none 0 0] ∧ Ext w2 wx)
    case first =>
      go_region_held3 (fun w' => w'.cell? ⟨b, off + 1, none⟩ = some (.int .u8 x1)) (first | go_keep | exact Ext.cell (by repeat (first | exact Ext.refl _ | assumption | refine Ext.drew ?_ | refine Ext.drewN ?_ _ | refine Ext.alloc ?_ _ | refine Ext.setCell ?_ (Nat.le_refl _) _)) hc1) (first | (go_at_call 72; refine (H1.out _ (by repeat (first | exact Ext.refl _ | refine Ext.drew ?_ | refine Ext.drewN ?_ _ | refine Ext.alloc ?_ _))).mono ?_; rintro e w' ⟨rfl, hE', hE2⟩; (first | (have hbn := Blk.ext (Blk.drew (Blk.new w2 38 #[.int .i64 0, .int .i64 0, .slice none 0 0])) hE2; obtain ⟨t0, t1, t2, t3, t4, t5⟩ := hbn.three; have HBn := Lib.hid hbn; clear hE2 hbn) | clear hE2)))
      · go_wp2_with fail
        go_meet
        exact ⟨w'.heap.size, rfl, hE'.size, Blk.new _ _ _, hE'.alloc _⟩
      · go_wp2_with fail
        go_meet
        exact ⟨w2.heap.size, rfl, Nat.le_refl _, ((HBn.out.set 0 _).set 1 _).set 2 _, ((hE'.setCell (Nat.le_refl _) _).setCell (Nat.le_refl _) _).setCell (Nat.le_refl _) _⟩
    case rest =>
      obtain ⟨g, rfl, hgl, hBg, hXc⟩ := hcut
      have HBg := Lib.hid hBg
      have HB3 := Lib.hid (HB2.out.ext hXc)
      have HX3 := Lib.hid (HX2.out.trans hXc)
      have HIc := Lib.hid (HIb.out.ext hXc)
      have hgne : w.heap.size ≠ g := Nat.ne_of_lt (Nat.lt_of_lt_of_le HB2.out.lt hgl)
      have hbw : b < wc.heap.size := Nat.lt_of_lt_of_le hblt hXc.size
      clear H1 hc1 hXc hBg hblt
      obtain ⟨body, hbody⟩ : ∃ l, (xs.take (8 + s)).drop 8 = l := ⟨_, rfl⟩
      have hI8 : Ints .u8 wc (some ⟨b, off + 8, none⟩) s body := by
        have h8 := (HIc.out.take (m := 8 + s) (by omega)).drop 8 (A' := some ⟨b, off + 8, none⟩) (fun _ b' off' e => by injection e with e; injection e with e1 e2; subst e1 e2; rfl)
        rw [hbody] at h8
        have e : 8 + s - 8 = s := by omega
        rw [e] at h8
        exact h8
      have HI8 := Lib.hid hI8
      have HBO := Lib.hid hbody
      clear hI8 hbody
      have hc8 : ¬ c = 8 := by omega
      go_wp2_with (at_builtin; refine wpList_app _ elB rfl _ _ rfl wc.heap.size (.slice (some ⟨wc.heap.size, 0, none⟩) 0 0) 0 [] rfl (World.ownsRow_lit wc #[] 0 (Nat.le_refl _) (by unfold maxLen; omega) rfl) (some ⟨b, off + 8, none⟩) s (c - 8) (body.map (.int .u8)) rfl (by rw [List.length_map, HI8.out.1]; omega) (HI8.out.ext ((Ext.refl wc).alloc _)).2.2 (ints_oneCell _ _) (by omega) (by unfold maxLen; omega) (by simp) ?_; intro v6 w6 hown6 hgr6 hdj; clear hdj; have hX6 : Ext wc w6 := ((Ext.refl wc).alloc _).grown hgr6 (fun k hk => by simp [Value.ownBlock] at hk; omega); have HO6 := Lib.hid hown6; have HX6 := Lib.hid hX6; clear hown6 hgr6 hX6; obtain ⟨r0, r1, r2, f0, f1, f2⟩ := (HB3.out.ext HX6.out).three; obtain ⟨s0, s1, s2, t0, t1, t2⟩ := (HBg.out.ext HX6.out).three; obtain ⟨A6, c6, hv6⟩ := own_slice HO6.out; rw [hv6]; rw [hv6] at HO6; clear hv6)
      refine bodyPost_ret (v := .tuple #[.agg #[.int .i64 x1, .int .i64 q3, .slice A6 (0 + s) c6], .int .i64 (8 + (s : Int) + 4), .int .i64 0]) (by simp [results, Try.results31, go_sem, *]) rfl ?_
      rw [unp_ok hx.out (by rw [hs.out]; omega) (by rw [hs.out, H.out.1]; omega) (by rw [hs.out, HQ1.out, HQ2.out])]
      have hgc : g < wc.heap.size := HBg.out.lt
      have hwc : w.heap.size < wc.heap.size := HB3.out.lt
      have hg2 : w.heap.size ≤ g := Nat.le_trans HX2.out.size hgl
      refine ⟨A6, 0 + s, c6, ?_, ⟨?_, ?_, ?_⟩, ?_⟩
      · simp only [h1x.out, HQ3.out, hs.out]
        rw [show (12 : Int) + (s : Int) = 8 + (s : Int) + 4 by omega]
      · simp only [hs.out, HBO.out]
        have := HO6.out
        simp only [List.nil_append] at this
        exact World.ownsRow.mono' (ownsRow_setCell_below (ownsRow_setCell_below (ownsRow_setCell_below (ownsRow_setCell_below this hgc _) hwc _) hwc _) hwc _) (Nat.le_of_lt hwc)
      · simp only [hs.out, HBO.out]
        rw [HI8.out.1]; omega
      · simp only [hs.out, HBO.out]
        exact HI8.out.2.1
      · exact ((((HX3.out.trans HX6.out).setCell hg2 _).setCell (Nat.le_refl _) _).setCell (Nat.le_refl _) _).setCell (Nat.le_refl _) _
  · have hqb : (q1 != q2) = true := by simpa using hq
    go_wp2
    refine bodyPost_ret (v := .tuple #[.agg #[.int .i64 0, .int .i64 0, .slice none 0 0], .int .i64 0, .int .i64 24]) (by simp [results, Try.results31, go_sem, *]) rfl ?_
    exact RetF.bad (unp_sum hx.out (by rw [hs.out]; omega) (by rw [hs.out, H.out.1]; omega) (by rw [hs.out, HQ1.out, HQ2.out]; exact hq)) rfl (((HX2.out.setCell (Nat.le_refl _) _).setCell (Nat.le_refl _) _).setCell (Nat.le_refl _) _)

theorem unpack_any (A : Option Addr) (n c : Nat) (xs : List Int) (w : World) (h : Ints .u8 w A n xs) (hnc : n ≤ c) (hcm : c ≤ 9223372036854775807) :
    Calls Try.prog 31 #[.slice A n c] w (RetF w (unp xs)) := by
  rcases Nat.eq_zero_or_pos n with h0 | h0
  · subst h0
    obtain rfl : xs = [] := List.eq_nil_of_length_eq_zero h.1
    exact unpack_none A c w
  have hb : ∀ x ∈ xs, 0 ≤ x ∧ x ≤ 255 := fun x hx => u8_bounds (h.2.1 x hx)
  obtain ⟨b, off, rfl, hc⟩ := h.2.2 (by intro e; have := h.1; rw [List.map_eq_nil_iff] at e; subst e; simp at this; omega)
  have g : ∀ j, j < n → ∃ x, xs.getD j 0 = x ∧ (0 ≤ x ∧ x ≤ 255) ∧ w.cell? ⟨b, off + j, none⟩ = some (.int .u8 x) := fun j hj => by
    have hj' : j < xs.length := by rw [h.1]; exact hj
    refine ⟨xs[j], by simp [List.getD, List.getElem?_eq_getElem hj'], hb _ (List.getElem_mem hj'), hc j _ ?_⟩
    rw [List.getElem?_map, List.getElem?_eq_getElem hj']; rfl
  obtain ⟨x0, hx0, _, hc0⟩ := g 0 h0
  by_cases hm : x0 = 165
  · subst hm
    by_cases h8 : n < 8
    · exact unpack_short b off n c xs w h h0 h8 hx0 hc0
    · obtain ⟨x1, hx1, hb1, hc1⟩ := g 1 (by omega)
      obtain ⟨x6, hx6, hb6, hc6⟩ := g 6 (by omega)
      obtain ⟨x7, hx7, hb7, hc7⟩ := g 7 (by omega)
      have hsz : ((szN xs : Nat) : Int) = x6 * 256 + x7 := by unfold szN; rw [hx6, hx7]; omega
      exact unpack_big b off n c (szN xs) xs x1 x6 x7 w h hnc hcm (by omega) hx0 hx1 hb1 rfl (by rw [or_size hb6 hb7, hsz]) hb6 hb7 hc0 hc1 hc6 hc7
  · exact unpack_mark b off n c xs x0 w h h0 hx0 (by simpa using hm) hc0
end Go.Proofs.Ytekhmfliaojabaa
namespace Go.Proofs.Ytekhmfliaojabaa
open Go.RowKit

set_option maxHeartbeats 400000 in
theorem unpackR_none (A : Option Addr) (c : Nat) (w : World) : Calls Try.prog 32 #[.slice A 0 c] w (RetF w (unp [])) := by
  go_enter Try.func32, Try.ntmps32
  go_wp2
  refine bodyPost_ret (v := .tuple #[.agg #[.int .i64 0, .int .i64 0, .slice none 0 0], .int .i64 0, .int .i64 21]) (by simp [results, Try.results32, go_sem]) rfl ?_
  exact RetF.bad (unp_none rfl) rfl ((Ext.refl w).alloc _)

set_option maxHeartbeats 400000 in
theorem unpackR_mark (b off n c : Nat) (xs : List Int) (x : Int) (w : World) (H : Hid (Ints .u8 w (some ⟨b, off, none⟩) n xs)) (hn : 0 < n) (hx : Hid (xs.getD 0 0 = x)) (hne : (x != 165) = true) (hc0 : w.cell? ⟨b, off, none⟩ = some (.int .u8 x)) :
    Calls Try.prog 32 #[.slice (some ⟨b, off, none⟩) n c] w (RetF w (unp xs)) := by
  have hb := World.block_lt_of_cell? w _ hc0
  have h0 : ((n : Int) == 0) = false := by simp; omega
  have e0 : (0 : Int) < (n : Int) := by omega
  simp only at hb
  go_enter Try.func32, Try.ntmps32
  go_wp2
  refine bodyPost_ret (v := .tuple #[.agg #[.int .i64 0, .int .i64 0, .slice none 0 0], .int .i64 0, .int .i64 22]) (by simp [results, Try.results32, go_sem]) rfl ?_
  exact RetF.bad (unp_mark (by rw [H.out.1]; omega) (by rw [hx.out]; simpa using hne)) rfl ((Ext.refl w).alloc _)

set_option maxHeartbeats 400000 in
theorem unpackR_short (b off n c : Nat) (xs : List Int) (w : World) (H : Hid (Ints .u8 w (some ⟨b, off, none⟩) n xs)) (hn : 0 < n) (hn8 : n < 8) (hx : Hid (xs.getD 0 0 = 165)) (hc0 : w.cell? ⟨b, off, none⟩ = some (.int .u8 165)) :
    Calls Try.prog 32 #[.slice (some ⟨b, off, none⟩) n c] w (RetF w (unp xs)) := by
  have hb := World.block_lt_of_cell? w _ hc0
  have h0 : ((n : Int) == 0) = false := by simp; omega
  have e0 : (0 : Int) < (n : Int) := by omega
  simp only at hb
  go_enter Try.func32, Try.ntmps32
  go_wp2
  refine bodyPost_ret (v := .tuple #[.agg #[.int .i64 0, .int .i64 0, .slice none 0 0], .int .i64 0, .int .i64 21]) (by simp [results, Try.results32, go_sem]) rfl ?_
  exact RetF.bad (unp_short (by rw [H.out.1]; omega) hx.out (by rw [H.out.1]; omega)) rfl ((Ext.refl w).alloc _)

set_option maxRecDepth 100000 in
set_option maxHeartbeats 2000000 in
theorem unpackR_big (b off n c s : Nat) (xs : List Int) (x1 x6 x7 : Int) (w : World) (H : Hid (Ints .u8 w (some ⟨b, off, none⟩) n xs)) (hnc : n ≤ c) (hcm : c ≤ 9223372036854775807) (hn : 8 ≤ n) (hx : Hid (xs.getD 0 0 = 165)) (h1x : Hid (xs.getD 1 0 = x1)) (hb1 : 0 ≤ x1 ∧ x1 ≤ 255) (hs : Hid (szN xs = s)) (h6 : Hid (xs.getD 6 0 = x6)) (h7 : Hid (xs.getD 7 0 = x7)) (hsz : Hid ((s : Int) = x6 * 256 + x7)) (hb6 : 0 ≤ x6 ∧ x6 ≤ 255) (hb7 : 0 ≤ x7 ∧ x7 ≤ 255)
    (hc0 : w.cell? ⟨b, off, none⟩ = some (.int .u8 165)) (hc1 : w.cell? ⟨b, off + 1, none⟩ = some (.int .u8 x1)) :
    Calls Try.prog 32 #[.slice (some ⟨b, off, none⟩) n c] w (RetF w (unp xs)) := by
  have hb := World.block_lt_of_cell? w _ hc0
  have h0 : ((n : Int) == 0) = false := by simp; omega
  have e0 : (0 : Int) < (n : Int) := by omega
  have e1 : (1 : Int) < (n : Int) := by omega
  have hc6 : ¬ c = 6 := by omega
  have hs65 : s ≤ 65535 := by have := hsz.out; omega
  simp only at hb
  have hI6 : Ints .u8 w (some ⟨b, off + 6, none⟩) 2 [x6, x7] := by
    have h8 := (H.out.take (m := 8) (by omega)).drop 6 (A' := some ⟨b, off + 6, none⟩) (fun _ b' off' e => by injection e with e; injection e with e1 e2; subst e1 e2; rfl)
    have e : (xs.take 8).drop 6 = [x6, x7] := by
      have hl := H.out.1
      have g6 : xs[6]? = some x6 := by rw [← h6.out]; simp [List.getD, List.getElem?_eq_getElem (show 6 < xs.length by omega)]
      have g7 : xs[7]? = some x7 := by rw [← h7.out]; simp [List.getD, List.getElem?_eq_getElem (show 7 < xs.length by omega)]
      apply List.ext_getElem?
      intro i
      rw [List.getElem?_drop, List.getElem?_take]
      match i with
      | 0 => simpa using g6
      | 1 => simpa using g7
      | i + 2 => simp; omega
    rw [e] at h8
    exact h8
  have H6 : Hid (∀ W, Ext w W → Calls Try.prog 73 #[.slice (some ⟨b, off + 6, none⟩) 2 (c - 6)] W fun e w' => e = .returned (.int .u64 (s : Int)) ∧ W = w') := fun W hW => by
    have e : bigN [x6, x7] = (s : Int) := by rw [hsz.out]; simp [bigN]
    rw [← e]; exact big_any _ _ _ _ _ (hI6.ext hW) (by omega)
  clear hI6
  go_enter Try.func32, Try.ntmps32
  go_wp2_with fail
  refine (H6.out _ ((Ext.refl w).alloc _)).mono ?_
  rintro e w' ⟨rfl, rfl⟩
  have hX1 : Ext w (w.alloc (.cells #[.int .i64 0, .int .i64 0, .slice none 0 0] 38)) := (Ext.refl w).alloc _
  have hB1 : Blk (w.alloc (.cells #[.int .i64 0, .int .i64 0, .slice none 0 0] 38)) w.heap.size 38 #[.int .i64 0, .int .i64 0, .slice none 0 0] := Blk.new w _ _
  generalize w.alloc (.cells #[.int .i64 0, .int .i64 0, .slice none 0 0] 38) = w1 at hX1 hB1 ⊢
  obtain ⟨r0, r1, r2, f0, f1, f2⟩ := hB1.three
  have hcw := Lib.hid hc1
  replace hc1 := hX1.cell hc1
  clear hc0 H6
  have HX1 := Lib.hid hX1
  have HB1 := Lib.hid hB1
  clear hX1 hB1
  by_cases h3 : 1024 < s
  · go_wp2
    refine bodyPost_ret (v := .tuple #[.agg #[.int .i64 0, .int .i64 0, .slice none 0 0], .int .i64 0, .int .i64 23]) (by simp [results, Try.results32, go_sem, *]) rfl ?_
    exact RetF.bad (unp_long hx.out (by rw [H.out.1]; omega) (by rw [hs.out]; omega)) rfl (((HX1.out.setCell (Nat.le_refl _) _).setCell (Nat.le_refl _) _).setCell (Nat.le_refl _) _)
  by_cases h4 : n < 12 + s
  · have h4' : (n : Int) < 8 + (s : Int) + 4 := by omega
    go_wp2
    refine bodyPost_ret (v := .tuple #[.agg #[.int .i64 0, .int .i64 0, .slice none 0 0], .int .i64 0, .int .i64 21]) (by simp [results, Try.results32, go_sem, *]) rfl ?_
    exact RetF.bad (unp_cut hx.out (by rw [H.out.1]; omega) (by rw [hs.out]; omega) (by rw [hs.out, H.out.1]; omega)) rfl (((HX1.out.setCell (Nat.le_refl _) _).setCell (Nat.le_refl _) _).setCell (Nat.le_refl _) _)
  have hI := H.out.ext HX1.out
  have hIt : Ints .u8 w1 (some ⟨b, off, none⟩) (8 + s) (xs.take (8 + s)) := hI.take (by omega)
  have hId : Ints .u8 w1 (some ⟨b, off + (8 + s), none⟩) 4 ((xs.drop (8 + s)).take 4) := (hI.drop (8 + s) (A' := some ⟨b, off + (8 + s), none⟩) (fun _ b' off' e => by injection e with e; injection e with e1 e2; subst e1 e2; rfl)).take (by omega)
  have HIt := Lib.hid hIt
  have HId := Lib.hid hId
  clear hI hIt hId
  have hne : ¬ c = 8 + s := by omega
  have hl1 : (8 : Int) + (s : Int) ≤ (n : Int) := by omega
  have hl2 : (8 : Int) + (s : Int) ≤ (c : Int) := by omega
  have hl3 : (8 : Int) + (s : Int) + 4 ≤ (c : Int) := by omega
  have hl4 : (8 : Int) + (s : Int) ≤ 8 + (s : Int) + 4 := by omega
  go_wp2
  have e8 : (0 : Int) ≤ 8 + (s : Int) := by omega
  have e10 : (0 : Int) ≤ 8 + (s : Int) + 4 := by omega
  have e9 : ((8 : Int) + (s : Int)).toNat = 8 + s := by omega
  have e11 : ((8 : Int) + (s : Int) + 4).toNat = 8 + s + 4 := by omega
  have e12 : 8 + s + 4 - (8 + s) = 4 := by omega
  have hwr : IntKind.i64.wrap ((8 : Int) + (s : Int)) = 8 + (s : Int) := IntWalk.i64_in _ (by omega)
  have hwr2 : IntKind.i64.wrap ((8 : Int) + (s : Int) + 4) = 8 + (s : Int) + 4 := IntWalk.i64_in _ (by omega)
  obtain ⟨q1, hq1⟩ : ∃ q, bigN ((xs.drop (8 + s)).take 4) = q := ⟨_, rfl⟩
  obtain ⟨q2, hq2⟩ : ∃ q, crc (xs.take (8 + s)) = q := ⟨_, rfl⟩
  have hq2r := crc_range (xs.take (8 + s))
  rw [hq2] at hq2r
  have hw2 : IntKind.u64.wrap q2 = q2 := IntWalk.u64_in _ (by omega)
  have H1 : Hid (∀ m, Calls Try.prog 73 #[.slice (some ⟨b, off + (8 + s), none⟩) 4 (c - (8 + s))] (w1.drewN m) fun e w' => e = .returned (.int .u64 q1) ∧ w1.drewN m = w') := fun m => by
    rw [← hq1]; exact big_any _ _ _ _ _ (HId.out.ext ((Ext.refl w1).drewN m)) (by omega)
  have H2 : Hid (∀ m, Calls Try.prog 52 #[.slice (some ⟨b, off, none⟩) (8 + s) c] (w1.drewN m) fun e w' => e = .returned (.int .u32 q2) ∧ w1.drewN m = w') := fun m => by
    rw [← hq2]; exact checksumR_any _ _ _ _ _ (HIt.out.ext ((Ext.refl w1).drewN m)) (by omega)
  have HQ1 := Lib.hid hq1
  have HQ2 := Lib.hid hq2
  clear hq1 hq2 hq2r
  go_quiet ((first | (go_at_call 73; exact quiet_left (H1.out _)) | (go_at_call 52; exact quiet_left (H2.out _))))
  clear hw2 H1 H2 HIt HId
  have hX2 : Ext w (w1.drewN nq) := HX1.out.drewN _
  have hB2 : Blk (w1.drewN nq) w.heap.size 38 #[.int .i64 0, .int .i64 0, .slice none 0 0] := HB1.out.drewN _
  replace hc1 : (w1.drewN nq).cell? ⟨b, off + 1, none⟩ = some (.int .u8 x1) := hc1
  have hIb : Ints .u8 (w1.drewN nq) (some ⟨b, off, none⟩) n xs := H.out.ext hX2
  generalize w1.drewN nq = w2 at hX2 hB2 hc1 hIb ⊢
  have HIb := Lib.hid hIb
  clear r0 r1 r2 f0 f1 f2 HB1 HX1 hIb
  obtain ⟨r0, r1, r2, f0, f1, f2⟩ := hB2.three
  have HX2 := Lib.hid hX2
  have HB2 := Lib.hid hB2
  clear hX2 hB2
  by_cases hq : q2 = q1
  · subst hq
    obtain ⟨q3, hq3⟩ : ∃ q, bigN ((xs.drop 2).take 4) = q := ⟨_, rfl⟩
    have hq3r : 0 ≤ q3 ∧ q3 ≤ 4294967295 := by
      have h1 := bigN_range (xs := (xs.drop 2).take 4) (fun x hx => u8_bounds (H.out.2.1 x (List.mem_of_mem_drop (List.mem_of_mem_take hx))))
      have h2 : ((xs.drop 2).take 4).length = 4 := by rw [List.length_take, List.length_drop, H.out.1]; omega
      rw [h2, hq3] at h1
      have : (256 : Int) ^ 4 = 4294967296 := by decide
      omega
    obtain ⟨body, hbody⟩ : ∃ l, (xs.take (8 + s)).drop 8 = l := ⟨_, rfl⟩
    have hI8 : Ints .u8 w2 (some ⟨b, off + 8, none⟩) s body := by
      have h8 := (HIb.out.take (m := 8 + s) (by omega)).drop 8 (A' := some ⟨b, off + 8, none⟩) (fun _ b' off' e => by injection e with e; injection e with e1 e2; subst e1 e2; rfl)
      rw [hbody] at h8
      have e : 8 + s - 8 = s := by omega
      rw [e] at h8
      exact h8
    have hI2 : Ints .u8 w2 (some ⟨b, off + 2, none⟩) 4 ((xs.drop 2).take 4) := (HIb.out.drop 2 (A' := some ⟨b, off + 2, none⟩) (fun _ b' off' e => by injection e with e; injection e with e1 e2; subst e1 e2; rfl)).take (by omega)
    have H1 : Hid (∀ W, Ext w2 W → Calls Try.prog 73 #[.slice (some ⟨b, off + 2, none⟩) 4 (c - 2)] W fun e w' => e = .returned (.int .u64 q3) ∧ W = w') := fun W hW => by
      rw [← hq3]; exact big_any _ _ _ _ _ (hI2.ext hW) (by omega)
    have H2 : Hid (∀ W A', At W A' [.slice (some ⟨b, off + 8, none⟩) s (c - 8)] → Ext w2 W → Calls Try.prog 69 #[.slice A' 1 1] W fun e w' => ∃ A n c, e = .returned (.slice A n c) ∧ OwnS .u8 5 w2.heap.size w' A n c body ∧ Ext w2 w') := fun W A' hA hW => by
      refine (joined_any A' 1 1 [body] W (Lists.one hA ⟨_, _, _, rfl, hI8.ext hW, by omega, by omega⟩) (by omega) (by simp; have := hI8.1; omega)).mono ?_
      rintro e w' ⟨A, n, c, he, ho, hx⟩
      exact ⟨A, n, c, he, by simpa using ho.mono hW.size, hW.trans hx⟩
    have HQ3 := Lib.hid hq3
    have HBO := Lib.hid hbody
    have HBl : Hid (body.length = s) := hI8.1
    clear hq3 hbody hI8 hI2
    obtain ⟨hq30, hq31⟩ := hq3r
    obtain ⟨hb10, hb11⟩ := hb1
    have hc2 : ¬ c = 2 := by omega
    have hc8 : ¬ c = 8 := by omega
    have hi6 : (6 : Int) ≤ (c : Int) := by omega
    have hi8 : (8 : Int) ≤ 8 + (s : Int) := by omega
    have e13 : 8 + s - 8 = s := by omega
    have hblt := World.block_lt_of_cell? w2 _ hc1
    simp only at hblt
    have hw1 : IntKind.i64.wrap x1 = x1 := IntWalk.i64_in _ (by omega)
    have hw3 : IntKind.i64.wrap q3 = q3 := IntWalk.i64_in _ (by omega)
    go_upto_region 14 with (fail)
    go_region_held3 (fun w' => w'.cell? ⟨b, off + 1, none⟩ = some (.int .u8 x1)) (first | go_keep | exact Ext.cell (a := w) (by repeat (first | exact HX2.out | exact HX2.out.trans hE' | refine Ext.drew ?_ | refine Ext.drewN ?_ _ | refine Ext.alloc ?_ _ | refine Ext.setCell ?_ (Nat.le_refl _) _)) hcw.out) (first | (go_at_call 73; refine (H1.out _ (by repeat (first | exact Ext.refl _ | assumption | refine Ext.drew ?_ | refine Ext.drewN ?_ _ | refine Ext.alloc ?_ _))).mono ?_; rintro e w' ⟨rfl, rfl⟩) | (go_at_call 69; refine (H2.out _ _ (by first | exact At.drew (At.new w2 [_] _) | exact At.new w2 [_] _) (by repeat (first | exact Ext.refl _ | assumption | refine Ext.drew ?_ | refine Ext.drewN ?_ _ | refine Ext.alloc ?_ _))).mono ?_; rintro e w' ⟨A6, n6, c6, rfl, hO6, hE'⟩; have HO6 := Lib.hid hO6; clear hO6; obtain ⟨t0, t1, t2, t3, t4, t5⟩ := (HB2.out.ext hE').three))
    all_goals
      go_wp2
      refine bodyPost_ret (v := .tuple #[.agg #[.int .i64 x1, .int .i64 q3, .slice A6 n6 c6], .int .i64 (8 + (s : Int) + 4), .int .i64 0]) (by simp [results, Try.results32, go_sem, *]) rfl ?_
      rw [unp_ok hx.out (by rw [hs.out]; omega) (by rw [hs.out, H.out.1]; omega) (by rw [hs.out, HQ1.out, HQ2.out])]
      refine ⟨A6, n6, c6, ?_, ⟨?_, ?_, ?_⟩, ?_⟩
      · simp only [h1x.out, HQ3.out, hs.out]
        rw [show (12 : Int) + (s : Int) = 8 + (s : Int) + 4 by omega]
      · simp only [hs.out, HBO.out]
        have hlt := HB2.out.lt
        exact World.ownsRow.mono' (ownsRow_setCell_below (ownsRow_setCell_below (ownsRow_setCell_below HO6.out.own hlt _) hlt _) hlt _) (Nat.le_of_lt hlt)
      · simp only [hs.out, HBO.out]
        exact HO6.out.len
      · simp only [hs.out, HBO.out]
        exact HO6.out.wf
      · exact (((HX2.out.trans hE').setCell (Nat.le_refl _) _).setCell (Nat.le_refl _) _).setCell (Nat.le_refl _) _
  · have hqb : (q2 != q1) = true := by simpa using hq
    go_wp2
    refine bodyPost_ret (v := .tuple #[.agg #[.int .i64 0, .int .i64 0, .slice none 0 0], .int .i64 0, .int .i64 24]) (by simp [results, Try.results32, go_sem, *]) rfl ?_
    exact RetF.bad (unp_sum hx.out (by rw [hs.out]; omega) (by rw [hs.out, H.out.1]; omega) (by rw [hs.out, HQ1.out, HQ2.out]; exact fun e => hq e.symm)) rfl (((HX2.out.setCell (Nat.le_refl _) _).setCell (Nat.le_refl _) _).setCell (Nat.le_refl _) _)

theorem unpackR_any (A : Option Addr) (n c : Nat) (xs : List Int) (w : World) (h : Ints .u8 w A n xs) (hnc : n ≤ c) (hcm : c ≤ 9223372036854775807) :
    Calls Try.prog 32 #[.slice A n c] w (RetF w (unp xs)) := by
  rcases Nat.eq_zero_or_pos n with h0 | h0
  · subst h0
    obtain rfl : xs = [] := List.eq_nil_of_length_eq_zero h.1
    exact unpackR_none A c w
  have hb : ∀ x ∈ xs, 0 ≤ x ∧ x ≤ 255 := fun x hx => u8_bounds (h.2.1 x hx)
  obtain ⟨b, off, rfl, hc⟩ := h.2.2 (by intro e; have := h.1; rw [List.map_eq_nil_iff] at e; subst e; simp at this; omega)
  have g : ∀ j, j < n → ∃ x, xs.getD j 0 = x ∧ (0 ≤ x ∧ x ≤ 255) ∧ w.cell? ⟨b, off + j, none⟩ = some (.int .u8 x) := fun j hj => by
    have hj' : j < xs.length := by rw [h.1]; exact hj
    refine ⟨xs[j], by simp [List.getD, List.getElem?_eq_getElem hj'], hb _ (List.getElem_mem hj'), hc j _ ?_⟩
    rw [List.getElem?_map, List.getElem?_eq_getElem hj']; rfl
  obtain ⟨x0, hx0, _, hc0⟩ := g 0 h0
  by_cases hm : x0 = 165
  · subst hm
    by_cases h8 : n < 8
    · exact unpackR_short b off n c xs w h h0 h8 hx0 hc0
    · obtain ⟨x1, hx1, hb1, hc1⟩ := g 1 (by omega)
      obtain ⟨x6, hx6, hb6, hc6⟩ := g 6 (by omega)
      obtain ⟨x7, hx7, hb7, hc7⟩ := g 7 (by omega)
      have hsz : ((szN xs : Nat) : Int) = x6 * 256 + x7 := by unfold szN; rw [hx6, hx7]; omega
      exact unpackR_big b off n c (szN xs) xs x1 x6 x7 w h hnc hcm (by omega) hx0 hx1 hb1 rfl hx6 hx7 hsz hb6 hb7 hc0 hc1
  · exact unpackR_mark b off n c xs x0 w h h0 hx0 (by simpa using hm) hc0
end Go.Proofs.Ytekhmfliaojabaa
namespace Go.Proofs.Ytekhmfliaojabaa
open Go.RowKit

theorem elF : Elem Try.prog 57 38 3 40 (.agg #[.int .i64 0, .int .i64 0, .slice none 0 0]) := Elem.mk' (by kernel_rfl) (by kernel_rfl) rfl (by decide)

/-- What Scan leaves. -/
def RetS (w : World) (r : List Fr × Nat × Nat) (e : Ending) (w' : World) : Prop :=
  ∃ A n c vs, e = .returned (.tuple #[.slice A n c, .int .i64 r.2.1, .int .i64 r.2.2]) ∧ w'.ownsRow w.heap.size 38 3 (.slice A n c) n vs ∧ CsR (FrO w.heap.size w') vs r.1 ∧ r.1.length = n ∧ Ext w w'

theorem RetS.frs {w w' : World} {r : List Fr × Nat × Nat} {A : Option Addr} {n c : Nat} {vs : List Value} (h : w'.ownsRow w.heap.size 38 3 (.slice A n c) n vs) (hv : CsR (FrO w.heap.size w') vs r.1) (hl : r.1.length = n) : Frs w' A n r.1 :=
  ⟨hl, vs, hv.imp fun _ _ h => h.frc, At.of_own h⟩

set_option maxRecDepth 100000 in
set_option maxHeartbeats 2000000 in
theorem scan_any (A : Option Addr) (n c : Nat) (xs : List Int) (w : World) (h : Ints .u8 w A n xs) (hnc : n ≤ c) (hcm : c ≤ 9223372036854775807) (hn : n ≤ 1000000) :
    Calls Try.prog 54 #[.slice A n c] w (RetS w (scan xs)) := by
  have H := Lib.hid h
  have HL : Hid (xs.length = n) := h.1
  clear h
  go_enter Try.func54, Try.ntmps54
  go_wp2_with fail
  go_step3
  go_wp2_with fail
  go_step3
  go_wp2_with fail
  go_loopg [2, 3, 5] n (fun g v s i wr => ∃ (k sk : Nat) (fs : List Fr) (vs : List Value), g = n - k ∧ k ≤ n ∧ i = .int .i64 k ∧ s = .int .i64 sk ∧ sk ≤ k ∧ fs.length ≤ k ∧ ScanAt xs k fs sk ∧ wr.ownsRow w.heap.size 38 3 v fs.length vs ∧ CsR (FrO w.heap.size wr) vs fs ∧ Ext w wr)
  case atStart => exact ⟨0, 0, [], [], rfl, by omega, rfl, rfl, by omega, by simp, ScanAt.start xs, World.ownsRow_nil _ _ _ _, rfl, Ext.refl w⟩
  case round =>
    obtain ⟨k, sk, fs, vs, rfl, hk, rfl, rfl, hsk, hfl, hS, hown, hcs, hX⟩ := hrel
    have HS := Lib.hid hS
    have HC := Lib.hid hcs
    have HX := Lib.hid hX
    clear hS hcs hX
    by_cases hlt : k < n
    · obtain ⟨f, m, er, hu⟩ : ∃ f m er, unp (xs.drop k) = (f, m, er) := ⟨_, _, _, rfl⟩
      obtain ⟨fs0, fq, fb⟩ := f
      obtain ⟨A0, c0, rfl⟩ := own_slice hown
      have HU := Lib.hid hu
      clear hu
      go_wp2_with (first | (refine wpList_cutL (o := ⟨some 16, _, _, _, _, _⟩) _ elB rfl _ _ rfl A n c rfl _ _ k rfl rfl (by omega) hnc ?_; intro A5 hA5))
      have hI5 : Ints .u8 wr A5 (n - k) (xs.drop k) := by
        have hI := H.out.ext HX.out
        refine ⟨by rw [List.length_drop, HL.out], fun x hx => hI.2.1 x (List.mem_of_mem_drop hx), ?_⟩
        have := hA5 wr _ hI.2.2 (by rw [List.length_map, HL.out]; omega)
        rw [Nat.mul_one, ← List.map_drop] at this
        exact this
      refine (unpack_any _ _ _ _ _ hI5 (by omega) (by omega)).mono ?_
      clear hI5 hA5
      rw [HU.out]
      rintro e w1 ⟨A1, n1, c1, rfl, hO1, hX1⟩
      simp only at hO1 ⊢
      have HO1 := Lib.hid (hO1.mono HX.out.size)
      have HX1 := Lib.hid hX1
      have hown1 := World.ownsRow.ext' hown hX1
      have HC1 := Lib.hid (HC.out.imp fun _ _ h => FrO.ext h hX1)
      clear hO1 hX1 hown
      by_cases he0 : er = 0
      · subst he0
        have hul := unp_len (xs := xs.drop k) (by rw [HU.out])
        have hst := HS.out.found (by rw [HU.out])
        have hug := unp_good (xs := xs.drop k) (by rw [HU.out])
        rw [HU.out] at hul hst hug
        simp only at hul hst hug
        obtain ⟨z, hz⟩ : ∃ z, szN (xs.drop k) = z := ⟨_, rfl⟩
        rw [hz] at hul hst hug
        have hzl : 12 + z ≤ n - k := by have := hug.2.1; rw [List.length_drop, HL.out] at this; exact this
        subst hul
        have HST := Lib.hid hst
        clear hst hug hz
        go_wp2_with (at_builtin; refine wpList_app _ elF rfl _ _ rfl w.heap.size (.slice A0 fs.length c0) fs.length vs rfl ((hown1.alloc _).alloc _) _ 1 1 [.int .i64 fs0, .int .i64 fq, .slice A1 n1 c1] rfl rfl (At.new' _ [_, _, _] _ (by simp)) (by simp [Value.oneCell']) (by omega) (by unfold maxLen; omega) (by have := HX.out.size; have := HX1.out.size; simp; omega) ?_; intro v2 w2 hown2 hgr2 hdj; clear hdj)
        go_roundg (n - (k + (12 + z)))
        case rel =>
          have hoa := (hown1.alloc (.cells #[.int .i64 fs0, .int .i64 fq, .slice A1 n1 c1] 38)).alloc (.cells #[.int .i64 fs0, .int .i64 fq, .slice A1 n1 c1] 38)
          have hXa : Ext w1 ((w1.alloc (.cells #[.int .i64 fs0, .int .i64 fq, .slice A1 n1 c1] 38)).alloc (.cells #[.int .i64 fs0, .int .i64 fq, .slice A1 n1 c1] 38)) := ((Ext.refl w1).alloc _).alloc _
          refine ⟨k + (12 + z), sk, fs ++ [⟨fs0, fq, fb⟩], vs ++ [.int .i64 fs0, .int .i64 fq, .slice A1 n1 c1], rfl, by omega, by go_num, rfl, by omega, by simp; omega, HST.out, by simpa using hown2, ?_, ?_⟩
          · refine CsR.snoc (HC1.out.imp fun _ _ h => FrO.kept (FrO.ext h hXa) hoa (by decide) hgr2) ?_
            exact FrO.kept (FrO.ext ⟨A1, n1, c1, rfl, HO1.out⟩ hXa) hoa (by decide) hgr2
          · exact ((HX.out.trans HX1.out).trans hXa).grown hgr2 fun g hg => (hoa.lt g hg).1
        case measure => omega
      · have hb0 : (er == 0) = false := by simpa using he0
        by_cases he1 : er = 21
        · subst he1
          have hdn := HS.out.done (by rw [HU.out])
          have HDN := Lib.hid hdn
          clear hdn
          go_wp2
          rw [Exit.noGoto_ret]
          go_ret3
          refine ⟨A0, fs.length, c0, vs, ?_, hown1.alloc _, ?_, by rw [HDN.out], (HX.out.trans HX1.out).alloc _⟩
          · rw [HDN.out, HL.out]
            simp only
            rw [show ((n - k : Nat) : Int) = (n : Int) - (k : Int) by omega]
            rfl
          · rw [HDN.out]
            exact HC1.out.imp fun _ _ h => FrO.ext h ((Ext.refl _).alloc _)
        · have hb1 : (er == 21) = false := by simpa using he1
          have hst := HS.out.skip (by rw [HU.out]; exact he0) (by rw [HU.out]; exact he1)
          have HST := Lib.hid hst
          clear hst he0 he1
          go_wp2
          go_roundg (n - (k + 1))
          case rel => exact ⟨k + 1, sk + 1, fs, vs, rfl, by omega, by go_num, by go_num, by omega, by omega, HST.out, hown1.alloc _, HC1.out.imp fun _ _ h => FrO.ext h ((Ext.refl _).alloc _), (HX.out.trans HX1.out).alloc _⟩
          case measure => omega
    · obtain rfl : k = n := by omega
      have hdn := HS.out.done (by rw [List.drop_eq_nil_of_le (by rw [HL.out]; omega), unp_nil])
      have HDN := Lib.hid hdn
      clear hdn
      obtain ⟨A0, c0, rfl⟩ := own_slice hown
      go_wp2
      rw [Exit.noGoto_ret]
      go_ret3
      refine ⟨A0, fs.length, c0, vs, ?_, hown, by rw [HDN.out]; exact HC.out, by rw [HDN.out], HX.out⟩
      rw [HDN.out, HL.out]
      simp
set_option maxRecDepth 100000 in
set_option maxHeartbeats 2000000 in
theorem scanR_any (A : Option Addr) (n c : Nat) (xs : List Int) (w : World) (h : Ints .u8 w A n xs) (hnc : n ≤ c) (hcm : c ≤ 9223372036854775807) (hn : n ≤ 1000000) :
    Calls Try.prog 55 #[.slice A n c] w (RetS w (scan xs)) := by
  have H := Lib.hid h
  have HL : Hid (xs.length = n) := h.1
  clear h
  go_enter Try.func55, Try.ntmps55
  go_wp2_with fail
  go_loopg [2, 3, 5] (n + 1) (fun g v s i wr => ∃ (k sk : Nat) (fs : List Fr) (vs : List Value), g = n + 1 - k ∧ k ≤ n ∧ i = .int .i64 k ∧ s = .int .i64 sk ∧ sk ≤ k ∧ fs.length ≤ k ∧ ScanAt xs k fs sk ∧ wr.ownsRow w.heap.size 38 3 v fs.length vs ∧ CsR (FrO w.heap.size wr) vs fs ∧ Ext w wr)
  case atStart => exact ⟨0, 0, [], [], rfl, by omega, rfl, rfl, by omega, by simp, ScanAt.start xs, World.ownsRow_nil _ _ _ _, rfl, Ext.refl w⟩
  case round =>
    obtain ⟨k, sk, fs, vs, rfl, hk, rfl, rfl, hsk, hfl, hS, hown, hcs, hX⟩ := hrel
    have HS := Lib.hid hS
    have HC := Lib.hid hcs
    have HX := Lib.hid hX
    clear hS hcs hX
    · obtain ⟨f, m, er, hu⟩ : ∃ f m er, unp (xs.drop k) = (f, m, er) := ⟨_, _, _, rfl⟩
      obtain ⟨fs0, fq, fb⟩ := f
      obtain ⟨A0, c0, rfl⟩ := own_slice hown
      have HU := Lib.hid hu
      clear hu
      go_wp2_with (first | (refine wpList_cutL (o := ⟨some 12, _, _, _, _, _⟩) _ elB rfl _ _ rfl A n c rfl _ _ k rfl rfl (by omega) hnc ?_; intro A5 hA5))
      have hI5 : Ints .u8 wr A5 (n - k) (xs.drop k) := by
        have hI := H.out.ext HX.out
        refine ⟨by rw [List.length_drop, HL.out], fun x hx => hI.2.1 x (List.mem_of_mem_drop hx), ?_⟩
        have := hA5 wr _ hI.2.2 (by rw [List.length_map, HL.out]; omega)
        rw [Nat.mul_one, ← List.map_drop] at this
        exact this
      refine (unpackR_any _ _ _ _ _ hI5 (by omega) (by omega)).mono ?_
      clear hI5 hA5
      rw [HU.out]
      rintro e w1 ⟨A1, n1, c1, rfl, hO1, hX1⟩
      simp only at hO1 ⊢
      have HO1 := Lib.hid (hO1.mono HX.out.size)
      have HX1 := Lib.hid hX1
      have hown1 := World.ownsRow.ext' hown hX1
      have HC1 := Lib.hid (HC.out.imp fun _ _ h => FrO.ext h hX1)
      clear hO1 hX1 hown
      by_cases he0 : er = 0
      · subst he0
        have hul := unp_len (xs := xs.drop k) (by rw [HU.out])
        have hst := HS.out.found (by rw [HU.out])
        have hug := unp_good (xs := xs.drop k) (by rw [HU.out])
        rw [HU.out] at hul hst hug
        simp only at hul hst hug
        obtain ⟨z, hz⟩ : ∃ z, szN (xs.drop k) = z := ⟨_, rfl⟩
        rw [hz] at hul hst hug
        have hzl : 12 + z ≤ n - k := by have := hug.2.1; rw [List.length_drop, HL.out] at this; exact this
        subst hul
        have HST := Lib.hid hst
        clear hst hug hz
        go_wp2_with (at_builtin; refine wpList_app _ elF rfl _ _ rfl w.heap.size (.slice A0 fs.length c0) fs.length vs rfl ((hown1.alloc _).alloc _) _ 1 1 [.int .i64 fs0, .int .i64 fq, .slice A1 n1 c1] rfl rfl (At.new' _ [_, _, _] _ (by simp)) (by simp [Value.oneCell']) (by omega) (by unfold maxLen; omega) (by have := HX.out.size; have := HX1.out.size; simp; omega) ?_; intro v2 w2 hown2 hgr2 hdj; clear hdj)
        go_roundg (n + 1 - (k + (12 + z)))
        case rel =>
          have hoa := (hown1.alloc (.cells #[.int .i64 fs0, .int .i64 fq, .slice A1 n1 c1] 38)).alloc (.cells #[.int .i64 fs0, .int .i64 fq, .slice A1 n1 c1] 38)
          have hXa : Ext w1 ((w1.alloc (.cells #[.int .i64 fs0, .int .i64 fq, .slice A1 n1 c1] 38)).alloc (.cells #[.int .i64 fs0, .int .i64 fq, .slice A1 n1 c1] 38)) := ((Ext.refl w1).alloc _).alloc _
          refine ⟨k + (12 + z), sk, fs ++ [⟨fs0, fq, fb⟩], vs ++ [.int .i64 fs0, .int .i64 fq, .slice A1 n1 c1], rfl, by omega, by go_num, rfl, by omega, by simp; omega, HST.out, by simpa using hown2, ?_, ?_⟩
          · refine CsR.snoc (HC1.out.imp fun _ _ h => FrO.kept (FrO.ext h hXa) hoa (by decide) hgr2) ?_
            exact FrO.kept (FrO.ext ⟨A1, n1, c1, rfl, HO1.out⟩ hXa) hoa (by decide) hgr2
          · exact ((HX.out.trans HX1.out).trans hXa).grown hgr2 fun g hg => (hoa.lt g hg).1
        case measure => omega
      · have hb0 : (er == 0) = false := by simpa using he0
        by_cases he1 : er = 21
        · subst he1
          have hdn := HS.out.done (by rw [HU.out])
          have HDN := Lib.hid hdn
          clear hdn
          go_wp2
          go_ret3
          refine ⟨A0, fs.length, c0, vs, ?_, hown1.alloc _, ?_, by rw [HDN.out], (HX.out.trans HX1.out).alloc _⟩
          · rw [HDN.out, HL.out]
            simp only
            rw [show ((n - k : Nat) : Int) = (n : Int) - (k : Int) by omega]
            rfl
          · rw [HDN.out]
            exact HC1.out.imp fun _ _ h => FrO.ext h ((Ext.refl _).alloc _)
        · have hb1 : (er == 21) = false := by simpa using he1
          have hst := HS.out.skip (by rw [HU.out]; exact he0) (by rw [HU.out]; exact he1)
          have hkn : k + 1 ≤ n := by have := hst.1; rw [HL.out] at this; exact this
          have HST := Lib.hid hst
          clear hst he0 he1
          go_wp2
          go_roundg (n + 1 - (k + 1))
          case rel => exact ⟨k + 1, sk + 1, fs, vs, rfl, by omega, by go_num, by go_num, by omega, by omega, HST.out, hown1.alloc _, HC1.out.imp fun _ _ h => FrO.ext h ((Ext.refl _).alloc _), (HX.out.trans HX1.out).alloc _⟩
          case measure => omega
end Go.Proofs.Ytekhmfliaojabaa
namespace Go.Proofs.Ytekhmfliaojabaa
open Go.RowKit

/-- A slice of frames in a row of its own. -/
def FrL (base : Nat) (w : World) (v : Value) (fs : List Fr) : Prop := ∃ vs, w.ownsRow base 38 3 v fs.length vs ∧ CsR (FrO base w) vs fs
section
variable {base : Nat} {w w' : World} {v : Value} {fs : List Fr}
theorem FrL.nil (base : Nat) (w : World) : FrL base w (.slice none 0 0) [] := ⟨[], World.ownsRow_nil _ _ _ _, rfl⟩
theorem FrL.ext (h : FrL base w v fs) (he : Ext w w') : FrL base w' v fs := by obtain ⟨vs, h1, h2⟩ := h; exact ⟨vs, World.ownsRow.ext' h1 he, h2.imp fun _ _ h => h.ext he⟩
theorem FrL.frs (h : FrL base w v fs) : ∃ A c, v = .slice A fs.length c ∧ Frs w A fs.length fs ∧ fs.length ≤ c ∧ c ≤ 9223372036854775807 := by
  obtain ⟨vs, h1, h2⟩ := h
  obtain ⟨A, c, rfl⟩ := own_slice h1
  exact ⟨A, c, rfl, ⟨rfl, vs, h2.imp fun _ _ h => h.frc, At.of_own h1⟩, own_cap h1⟩
theorem FrL.snoc {w1 : World} {v1 : Value} {vs : List Value} {st q : Int} {A : Option Addr} {n c : Nat} {xs : List Int} (hv : w.ownsRow base 38 3 v fs.length vs) (hc : CsR (FrO base w) vs fs) (hO : OwnS .u8 5 base w A n c xs)
    (o : Obj) (hown : w1.ownsRow base 38 3 v1 (fs.length + 1) (vs ++ [.int .i64 st, .int .i64 q, .slice A n c])) (hgr : (w.alloc o).grownBy w1 v.ownBlock) : FrL base w1 v1 (fs ++ [⟨st, q, xs⟩]) := by
  have hX : Ext w (w.alloc o) := (Ext.refl w).alloc o
  have hv1 := World.ownsRow.ext' hv hX
  refine ⟨_, by rw [List.length_append]; exact hown, CsR.snoc (hc.imp fun _ _ h => FrO.kept (FrO.ext h hX) hv1 (by decide) hgr) ?_⟩
  exact FrO.kept (FrO.ext ⟨A, n, c, rfl, hO⟩ hX) hv1 (by decide) hgr
end
theorem pendS_get (s : Snd) {k : Nat} (h : s.acked + k < s.bodies.length) : (pendS s)[k]? = some ⟨s.stream, ((s.acked + k : Nat) : Int), s.bodies.getD (s.acked + k) []⟩ := by
  unfold pendS pendK
  rw [List.getElem?_map, keyed_get, List.getElem?_drop, List.getElem?_eq_getElem h]
  simp [frS, List.getD, List.getElem?_eq_getElem h]
theorem pendS_len (s : Snd) : (pendS s).length = s.bodies.length - s.acked := by unfold pendS; rw [List.length_map, pendK_len]
theorem pendS_take (s : Snd) {k : Nat} (h : s.acked + k < s.bodies.length) : (pendS s).take (k + 1) = (pendS s).take k ++ [⟨s.stream, ((s.acked + k : Nat) : Int), s.bodies.getD (s.acked + k) []⟩] := by
  rw [List.take_add_one, pendS_get s h]; rfl
/-- One record is struck from the map and counted. -/
theorem SndP.shrink {base : Nat} {w : World} {g m : Nat} {s : Snd} {l : List (Int × Value)} (hB : Blk w g 98 #[.int .i64 s.stream, .int .i64 s.window, .int .i64 s.acked, .int .i64 s.bodies.length, .map (some m)])
    (hM : MapL Try.prog 3 w m (l.filter fun p => !(p.1 == (s.acked : Int)))) (hF : F2 (fun p q => p.1 = q.1 ∧ BodyV base w p.2 q.2) l (pendK s)) (lo : base ≤ g ∧ base ≤ m) (ok : SndOk { s with acked := s.acked + 1 }) :
    SndP base (w.setCell ⟨g, 2, none⟩ (.int .i64 ((s.acked : Int) + 1))) g m { s with acked := s.acked + 1 } := by
  have hgm : g ≠ m := hM.ne_blk hB
  have hK : Keeps [g] w (w.setCell ⟨g, 2, none⟩ (.int .i64 ((s.acked : Int) + 1))) := (Keeps.refl _ _).setCell (.inl (by simp)) _
  have hN : ∀ k ∈ [g], NoRow 5 w k := by intro k hk; simp at hk; subst hk; exact NoRow.of_blk hB (by decide)
  refine ⟨?_, ⟨_, hM.setCell (by simpa using hgm.symm) _, ?_⟩, lo, ok⟩
  · have := hB.set 2 (.int .i64 ((s.acked : Int) + 1))
    simpa using this
  · rw [← pendK_strike]
    exact F2.imp (F2.filter (p := fun p => !(p.1 == (s.acked : Int))) (q := fun p => !(p.1 == (s.acked : Int))) hF (fun p q h => by rw [h.1])) (fun p q _ h => And.intro h.1 (h.2.keeps hK hN))

set_option maxRecDepth 100000 in
set_option maxHeartbeats 2000000 in
theorem ackP_r4 (g m na : Nat) (w : World) (f4 : w.cell? ⟨g, 4, none⟩ = some (.map (some m))) (f2 : w.cell? ⟨g, 2, none⟩ = some (.int .i64 (na : Int))) (a : Act) (Q : Exit → Act → World → Prop) (hsize : 37 ≤ a.tmps.size)
    (s0 : a.tmps[0]? = some (.pointer (some ⟨g, 0, none⟩)))
    (hend : ∀ (xv0 xv1 xv2 xv3 xv4 xv5 xv6 xv7 : Value) (W : World), (xv0 = .pointer (some ⟨g, 0, none⟩)) → (xv1 = .pointer (some ⟨g, 0, none⟩)) → (xv2 = .pointer (some ⟨g, 4, none⟩)) → (xv3 = .map (some m)) → (xv4 = .pointer (some ⟨g, 0, none⟩)) → (xv5 = .pointer (some ⟨g, 0, none⟩)) → (xv6 = .pointer (some ⟨g, 2, none⟩)) → (xv7 = .int .i64 (na : Int)) → Ext w W → wpList Try.prog (rops Try.f38 4).toArray Q ((rops Try.f38 4).drop 8) ((((((((a.put (some 29) xv0).put (some 30) xv1).put (some 31) xv2).put (some 32) xv3).put (some 33) xv4).put (some 34) xv5).put (some 35) xv6).put (some 36) xv7) W) :
    (Code.region 4 (rops Try.f38 4).toArray true).wp Try.prog Q a w := by
  have hmono : ∀ (W W' : World) (j : Nat) (u : Value), Ext W W' → (fun (i : Nat) (v : Value) (W : World) => match i with
    | 0 => v = .pointer (some ⟨g, 0, none⟩)
    | 1 => v = .pointer (some ⟨g, 0, none⟩)
    | 2 => v = .pointer (some ⟨g, 4, none⟩)
    | 3 => v = .map (some m)
    | 4 => v = .pointer (some ⟨g, 0, none⟩)
    | 5 => v = .pointer (some ⟨g, 0, none⟩)
    | 6 => v = .pointer (some ⟨g, 2, none⟩)
    | 7 => v = .int .i64 (na : Int)
    | _ => True) j u W → (fun (i : Nat) (v : Value) (W : World) => match i with
    | 0 => v = .pointer (some ⟨g, 0, none⟩)
    | 1 => v = .pointer (some ⟨g, 0, none⟩)
    | 2 => v = .pointer (some ⟨g, 4, none⟩)
    | 3 => v = .map (some m)
    | 4 => v = .pointer (some ⟨g, 0, none⟩)
    | 5 => v = .pointer (some ⟨g, 0, none⟩)
    | 6 => v = .pointer (some ⟨g, 2, none⟩)
    | 7 => v = .int .i64 (na : Int)
    | _ => True) j u W' := by
    intro W W' j u hX h
    match j, h with
    | 0, h => exact h
    | 1, h => exact h
    | 2, h => exact h
    | 3, h => exact h
    | 4, h => exact h
    | 5, h => exact h
    | 6, h => exact h
    | 7, h => exact h
    | _ + 8, h => exact h
  have hsz : ∀ d, some d ∈ ([some 29, some 30, some 31, some 32, some 33, some 34, some 35, some 36] : List (Option Tmp)) → d < a.tmps.size := slots_lt (by decide) hsize
  refine wp_region_j 8 [some 29, some 30, some 31, some 32, some 33, some 34, some 35, some 36] [[], [0], [1], [2], [], [4], [5], [6]] [[], [], [], [], [], [], [], []] (fun (i : Nat) (v : Value) (W : World) => match i with
    | 0 => v = .pointer (some ⟨g, 0, none⟩)
    | 1 => v = .pointer (some ⟨g, 0, none⟩)
    | 2 => v = .pointer (some ⟨g, 4, none⟩)
    | 3 => v = .map (some m)
    | 4 => v = .pointer (some ⟨g, 0, none⟩)
    | 5 => v = .pointer (some ⟨g, 0, none⟩)
    | 6 => v = .pointer (some ⟨g, 2, none⟩)
    | 7 => v = .int .i64 (na : Int)
    | _ => True) (fun _ W => Ext w W) (by kernel_rfl) (by kernel_rfl) hsz (fun _ _ _ _ h => h) ((Ext.refl w).drew) ?_ ?_
  · clear hend
    simp only [rops, Try.f38, regOf, Option.bind_some, Nat.reduceBEq, if_true, if_false, Bool.false_eq_true, Option.getD_some]
    simp only [List.take_succ_cons, List.take_zero]
    refine ⟨?_, ?_, ?_, ?_, ?_, ?_, ?_, ?_, trivial⟩
    · intro done us W hJ hdep haft hnot b hb hb' K hK Q'
      have e0 := (hb' 0 (by simp)).trans s0
      clear hb hb'
      go_simp
      exact hK _ _ rfl (fun _ _ _ h => h) hJ
    · intro done us W hJ hdep haft hnot b hb hb' K hK Q'
      simp only [List.getD_cons_succ, List.getD_cons_zero, List.mem_cons, List.not_mem_nil, or_false, forall_eq_or_imp, forall_eq] at hdep
      have e29 := hb 0 29 rfl
      have d0 := hdep
      rw [d0.1] at e29
      clear hb hb' hdep d0
      go_simp
      exact hK _ _ rfl (fun _ _ _ h => h) hJ
    · intro done us W hJ hdep haft hnot b hb hb' K hK Q'
      simp only [List.getD_cons_succ, List.getD_cons_zero, List.mem_cons, List.not_mem_nil, or_false, forall_eq_or_imp, forall_eq] at hdep
      have e30 := hb 1 30 rfl
      have d1 := hdep
      rw [d1.1] at e30
      clear hb hb' hdep d1
      go_simp
      exact hK _ _ rfl (fun _ _ _ h => h) hJ
    · intro done us W hJ hdep haft hnot b hb hb' K hK Q'
      simp only [List.getD_cons_succ, List.getD_cons_zero, List.mem_cons, List.not_mem_nil, or_false, forall_eq_or_imp, forall_eq] at hdep
      have e31 := hb 2 31 rfl
      have d2 := hdep
      rw [d2.1] at e31
      clear hb hb' hdep d2
      have q := Ext.cell hJ f4
      go_simp
      exact hK _ _ rfl (fun _ _ _ h => h) hJ
    · intro done us W hJ hdep haft hnot b hb hb' K hK Q'
      have e0 := (hb' 0 (by simp)).trans s0
      clear hb hb'
      go_simp
      exact hK _ _ rfl (fun _ _ _ h => h) hJ
    · intro done us W hJ hdep haft hnot b hb hb' K hK Q'
      simp only [List.getD_cons_succ, List.getD_cons_zero, List.mem_cons, List.not_mem_nil, or_false, forall_eq_or_imp, forall_eq] at hdep
      have e33 := hb 4 33 rfl
      have d4 := hdep
      rw [d4.1] at e33
      clear hb hb' hdep d4
      go_simp
      exact hK _ _ rfl (fun _ _ _ h => h) hJ
    · intro done us W hJ hdep haft hnot b hb hb' K hK Q'
      simp only [List.getD_cons_succ, List.getD_cons_zero, List.mem_cons, List.not_mem_nil, or_false, forall_eq_or_imp, forall_eq] at hdep
      have e34 := hb 5 34 rfl
      have d5 := hdep
      rw [d5.1] at e34
      clear hb hb' hdep d5
      go_simp
      exact hK _ _ rfl (fun _ _ _ h => h) hJ
    · intro done us W hJ hdep haft hnot b hb hb' K hK Q'
      simp only [List.getD_cons_succ, List.getD_cons_zero, List.mem_cons, List.not_mem_nil, or_false, forall_eq_or_imp, forall_eq] at hdep
      have e35 := hb 6 35 rfl
      have d6 := hdep
      rw [d6.1] at e35
      clear hb hb' hdep d6
      have q := Ext.cell hJ f2
      go_simp
      exact hK _ _ rfl (fun _ _ _ h => h) hJ
  · intro us W hV hJ
    exact hend (us 0) (us 1) (us 2) (us 3) (us 4) (us 5) (us 6) (us 7) W (hV 0 (by omega)) (hV 1 (by omega)) (hV 2 (by omega)) (hV 3 (by omega)) (hV 4 (by omega)) (hV 5 (by omega)) (hV 6 (by omega)) (hV 7 (by omega)) hJ

set_option maxRecDepth 100000 in
set_option maxHeartbeats 2000000 in
theorem ackP_any (base g m : Nat) (s : Snd) (n : Int) (w : World) (h : SndP base w g m s) (h3 : s.bodies.length ≤ 1000000) :
    Calls Try.prog 38 #[.pointer (some ⟨g, 0, none⟩), .int .i64 n] w (fun e w' => e = .returned (.int .i64 (ackS s n).2) ∧ SndP base w' g m (ackS s n).1 ∧ Keeps [g, m] w w') := by
  have HS := Lib.hid h
  obtain ⟨lw0, lw1⟩ := h.ok.window
  have la := h.ok.acked
  have f1 := h.blk.cell 1
  have f2 := h.blk.cell 2
  have f3 := h.blk.cell 3
  clear h
  go_enter Try.func38, Try.ntmps38
  go_wp2_with fail
  refine (noneP_any g s.window _ f1 (by omega)).mono ?_
  rintro e _ ⟨rfl, rfl⟩
  by_cases hbad : n < s.acked ∨ (s.bodies.length : Int) < n
  · have e : ackS s n = (s, 2) := by unfold ackS; rw [if_pos hbad]
    by_cases h1 : (s.bodies.length : Int) < n
    · have q1 : decide ((s.bodies.length : Int) < n) = true := decide_eq_true h1
      go_wp2
      go_ret
      rw [e]
      exact ⟨rfl, HS.out, Keeps.refl _ _⟩
    · have q1 : decide ((s.bodies.length : Int) < n) = false := decide_eq_false h1
      have q2 : decide (n < (s.acked : Int)) = true := decide_eq_true (by omega)
      go_wp2
      go_ret
      rw [e]
      exact ⟨rfl, HS.out, Keeps.refl _ _⟩
  · have q1 : decide ((s.bodies.length : Int) < n) = false := decide_eq_false (by omega)
    have q2 : decide (n < (s.acked : Int)) = false := decide_eq_false (by omega)
    have e : ackS s n = ({ s with acked := n.toNat }, 0) := by unfold ackS; rw [if_neg hbad]
    have hn0 : (s.acked : Int) ≤ n := by omega
    have hn1 : n ≤ (s.bodies.length : Int) := by omega
    have HE := Lib.hid e
    clear e hbad
    go_wp2_with fail
    clear f1 f2 f3
    go_loopg [] (n.toNat - s.acked) (fun f wr => ∃ k : Nat, f = n.toNat - s.acked - k ∧ (s.acked : Int) + k ≤ n ∧ SndP base wr g m { s with acked := s.acked + k } ∧ Keeps [g, m] w wr)
    case atStart => exact ⟨0, rfl, by omega, HS.out, Keeps.refl _ _⟩
    case round =>
      obtain ⟨k, rfl, hk, hS, hKK⟩ := hrel
      have hB := hS.blk
      obtain ⟨na, hna⟩ : ∃ na, s.acked + k = na := ⟨_, rfl⟩
      rw [hna] at hS
      simp only [hna] at hB
      have HN := Lib.hid hna
      have hkn : (na : Int) ≤ n := by omega
      have HR := Lib.hid hS
      have HK := Lib.hid hKK
      have HB := Lib.hid hB
      clear hna hS hB hKK
      have f2 := HB.out.cell 2
      by_cases hlt : (na : Int) < n
      · have q3 : decide ((na : Int) < n) = true := decide_eq_true hlt
        go_wp2_with fail
        clear f2
        refine ackP_r4 g m na _ (HB.out.cell 4) (HB.out.cell 2) _ _ (by simp) rfl ?_
        rintro xv0 xv1 xv2 xv3 xv4 xv5 xv6 xv7 W4 rfl rfl rfl rfl rfl rfl rfl rfl hXW
        simp only [rops, Try.f38, regOf, Option.bind_some, Nat.reduceBEq, if_true, if_false, Bool.false_eq_true, Option.getD_some, List.drop_succ_cons, List.drop_zero]
        simp only [Act.put, List.setIfInBounds_toArray, List.set_cons_succ, List.set_cons_zero]
        obtain ⟨l, hM, hF⟩ := (HR.out.ext hXW).map
        have hB4 := HB.out.ext hXW
        obtain ⟨v, hl, _⟩ := (HR.out.ext hXW).find_ l hF na (by simp) (by simp only; omega)
        refine wpList_del_yes _ rfl (.tmp 32) (.tmp 36) 96 rfl 22 keyed_int und_int und_mapB rfl hM (na : Int) rfl (by omega) v hl ?_
        intro w5 hM5 hG5
        have hgm : g ≠ m := hM.ne_blk hB4
        have hK5 : Keeps [m] W4 w5 := Keeps.of_grown hG5 (by rintro k ⟨⟩; simp)
        have hN5 : ∀ k ∈ [m], NoRow 5 W4 k := by intro k hk; simp at hk; subst hk; exact hM.notRow _
        have hB5 := hB4.grown hG5 (by simpa using hgm)
        have hF5 := hF.imp fun p q _ h => And.intro h.1 (h.2.keeps hK5 hN5)
        have hKK5 := (HK.out.trans (Keeps.of_ext hXW _)).grown hG5 (by rintro k ⟨⟩; simp)
        have hok := HR.out.ok
        have f2 := hB5.cell 2
        have z2 := hB5.free 2
        have HB5 := Lib.hid hB5
        have HM5 := Lib.hid hM5
        have HF5 := Lib.hid hF5
        have HK5 := Lib.hid hKK5
        clear hB5 hM5 hF5 hKK5 hK5 hN5 hG5 hB4 hF hM hl hXW
        go_wp2
        go_roundg (n.toNat - s.acked - (k + 1))
        case rel =>
          have hr := HN.out
          refine ⟨k + 1, rfl, by omega, ?_, HK5.out.setCell (.inl (by simp)) _⟩
          have := SndP.shrink (s := { s with acked := na }) HB5.out HM5.out HF5.out HR.out.lo ⟨hok.stream, hok.window, by simp only; omega, by have := hok.room; simp only at this ⊢; omega, hok.body⟩
          rw [show s.acked + (k + 1) = na + 1 by omega]
          exact this
        case measure => have hr := HN.out; omega
      · have q3 : decide ((na : Int) < n) = false := decide_eq_false hlt
        go_wp2
        go_ret
        rw [HE.out]
        refine ⟨rfl, ?_, HK.out⟩
        have := HR.out
        rw [show na = n.toNat by omega] at this
        exact this


set_option maxRecDepth 100000 in
set_option maxHeartbeats 2000000 in
theorem pendP_any (base g m : Nat) (s : Snd) (w : World) (h : SndP base w g m s) (h3 : s.bodies.length ≤ 1000000) :
    Calls Try.prog 41 #[.pointer (some ⟨g, 0, none⟩)] w (fun e w' => ∃ v, e = .returned v ∧ FrL w.heap.size w' v (pendS s) ∧ Ext w w') := by
  have HS := Lib.hid h
  obtain ⟨lw0, lw1⟩ := h.ok.window
  have la := h.ok.acked
  have f1 := h.blk.cell 1
  have f2 := h.blk.cell 2
  have f3 := h.blk.cell 3
  clear h
  go_enter Try.func41, Try.ntmps41
  go_wp2_with fail
  refine (noneP_any g s.window _ f1 (by omega)).mono ?_
  rintro e _ ⟨rfl, rfl⟩
  go_wp2_with fail
  clear f1 f2 f3
  go_loopg [3, 4] (s.bodies.length - s.acked) (fun f v i wr => ∃ (k : Nat) (q : Nat) (fs : List Fr), f = s.bodies.length - s.acked - k ∧ s.acked + k ≤ s.bodies.length ∧ Hid (q = s.acked + k) ∧ i = .int .i64 (q : Int) ∧ Hid (fs = (pendS s).take k) ∧ Hid (FrL w.heap.size wr v fs) ∧ Hid (Ext w wr))
  case atStart => exact ⟨0, s.acked, [], rfl, by omega, Lib.hid rfl, rfl, Lib.hid (by simp), Lib.hid (FrL.nil _ _), Lib.hid (Ext.refl w)⟩
  case round =>
    obtain ⟨k, q, fs, rfl, hk, HQ, rfl, HF, HL, HX⟩ := hrel
    have hk0 : s.acked ≤ q := by have := HQ.out; omega
    have hk1 : q ≤ s.bodies.length := by have := HQ.out; omega
    have HR := Lib.hid (HS.out.ext HX.out)
    have hsl : ∃ A0 c0, u3 = .slice A0 fs.length c0 := by obtain ⟨vs0, hown0, _⟩ := HL.out; exact own_slice hown0
    obtain ⟨A0, c0, rfl⟩ := hsl
    have f3 := HR.out.blk.cell 3
    have hfl : fs.length ≤ k := by rw [HF.out, List.length_take]; omega
    by_cases hlt : q < s.bodies.length
    · have q3 : decide ((q : Int) < (s.bodies.length : Int)) = true := decide_eq_true (by omega)
      go_wp2_with fail
      refine (frameP_any base g m q s _ HR.out hk0 hlt (by omega)).mono ?_
      clear f3
      rintro e w1 ⟨_, rfl, ⟨A1, n1, c1, rfl, hO1⟩, hX1⟩
      have HX1 := Lib.hid hX1
      have HO1 := Lib.hid (hO1.mono HX.out.size)
      obtain ⟨vs, hown1, hcs1⟩ := HL.out.ext hX1
      have HC1 := Lib.hid hcs1
      clear hX1 hO1 hcs1
      go_wp2_with (at_builtin; refine wpList_app _ elF rfl _ _ rfl w.heap.size (.slice A0 fs.length c0) fs.length vs rfl (hown1.alloc _) _ 1 1 [.int .i64 s.stream, .int .i64 (q : Int), .slice A1 n1 c1] rfl rfl (At.new' _ [_, _, _] _ rfl) (by simp [Value.oneCell']) (by omega) (by unfold maxLen; omega) (by have := HX.out.size; have := HX1.out.size; simp; omega) ?_; intro v2 w2 hown2 hgr2 hdj; clear hdj)
      go_roundg (s.bodies.length - s.acked - (k + 1))
      case rel =>
        refine ⟨k + 1, q + 1, _, rfl, by have := HQ.out; omega, Lib.hid (by have := HQ.out; omega), by go_num, Lib.hid rfl, Lib.hid ?_, Lib.hid ((HX.out.trans HX1.out).push hown1 hgr2)⟩
        rw [pendS_take s (by have := HQ.out; omega), ← HQ.out, ← HF.out]
        exact FrL.snoc hown1 HC1.out HO1.out _ (by simpa using hown2) hgr2
      case measure => have := HQ.out; omega
    · have q3 : decide ((q : Int) < (s.bodies.length : Int)) = false := decide_eq_false (by omega)
      go_wp2
      go_ret
      refine ⟨_, rfl, ?_, HX.out⟩
      have e : fs = pendS s := by rw [HF.out, List.take_of_length_le]; rw [pendS_len]; have := HQ.out; omega
      rw [← e]
      exact HL.out


end Go.Proofs.Ytekhmfliaojabaa
