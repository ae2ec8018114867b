/- Walk: what Unpack (program) returns: 'unp' of the bytes. Condition: the slice reads as bytes. -/
import Derived.Test.YtekhmfliaojabaaSum
import Derived.Test.YtekhmfliaojabaaWrite
import Derived.Test.YtekhmfliaojabaaFrame
import Derived.Test.YtekhmfliaojabaaBase2
namespace Go.Proofs.Ytekhmfliaojabaa
open Go.RowKit

set_option maxHeartbeats 400000 in
theorem unpack_none (A : Option Addr) (c : Nat) (w : World) : Calls Try.prog 31 #[.slice A 0 c] w (RetF w (unp [])) := by
  go_enter Try.func31, Try.ntmps31
  go_wp2
  refine bodyPost_ret (v := .tuple #[.agg #[.int .i64 0, .int .i64 0, .slice none 0 0], .int .i64 0, .int .i64 21]) (by simp [results, Try.results31, go_sem]) rfl ?_
  exact RetF.bad (unp_none rfl) rfl ((Ext.refl w).alloc _)

set_option maxHeartbeats 400000 in
theorem unpack_mark (b off n c : Nat) (xs : List Int) (x : Int) (w : World) (H : Hid (Ints .u8 w (some ⟨b, off, none⟩) n xs)) (hn : 0 < n) (hx : Hid (xs.getD 0 0 = x)) (hne : (x != 165) = true) (hc0 : w.cell? ⟨b, off, none⟩ = some (.int .u8 x)) :
    Calls Try.prog 31 #[.slice (some ⟨b, off, none⟩) n c] w (RetF w (unp xs)) := by
  have hb := World.block_lt_of_cell? w _ hc0
  have h0 : ((n : Int) == 0) = false := by simp; omega
  have e0 : (0 : Int) < (n : Int) := by omega
  simp only at hb
  go_enter Try.func31, Try.ntmps31
  go_wp2
  refine bodyPost_ret (v := .tuple #[.agg #[.int .i64 0, .int .i64 0, .slice none 0 0], .int .i64 0, .int .i64 22]) (by simp [results, Try.results31, go_sem]) rfl ?_
  exact RetF.bad (unp_mark (by rw [H.out.1]; omega) (by rw [hx.out]; simpa using hne)) rfl ((Ext.refl w).alloc _)

set_option maxHeartbeats 400000 in
theorem unpack_short (b off n c : Nat) (xs : List Int) (w : World) (H : Hid (Ints .u8 w (some ⟨b, off, none⟩) n xs)) (hn : 0 < n) (hn8 : n < 8) (hx : Hid (xs.getD 0 0 = 165)) (hc0 : w.cell? ⟨b, off, none⟩ = some (.int .u8 165)) :
    Calls Try.prog 31 #[.slice (some ⟨b, off, none⟩) n c] w (RetF w (unp xs)) := by
  have hb := World.block_lt_of_cell? w _ hc0
  have h0 : ((n : Int) == 0) = false := by simp; omega
  have e0 : (0 : Int) < (n : Int) := by omega
  simp only at hb
  go_enter Try.func31, Try.ntmps31
  go_wp2
  refine bodyPost_ret (v := .tuple #[.agg #[.int .i64 0, .int .i64 0, .slice none 0 0], .int .i64 0, .int .i64 21]) (by simp [results, Try.results31, go_sem]) rfl ?_
  exact RetF.bad (unp_short (by rw [H.out.1]; omega) hx.out (by rw [H.out.1]; omega)) rfl ((Ext.refl w).alloc _)

set_option maxRecDepth 100000 in
set_option maxHeartbeats 2000000 in
theorem unpack_big (b off n c s : Nat) (xs : List Int) (x1 x6 x7 : Int) (w : World) (H : Hid (Ints .u8 w (some ⟨b, off, none⟩) n xs)) (hnc : n ≤ c) (hcm : c ≤ 9223372036854775807) (hn : 8 ≤ n) (hx : Hid (xs.getD 0 0 = 165)) (h1x : Hid (xs.getD 1 0 = x1)) (hb1 : 0 ≤ x1 ∧ x1 ≤ 255) (hs : Hid (szN xs = s)) (hor : bits .or .i64 (x6 * 256) x7 = (s : Int)) (hb6 : 0 ≤ x6 ∧ x6 ≤ 255) (hb7 : 0 ≤ x7 ∧ x7 ≤ 255)
    (hc0 : w.cell? ⟨b, off, none⟩ = some (.int .u8 165)) (hc1 : w.cell? ⟨b, off + 1, none⟩ = some (.int .u8 x1)) (hc6 : w.cell? ⟨b, off + 6, none⟩ = some (.int .u8 x6)) (hc7 : w.cell? ⟨b, off + 7, none⟩ = some (.int .u8 x7)) :
    Calls Try.prog 31 #[.slice (some ⟨b, off, none⟩) n c] w (RetF w (unp xs)) := by
  have hb := World.block_lt_of_cell? w _ hc0
  have h0 : ((n : Int) == 0) = false := by simp; omega
  have e0 : (0 : Int) < (n : Int) := by omega
  have e1 : (1 : Int) < (n : Int) := by omega
  have e6 : (6 : Int) < (n : Int) := by omega
  have e7 : (7 : Int) < (n : Int) := by omega
  obtain ⟨ha6, hb6⟩ := hb6
  obtain ⟨ha7, hb7⟩ := hb7
  simp only at hb
  go_enter Try.func31, Try.ntmps31
  go_wp2
  go_quiet (fail)
  have hX1 : Ext w ((w.alloc (.cells #[.int .i64 0, .int .i64 0, .slice none 0 0] 38)).drewN nq) := ((Ext.refl w).alloc _).drewN _
  have hB1 : Blk ((w.alloc (.cells #[.int .i64 0, .int .i64 0, .slice none 0 0] 38)).drewN nq) w.heap.size 38 #[.int .i64 0, .int .i64 0, .slice none 0 0] := (Blk.new w _ _).drewN _
  generalize (w.alloc (.cells #[.int .i64 0, .int .i64 0, .slice none 0 0] 38)).drewN nq = w1 at hX1 hB1 ⊢
  obtain ⟨r0, r1, r2, f0, f1, f2⟩ := hB1.three
  replace hc1 := hX1.cell hc1
  clear hc0 hc6 hc7
  have HX1 := Lib.hid hX1
  have HB1 := Lib.hid hB1
  clear hX1 hB1
  by_cases h3 : 1024 < s
  · go_wp2
    refine bodyPost_ret (v := .tuple #[.agg #[.int .i64 0, .int .i64 0, .slice none 0 0], .int .i64 0, .int .i64 23]) (by simp [results, Try.results31, go_sem, *]) rfl ?_
    exact RetF.bad (unp_long hx.out (by rw [H.out.1]; omega) (by rw [hs.out]; omega)) rfl (((HX1.out.setCell (Nat.le_refl _) _).setCell (Nat.le_refl _) _).setCell (Nat.le_refl _) _)
  by_cases h4 : n < 12 + s
  · have h4' : (n : Int) < 8 + (s : Int) + 4 := by omega
    go_wp2
    refine bodyPost_ret (v := .tuple #[.agg #[.int .i64 0, .int .i64 0, .slice none 0 0], .int .i64 0, .int .i64 21]) (by simp [results, Try.results31, go_sem, *]) rfl ?_
    exact RetF.bad (unp_cut hx.out (by rw [H.out.1]; omega) (by rw [hs.out]; omega) (by rw [hs.out, H.out.1]; omega)) rfl (((HX1.out.setCell (Nat.le_refl _) _).setCell (Nat.le_refl _) _).setCell (Nat.le_refl _) _)
  have hI := H.out.ext HX1.out
  have hIt : Ints .u8 w1 (some ⟨b, off, none⟩) (8 + s) (xs.take (8 + s)) := hI.take (by omega)
  have hId : Ints .u8 w1 (some ⟨b, off + (8 + s), none⟩) (n - (8 + s)) (xs.drop (8 + s)) := hI.drop (8 + s) (fun _ b' off' e => by injection e with e; injection e with e1 e2; subst e1 e2; rfl)
  have HIt := Lib.hid hIt
  have HId := Lib.hid hId
  clear hI hIt hId
  have hne : ¬ c = 8 + s := by omega
  have hl1 : (8 : Int) + (s : Int) ≤ (n : Int) := by omega
  have hl2 : (8 : Int) + (s : Int) ≤ (c : Int) := by omega
  go_wp2
  have e8 : (0 : Int) ≤ 8 + (s : Int) := by omega
  have e9 : ((8 : Int) + (s : Int)).toNat = 8 + s := by omega
  obtain ⟨q1, hq1⟩ : ∃ q, bigN ((xs.drop (8 + s)).take 4) = q := ⟨_, rfl⟩
  obtain ⟨q2, hq2⟩ : ∃ q, crc (xs.take (8 + s)) = q := ⟨_, rfl⟩
  have H1 : Hid (∀ m, Calls Try.prog 72 #[.slice (some ⟨b, off + (8 + s), none⟩) (n - (8 + s)) (c - (8 + s))] (w1.drewN m) fun e w' => e = .returned (.int .u32 q1) ∧ ∃ k, w' = (w1.drewN m).drewN k) := fun m => by
    rw [← hq1]; exact number32_any _ _ _ _ _ (HId.out.ext ((Ext.refl w1).drewN m)) (by omega)
  have H2 : Hid (∀ m, Calls Try.prog 51 #[.slice (some ⟨b, off, none⟩) (8 + s) c] (w1.drewN m) fun e w' => e = .returned (.int .u32 q2) ∧ w1.drewN m = w') := fun m => by
    rw [← hq2]; exact checksum_any _ _ _ _ _ (HIt.out.ext ((Ext.refl w1).drewN m)) (by omega)
  have HQ1 := Lib.hid hq1
  have HQ2 := Lib.hid hq2
  clear hq1 hq2
  go_quiet ((first | (go_at_call 72; exact Calls.quiet_of (H1.out _)) | (go_at_call 51; exact quiet_left (H2.out _))))
  have hX2 : Ext w (w1.drewN nq) := HX1.out.drewN _
  have hB2 : Blk (w1.drewN nq) w.heap.size 38 #[.int .i64 0, .int .i64 0, .slice none 0 0] := HB1.out.drewN _
  replace hc1 : (w1.drewN nq).cell? ⟨b, off + 1, none⟩ = some (.int .u8 x1) := hc1
  have hId2 : Ints .u8 (w1.drewN nq) (some ⟨b, off + 2, none⟩) (n - 2) (xs.drop 2) := (H.out.ext hX2).drop 2 (fun _ b' off' e => by injection e with e; injection e with e1 e2; subst e1 e2; rfl)
  have hIb : Ints .u8 (w1.drewN nq) (some ⟨b, off, none⟩) n xs := H.out.ext hX2
  generalize w1.drewN nq = w2 at hX2 hB2 hc1 hId2 hIb ⊢
  have HId2 := Lib.hid hId2
  have HIb := Lib.hid hIb
  clear r0 r1 r2 f0 f1 f2 HIt HId H1 H2 HB1 HX1 hId2 hIb
  obtain ⟨r0, r1, r2, f0, f1, f2⟩ := hB2.three
  have HX2 := Lib.hid hX2
  have HB2 := Lib.hid hB2
  clear hX2 hB2
  by_cases hq : q1 = q2
  · subst hq
    go_wp2
    have hc2 : ¬ c = 2 := by omega
    have e2 : (2 : Int) ≤ (n : Int) := by omega
    obtain ⟨q3, hq3⟩ : ∃ q, bigN ((xs.drop 2).take 4) = q := ⟨_, rfl⟩
    have hq3r : 0 ≤ q3 ∧ q3 ≤ 4294967295 := by
      have h1 := bigN_range (xs := (xs.drop 2).take 4) (fun x hx => u8_bounds (H.out.2.1 x (List.mem_of_mem_drop (List.mem_of_mem_take hx))))
      have h2 : ((xs.drop 2).take 4).length = 4 := by rw [List.length_take, List.length_drop, H.out.1]; omega
      rw [h2, hq3] at h1
      have : (256 : Int) ^ 4 = 4294967296 := by decide
      omega
    have H1 : Hid (∀ W, Ext w2 W → Calls Try.prog 72 #[.slice (some ⟨b, off + 2, none⟩) (n - 2) (c - 2)] W fun e w' => e = .returned (.int .u32 q3) ∧ Ext w2 w' ∧ Ext W w') := fun W hW => by
      rw [← hq3]; exact (number32_any _ _ _ _ _ (HId2.out.ext hW) (by omega)).mono fun e w' ⟨he, k, hk⟩ => ⟨he, by rw [hk]; exact hW.drewN _, by rw [hk]; exact (Ext.refl _).drewN _⟩
    have HQ3 := Lib.hid hq3
    clear hq3
    obtain ⟨hq30, hq31⟩ := hq3r
    obtain ⟨hb10, hb11⟩ := hb1
    have hblt := World.block_lt_of_cell? w2 _ hc1
    simp only at hblt
    have hw1 : IntKind.i64.wrap x1 = x1 := IntWalk.i64_in _ (by omega)
    have hw3 : IntKind.i64.wrap q3 = q3 := IntWalk.i64_in _ (by omega)
    go_upto_region 15 with (fail)
    go_cut [7] (fun s7 wx => ∃ g : Nat, s7 = .pointer (some ⟨g, 0, none⟩) ∧ w2.heap.size ≤ g ∧ Blk wx g 38 #[.int .i64 x1, .int .i64 q3, .slice none 0 0] ∧ Ext w2 wx)
    case first =>
      go_region_held3 (fun w' => w'.cell? ⟨b, off + 1, none⟩ = some (.int .u8 x1)) (first | go_keep | exact Ext.cell (by repeat (first | exact Ext.refl _ | assumption | refine Ext.drew ?_ | refine Ext.drewN ?_ _ | refine Ext.alloc ?_ _ | refine Ext.setCell ?_ (Nat.le_refl _) _)) hc1) (first | (go_at_call 72; refine (H1.out _ (by repeat (first | exact Ext.refl _ | refine Ext.drew ?_ | refine Ext.drewN ?_ _ | refine Ext.alloc ?_ _))).mono ?_; rintro e w' ⟨rfl, hE', hE2⟩; (first | (have hbn := Blk.ext (Blk.drew (Blk.new w2 38 #[.int .i64 0, .int .i64 0, .slice none 0 0])) hE2; obtain ⟨t0, t1, t2, t3, t4, t5⟩ := hbn.three; have HBn := Lib.hid hbn; clear hE2 hbn) | clear hE2)))
      · go_wp2_with fail
        go_meet
        exact ⟨w'.heap.size, rfl, hE'.size, Blk.new _ _ _, hE'.alloc _⟩
      · go_wp2_with fail
        go_meet
        exact ⟨w2.heap.size, rfl, Nat.le_refl _, ((HBn.out.set 0 _).set 1 _).set 2 _, ((hE'.setCell (Nat.le_refl _) _).setCell (Nat.le_refl _) _).setCell (Nat.le_refl _) _⟩
    case rest =>
      obtain ⟨g, rfl, hgl, hBg, hXc⟩ := hcut
      have HBg := Lib.hid hBg
      have HB3 := Lib.hid (HB2.out.ext hXc)
      have HX3 := Lib.hid (HX2.out.trans hXc)
      have HIc := Lib.hid (HIb.out.ext hXc)
      have hgne : w.heap.size ≠ g := Nat.ne_of_lt (Nat.lt_of_lt_of_le HB2.out.lt hgl)
      have hbw : b < wc.heap.size := Nat.lt_of_lt_of_le hblt hXc.size
      clear H1 hc1 hXc hBg hblt
      obtain ⟨body, hbody⟩ : ∃ l, (xs.take (8 + s)).drop 8 = l := ⟨_, rfl⟩
      have hI8 : Ints .u8 wc (some ⟨b, off + 8, none⟩) s body := by
        have h8 := (HIc.out.take (m := 8 + s) (by omega)).drop 8 (A' := some ⟨b, off + 8, none⟩) (fun _ b' off' e => by injection e with e; injection e with e1 e2; subst e1 e2; rfl)
        rw [hbody] at h8
        have e : 8 + s - 8 = s := by omega
        rw [e] at h8
        exact h8
      have HI8 := Lib.hid hI8
      have HBO := Lib.hid hbody
      clear hI8 hbody
      have hc8 : ¬ c = 8 := by omega
      go_wp2_with (at_builtin; refine wpList_app _ elB rfl _ _ rfl wc.heap.size (.slice (some ⟨wc.heap.size, 0, none⟩) 0 0) 0 [] rfl (World.ownsRow_lit wc #[] 0 (Nat.le_refl _) (by unfold maxLen; omega) rfl) (some ⟨b, off + 8, none⟩) s (c - 8) (body.map (.int .u8)) rfl (by rw [List.length_map, HI8.out.1]; omega) (HI8.out.ext ((Ext.refl wc).alloc _)).2.2 (ints_oneCell _ _) (by omega) (by unfold maxLen; omega) (by simp) ?_; intro v6 w6 hown6 hgr6 hdj; clear hdj; have hX6 : Ext wc w6 := ((Ext.refl wc).alloc _).grown hgr6 (fun k hk => by simp [Value.ownBlock] at hk; omega); have HO6 := Lib.hid hown6; have HX6 := Lib.hid hX6; clear hown6 hgr6 hX6; obtain ⟨r0, r1, r2, f0, f1, f2⟩ := (HB3.out.ext HX6.out).three; obtain ⟨s0, s1, s2, t0, t1, t2⟩ := (HBg.out.ext HX6.out).three; obtain ⟨A6, c6, hv6⟩ := own_slice HO6.out; rw [hv6]; rw [hv6] at HO6; clear hv6)
      refine bodyPost_ret (v := .tuple #[.agg #[.int .i64 x1, .int .i64 q3, .slice A6 (0 + s) c6], .int .i64 (8 + (s : Int) + 4), .int .i64 0]) (by simp [results, Try.results31, go_sem, *]) rfl ?_
      rw [unp_ok hx.out (by rw [hs.out]; omega) (by rw [hs.out, H.out.1]; omega) (by rw [hs.out, HQ1.out, HQ2.out])]
      have hgc : g < wc.heap.size := HBg.out.lt
      have hwc : w.heap.size < wc.heap.size := HB3.out.lt
      have hg2 : w.heap.size ≤ g := Nat.le_trans HX2.out.size hgl
      refine ⟨A6, 0 + s, c6, ?_, ⟨?_, ?_, ?_⟩, ?_⟩
      · simp only [h1x.out, HQ3.out, hs.out]
        rw [show (12 : Int) + (s : Int) = 8 + (s : Int) + 4 by omega]
      · simp only [hs.out, HBO.out]
        have := HO6.out
        simp only [List.nil_append] at this
        exact World.ownsRow.mono' (ownsRow_setCell_below (ownsRow_setCell_below (ownsRow_setCell_below (ownsRow_setCell_below this hgc _) hwc _) hwc _) hwc _) (Nat.le_of_lt hwc)
      · simp only [hs.out, HBO.out]
        rw [HI8.out.1]; omega
      · simp only [hs.out, HBO.out]
        exact HI8.out.2.1
      · exact ((((HX3.out.trans HX6.out).setCell hg2 _).setCell (Nat.le_refl _) _).setCell (Nat.le_refl _) _).setCell (Nat.le_refl _) _
  · have hqb : (q1 != q2) = true := by simpa using hq
    go_wp2
    refine bodyPost_ret (v := .tuple #[.agg #[.int .i64 0, .int .i64 0, .slice none 0 0], .int .i64 0, .int .i64 24]) (by simp [results, Try.results31, go_sem, *]) rfl ?_
    exact RetF.bad (unp_sum hx.out (by rw [hs.out]; omega) (by rw [hs.out, H.out.1]; omega) (by rw [hs.out, HQ1.out, HQ2.out]; exact hq)) rfl (((HX2.out.setCell (Nat.le_refl _) _).setCell (Nat.le_refl _) _).setCell (Nat.le_refl _) _)

theorem unpack_any (A : Option Addr) (n c : Nat) (xs : List Int) (w : World) (h : Ints .u8 w A n xs) (hnc : n ≤ c) (hcm : c ≤ 9223372036854775807) :
    Calls Try.prog 31 #[.slice A n c] w (RetF w (unp xs)) := by
  rcases Nat.eq_zero_or_pos n with h0 | h0
  · subst h0
    obtain rfl : xs = [] := List.eq_nil_of_length_eq_zero h.1
    exact unpack_none A c w
  have hb : ∀ x ∈ xs, 0 ≤ x ∧ x ≤ 255 := fun x hx => u8_bounds (h.2.1 x hx)
  obtain ⟨b, off, rfl, hc⟩ := h.2.2 (by intro e; have := h.1; rw [List.map_eq_nil_iff] at e; subst e; simp at this; omega)
  have g : ∀ j, j < n → ∃ x, xs.getD j 0 = x ∧ (0 ≤ x ∧ x ≤ 255) ∧ w.cell? ⟨b, off + j, none⟩ = some (.int .u8 x) := fun j hj => by
    have hj' : j < xs.length := by rw [h.1]; exact hj
    refine ⟨xs[j], by simp [List.getD, List.getElem?_eq_getElem hj'], hb _ (List.getElem_mem hj'), hc j _ ?_⟩
    rw [List.getElem?_map, List.getElem?_eq_getElem hj']; rfl
  obtain ⟨x0, hx0, _, hc0⟩ := g 0 h0
  by_cases hm : x0 = 165
  · subst hm
    by_cases h8 : n < 8
    · exact unpack_short b off n c xs w h h0 h8 hx0 hc0
    · obtain ⟨x1, hx1, hb1, hc1⟩ := g 1 (by omega)
      obtain ⟨x6, hx6, hb6, hc6⟩ := g 6 (by omega)
      obtain ⟨x7, hx7, hb7, hc7⟩ := g 7 (by omega)
      have hsz : ((szN xs : Nat) : Int) = x6 * 256 + x7 := by unfold szN; rw [hx6, hx7]; omega
      exact unpack_big b off n c (szN xs) xs x1 x6 x7 w h hnc hcm (by omega) hx0 hx1 hb1 rfl (by rw [or_size hb6 hb7, hsz]) hb6 hb7 hc0 hc1 hc6 hc7
  · exact unpack_mark b off n c xs x0 w h h0 hx0 (by simpa using hm) hc0
end Go.Proofs.Ytekhmfliaojabaa
