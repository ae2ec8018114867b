/- Walk: what Unpack (reference) returns: 'unp' of the bytes. Condition: the slice reads as bytes. -/
import Derived.Test.YtekhmfliaojabaaSum
import Derived.Test.YtekhmfliaojabaaJoin
import Derived.Test.YtekhmfliaojabaaFrame
import Derived.Test.YtekhmfliaojabaaBase2
namespace Go.Proofs.Ytekhmfliaojabaa
open Go.RowKit

set_option maxHeartbeats 400000 in
theorem unpackR_none (A : Option Addr) (c : Nat) (w : World) : Calls Try.prog 32 #[.slice A 0 c] w (RetF w (unp [])) := by
  go_enter Try.func32, Try.ntmps32
  go_wp2
  refine bodyPost_ret (v := .tuple #[.agg #[.int .i64 0, .int .i64 0, .slice none 0 0], .int .i64 0, .int .i64 21]) (by simp [results, Try.results32, go_sem]) rfl ?_
  exact RetF.bad (unp_none rfl) rfl ((Ext.refl w).alloc _)

set_option maxHeartbeats 400000 in
theorem unpackR_mark (b off n c : Nat) (xs : List Int) (x : Int) (w : World) (H : Hid (Ints .u8 w (some ⟨b, off, none⟩) n xs)) (hn : 0 < n) (hx : Hid (xs.getD 0 0 = x)) (hne : (x != 165) = true) (hc0 : w.cell? ⟨b, off, none⟩ = some (.int .u8 x)) :
    Calls Try.prog 32 #[.slice (some ⟨b, off, none⟩) n c] w (RetF w (unp xs)) := by
  have hb := World.block_lt_of_cell? w _ hc0
  have h0 : ((n : Int) == 0) = false := by simp; omega
  have e0 : (0 : Int) < (n : Int) := by omega
  simp only at hb
  go_enter Try.func32, Try.ntmps32
  go_wp2
  refine bodyPost_ret (v := .tuple #[.agg #[.int .i64 0, .int .i64 0, .slice none 0 0], .int .i64 0, .int .i64 22]) (by simp [results, Try.results32, go_sem]) rfl ?_
  exact RetF.bad (unp_mark (by rw [H.out.1]; omega) (by rw [hx.out]; simpa using hne)) rfl ((Ext.refl w).alloc _)

set_option maxHeartbeats 400000 in
theorem unpackR_short (b off n c : Nat) (xs : List Int) (w : World) (H : Hid (Ints .u8 w (some ⟨b, off, none⟩) n xs)) (hn : 0 < n) (hn8 : n < 8) (hx : Hid (xs.getD 0 0 = 165)) (hc0 : w.cell? ⟨b, off, none⟩ = some (.int .u8 165)) :
    Calls Try.prog 32 #[.slice (some ⟨b, off, none⟩) n c] w (RetF w (unp xs)) := by
  have hb := World.block_lt_of_cell? w _ hc0
  have h0 : ((n : Int) == 0) = false := by simp; omega
  have e0 : (0 : Int) < (n : Int) := by omega
  simp only at hb
  go_enter Try.func32, Try.ntmps32
  go_wp2
  refine bodyPost_ret (v := .tuple #[.agg #[.int .i64 0, .int .i64 0, .slice none 0 0], .int .i64 0, .int .i64 21]) (by simp [results, Try.results32, go_sem]) rfl ?_
  exact RetF.bad (unp_short (by rw [H.out.1]; omega) hx.out (by rw [H.out.1]; omega)) rfl ((Ext.refl w).alloc _)

set_option maxRecDepth 100000 in
set_option maxHeartbeats 2000000 in
theorem unpackR_big (b off n c s : Nat) (xs : List Int) (x1 x6 x7 : Int) (w : World) (H : Hid (Ints .u8 w (some ⟨b, off, none⟩) n xs)) (hnc : n ≤ c) (hcm : c ≤ 9223372036854775807) (hn : 8 ≤ n) (hx : Hid (xs.getD 0 0 = 165)) (h1x : Hid (xs.getD 1 0 = x1)) (hb1 : 0 ≤ x1 ∧ x1 ≤ 255) (hs : Hid (szN xs = s)) (h6 : Hid (xs.getD 6 0 = x6)) (h7 : Hid (xs.getD 7 0 = x7)) (hsz : Hid ((s : Int) = x6 * 256 + x7)) (hb6 : 0 ≤ x6 ∧ x6 ≤ 255) (hb7 : 0 ≤ x7 ∧ x7 ≤ 255)
    (hc0 : w.cell? ⟨b, off, none⟩ = some (.int .u8 165)) (hc1 : w.cell? ⟨b, off + 1, none⟩ = some (.int .u8 x1)) :
    Calls Try.prog 32 #[.slice (some ⟨b, off, none⟩) n c] w (RetF w (unp xs)) := by
  have hb := World.block_lt_of_cell? w _ hc0
  have h0 : ((n : Int) == 0) = false := by simp; omega
  have e0 : (0 : Int) < (n : Int) := by omega
  have e1 : (1 : Int) < (n : Int) := by omega
  have hc6 : ¬ c = 6 := by omega
  have hs65 : s ≤ 65535 := by have := hsz.out; omega
  simp only at hb
  have hI6 : Ints .u8 w (some ⟨b, off + 6, none⟩) 2 [x6, x7] := by
    have h8 := (H.out.take (m := 8) (by omega)).drop 6 (A' := some ⟨b, off + 6, none⟩) (fun _ b' off' e => by injection e with e; injection e with e1 e2; subst e1 e2; rfl)
    have e : (xs.take 8).drop 6 = [x6, x7] := by
      have hl := H.out.1
      have g6 : xs[6]? = some x6 := by rw [← h6.out]; simp [List.getD, List.getElem?_eq_getElem (show 6 < xs.length by omega)]
      have g7 : xs[7]? = some x7 := by rw [← h7.out]; simp [List.getD, List.getElem?_eq_getElem (show 7 < xs.length by omega)]
      apply List.ext_getElem?
      intro i
      rw [List.getElem?_drop, List.getElem?_take]
      match i with
      | 0 => simpa using g6
      | 1 => simpa using g7
      | i + 2 => simp; omega
    rw [e] at h8
    exact h8
  have H6 : Hid (∀ W, Ext w W → Calls Try.prog 73 #[.slice (some ⟨b, off + 6, none⟩) 2 (c - 6)] W fun e w' => e = .returned (.int .u64 (s : Int)) ∧ W = w') := fun W hW => by
    have e : bigN [x6, x7] = (s : Int) := by rw [hsz.out]; simp [bigN]
    rw [← e]; exact big_any _ _ _ _ _ (hI6.ext hW) (by omega)
  clear hI6
  go_enter Try.func32, Try.ntmps32
  go_wp2_with fail
  refine (H6.out _ ((Ext.refl w).alloc _)).mono ?_
  rintro e w' ⟨rfl, rfl⟩
  have hX1 : Ext w (w.alloc (.cells #[.int .i64 0, .int .i64 0, .slice none 0 0] 38)) := (Ext.refl w).alloc _
  have hB1 : Blk (w.alloc (.cells #[.int .i64 0, .int .i64 0, .slice none 0 0] 38)) w.heap.size 38 #[.int .i64 0, .int .i64 0, .slice none 0 0] := Blk.new w _ _
  generalize w.alloc (.cells #[.int .i64 0, .int .i64 0, .slice none 0 0] 38) = w1 at hX1 hB1 ⊢
  obtain ⟨r0, r1, r2, f0, f1, f2⟩ := hB1.three
  have hcw := Lib.hid hc1
  replace hc1 := hX1.cell hc1
  clear hc0 H6
  have HX1 := Lib.hid hX1
  have HB1 := Lib.hid hB1
  clear hX1 hB1
  by_cases h3 : 1024 < s
  · go_wp2
    refine bodyPost_ret (v := .tuple #[.agg #[.int .i64 0, .int .i64 0, .slice none 0 0], .int .i64 0, .int .i64 23]) (by simp [results, Try.results32, go_sem, *]) rfl ?_
    exact RetF.bad (unp_long hx.out (by rw [H.out.1]; omega) (by rw [hs.out]; omega)) rfl (((HX1.out.setCell (Nat.le_refl _) _).setCell (Nat.le_refl _) _).setCell (Nat.le_refl _) _)
  by_cases h4 : n < 12 + s
  · have h4' : (n : Int) < 8 + (s : Int) + 4 := by omega
    go_wp2
    refine bodyPost_ret (v := .tuple #[.agg #[.int .i64 0, .int .i64 0, .slice none 0 0], .int .i64 0, .int .i64 21]) (by simp [results, Try.results32, go_sem, *]) rfl ?_
    exact RetF.bad (unp_cut hx.out (by rw [H.out.1]; omega) (by rw [hs.out]; omega) (by rw [hs.out, H.out.1]; omega)) rfl (((HX1.out.setCell (Nat.le_refl _) _).setCell (Nat.le_refl _) _).setCell (Nat.le_refl _) _)
  have hI := H.out.ext HX1.out
  have hIt : Ints .u8 w1 (some ⟨b, off, none⟩) (8 + s) (xs.take (8 + s)) := hI.take (by omega)
  have hId : Ints .u8 w1 (some ⟨b, off + (8 + s), none⟩) 4 ((xs.drop (8 + s)).take 4) := (hI.drop (8 + s) (A' := some ⟨b, off + (8 + s), none⟩) (fun _ b' off' e => by injection e with e; injection e with e1 e2; subst e1 e2; rfl)).take (by omega)
  have HIt := Lib.hid hIt
  have HId := Lib.hid hId
  clear hI hIt hId
  have hne : ¬ c = 8 + s := by omega
  have hl1 : (8 : Int) + (s : Int) ≤ (n : Int) := by omega
  have hl2 : (8 : Int) + (s : Int) ≤ (c : Int) := by omega
  have hl3 : (8 : Int) + (s : Int) + 4 ≤ (c : Int) := by omega
  have hl4 : (8 : Int) + (s : Int) ≤ 8 + (s : Int) + 4 := by omega
  go_wp2
  have e8 : (0 : Int) ≤ 8 + (s : Int) := by omega
  have e10 : (0 : Int) ≤ 8 + (s : Int) + 4 := by omega
  have e9 : ((8 : Int) + (s : Int)).toNat = 8 + s := by omega
  have e11 : ((8 : Int) + (s : Int) + 4).toNat = 8 + s + 4 := by omega
  have e12 : 8 + s + 4 - (8 + s) = 4 := by omega
  have hwr : IntKind.i64.wrap ((8 : Int) + (s : Int)) = 8 + (s : Int) := IntWalk.i64_in _ (by omega)
  have hwr2 : IntKind.i64.wrap ((8 : Int) + (s : Int) + 4) = 8 + (s : Int) + 4 := IntWalk.i64_in _ (by omega)
  obtain ⟨q1, hq1⟩ : ∃ q, bigN ((xs.drop (8 + s)).take 4) = q := ⟨_, rfl⟩
  obtain ⟨q2, hq2⟩ : ∃ q, crc (xs.take (8 + s)) = q := ⟨_, rfl⟩
  have hq2r := crc_range (xs.take (8 + s))
  rw [hq2] at hq2r
  have hw2 : IntKind.u64.wrap q2 = q2 := IntWalk.u64_in _ (by omega)
  have H1 : Hid (∀ m, Calls Try.prog 73 #[.slice (some ⟨b, off + (8 + s), none⟩) 4 (c - (8 + s))] (w1.drewN m) fun e w' => e = .returned (.int .u64 q1) ∧ w1.drewN m = w') := fun m => by
    rw [← hq1]; exact big_any _ _ _ _ _ (HId.out.ext ((Ext.refl w1).drewN m)) (by omega)
  have H2 : Hid (∀ m, Calls Try.prog 52 #[.slice (some ⟨b, off, none⟩) (8 + s) c] (w1.drewN m) fun e w' => e = .returned (.int .u32 q2) ∧ w1.drewN m = w') := fun m => by
    rw [← hq2]; exact checksumR_any _ _ _ _ _ (HIt.out.ext ((Ext.refl w1).drewN m)) (by omega)
  have HQ1 := Lib.hid hq1
  have HQ2 := Lib.hid hq2
  clear hq1 hq2 hq2r
  go_quiet ((first | (go_at_call 73; exact quiet_left (H1.out _)) | (go_at_call 52; exact quiet_left (H2.out _))))
  clear hw2 H1 H2 HIt HId
  have hX2 : Ext w (w1.drewN nq) := HX1.out.drewN _
  have hB2 : Blk (w1.drewN nq) w.heap.size 38 #[.int .i64 0, .int .i64 0, .slice none 0 0] := HB1.out.drewN _
  replace hc1 : (w1.drewN nq).cell? ⟨b, off + 1, none⟩ = some (.int .u8 x1) := hc1
  have hIb : Ints .u8 (w1.drewN nq) (some ⟨b, off, none⟩) n xs := H.out.ext hX2
  generalize w1.drewN nq = w2 at hX2 hB2 hc1 hIb ⊢
  have HIb := Lib.hid hIb
  clear r0 r1 r2 f0 f1 f2 HB1 HX1 hIb
  obtain ⟨r0, r1, r2, f0, f1, f2⟩ := hB2.three
  have HX2 := Lib.hid hX2
  have HB2 := Lib.hid hB2
  clear hX2 hB2
  by_cases hq : q2 = q1
  · subst hq
    obtain ⟨q3, hq3⟩ : ∃ q, bigN ((xs.drop 2).take 4) = q := ⟨_, rfl⟩
    have hq3r : 0 ≤ q3 ∧ q3 ≤ 4294967295 := by
      have h1 := bigN_range (xs := (xs.drop 2).take 4) (fun x hx => u8_bounds (H.out.2.1 x (List.mem_of_mem_drop (List.mem_of_mem_take hx))))
      have h2 : ((xs.drop 2).take 4).length = 4 := by rw [List.length_take, List.length_drop, H.out.1]; omega
      rw [h2, hq3] at h1
      have : (256 : Int) ^ 4 = 4294967296 := by decide
      omega
    obtain ⟨body, hbody⟩ : ∃ l, (xs.take (8 + s)).drop 8 = l := ⟨_, rfl⟩
    have hI8 : Ints .u8 w2 (some ⟨b, off + 8, none⟩) s body := by
      have h8 := (HIb.out.take (m := 8 + s) (by omega)).drop 8 (A' := some ⟨b, off + 8, none⟩) (fun _ b' off' e => by injection e with e; injection e with e1 e2; subst e1 e2; rfl)
      rw [hbody] at h8
      have e : 8 + s - 8 = s := by omega
      rw [e] at h8
      exact h8
    have hI2 : Ints .u8 w2 (some ⟨b, off + 2, none⟩) 4 ((xs.drop 2).take 4) := (HIb.out.drop 2 (A' := some ⟨b, off + 2, none⟩) (fun _ b' off' e => by injection e with e; injection e with e1 e2; subst e1 e2; rfl)).take (by omega)
    have H1 : Hid (∀ W, Ext w2 W → Calls Try.prog 73 #[.slice (some ⟨b, off + 2, none⟩) 4 (c - 2)] W fun e w' => e = .returned (.int .u64 q3) ∧ W = w') := fun W hW => by
      rw [← hq3]; exact big_any _ _ _ _ _ (hI2.ext hW) (by omega)
    have H2 : Hid (∀ W A', At W A' [.slice (some ⟨b, off + 8, none⟩) s (c - 8)] → Ext w2 W → Calls Try.prog 69 #[.slice A' 1 1] W fun e w' => ∃ A n c, e = .returned (.slice A n c) ∧ OwnS .u8 5 w2.heap.size w' A n c body ∧ Ext w2 w') := fun W A' hA hW => by
      refine (joined_any A' 1 1 [body] W (Lists.one hA ⟨_, _, _, rfl, hI8.ext hW, by omega, by omega⟩) (by omega) (by simp; have := hI8.1; omega)).mono ?_
      rintro e w' ⟨A, n, c, he, ho, hx⟩
      exact ⟨A, n, c, he, by simpa using ho.mono hW.size, hW.trans hx⟩
    have HQ3 := Lib.hid hq3
    have HBO := Lib.hid hbody
    have HBl : Hid (body.length = s) := hI8.1
    clear hq3 hbody hI8 hI2
    obtain ⟨hq30, hq31⟩ := hq3r
    obtain ⟨hb10, hb11⟩ := hb1
    have hc2 : ¬ c = 2 := by omega
    have hc8 : ¬ c = 8 := by omega
    have hi6 : (6 : Int) ≤ (c : Int) := by omega
    have hi8 : (8 : Int) ≤ 8 + (s : Int) := by omega
    have e13 : 8 + s - 8 = s := by omega
    have hblt := World.block_lt_of_cell? w2 _ hc1
    simp only at hblt
    have hw1 : IntKind.i64.wrap x1 = x1 := IntWalk.i64_in _ (by omega)
    have hw3 : IntKind.i64.wrap q3 = q3 := IntWalk.i64_in _ (by omega)
    go_upto_region 14 with (fail)
    go_region_held3 (fun w' => w'.cell? ⟨b, off + 1, none⟩ = some (.int .u8 x1)) (first | go_keep | exact Ext.cell (a := w) (by repeat (first | exact HX2.out | exact HX2.out.trans hE' | refine Ext.drew ?_ | refine Ext.drewN ?_ _ | refine Ext.alloc ?_ _ | refine Ext.setCell ?_ (Nat.le_refl _) _)) hcw.out) (first | (go_at_call 73; refine (H1.out _ (by repeat (first | exact Ext.refl _ | assumption | refine Ext.drew ?_ | refine Ext.drewN ?_ _ | refine Ext.alloc ?_ _))).mono ?_; rintro e w' ⟨rfl, rfl⟩) | (go_at_call 69; refine (H2.out _ _ (by first | exact At.drew (At.new w2 [_] _) | exact At.new w2 [_] _) (by repeat (first | exact Ext.refl _ | assumption | refine Ext.drew ?_ | refine Ext.drewN ?_ _ | refine Ext.alloc ?_ _))).mono ?_; rintro e w' ⟨A6, n6, c6, rfl, hO6, hE'⟩; have HO6 := Lib.hid hO6; clear hO6; obtain ⟨t0, t1, t2, t3, t4, t5⟩ := (HB2.out.ext hE').three))
    all_goals
      go_wp2
      refine bodyPost_ret (v := .tuple #[.agg #[.int .i64 x1, .int .i64 q3, .slice A6 n6 c6], .int .i64 (8 + (s : Int) + 4), .int .i64 0]) (by simp [results, Try.results32, go_sem, *]) rfl ?_
      rw [unp_ok hx.out (by rw [hs.out]; omega) (by rw [hs.out, H.out.1]; omega) (by rw [hs.out, HQ1.out, HQ2.out])]
      refine ⟨A6, n6, c6, ?_, ⟨?_, ?_, ?_⟩, ?_⟩
      · simp only [h1x.out, HQ3.out, hs.out]
        rw [show (12 : Int) + (s : Int) = 8 + (s : Int) + 4 by omega]
      · simp only [hs.out, HBO.out]
        have hlt := HB2.out.lt
        exact World.ownsRow.mono' (ownsRow_setCell_below (ownsRow_setCell_below (ownsRow_setCell_below HO6.out.own hlt _) hlt _) hlt _) (Nat.le_of_lt hlt)
      · simp only [hs.out, HBO.out]
        exact HO6.out.len
      · simp only [hs.out, HBO.out]
        exact HO6.out.wf
      · exact (((HX2.out.trans hE').setCell (Nat.le_refl _) _).setCell (Nat.le_refl _) _).setCell (Nat.le_refl _) _
  · have hqb : (q2 != q1) = true := by simpa using hq
    go_wp2
    refine bodyPost_ret (v := .tuple #[.agg #[.int .i64 0, .int .i64 0, .slice none 0 0], .int .i64 0, .int .i64 24]) (by simp [results, Try.results32, go_sem, *]) rfl ?_
    exact RetF.bad (unp_sum hx.out (by rw [hs.out]; omega) (by rw [hs.out, H.out.1]; omega) (by rw [hs.out, HQ1.out, HQ2.out]; exact fun e => hq e.symm)) rfl (((HX2.out.setCell (Nat.le_refl _) _).setCell (Nat.le_refl _) _).setCell (Nat.le_refl _) _)

theorem unpackR_any (A : Option Addr) (n c : Nat) (xs : List Int) (w : World) (h : Ints .u8 w A n xs) (hnc : n ≤ c) (hcm : c ≤ 9223372036854775807) :
    Calls Try.prog 32 #[.slice A n c] w (RetF w (unp xs)) := by
  rcases Nat.eq_zero_or_pos n with h0 | h0
  · subst h0
    obtain rfl : xs = [] := List.eq_nil_of_length_eq_zero h.1
    exact unpackR_none A c w
  have hb : ∀ x ∈ xs, 0 ≤ x ∧ x ≤ 255 := fun x hx => u8_bounds (h.2.1 x hx)
  obtain ⟨b, off, rfl, hc⟩ := h.2.2 (by intro e; have := h.1; rw [List.map_eq_nil_iff] at e; subst e; simp at this; omega)
  have g : ∀ j, j < n → ∃ x, xs.getD j 0 = x ∧ (0 ≤ x ∧ x ≤ 255) ∧ w.cell? ⟨b, off + j, none⟩ = some (.int .u8 x) := fun j hj => by
    have hj' : j < xs.length := by rw [h.1]; exact hj
    refine ⟨xs[j], by simp [List.getD, List.getElem?_eq_getElem hj'], hb _ (List.getElem_mem hj'), hc j _ ?_⟩
    rw [List.getElem?_map, List.getElem?_eq_getElem hj']; rfl
  obtain ⟨x0, hx0, _, hc0⟩ := g 0 h0
  by_cases hm : x0 = 165
  · subst hm
    by_cases h8 : n < 8
    · exact unpackR_short b off n c xs w h h0 h8 hx0 hc0
    · obtain ⟨x1, hx1, hb1, hc1⟩ := g 1 (by omega)
      obtain ⟨x6, hx6, hb6, hc6⟩ := g 6 (by omega)
      obtain ⟨x7, hx7, hb7, hc7⟩ := g 7 (by omega)
      have hsz : ((szN xs : Nat) : Int) = x6 * 256 + x7 := by unfold szN; rw [hx6, hx7]; omega
      exact unpackR_big b off n c (szN xs) xs x1 x6 x7 w h hnc hcm (by omega) hx0 hx1 hb1 rfl hx6 hx7 hsz hb6 hb7 hc0 hc1
  · exact unpackR_mark b off n c xs x0 w h h0 hx0 (by simpa using hm) hc0
end Go.Proofs.Ytekhmfliaojabaa
