/- Walks: what Scan (program and reference) finds: 'scan' of the bytes. Condition: the slice reads as bytes and is not too long. -/
import Derived.Test.YtekhmfliaojabaaUnpack
import Derived.Test.YtekhmfliaojabaaUnpackR
import Derived.Test.YtekhmfliaojabaaScanF
namespace Go.Proofs.Ytekhmfliaojabaa
open Go.RowKit

theorem elF : Elem Try.prog 57 38 3 40 (.agg #[.int .i64 0, .int .i64 0, .slice none 0 0]) := Elem.mk' (by kernel_rfl) (by kernel_rfl) rfl (by decide)

/-- What Scan leaves. -/
def RetS (w : World) (r : List Fr × Nat × Nat) (e : Ending) (w' : World) : Prop :=
  ∃ A n c vs, e = .returned (.tuple #[.slice A n c, .int .i64 r.2.1, .int .i64 r.2.2]) ∧ w'.ownsRow w.heap.size 38 3 (.slice A n c) n vs ∧ CsR (FrO w.heap.size w') vs r.1 ∧ r.1.length = n ∧ Ext w w'

theorem RetS.frs {w w' : World} {r : List Fr × Nat × Nat} {A : Option Addr} {n c : Nat} {vs : List Value} (h : w'.ownsRow w.heap.size 38 3 (.slice A n c) n vs) (hv : CsR (FrO w.heap.size w') vs r.1) (hl : r.1.length = n) : Frs w' A n r.1 :=
  ⟨hl, vs, hv.imp fun _ _ h => h.frc, At.of_own h⟩

set_option maxRecDepth 100000 in
set_option maxHeartbeats 2000000 in
theorem scan_any (A : Option Addr) (n c : Nat) (xs : List Int) (w : World) (h : Ints .u8 w A n xs) (hnc : n ≤ c) (hcm : c ≤ 9223372036854775807) (hn : n ≤ 1000000) :
    Calls Try.prog 54 #[.slice A n c] w (RetS w (scan xs)) := by
  have H := Lib.hid h
  have HL : Hid (xs.length = n) := h.1
  clear h
  go_enter Try.func54, Try.ntmps54
  go_wp2_with fail
  go_step3
  go_wp2_with fail
  go_step3
  go_wp2_with fail
  go_loopg [2, 3, 5] n (fun g v s i wr => ∃ (k sk : Nat) (fs : List Fr) (vs : List Value), g = n - k ∧ k ≤ n ∧ i = .int .i64 k ∧ s = .int .i64 sk ∧ sk ≤ k ∧ fs.length ≤ k ∧ ScanAt xs k fs sk ∧ wr.ownsRow w.heap.size 38 3 v fs.length vs ∧ CsR (FrO w.heap.size wr) vs fs ∧ Ext w wr)
  case atStart => exact ⟨0, 0, [], [], rfl, by omega, rfl, rfl, by omega, by simp, ScanAt.start xs, World.ownsRow_nil _ _ _ _, rfl, Ext.refl w⟩
  case round =>
    obtain ⟨k, sk, fs, vs, rfl, hk, rfl, rfl, hsk, hfl, hS, hown, hcs, hX⟩ := hrel
    have HS := Lib.hid hS
    have HC := Lib.hid hcs
    have HX := Lib.hid hX
    clear hS hcs hX
    by_cases hlt : k < n
    · obtain ⟨f, m, er, hu⟩ : ∃ f m er, unp (xs.drop k) = (f, m, er) := ⟨_, _, _, rfl⟩
      obtain ⟨fs0, fq, fb⟩ := f
      obtain ⟨A0, c0, rfl⟩ := own_slice hown
      have HU := Lib.hid hu
      clear hu
      go_wp2_with (first | (refine wpList_cutL (o := ⟨some 16, _, _, _, _, _⟩) _ elB rfl _ _ rfl A n c rfl _ _ k rfl rfl (by omega) hnc ?_; intro A5 hA5))
      have hI5 : Ints .u8 wr A5 (n - k) (xs.drop k) := by
        have hI := H.out.ext HX.out
        refine ⟨by rw [List.length_drop, HL.out], fun x hx => hI.2.1 x (List.mem_of_mem_drop hx), ?_⟩
        have := hA5 wr _ hI.2.2 (by rw [List.length_map, HL.out]; omega)
        rw [Nat.mul_one, ← List.map_drop] at this
        exact this
      refine (unpack_any _ _ _ _ _ hI5 (by omega) (by omega)).mono ?_
      clear hI5 hA5
      rw [HU.out]
      rintro e w1 ⟨A1, n1, c1, rfl, hO1, hX1⟩
      simp only at hO1 ⊢
      have HO1 := Lib.hid (hO1.mono HX.out.size)
      have HX1 := Lib.hid hX1
      have hown1 := World.ownsRow.ext' hown hX1
      have HC1 := Lib.hid (HC.out.imp fun _ _ h => FrO.ext h hX1)
      clear hO1 hX1 hown
      by_cases he0 : er = 0
      · subst he0
        have hul := unp_len (xs := xs.drop k) (by rw [HU.out])
        have hst := HS.out.found (by rw [HU.out])
        have hug := unp_good (xs := xs.drop k) (by rw [HU.out])
        rw [HU.out] at hul hst hug
        simp only at hul hst hug
        obtain ⟨z, hz⟩ : ∃ z, szN (xs.drop k) = z := ⟨_, rfl⟩
        rw [hz] at hul hst hug
        have hzl : 12 + z ≤ n - k := by have := hug.2.1; rw [List.length_drop, HL.out] at this; exact this
        subst hul
        have HST := Lib.hid hst
        clear hst hug hz
        go_wp2_with (at_builtin; refine wpList_app _ elF rfl _ _ rfl w.heap.size (.slice A0 fs.length c0) fs.length vs rfl ((hown1.alloc _).alloc _) _ 1 1 [.int .i64 fs0, .int .i64 fq, .slice A1 n1 c1] rfl rfl (At.new' _ [_, _, _] _ (by simp)) (by simp [Value.oneCell']) (by omega) (by unfold maxLen; omega) (by have := HX.out.size; have := HX1.out.size; simp; omega) ?_; intro v2 w2 hown2 hgr2 hdj; clear hdj)
        go_roundg (n - (k + (12 + z)))
        case rel =>
          have hoa := (hown1.alloc (.cells #[.int .i64 fs0, .int .i64 fq, .slice A1 n1 c1] 38)).alloc (.cells #[.int .i64 fs0, .int .i64 fq, .slice A1 n1 c1] 38)
          have hXa : Ext w1 ((w1.alloc (.cells #[.int .i64 fs0, .int .i64 fq, .slice A1 n1 c1] 38)).alloc (.cells #[.int .i64 fs0, .int .i64 fq, .slice A1 n1 c1] 38)) := ((Ext.refl w1).alloc _).alloc _
          refine ⟨k + (12 + z), sk, fs ++ [⟨fs0, fq, fb⟩], vs ++ [.int .i64 fs0, .int .i64 fq, .slice A1 n1 c1], rfl, by omega, by go_num, rfl, by omega, by simp; omega, HST.out, by simpa using hown2, ?_, ?_⟩
          · refine CsR.snoc (HC1.out.imp fun _ _ h => FrO.kept (FrO.ext h hXa) hoa (by decide) hgr2) ?_
            exact FrO.kept (FrO.ext ⟨A1, n1, c1, rfl, HO1.out⟩ hXa) hoa (by decide) hgr2
          · exact ((HX.out.trans HX1.out).trans hXa).grown hgr2 fun g hg => (hoa.lt g hg).1
        case measure => omega
      · have hb0 : (er == 0) = false := by simpa using he0
        by_cases he1 : er = 21
        · subst he1
          have hdn := HS.out.done (by rw [HU.out])
          have HDN := Lib.hid hdn
          clear hdn
          go_wp2
          rw [Exit.noGoto_ret]
          go_ret3
          refine ⟨A0, fs.length, c0, vs, ?_, hown1.alloc _, ?_, by rw [HDN.out], (HX.out.trans HX1.out).alloc _⟩
          · rw [HDN.out, HL.out]
            simp only
            rw [show ((n - k : Nat) : Int) = (n : Int) - (k : Int) by omega]
            rfl
          · rw [HDN.out]
            exact HC1.out.imp fun _ _ h => FrO.ext h ((Ext.refl _).alloc _)
        · have hb1 : (er == 21) = false := by simpa using he1
          have hst := HS.out.skip (by rw [HU.out]; exact he0) (by rw [HU.out]; exact he1)
          have HST := Lib.hid hst
          clear hst he0 he1
          go_wp2
          go_roundg (n - (k + 1))
          case rel => exact ⟨k + 1, sk + 1, fs, vs, rfl, by omega, by go_num, by go_num, by omega, by omega, HST.out, hown1.alloc _, HC1.out.imp fun _ _ h => FrO.ext h ((Ext.refl _).alloc _), (HX.out.trans HX1.out).alloc _⟩
          case measure => omega
    · obtain rfl : k = n := by omega
      have hdn := HS.out.done (by rw [List.drop_eq_nil_of_le (by rw [HL.out]; omega), unp_nil])
      have HDN := Lib.hid hdn
      clear hdn
      obtain ⟨A0, c0, rfl⟩ := own_slice hown
      go_wp2
      rw [Exit.noGoto_ret]
      go_ret3
      refine ⟨A0, fs.length, c0, vs, ?_, hown, by rw [HDN.out]; exact HC.out, by rw [HDN.out], HX.out⟩
      rw [HDN.out, HL.out]
      simp
set_option maxRecDepth 100000 in
set_option maxHeartbeats 2000000 in
theorem scanR_any (A : Option Addr) (n c : Nat) (xs : List Int) (w : World) (h : Ints .u8 w A n xs) (hnc : n ≤ c) (hcm : c ≤ 9223372036854775807) (hn : n ≤ 1000000) :
    Calls Try.prog 55 #[.slice A n c] w (RetS w (scan xs)) := by
  have H := Lib.hid h
  have HL : Hid (xs.length = n) := h.1
  clear h
  go_enter Try.func55, Try.ntmps55
  go_wp2_with fail
  go_loopg [2, 3, 5] (n + 1) (fun g v s i wr => ∃ (k sk : Nat) (fs : List Fr) (vs : List Value), g = n + 1 - k ∧ k ≤ n ∧ i = .int .i64 k ∧ s = .int .i64 sk ∧ sk ≤ k ∧ fs.length ≤ k ∧ ScanAt xs k fs sk ∧ wr.ownsRow w.heap.size 38 3 v fs.length vs ∧ CsR (FrO w.heap.size wr) vs fs ∧ Ext w wr)
  case atStart => exact ⟨0, 0, [], [], rfl, by omega, rfl, rfl, by omega, by simp, ScanAt.start xs, World.ownsRow_nil _ _ _ _, rfl, Ext.refl w⟩
  case round =>
    obtain ⟨k, sk, fs, vs, rfl, hk, rfl, rfl, hsk, hfl, hS, hown, hcs, hX⟩ := hrel
    have HS := Lib.hid hS
    have HC := Lib.hid hcs
    have HX := Lib.hid hX
    clear hS hcs hX
    · obtain ⟨f, m, er, hu⟩ : ∃ f m er, unp (xs.drop k) = (f, m, er) := ⟨_, _, _, rfl⟩
      obtain ⟨fs0, fq, fb⟩ := f
      obtain ⟨A0, c0, rfl⟩ := own_slice hown
      have HU := Lib.hid hu
      clear hu
      go_wp2_with (first | (refine wpList_cutL (o := ⟨some 12, _, _, _, _, _⟩) _ elB rfl _ _ rfl A n c rfl _ _ k rfl rfl (by omega) hnc ?_; intro A5 hA5))
      have hI5 : Ints .u8 wr A5 (n - k) (xs.drop k) := by
        have hI := H.out.ext HX.out
        refine ⟨by rw [List.length_drop, HL.out], fun x hx => hI.2.1 x (List.mem_of_mem_drop hx), ?_⟩
        have := hA5 wr _ hI.2.2 (by rw [List.length_map, HL.out]; omega)
        rw [Nat.mul_one, ← List.map_drop] at this
        exact this
      refine (unpackR_any _ _ _ _ _ hI5 (by omega) (by omega)).mono ?_
      clear hI5 hA5
      rw [HU.out]
      rintro e w1 ⟨A1, n1, c1, rfl, hO1, hX1⟩
      simp only at hO1 ⊢
      have HO1 := Lib.hid (hO1.mono HX.out.size)
      have HX1 := Lib.hid hX1
      have hown1 := World.ownsRow.ext' hown hX1
      have HC1 := Lib.hid (HC.out.imp fun _ _ h => FrO.ext h hX1)
      clear hO1 hX1 hown
      by_cases he0 : er = 0
      · subst he0
        have hul := unp_len (xs := xs.drop k) (by rw [HU.out])
        have hst := HS.out.found (by rw [HU.out])
        have hug := unp_good (xs := xs.drop k) (by rw [HU.out])
        rw [HU.out] at hul hst hug
        simp only at hul hst hug
        obtain ⟨z, hz⟩ : ∃ z, szN (xs.drop k) = z := ⟨_, rfl⟩
        rw [hz] at hul hst hug
        have hzl : 12 + z ≤ n - k := by have := hug.2.1; rw [List.length_drop, HL.out] at this; exact this
        subst hul
        have HST := Lib.hid hst
        clear hst hug hz
        go_wp2_with (at_builtin; refine wpList_app _ elF rfl _ _ rfl w.heap.size (.slice A0 fs.length c0) fs.length vs rfl ((hown1.alloc _).alloc _) _ 1 1 [.int .i64 fs0, .int .i64 fq, .slice A1 n1 c1] rfl rfl (At.new' _ [_, _, _] _ (by simp)) (by simp [Value.oneCell']) (by omega) (by unfold maxLen; omega) (by have := HX.out.size; have := HX1.out.size; simp; omega) ?_; intro v2 w2 hown2 hgr2 hdj; clear hdj)
        go_roundg (n + 1 - (k + (12 + z)))
        case rel =>
          have hoa := (hown1.alloc (.cells #[.int .i64 fs0, .int .i64 fq, .slice A1 n1 c1] 38)).alloc (.cells #[.int .i64 fs0, .int .i64 fq, .slice A1 n1 c1] 38)
          have hXa : Ext w1 ((w1.alloc (.cells #[.int .i64 fs0, .int .i64 fq, .slice A1 n1 c1] 38)).alloc (.cells #[.int .i64 fs0, .int .i64 fq, .slice A1 n1 c1] 38)) := ((Ext.refl w1).alloc _).alloc _
          refine ⟨k + (12 + z), sk, fs ++ [⟨fs0, fq, fb⟩], vs ++ [.int .i64 fs0, .int .i64 fq, .slice A1 n1 c1], rfl, by omega, by go_num, rfl, by omega, by simp; omega, HST.out, by simpa using hown2, ?_, ?_⟩
          · refine CsR.snoc (HC1.out.imp fun _ _ h => FrO.kept (FrO.ext h hXa) hoa (by decide) hgr2) ?_
            exact FrO.kept (FrO.ext ⟨A1, n1, c1, rfl, HO1.out⟩ hXa) hoa (by decide) hgr2
          · exact ((HX.out.trans HX1.out).trans hXa).grown hgr2 fun g hg => (hoa.lt g hg).1
        case measure => omega
      · have hb0 : (er == 0) = false := by simpa using he0
        by_cases he1 : er = 21
        · subst he1
          have hdn := HS.out.done (by rw [HU.out])
          have HDN := Lib.hid hdn
          clear hdn
          go_wp2
          go_ret3
          refine ⟨A0, fs.length, c0, vs, ?_, hown1.alloc _, ?_, by rw [HDN.out], (HX.out.trans HX1.out).alloc _⟩
          · rw [HDN.out, HL.out]
            simp only
            rw [show ((n - k : Nat) : Int) = (n : Int) - (k : Int) by omega]
            rfl
          · rw [HDN.out]
            exact HC1.out.imp fun _ _ h => FrO.ext h ((Ext.refl _).alloc _)
        · have hb1 : (er == 21) = false := by simpa using he1
          have hst := HS.out.skip (by rw [HU.out]; exact he0) (by rw [HU.out]; exact he1)
          have hkn : k + 1 ≤ n := by have := hst.1; rw [HL.out] at this; exact this
          have HST := Lib.hid hst
          clear hst he0 he1
          go_wp2
          go_roundg (n + 1 - (k + 1))
          case rel => exact ⟨k + 1, sk + 1, fs, vs, rfl, by omega, by go_num, by go_num, by omega, by omega, HST.out, hown1.alloc _, HC1.out.imp fun _ _ h => FrO.ext h ((Ext.refl _).alloc _), (HX.out.trans HX1.out).alloc _⟩
          case measure => omega
end Go.Proofs.Ytekhmfliaojabaa
