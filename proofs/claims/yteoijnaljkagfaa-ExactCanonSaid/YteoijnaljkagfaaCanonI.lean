/- Lemmas of the proof that follows (Canon, part 9): walks of functions by contract, and plain lemmas. Conditions: none. -/
import Derived.Test.YteoijnaljkagfaaCanonH
namespace Go.Proofs.Yteoijnaljkagfaa
open Go.RowKit

set_option maxRecDepth 100000 in
set_option maxHeartbeats 2000000 in
theorem qtext_one_f (A0 B0 : Option Addr) (l0 c0 m0 k0 n d L M : Nat) (w : World) (hI : Z16 w (.slice A0 l0 c0) n) (hJ : Z16 w (.slice B0 m0 k0) d) (f1 : Fit 65536 n M) (f2 : Fit 65536 d M) (hM : M ≤ 400000) (g1 : Fit 4294967296 n L) (g2 : Fit 4294967296 d L) (hL : L ≤ 1000000) (hd : d = 1) :
    Calls Try.prog 40 #[.agg #[.bool false, .slice A0 l0 c0, .slice B0 m0 k0]] w (RetT w false n d) := by
  have HI := Lib.hid hI
  have HJ := Lib.hid hJ
  have HF1 := Lib.hid f1
  have HF2 := Lib.hid f2
  have HG1 := Lib.hid g1
  have HG2 := Lib.hid g2
  have HD := Lib.hid hd
  obtain ⟨hm, b1, o1, x1, hB, hc1, hx1⟩ := den16_one hJ hd
  subst hB
  subst hm
  obtain rfl : x1 = 1 := by simpa using hx1
  clear hd hI hJ f1 f2 g1 g2 hx1
  have hXe : Ext w (w.alloc (.cells #[.bool false, .slice A0 l0 c0, .slice (some ⟨b1, o1, none⟩) 1 k0] 42)) := ((Ext.refl w).alloc _)
  have kA : Blk (w.alloc (.cells #[.bool false, .slice A0 l0 c0, .slice (some ⟨b1, o1, none⟩) 1 k0] 42)) w.heap.size 42 #[.bool false, .slice A0 l0 c0, .slice (some ⟨b1, o1, none⟩) 1 k0] := Blk.at_ (by simp)
  go_enter Try.func40, Try.ntmps40
  go_wp2_with fail
  generalize (w.alloc (.cells #[.bool false, .slice A0 l0 c0, .slice (some ⟨b1, o1, none⟩) 1 k0] 42)) = w1 at hXe kA ⊢
  have HX := Lib.hid hXe
  clear hXe
  have KA := Lib.hid kA
  clear kA
  replace HI := Lib.hid (HI.out.ext HX.out)
  replace HJ := Lib.hid (HJ.out.ext HX.out)
  have cA0 : w1.cell? ⟨w.heap.size, 0, none⟩ = some (.bool false) := KA.out.cell 0
  have cA1 : w1.cell? ⟨w.heap.size, 1, none⟩ = some (.slice A0 l0 c0) := KA.out.cell 1
  have cA2 : w1.cell? ⟨w.heap.size, 2, none⟩ = some (.slice (some ⟨b1, o1, none⟩) 1 k0) := KA.out.cell 2
  go_wp2_with fail
  clear cA0 cA1 cA2
  refine (decimal_any _ n L M _ HI.out HF1.out hM HG1.out hL).mono ?_
  rintro e w2 ⟨x, rfl, hx, hX⟩
  replace hX : Ext w1 w2 := by with_reducible exact hX
  replace HX := Lib.hid (HX.out.trans hX)
  replace HI := Lib.hid (HI.out.ext hX)
  replace HJ := Lib.hid (HJ.out.ext hX)
  replace KA := Lib.hid (KA.out.ext hX)
  clear hX
  have HDx := Lib.hid hx
  have hsx := hx.size HG1.out
  obtain ⟨bx, hbx⟩ : ∃ b, strOfNums x = b := ⟨_, rfl⟩
  rw [hbx] at hsx ⊢
  have HBX := Lib.hid hbx
  have hsm : ¬ 9223372036854775807 < bx.size + 1 := by omega
  have hsm' : ¬ 9223372036854775807 < 1 + bx.size := by omega
  clear hx hbx
  have hc2 := HX.out.cell hc1
  clear hc1
  have cA0 : w2.cell? ⟨w.heap.size, 0, none⟩ = some (.bool false) := KA.out.cell 0
  have cA1 : w2.cell? ⟨w.heap.size, 1, none⟩ = some (.slice A0 l0 c0) := KA.out.cell 1
  have cA2 : w2.cell? ⟨w.heap.size, 2, none⟩ = some (.slice (some ⟨b1, o1, none⟩) 1 k0) := KA.out.cell 2
  go_wp2
  go_ret
  exact ⟨_, rfl, ⟨x, [49], HDx.out, by rw [HD.out]; exact dec_one, by rw [decide_eq_true HD.out, HBX.out]; rfl⟩, HX.out⟩

set_option maxRecDepth 100000 in
set_option maxHeartbeats 2000000 in
theorem qtext_len_f (A0 B0 : Option Addr) (l0 c0 m0 k0 n d L M : Nat) (w : World) (hI : Z16 w (.slice A0 l0 c0) n) (hJ : Z16 w (.slice B0 m0 k0) d) (f1 : Fit 65536 n M) (f2 : Fit 65536 d M) (hM : M ≤ 400000) (g1 : Fit 4294967296 n L) (g2 : Fit 4294967296 d L) (hL : L ≤ 1000000) (hm : m0 ≠ 1) (hd : d ≠ 1) :
    Calls Try.prog 40 #[.agg #[.bool false, .slice A0 l0 c0, .slice B0 m0 k0]] w (RetT w false n d) := by
  have HI := Lib.hid hI
  have HJ := Lib.hid hJ
  have HF1 := Lib.hid f1
  have HF2 := Lib.hid f2
  have HG1 := Lib.hid g1
  have HG2 := Lib.hid g2
  have HD := Lib.hid hd
  have hb1 : ((m0 : Int) == 1) = false := by simp; omega
  have hb2 : ((m0 : Int) != 1) = true := by simp; omega
  clear hd hm hI hJ f1 f2 g1 g2
  have hXe : Ext w (w.alloc (.cells #[.bool false, .slice A0 l0 c0, .slice B0 m0 k0] 42)) := ((Ext.refl w).alloc _)
  have kA : Blk (w.alloc (.cells #[.bool false, .slice A0 l0 c0, .slice B0 m0 k0] 42)) w.heap.size 42 #[.bool false, .slice A0 l0 c0, .slice B0 m0 k0] := Blk.at_ (by simp)
  go_enter Try.func40, Try.ntmps40
  go_wp2_with fail
  generalize (w.alloc (.cells #[.bool false, .slice A0 l0 c0, .slice B0 m0 k0] 42)) = w1 at hXe kA ⊢
  have HX := Lib.hid hXe
  clear hXe
  have KA := Lib.hid kA
  clear kA
  replace HI := Lib.hid (HI.out.ext HX.out)
  replace HJ := Lib.hid (HJ.out.ext HX.out)
  have cA0 : w1.cell? ⟨w.heap.size, 0, none⟩ = some (.bool false) := KA.out.cell 0
  have cA1 : w1.cell? ⟨w.heap.size, 1, none⟩ = some (.slice A0 l0 c0) := KA.out.cell 1
  have cA2 : w1.cell? ⟨w.heap.size, 2, none⟩ = some (.slice B0 m0 k0) := KA.out.cell 2
  go_wp2_with fail
  clear cA0 cA1 cA2
  refine (decimal_any _ n L M _ HI.out HF1.out hM HG1.out hL).mono ?_
  rintro e w2 ⟨x, rfl, hx, hX⟩
  replace hX : Ext w1 w2 := by with_reducible exact hX
  replace HX := Lib.hid (HX.out.trans hX)
  replace HI := Lib.hid (HI.out.ext hX)
  replace HJ := Lib.hid (HJ.out.ext hX)
  replace KA := Lib.hid (KA.out.ext hX)
  clear hX
  have HDx := Lib.hid hx
  have hsx := hx.size HG1.out
  obtain ⟨bx, hbx⟩ : ∃ b, strOfNums x = b := ⟨_, rfl⟩
  rw [hbx] at hsx ⊢
  have HBX := Lib.hid hbx
  have hsm : ¬ 9223372036854775807 < bx.size + 1 := by omega
  have hsm' : ¬ 9223372036854775807 < 1 + bx.size := by omega
  clear hx hbx
  have cA0 : w2.cell? ⟨w.heap.size, 0, none⟩ = some (.bool false) := KA.out.cell 0
  have cA1 : w2.cell? ⟨w.heap.size, 1, none⟩ = some (.slice A0 l0 c0) := KA.out.cell 1
  have cA2 : w2.cell? ⟨w.heap.size, 2, none⟩ = some (.slice B0 m0 k0) := KA.out.cell 2
  go_wp2_with fail
  clear cA0 cA1 cA2
  refine (decimal_any _ d L M _ HJ.out HF2.out hM HG2.out hL).mono ?_
  rintro e w3 ⟨y, rfl, hy, hX⟩
  replace hX : Ext w2 w3 := by with_reducible exact hX
  replace HX := Lib.hid (HX.out.trans hX)
  replace HI := Lib.hid (HI.out.ext hX)
  replace HJ := Lib.hid (HJ.out.ext hX)
  replace KA := Lib.hid (KA.out.ext hX)
  clear hX
  have HDy := Lib.hid hy
  have hsy := hy.size HG2.out
  obtain ⟨bt, hby⟩ : ∃ b, strOfNums y = b := ⟨_, rfl⟩
  rw [hby] at hsy ⊢
  have HBY := Lib.hid hby
  have hsn : ¬ 9223372036854775807 < 1 + bt.size := by omega
  have hsn' : ¬ 9223372036854775807 < bx.size + (1 + bt.size) := by omega
  have hsn2 : ¬ 9223372036854775807 < 1 + bx.size + (1 + bt.size) := by omega
  clear hy hby
  go_wp2
  go_ret
  exact ⟨_, rfl, ⟨x, y, HDx.out, HDy.out, by rw [decide_eq_false HD.out, HBX.out, HBY.out]; rfl⟩, HX.out⟩

set_option maxRecDepth 100000 in
set_option maxHeartbeats 2000000 in
theorem qtext_den_f (A0 B0 : Option Addr) (l0 c0 m0 k0 n d L M : Nat) (w : World) (hI : Z16 w (.slice A0 l0 c0) n) (hJ : Z16 w (.slice B0 m0 k0) d) (f1 : Fit 65536 n M) (f2 : Fit 65536 d M) (hM : M ≤ 400000) (g1 : Fit 4294967296 n L) (g2 : Fit 4294967296 d L) (hL : L ≤ 1000000) (hm : m0 = 1) (hd : d ≠ 1) :
    Calls Try.prog 40 #[.agg #[.bool false, .slice A0 l0 c0, .slice B0 m0 k0]] w (RetT w false n d) := by
  have HI := Lib.hid hI
  have HJ := Lib.hid hJ
  have HF1 := Lib.hid f1
  have HF2 := Lib.hid f2
  have HG1 := Lib.hid g1
  have HG2 := Lib.hid g2
  have HD := Lib.hid hd
  obtain ⟨b1, o1, x1, hB, hc1, hx1⟩ := den16_ne hJ hm hd
  subst hB
  subst hm
  have hx2 : (x1 != 1) = true := by simpa using hx1
  clear hd hI hJ f1 f2 g1 g2
  have hXe : Ext w (w.alloc (.cells #[.bool false, .slice A0 l0 c0, .slice (some ⟨b1, o1, none⟩) 1 k0] 42)) := ((Ext.refl w).alloc _)
  have kA : Blk (w.alloc (.cells #[.bool false, .slice A0 l0 c0, .slice (some ⟨b1, o1, none⟩) 1 k0] 42)) w.heap.size 42 #[.bool false, .slice A0 l0 c0, .slice (some ⟨b1, o1, none⟩) 1 k0] := Blk.at_ (by simp)
  go_enter Try.func40, Try.ntmps40
  go_wp2_with fail
  generalize (w.alloc (.cells #[.bool false, .slice A0 l0 c0, .slice (some ⟨b1, o1, none⟩) 1 k0] 42)) = w1 at hXe kA ⊢
  have HX := Lib.hid hXe
  clear hXe
  have KA := Lib.hid kA
  clear kA
  replace HI := Lib.hid (HI.out.ext HX.out)
  replace HJ := Lib.hid (HJ.out.ext HX.out)
  have cA0 : w1.cell? ⟨w.heap.size, 0, none⟩ = some (.bool false) := KA.out.cell 0
  have cA1 : w1.cell? ⟨w.heap.size, 1, none⟩ = some (.slice A0 l0 c0) := KA.out.cell 1
  have cA2 : w1.cell? ⟨w.heap.size, 2, none⟩ = some (.slice (some ⟨b1, o1, none⟩) 1 k0) := KA.out.cell 2
  go_wp2_with fail
  clear cA0 cA1 cA2
  refine (decimal_any _ n L M _ HI.out HF1.out hM HG1.out hL).mono ?_
  rintro e w2 ⟨x, rfl, hx, hX⟩
  replace hX : Ext w1 w2 := by with_reducible exact hX
  replace HX := Lib.hid (HX.out.trans hX)
  replace HI := Lib.hid (HI.out.ext hX)
  replace HJ := Lib.hid (HJ.out.ext hX)
  replace KA := Lib.hid (KA.out.ext hX)
  clear hX
  have HDx := Lib.hid hx
  have hsx := hx.size HG1.out
  obtain ⟨bx, hbx⟩ : ∃ b, strOfNums x = b := ⟨_, rfl⟩
  rw [hbx] at hsx ⊢
  have HBX := Lib.hid hbx
  have hsm : ¬ 9223372036854775807 < bx.size + 1 := by omega
  have hsm' : ¬ 9223372036854775807 < 1 + bx.size := by omega
  clear hx hbx
  have hc2 := HX.out.cell hc1
  clear hc1
  have cA0 : w2.cell? ⟨w.heap.size, 0, none⟩ = some (.bool false) := KA.out.cell 0
  have cA1 : w2.cell? ⟨w.heap.size, 1, none⟩ = some (.slice A0 l0 c0) := KA.out.cell 1
  have cA2 : w2.cell? ⟨w.heap.size, 2, none⟩ = some (.slice (some ⟨b1, o1, none⟩) 1 k0) := KA.out.cell 2
  go_wp2_with fail
  clear cA0 cA1 cA2
  refine (decimal_any _ d L M _ HJ.out HF2.out hM HG2.out hL).mono ?_
  rintro e w3 ⟨y, rfl, hy, hX⟩
  replace hX : Ext w2 w3 := by with_reducible exact hX
  replace HX := Lib.hid (HX.out.trans hX)
  replace HI := Lib.hid (HI.out.ext hX)
  replace HJ := Lib.hid (HJ.out.ext hX)
  replace KA := Lib.hid (KA.out.ext hX)
  clear hX
  have HDy := Lib.hid hy
  have hsy := hy.size HG2.out
  obtain ⟨bt, hby⟩ : ∃ b, strOfNums y = b := ⟨_, rfl⟩
  rw [hby] at hsy ⊢
  have HBY := Lib.hid hby
  have hsn : ¬ 9223372036854775807 < 1 + bt.size := by omega
  have hsn' : ¬ 9223372036854775807 < bx.size + (1 + bt.size) := by omega
  have hsn2 : ¬ 9223372036854775807 < 1 + bx.size + (1 + bt.size) := by omega
  clear hy hby
  go_wp2
  go_ret
  exact ⟨_, rfl, ⟨x, y, HDx.out, HDy.out, by rw [decide_eq_false HD.out, HBX.out, HBY.out]; rfl⟩, HX.out⟩

set_option maxRecDepth 100000 in
set_option maxHeartbeats 2000000 in
theorem qtext_one_t (A0 B0 : Option Addr) (l0 c0 m0 k0 n d L M : Nat) (w : World) (hI : Z16 w (.slice A0 l0 c0) n) (hJ : Z16 w (.slice B0 m0 k0) d) (f1 : Fit 65536 n M) (f2 : Fit 65536 d M) (hM : M ≤ 400000) (g1 : Fit 4294967296 n L) (g2 : Fit 4294967296 d L) (hL : L ≤ 1000000) (hd : d = 1) :
    Calls Try.prog 40 #[.agg #[.bool true, .slice A0 l0 c0, .slice B0 m0 k0]] w (RetT w true n d) := by
  have HI := Lib.hid hI
  have HJ := Lib.hid hJ
  have HF1 := Lib.hid f1
  have HF2 := Lib.hid f2
  have HG1 := Lib.hid g1
  have HG2 := Lib.hid g2
  have HD := Lib.hid hd
  obtain ⟨hm, b1, o1, x1, hB, hc1, hx1⟩ := den16_one hJ hd
  subst hB
  subst hm
  obtain rfl : x1 = 1 := by simpa using hx1
  clear hd hI hJ f1 f2 g1 g2 hx1
  have hXe : Ext w (w.alloc (.cells #[.bool true, .slice A0 l0 c0, .slice (some ⟨b1, o1, none⟩) 1 k0] 42)) := ((Ext.refl w).alloc _)
  have kA : Blk (w.alloc (.cells #[.bool true, .slice A0 l0 c0, .slice (some ⟨b1, o1, none⟩) 1 k0] 42)) w.heap.size 42 #[.bool true, .slice A0 l0 c0, .slice (some ⟨b1, o1, none⟩) 1 k0] := Blk.at_ (by simp)
  go_enter Try.func40, Try.ntmps40
  go_wp2_with fail
  generalize (w.alloc (.cells #[.bool true, .slice A0 l0 c0, .slice (some ⟨b1, o1, none⟩) 1 k0] 42)) = w1 at hXe kA ⊢
  have HX := Lib.hid hXe
  clear hXe
  have KA := Lib.hid kA
  clear kA
  replace HI := Lib.hid (HI.out.ext HX.out)
  replace HJ := Lib.hid (HJ.out.ext HX.out)
  have cA0 : w1.cell? ⟨w.heap.size, 0, none⟩ = some (.bool true) := KA.out.cell 0
  have cA1 : w1.cell? ⟨w.heap.size, 1, none⟩ = some (.slice A0 l0 c0) := KA.out.cell 1
  have cA2 : w1.cell? ⟨w.heap.size, 2, none⟩ = some (.slice (some ⟨b1, o1, none⟩) 1 k0) := KA.out.cell 2
  go_wp2_with fail
  clear cA0 cA1 cA2
  refine (decimal_any _ n L M _ HI.out HF1.out hM HG1.out hL).mono ?_
  rintro e w2 ⟨x, rfl, hx, hX⟩
  replace hX : Ext w1 w2 := by with_reducible exact hX
  replace HX := Lib.hid (HX.out.trans hX)
  replace HI := Lib.hid (HI.out.ext hX)
  replace HJ := Lib.hid (HJ.out.ext hX)
  replace KA := Lib.hid (KA.out.ext hX)
  clear hX
  have HDx := Lib.hid hx
  have hsx := hx.size HG1.out
  obtain ⟨bx, hbx⟩ : ∃ b, strOfNums x = b := ⟨_, rfl⟩
  rw [hbx] at hsx ⊢
  have HBX := Lib.hid hbx
  have hsm : ¬ 9223372036854775807 < bx.size + 1 := by omega
  have hsm' : ¬ 9223372036854775807 < 1 + bx.size := by omega
  clear hx hbx
  have hc2 := HX.out.cell hc1
  clear hc1
  have cA0 : w2.cell? ⟨w.heap.size, 0, none⟩ = some (.bool true) := KA.out.cell 0
  have cA1 : w2.cell? ⟨w.heap.size, 1, none⟩ = some (.slice A0 l0 c0) := KA.out.cell 1
  have cA2 : w2.cell? ⟨w.heap.size, 2, none⟩ = some (.slice (some ⟨b1, o1, none⟩) 1 k0) := KA.out.cell 2
  go_wp2
  go_ret
  exact ⟨_, rfl, ⟨x, [49], HDx.out, by rw [HD.out]; exact dec_one, by rw [decide_eq_true HD.out, HBX.out]; rfl⟩, HX.out⟩

set_option maxRecDepth 100000 in
set_option maxHeartbeats 2000000 in
theorem qtext_len_t (A0 B0 : Option Addr) (l0 c0 m0 k0 n d L M : Nat) (w : World) (hI : Z16 w (.slice A0 l0 c0) n) (hJ : Z16 w (.slice B0 m0 k0) d) (f1 : Fit 65536 n M) (f2 : Fit 65536 d M) (hM : M ≤ 400000) (g1 : Fit 4294967296 n L) (g2 : Fit 4294967296 d L) (hL : L ≤ 1000000) (hm : m0 ≠ 1) (hd : d ≠ 1) :
    Calls Try.prog 40 #[.agg #[.bool true, .slice A0 l0 c0, .slice B0 m0 k0]] w (RetT w true n d) := by
  have HI := Lib.hid hI
  have HJ := Lib.hid hJ
  have HF1 := Lib.hid f1
  have HF2 := Lib.hid f2
  have HG1 := Lib.hid g1
  have HG2 := Lib.hid g2
  have HD := Lib.hid hd
  have hb1 : ((m0 : Int) == 1) = false := by simp; omega
  have hb2 : ((m0 : Int) != 1) = true := by simp; omega
  clear hd hm hI hJ f1 f2 g1 g2
  have hXe : Ext w (w.alloc (.cells #[.bool true, .slice A0 l0 c0, .slice B0 m0 k0] 42)) := ((Ext.refl w).alloc _)
  have kA : Blk (w.alloc (.cells #[.bool true, .slice A0 l0 c0, .slice B0 m0 k0] 42)) w.heap.size 42 #[.bool true, .slice A0 l0 c0, .slice B0 m0 k0] := Blk.at_ (by simp)
  go_enter Try.func40, Try.ntmps40
  go_wp2_with fail
  generalize (w.alloc (.cells #[.bool true, .slice A0 l0 c0, .slice B0 m0 k0] 42)) = w1 at hXe kA ⊢
  have HX := Lib.hid hXe
  clear hXe
  have KA := Lib.hid kA
  clear kA
  replace HI := Lib.hid (HI.out.ext HX.out)
  replace HJ := Lib.hid (HJ.out.ext HX.out)
  have cA0 : w1.cell? ⟨w.heap.size, 0, none⟩ = some (.bool true) := KA.out.cell 0
  have cA1 : w1.cell? ⟨w.heap.size, 1, none⟩ = some (.slice A0 l0 c0) := KA.out.cell 1
  have cA2 : w1.cell? ⟨w.heap.size, 2, none⟩ = some (.slice B0 m0 k0) := KA.out.cell 2
  go_wp2_with fail
  clear cA0 cA1 cA2
  refine (decimal_any _ n L M _ HI.out HF1.out hM HG1.out hL).mono ?_
  rintro e w2 ⟨x, rfl, hx, hX⟩
  replace hX : Ext w1 w2 := by with_reducible exact hX
  replace HX := Lib.hid (HX.out.trans hX)
  replace HI := Lib.hid (HI.out.ext hX)
  replace HJ := Lib.hid (HJ.out.ext hX)
  replace KA := Lib.hid (KA.out.ext hX)
  clear hX
  have HDx := Lib.hid hx
  have hsx := hx.size HG1.out
  obtain ⟨bx, hbx⟩ : ∃ b, strOfNums x = b := ⟨_, rfl⟩
  rw [hbx] at hsx ⊢
  have HBX := Lib.hid hbx
  have hsm : ¬ 9223372036854775807 < bx.size + 1 := by omega
  have hsm' : ¬ 9223372036854775807 < 1 + bx.size := by omega
  clear hx hbx
  have cA0 : w2.cell? ⟨w.heap.size, 0, none⟩ = some (.bool true) := KA.out.cell 0
  have cA1 : w2.cell? ⟨w.heap.size, 1, none⟩ = some (.slice A0 l0 c0) := KA.out.cell 1
  have cA2 : w2.cell? ⟨w.heap.size, 2, none⟩ = some (.slice B0 m0 k0) := KA.out.cell 2
  go_wp2_with fail
  clear cA0 cA1 cA2
  refine (decimal_any _ d L M _ HJ.out HF2.out hM HG2.out hL).mono ?_
  rintro e w3 ⟨y, rfl, hy, hX⟩
  replace hX : Ext w2 w3 := by with_reducible exact hX
  replace HX := Lib.hid (HX.out.trans hX)
  replace HI := Lib.hid (HI.out.ext hX)
  replace HJ := Lib.hid (HJ.out.ext hX)
  replace KA := Lib.hid (KA.out.ext hX)
  clear hX
  have HDy := Lib.hid hy
  have hsy := hy.size HG2.out
  obtain ⟨bt, hby⟩ : ∃ b, strOfNums y = b := ⟨_, rfl⟩
  rw [hby] at hsy ⊢
  have HBY := Lib.hid hby
  have hsn : ¬ 9223372036854775807 < 1 + bt.size := by omega
  have hsn' : ¬ 9223372036854775807 < bx.size + (1 + bt.size) := by omega
  have hsn2 : ¬ 9223372036854775807 < 1 + bx.size + (1 + bt.size) := by omega
  clear hy hby
  go_wp2
  go_ret
  exact ⟨_, rfl, ⟨x, y, HDx.out, HDy.out, by rw [decide_eq_false HD.out, HBX.out, HBY.out]; rfl⟩, HX.out⟩

set_option maxRecDepth 100000 in
set_option maxHeartbeats 2000000 in
theorem qtext_den_t (A0 B0 : Option Addr) (l0 c0 m0 k0 n d L M : Nat) (w : World) (hI : Z16 w (.slice A0 l0 c0) n) (hJ : Z16 w (.slice B0 m0 k0) d) (f1 : Fit 65536 n M) (f2 : Fit 65536 d M) (hM : M ≤ 400000) (g1 : Fit 4294967296 n L) (g2 : Fit 4294967296 d L) (hL : L ≤ 1000000) (hm : m0 = 1) (hd : d ≠ 1) :
    Calls Try.prog 40 #[.agg #[.bool true, .slice A0 l0 c0, .slice B0 m0 k0]] w (RetT w true n d) := by
  have HI := Lib.hid hI
  have HJ := Lib.hid hJ
  have HF1 := Lib.hid f1
  have HF2 := Lib.hid f2
  have HG1 := Lib.hid g1
  have HG2 := Lib.hid g2
  have HD := Lib.hid hd
  obtain ⟨b1, o1, x1, hB, hc1, hx1⟩ := den16_ne hJ hm hd
  subst hB
  subst hm
  have hx2 : (x1 != 1) = true := by simpa using hx1
  clear hd hI hJ f1 f2 g1 g2
  have hXe : Ext w (w.alloc (.cells #[.bool true, .slice A0 l0 c0, .slice (some ⟨b1, o1, none⟩) 1 k0] 42)) := ((Ext.refl w).alloc _)
  have kA : Blk (w.alloc (.cells #[.bool true, .slice A0 l0 c0, .slice (some ⟨b1, o1, none⟩) 1 k0] 42)) w.heap.size 42 #[.bool true, .slice A0 l0 c0, .slice (some ⟨b1, o1, none⟩) 1 k0] := Blk.at_ (by simp)
  go_enter Try.func40, Try.ntmps40
  go_wp2_with fail
  generalize (w.alloc (.cells #[.bool true, .slice A0 l0 c0, .slice (some ⟨b1, o1, none⟩) 1 k0] 42)) = w1 at hXe kA ⊢
  have HX := Lib.hid hXe
  clear hXe
  have KA := Lib.hid kA
  clear kA
  replace HI := Lib.hid (HI.out.ext HX.out)
  replace HJ := Lib.hid (HJ.out.ext HX.out)
  have cA0 : w1.cell? ⟨w.heap.size, 0, none⟩ = some (.bool true) := KA.out.cell 0
  have cA1 : w1.cell? ⟨w.heap.size, 1, none⟩ = some (.slice A0 l0 c0) := KA.out.cell 1
  have cA2 : w1.cell? ⟨w.heap.size, 2, none⟩ = some (.slice (some ⟨b1, o1, none⟩) 1 k0) := KA.out.cell 2
  go_wp2_with fail
  clear cA0 cA1 cA2
  refine (decimal_any _ n L M _ HI.out HF1.out hM HG1.out hL).mono ?_
  rintro e w2 ⟨x, rfl, hx, hX⟩
  replace hX : Ext w1 w2 := by with_reducible exact hX
  replace HX := Lib.hid (HX.out.trans hX)
  replace HI := Lib.hid (HI.out.ext hX)
  replace HJ := Lib.hid (HJ.out.ext hX)
  replace KA := Lib.hid (KA.out.ext hX)
  clear hX
  have HDx := Lib.hid hx
  have hsx := hx.size HG1.out
  obtain ⟨bx, hbx⟩ : ∃ b, strOfNums x = b := ⟨_, rfl⟩
  rw [hbx] at hsx ⊢
  have HBX := Lib.hid hbx
  have hsm : ¬ 9223372036854775807 < bx.size + 1 := by omega
  have hsm' : ¬ 9223372036854775807 < 1 + bx.size := by omega
  clear hx hbx
  have hc2 := HX.out.cell hc1
  clear hc1
  have cA0 : w2.cell? ⟨w.heap.size, 0, none⟩ = some (.bool true) := KA.out.cell 0
  have cA1 : w2.cell? ⟨w.heap.size, 1, none⟩ = some (.slice A0 l0 c0) := KA.out.cell 1
  have cA2 : w2.cell? ⟨w.heap.size, 2, none⟩ = some (.slice (some ⟨b1, o1, none⟩) 1 k0) := KA.out.cell 2
  go_wp2_with fail
  clear cA0 cA1 cA2
  refine (decimal_any _ d L M _ HJ.out HF2.out hM HG2.out hL).mono ?_
  rintro e w3 ⟨y, rfl, hy, hX⟩
  replace hX : Ext w2 w3 := by with_reducible exact hX
  replace HX := Lib.hid (HX.out.trans hX)
  replace HI := Lib.hid (HI.out.ext hX)
  replace HJ := Lib.hid (HJ.out.ext hX)
  replace KA := Lib.hid (KA.out.ext hX)
  clear hX
  have HDy := Lib.hid hy
  have hsy := hy.size HG2.out
  obtain ⟨bt, hby⟩ : ∃ b, strOfNums y = b := ⟨_, rfl⟩
  rw [hby] at hsy ⊢
  have HBY := Lib.hid hby
  have hsn : ¬ 9223372036854775807 < 1 + bt.size := by omega
  have hsn' : ¬ 9223372036854775807 < bx.size + (1 + bt.size) := by omega
  have hsn2 : ¬ 9223372036854775807 < 1 + bx.size + (1 + bt.size) := by omega
  clear hy hby
  go_wp2
  go_ret
  exact ⟨_, rfl, ⟨x, y, HDx.out, HDy.out, by rw [decide_eq_false HD.out, HBX.out, HBY.out]; rfl⟩, HX.out⟩

theorem qtext_any {w : World} {v : Value} {q : Rat} (h : QZ w v q) (hf : FitQ q 256) : Calls Try.prog 40 #[v] w (RetT w (decide (q.num < 0)) q.num.natAbs q.den) := by
  obtain ⟨b, A, l, c, B, m, k, rfl, rfl, h1, h2⟩ := h
  have hr := fitR_512 hf
  by_cases hd : q.den = 1
  · cases decide (q.num < 0)
    · exact qtext_one_f A B l c m k _ _ 256 512 w h1 h2 hr.1 hr.2 (by omega) hf.1 hf.2 (by omega) hd
    · exact qtext_one_t A B l c m k _ _ 256 512 w h1 h2 hr.1 hr.2 (by omega) hf.1 hf.2 (by omega) hd
  · by_cases hm : m = 1
    · cases decide (q.num < 0)
      · exact qtext_den_f A B l c m k _ _ 256 512 w h1 h2 hr.1 hr.2 (by omega) hf.1 hf.2 (by omega) hm hd
      · exact qtext_den_t A B l c m k _ _ 256 512 w h1 h2 hr.1 hr.2 (by omega) hf.1 hf.2 (by omega) hm hd
    · cases decide (q.num < 0)
      · exact qtext_len_f A B l c m k _ _ 256 512 w h1 h2 hr.1 hr.2 (by omega) hf.1 hf.2 (by omega) hm hd
      · exact qtext_len_t A B l c m k _ _ 256 512 w h1 h2 hr.1 hr.2 (by omega) hf.1 hf.2 (by omega) hm hd
theorem textb (s : Bool) (n d : Nat) : ∃ b, TextB s n d b := by
  have dec : ∀ n, ∃ x, Dec n x := by
    intro n
    induction n using Nat.strongRecOn with
    | _ n ih =>
      rcases Nat.eq_zero_or_pos n with h | h
      · exact ⟨[48], .inl ⟨h, rfl⟩⟩
      · by_cases hs : n < 10
        · exact ⟨_, .inr ⟨by omega, [(n : Int)], ⟨Dg.one (by omega), Nm.one (by omega), val_one _⟩, rfl⟩⟩
        · obtain ⟨x, hx⟩ := ih (n / 10) (by omega)
          rcases hx with ⟨h0, _⟩ | ⟨h0, xs, hr, _⟩
          · omega
          · refine ⟨_, .inr ⟨by omega, (n : Int) % 10 :: xs, ⟨Dg.cons (by omega) hr.1, ?_, ?_⟩, rfl⟩⟩
            · obtain ⟨ys, y, rfl, hy⟩ := hr.2.1.split (by rintro rfl; have := hr.2.2; simp [val] at this; omega)
              rw [← List.cons_append]
              exact Nm.snoc hy
            · have := hr.2.2
              simp only [val]
              omega
  obtain ⟨x, hx⟩ := dec n
  obtain ⟨y, hy⟩ := dec d
  exact ⟨_, x, y, hx, hy, rfl⟩
section
variable {w : World} {va : Value}
theorem ecanonL (h : RatL w va true) : Calls Try.prog 34 #[va] w (RetE w zeroR 1) := by
  obtain ⟨neg, xs, ys, h1, h2⟩ := h
  exact ecanon_no va neg xs ys w h1 (h2.1 rfl)
theorem enegL (h : RatL w va true) : Calls Try.prog 35 #[va] w (RetE w zeroR 1) := by
  obtain ⟨neg, xs, ys, h1, h2⟩ := h
  exact eneg_no va neg xs ys w h1 (h2.1 rfl)
theorem esignL (h : RatL w va true) : Calls Try.prog 36 #[va] w (RetE w (.int .i64 0) 1) := by
  obtain ⟨neg, xs, ys, h1, h2⟩ := h
  exact esign_no va neg xs ys w h1 (h2.1 rfl)
theorem etextL (h : RatL w va true) : Calls Try.prog 37 #[va] w (RetE w (.string ⟨#[]⟩) 1) := by
  obtain ⟨neg, xs, ys, h1, h2⟩ := h
  exact etext_no va neg xs ys w h1 (h2.1 rfl)
theorem textT {q : Rat} {b : ByteArray} (h : RatG w va q) (hb : TextB (decide (q.num < 0)) q.num.natAbs q.den b) : Calls Try.prog 37 #[va] w fun e w' => e = .returned (.tuple #[.string b, .int .i64 0]) ∧ Ext w w' := by
  refine (textG h).mono ?_
  rintro e w' ⟨b', rfl, h', hX⟩
  rw [h'.unique hb]
  exact ⟨rfl, hX⟩
theorem qtextT {q : Rat} {b : ByteArray} (h : QZ w va q) (hf : FitQ q 256) (hb : TextB (decide (q.num < 0)) q.num.natAbs q.den b) : Calls Try.prog 40 #[va] w fun e w' => e = .returned (.string b) ∧ Ext w w' := by
  refine (qtext_any h hf).mono ?_
  rintro e w' ⟨b', rfl, h', hX⟩
  rw [h'.unique hb]
  exact ⟨rfl, hX⟩
end

set_option maxRecDepth 100000 in
set_option maxHeartbeats 2000000 in
theorem qminus_rz (ga : Nat) (w : World) (x0 : w.cell? ⟨ga, 0, none⟩ = some (.bool false)) (x1 : w.cell? ⟨ga, 1, none⟩ = some (.slice none 0 0)) (x2 : w.cell? ⟨ga, 2, none⟩ = some (.slice none 0 0)) (a : Act) (Q : Exit → Act → World → Prop) (hsize : 8 ≤ a.tmps.size)
    (s1 : a.tmps[1]? = some (.pointer (some ⟨ga, 0, none⟩)))
    (hend : ∀ (xv0 xv1 xv2 xv3 xv4 : Value) (W : World), (xv0 = .pointer (some ⟨ga, 0, none⟩)) → (xv1 = .agg #[.bool false, .slice none 0 0]) → (IntZ W xv2 (-0)) → (xv3 = .pointer (some ⟨ga, 2, none⟩)) → (xv4 = .slice none 0 0) → Ext w W → wpList Try.prog (rops Try.f38 1).toArray Q ((rops Try.f38 1).drop 5) (((((a.put (some 3) xv0).put (some 4) xv1).put (some 5) xv2).put (some 6) xv3).put (some 7) xv4) W) :
    (Code.region 1 (rops Try.f38 1).toArray true).wp Try.prog Q a w := by
  have hmono : ∀ (W W' : World) (j : Nat) (u : Value), Ext W W' → (fun (i : Nat) (v : Value) (W : World) => match i with
    | 0 => v = .pointer (some ⟨ga, 0, none⟩)
    | 1 => v = .agg #[.bool false, .slice none 0 0]
    | 2 => IntZ W v (-0)
    | 3 => v = .pointer (some ⟨ga, 2, none⟩)
    | 4 => v = .slice none 0 0
    | _ => True) j u W → (fun (i : Nat) (v : Value) (W : World) => match i with
    | 0 => v = .pointer (some ⟨ga, 0, none⟩)
    | 1 => v = .agg #[.bool false, .slice none 0 0]
    | 2 => IntZ W v (-0)
    | 3 => v = .pointer (some ⟨ga, 2, none⟩)
    | 4 => v = .slice none 0 0
    | _ => True) j u W' := by
    intro W W' j u hX h
    match j, h with
    | 0, h => exact h
    | 1, h => exact h
    | 2, h => exact IntZ.ext h hX
    | 3, h => exact h
    | 4, h => exact h
    | _ + 5, h => exact h
  have hsz : ∀ d, some d ∈ ([some 3, some 4, some 5, some 6, some 7] : List (Option Tmp)) → d < a.tmps.size := slots_lt (by decide) hsize
  refine wp_region_j 5 [some 3, some 4, some 5, some 6, some 7] [[], [0], [1], [], [3]] [[], [], [], [], []] (fun (i : Nat) (v : Value) (W : World) => match i with
    | 0 => v = .pointer (some ⟨ga, 0, none⟩)
    | 1 => v = .agg #[.bool false, .slice none 0 0]
    | 2 => IntZ W v (-0)
    | 3 => v = .pointer (some ⟨ga, 2, none⟩)
    | 4 => v = .slice none 0 0
    | _ => True) (fun _ W => Ext w W) (by kernel_rfl) (by kernel_rfl) hsz (fun _ _ _ _ h => h) ((Ext.refl w).drew) ?_ ?_
  · clear hend
    simp only [rops, Try.f38, regOf, Option.bind_some, Nat.reduceBEq, if_true, if_false, Bool.false_eq_true, Option.getD_some]
    simp only [List.take_succ_cons, List.take_zero]
    refine ⟨?_, ?_, ?_, ?_, ?_, trivial⟩
    · intro done us W hJ hdep haft hnot b hb hb' K hK Q'
      have e1 := (hb' 1 (by simp)).trans s1
      clear hb hb'
      go_simp
      exact hK _ _ rfl (fun _ _ _ h => h) hJ
    · intro done us W hJ hdep haft hnot b hb hb' K hK Q'
      simp only [List.getD_cons_succ, List.getD_cons_zero, List.mem_cons, List.not_mem_nil, or_false, forall_eq_or_imp, forall_eq] at hdep
      have e3 := hb 0 3 rfl
      have d0 := hdep
      rw [d0.1] at e3
      clear hb hb' hdep d0
      have z0 := Ext.cell hJ x0
      have z1 := Ext.cell hJ x1
      go_simp
      exact hK _ _ rfl (fun _ _ _ h => h) hJ
    · intro done us W hJ hdep haft hnot b hb hb' K hK Q'
      simp only [List.getD_cons_succ, List.getD_cons_zero, List.mem_cons, List.not_mem_nil, or_false, forall_eq_or_imp, forall_eq] at hdep
      have e4 := hb 1 4 rfl
      have d1 := hdep
      rw [d1.1] at e4
      clear hb hb' hdep d1
      go_simp
      refine (rminus_any _ 0 _ ⟨none, 0, 0, rfl, NatV.zero⟩).mono ?_
      rintro e w' ⟨v, rfl, hv, hX⟩
      exact hK _ _ hv (fun j u _ h => hmono _ _ j u hX h) (Ext.trans hJ hX)
    · intro done us W hJ hdep haft hnot b hb hb' K hK Q'
      have e1 := (hb' 1 (by simp)).trans s1
      clear hb hb'
      go_simp
      exact hK _ _ rfl (fun _ _ _ h => h) hJ
    · intro done us W hJ hdep haft hnot b hb hb' K hK Q'
      simp only [List.getD_cons_succ, List.getD_cons_zero, List.mem_cons, List.not_mem_nil, or_false, forall_eq_or_imp, forall_eq] at hdep
      have e6 := hb 3 6 rfl
      have d3 := hdep
      rw [d3.1] at e6
      clear hb hb' hdep d3
      have q := Ext.cell hJ x2
      go_simp
      exact hK _ _ rfl (fun _ _ _ h => h) hJ
  · intro us W hV hJ
    exact hend (us 0) (us 1) (us 2) (us 3) (us 4) W (hV 0 (by omega)) (hV 1 (by omega)) (hV 2 (by omega)) (hV 3 (by omega)) (hV 4 (by omega)) hJ
set_option maxRecDepth 100000 in
set_option maxHeartbeats 2000000 in
theorem qminus_zero  (w : World) :
    Calls Try.prog 38 #[.agg #[.bool false, .slice none 0 0, .slice none 0 0]] w (fun e w' => ∃ s A l c B m k, e = .returned (.agg #[.bool s, .slice A l c, .slice B m k]) ∧ Ext w w') := by
  have hXe : Ext w ((w.alloc (.cells #[.bool false, .slice none 0 0, .slice none 0 0] 42)).alloc (.cells #[.bool false, .slice none 0 0, .slice none 0 0] 42)) := (((Ext.refl w).alloc _).alloc _)
  have kA : Blk ((w.alloc (.cells #[.bool false, .slice none 0 0, .slice none 0 0] 42)).alloc (.cells #[.bool false, .slice none 0 0, .slice none 0 0] 42)) w.heap.size 42 #[.bool false, .slice none 0 0, .slice none 0 0] := Blk.alloc (Blk.at_ (by simp)) _
  have kR : Blk ((w.alloc (.cells #[.bool false, .slice none 0 0, .slice none 0 0] 42)).alloc (.cells #[.bool false, .slice none 0 0, .slice none 0 0] 42)) (w.heap.size + 1) 42 #[.bool false, .slice none 0 0, .slice none 0 0] := Blk.at_ (by simp)
  go_enter Try.func38, Try.ntmps38
  go_wp2_with fail
  generalize ((w.alloc (.cells #[.bool false, .slice none 0 0, .slice none 0 0] 42)).alloc (.cells #[.bool false, .slice none 0 0, .slice none 0 0] 42)) = w1 at hXe kA kR ⊢
  have HX := Lib.hid hXe
  clear hXe
  have KA := Lib.hid kA
  clear kA
  have KR := Lib.hid kR
  clear kR
  go_upto_region 1 with (fail)
  refine qminus_rz w.heap.size w1 (KA.out.cell 0) (KA.out.cell 1) (KA.out.cell 2) _ _ (by simp) rfl ?_
  rintro xv0 xv1 xv2 xv3 xv4 w2 rfl rfl hv rfl rfl hXW
  simp only [rops, Try.f38, regOf, Option.bind_some, Nat.reduceBEq, if_true, if_false, Bool.false_eq_true, Option.getD_some, List.drop_succ_cons, List.drop_zero]
  simp only [Act.put, List.setIfInBounds_toArray, List.set_cons_succ, List.set_cons_zero]
  replace HX := Lib.hid (HX.out.trans hXW)
  replace KA := Lib.hid (KA.out.ext hXW)
  replace KR := Lib.hid (KR.out.ext hXW)
  clear hXW
  obtain ⟨A9, l9, c9, rfl, hv9⟩ := hv.open
  obtain ⟨b9, hb9⟩ : ∃ b, decide ((-0 : Int) < 0) = b := ⟨_, rfl⟩
  rw [hb9]
  clear hv hv9 hb9
  have cR0 : w2.cell? ⟨(w.heap.size + 1), 0, none⟩ = some (.bool false) := KR.out.cell 0
  have fR0 : w2.frozen? ⟨(w.heap.size + 1), 0, none⟩ = false := KR.out.free 0
  have cR1 : w2.cell? ⟨(w.heap.size + 1), 1, none⟩ = some (.slice none 0 0) := KR.out.cell 1
  have fR1 : w2.frozen? ⟨(w.heap.size + 1), 1, none⟩ = false := KR.out.free 1
  have cR2 : w2.cell? ⟨(w.heap.size + 1), 2, none⟩ = some (.slice none 0 0) := KR.out.cell 2
  have fR2 : w2.frozen? ⟨(w.heap.size + 1), 2, none⟩ = false := KR.out.free 2
  go_wp2
  refine bodyPost_ret (v := .agg #[.bool b9, .slice A9 l9 c9, .slice none 0 0]) (by simp [results, Try.results38, go_sem, *]) rfl ?_
  exact ⟨_, _, _, _, _, _, _, rfl, Ext.boxed HX.out (by omega) _ _ _⟩

set_option maxRecDepth 100000 in
set_option maxHeartbeats 2000000 in
theorem canon_r8 (gx gy gz : Nat) (s17 : Bool) (A17 B17 : Option Addr) (l17 c17 m17 k17 : Nat) (s18 : Bool) (A18 B18 : Option Addr) (l18 c18 m18 k18 : Nat) (s19 : Bool) (A19 B19 : Option Addr) (l19 c19 m19 k19 : Nat) (q : Rat) (w : World) (x0 : w.cell? ⟨gx, 0, none⟩ = some (.bool s17)) (x1 : w.cell? ⟨gx, 1, none⟩ = some (.slice A17 l17 c17)) (x2 : w.cell? ⟨gx, 2, none⟩ = some (.slice B17 m17 k17)) (y0 : w.cell? ⟨gy, 0, none⟩ = some (.bool s18)) (y1 : w.cell? ⟨gy, 1, none⟩ = some (.slice A18 l18 c18)) (y2 : w.cell? ⟨gy, 2, none⟩ = some (.slice B18 m18 k18)) (z0 : w.cell? ⟨gz, 0, none⟩ = some (.bool s19)) (z1 : w.cell? ⟨gz, 1, none⟩ = some (.slice A19 l19 c19)) (z2 : w.cell? ⟨gz, 2, none⟩ = some (.slice B19 m19 k19)) (hq : QZ w (.agg #[.bool s17, .slice A17 l17 c17, .slice B17 m17 k17]) q) (hc : RatC w (.agg #[.bool s18, .slice A18 l18 c18, .slice B18 m18 k18]) q) (hn : RatC w (.agg #[.bool s19, .slice A19 l19 c19, .slice B19 m19 k19]) (-q)) (hf : FitQW q) (hf2 : FitQW (-q)) (a : Act) (Q : Exit → Act → World → Prop) (hsize : 67 ≤ a.tmps.size)
    (s3 : a.tmps[3]? = some (.pointer (some ⟨gx, 0, none⟩)))
    (s4 : a.tmps[4]? = some (.int .i64 0))
    (s5 : a.tmps[5]? = some (.pointer (some ⟨gy, 0, none⟩)))
    (s6 : a.tmps[6]? = some (.int .i64 0))
    (s7 : a.tmps[7]? = some (.pointer (some ⟨gz, 0, none⟩)))
    (s8 : a.tmps[8]? = some (.int .i64 0))
    (s10 : a.tmps[10]? = some (.int .i64 0))
    (s12 : a.tmps[12]? = some (.int .i64 0))
    (hend : ∀ (xv0 xv1 xv2 xv3 xv4 xv5 xv6 xv7 xv8 xv9 xv10 xv11 xv12 xv13 xv14 xv15 xv16 xv17 xv18 xv19 xv20 xv21 xv22 xv23 xv24 : Value) (W : World), (xv0 = .agg #[.bool s18, .slice A18 l18 c18, .slice B18 m18 k18]) → (xv1 = .int .i64 0) → (xv2 = .agg #[.bool s17, .slice A17 l17 c17, .slice B17 m17 k17]) → (xv3 = .int .i64 0) → (xv4 = .bool true) → (xv5 = .bool false) → (xv6 = .bool false) → (xv7 = .agg #[.bool s19, .slice A19 l19 c19, .slice B19 m19 k19]) → (xv8 = .int .i64 0) → (xv9 = .agg #[.bool s17, .slice A17 l17 c17, .slice B17 m17 k17]) → (QZ W xv10 (-q)) → (xv11 = .int .i64 0) → (xv12 = .bool true) → (xv13 = .bool false) → (xv14 = .bool false) → (xv15 = .bool false) → (xv16 = .int .i64 0) → (xv17 = .int .i64 0) → (xv18 = .bool false) → (xv19 = .bool false) → (xv20 = .bool false) → (xv21 = .int .i64 0) → (xv22 = .int .i64 0) → (xv23 = .bool false) → (xv24 = .bool false) → Ext w W → wpList Try.prog (rops Try.f7 8).toArray Q ((rops Try.f7 8).drop 25) (((((((((((((((((((((((((a.put (some 42) xv0).put (some 43) xv1).put (some 44) xv2).put (some 45) xv3).put (some 46) xv4).put (some 47) xv5).put (some 48) xv6).put (some 49) xv7).put (some 50) xv8).put (some 51) xv9).put (some 52) xv10).put (some 53) xv11).put (some 54) xv12).put (some 55) xv13).put (some 56) xv14).put (some 57) xv15).put (some 58) xv16).put (some 59) xv17).put (some 60) xv18).put (some 61) xv19).put (some 62) xv20).put (some 63) xv21).put (some 64) xv22).put (some 65) xv23).put (some 66) xv24) W) :
    (Code.region 8 (rops Try.f7 8).toArray true).wp Try.prog Q a w := by
  have hmono : ∀ (W W' : World) (j : Nat) (u : Value), Ext W W' → (fun (i : Nat) (v : Value) (W : World) => match i with
    | 0 => v = .agg #[.bool s18, .slice A18 l18 c18, .slice B18 m18 k18]
    | 1 => v = .int .i64 0
    | 2 => v = .agg #[.bool s17, .slice A17 l17 c17, .slice B17 m17 k17]
    | 3 => v = .int .i64 0
    | 4 => v = .bool true
    | 5 => v = .bool false
    | 6 => v = .bool false
    | 7 => v = .agg #[.bool s19, .slice A19 l19 c19, .slice B19 m19 k19]
    | 8 => v = .int .i64 0
    | 9 => v = .agg #[.bool s17, .slice A17 l17 c17, .slice B17 m17 k17]
    | 10 => QZ W v (-q)
    | 11 => v = .int .i64 0
    | 12 => v = .bool true
    | 13 => v = .bool false
    | 14 => v = .bool false
    | 15 => v = .bool false
    | 16 => v = .int .i64 0
    | 17 => v = .int .i64 0
    | 18 => v = .bool false
    | 19 => v = .bool false
    | 20 => v = .bool false
    | 21 => v = .int .i64 0
    | 22 => v = .int .i64 0
    | 23 => v = .bool false
    | 24 => v = .bool false
    | _ => True) j u W → (fun (i : Nat) (v : Value) (W : World) => match i with
    | 0 => v = .agg #[.bool s18, .slice A18 l18 c18, .slice B18 m18 k18]
    | 1 => v = .int .i64 0
    | 2 => v = .agg #[.bool s17, .slice A17 l17 c17, .slice B17 m17 k17]
    | 3 => v = .int .i64 0
    | 4 => v = .bool true
    | 5 => v = .bool false
    | 6 => v = .bool false
    | 7 => v = .agg #[.bool s19, .slice A19 l19 c19, .slice B19 m19 k19]
    | 8 => v = .int .i64 0
    | 9 => v = .agg #[.bool s17, .slice A17 l17 c17, .slice B17 m17 k17]
    | 10 => QZ W v (-q)
    | 11 => v = .int .i64 0
    | 12 => v = .bool true
    | 13 => v = .bool false
    | 14 => v = .bool false
    | 15 => v = .bool false
    | 16 => v = .int .i64 0
    | 17 => v = .int .i64 0
    | 18 => v = .bool false
    | 19 => v = .bool false
    | 20 => v = .bool false
    | 21 => v = .int .i64 0
    | 22 => v = .int .i64 0
    | 23 => v = .bool false
    | 24 => v = .bool false
    | _ => True) j u W' := by
    intro W W' j u hX h
    match j, h with
    | 0, h => exact h
    | 1, h => exact h
    | 2, h => exact h
    | 3, h => exact h
    | 4, h => exact h
    | 5, h => exact h
    | 6, h => exact h
    | 7, h => exact h
    | 8, h => exact h
    | 9, h => exact h
    | 10, h => exact QZ.ext h hX
    | 11, h => exact h
    | 12, h => exact h
    | 13, h => exact h
    | 14, h => exact h
    | 15, h => exact h
    | 16, h => exact h
    | 17, h => exact h
    | 18, h => exact h
    | 19, h => exact h
    | 20, h => exact h
    | 21, h => exact h
    | 22, h => exact h
    | 23, h => exact h
    | 24, h => exact h
    | _ + 25, h => exact h
  have hsz : ∀ d, some d ∈ ([some 42, some 43, some 44, some 45, some 46, some 47, some 48, some 49, some 50, some 51, some 52, some 53, some 54, some 55, some 56, some 57, some 58, some 59, some 60, some 61, some 62, some 63, some 64, some 65, some 66] : List (Option Tmp)) → d < a.tmps.size := slots_lt (by decide) hsize
  refine wp_region_j 25 [some 42, some 43, some 44, some 45, some 46, some 47, some 48, some 49, some 50, some 51, some 52, some 53, some 54, some 55, some 56, some 57, some 58, some 59, some 60, some 61, some 62, some 63, some 64, some 65, some 66] [[], [], [], [], [0, 1, 2, 3], [4], [5], [6], [6], [6], [6, 9], [6], [6, 7, 8, 10, 11], [6, 12], [6, 13], [14], [15], [15], [15, 16, 17], [15, 18], [19], [20], [20], [20, 21, 22], [20, 23]] [[], [], [], [], [], [], [], [], [], [], [], [], [], [], [], [], [], [], [], [], [], [], [], [], []] (fun (i : Nat) (v : Value) (W : World) => match i with
    | 0 => v = .agg #[.bool s18, .slice A18 l18 c18, .slice B18 m18 k18]
    | 1 => v = .int .i64 0
    | 2 => v = .agg #[.bool s17, .slice A17 l17 c17, .slice B17 m17 k17]
    | 3 => v = .int .i64 0
    | 4 => v = .bool true
    | 5 => v = .bool false
    | 6 => v = .bool false
    | 7 => v = .agg #[.bool s19, .slice A19 l19 c19, .slice B19 m19 k19]
    | 8 => v = .int .i64 0
    | 9 => v = .agg #[.bool s17, .slice A17 l17 c17, .slice B17 m17 k17]
    | 10 => QZ W v (-q)
    | 11 => v = .int .i64 0
    | 12 => v = .bool true
    | 13 => v = .bool false
    | 14 => v = .bool false
    | 15 => v = .bool false
    | 16 => v = .int .i64 0
    | 17 => v = .int .i64 0
    | 18 => v = .bool false
    | 19 => v = .bool false
    | 20 => v = .bool false
    | 21 => v = .int .i64 0
    | 22 => v = .int .i64 0
    | 23 => v = .bool false
    | 24 => v = .bool false
    | _ => True) (fun _ W => Ext w W) (by kernel_rfl) (by kernel_rfl) hsz (fun _ _ _ _ h => h) ((Ext.refl w).drew) ?_ ?_
  · clear hend
    simp only [rops, Try.f7, regOf, Option.bind_some, Nat.reduceBEq, if_true, if_false, Bool.false_eq_true, Option.getD_some]
    simp only [List.take_succ_cons, List.take_zero]
    refine ⟨?_, ?_, ?_, ?_, ?_, ?_, ?_, ?_, ?_, ?_, ?_, ?_, ?_, ?_, ?_, ?_, ?_, ?_, ?_, ?_, ?_, ?_, ?_, ?_, ?_, trivial⟩
    · intro done us W hJ hdep haft hnot b hb hb' K hK Q'
      have e5 := (hb' 5 (by simp)).trans s5
      clear hb hb'
      have z0 := Ext.cell hJ y0
      have z1 := Ext.cell hJ y1
      have z2 := Ext.cell hJ y2
      go_simp
      exact hK _ _ rfl (fun _ _ _ h => h) hJ
    · intro done us W hJ hdep haft hnot b hb hb' K hK Q'
      have e6 := (hb' 6 (by simp)).trans s6
      clear hb hb'
      go_simp
      exact hK _ _ rfl (fun _ _ _ h => h) hJ
    · intro done us W hJ hdep haft hnot b hb hb' K hK Q'
      have e3 := (hb' 3 (by simp)).trans s3
      clear hb hb'
      have z0 := Ext.cell hJ x0
      have z1 := Ext.cell hJ x1
      have z2 := Ext.cell hJ x2
      go_simp
      exact hK _ _ rfl (fun _ _ _ h => h) hJ
    · intro done us W hJ hdep haft hnot b hb hb' K hK Q'
      have e4 := (hb' 4 (by simp)).trans s4
      clear hb hb'
      go_simp
      exact hK _ _ rfl (fun _ _ _ h => h) hJ
    · intro done us W hJ hdep haft hnot b hb hb' K hK Q'
      simp only [List.getD_cons_succ, List.getD_cons_zero, List.mem_cons, List.not_mem_nil, or_false, forall_eq_or_imp, forall_eq] at hdep
      have e42 := hb 0 42 rfl
      have e43 := hb 1 43 rfl
      have e44 := hb 2 44 rfl
      have e45 := hb 3 45 rfl
      have d0 := hdep.1
      have d1 := hdep.2.1
      have d2 := hdep.2.2.1
      have d3 := hdep.2.2.2
      rw [d0.1] at e42
      rw [d1.1] at e43
      rw [d2.1] at e44
      rw [d3.1] at e45
      clear hb hb' hdep d0 d1 d2 d3
      go_simp
      refine (is_ok (RatC.ext hc hJ) (QZ.ext hq hJ) hf).mono ?_
      rintro e w' ⟨rfl, hX⟩
      exact hK _ _ rfl (fun j u _ h => hmono _ _ j u hX h) (Ext.trans hJ hX)
    · intro done us W hJ hdep haft hnot b hb hb' K hK Q'
      simp only [List.getD_cons_succ, List.getD_cons_zero, List.mem_cons, List.not_mem_nil, or_false, forall_eq_or_imp, forall_eq] at hdep
      have e46 := hb 4 46 rfl
      have d4 := hdep
      rw [d4.1] at e46
      clear hb hb' hdep d4
      go_simp
      exact hK _ _ rfl (fun _ _ _ h => h) hJ
    · intro done us W hJ hdep haft hnot b hb hb' K hK Q'
      simp only [List.getD_cons_succ, List.getD_cons_zero, List.mem_cons, List.not_mem_nil, or_false, forall_eq_or_imp, forall_eq] at hdep
      have e47 := hb 5 47 rfl
      have d5 := hdep
      rw [d5.1] at e47
      clear hb hb' hdep d5
      go_simp
      exact hK _ _ rfl (fun _ _ _ h => h) hJ
    · intro done us W hJ hdep haft hnot b hb hb' K hK Q'
      simp only [List.getD_cons_succ, List.getD_cons_zero, List.mem_cons, List.not_mem_nil, or_false, forall_eq_or_imp, forall_eq] at hdep
      have e7 := (hb' 7 (by simp)).trans s7
      have e48 := hb 6 48 rfl
      have d6 := hdep
      rw [d6.1] at e48
      clear hb hb' hdep d6
      have u0 := Ext.cell hJ z0
      have u1 := Ext.cell hJ z1
      have u2 := Ext.cell hJ z2
      go_simp
      exact hK _ _ rfl (fun _ _ _ h => h) hJ
    · intro done us W hJ hdep haft hnot b hb hb' K hK Q'
      simp only [List.getD_cons_succ, List.getD_cons_zero, List.mem_cons, List.not_mem_nil, or_false, forall_eq_or_imp, forall_eq] at hdep
      have e8 := (hb' 8 (by simp)).trans s8
      have e48 := hb 6 48 rfl
      have d6 := hdep
      rw [d6.1] at e48
      clear hb hb' hdep d6
      go_simp
      exact hK _ _ rfl (fun _ _ _ h => h) hJ
    · intro done us W hJ hdep haft hnot b hb hb' K hK Q'
      simp only [List.getD_cons_succ, List.getD_cons_zero, List.mem_cons, List.not_mem_nil, or_false, forall_eq_or_imp, forall_eq] at hdep
      have e3 := (hb' 3 (by simp)).trans s3
      have e48 := hb 6 48 rfl
      have d6 := hdep
      rw [d6.1] at e48
      clear hb hb' hdep d6
      have z0 := Ext.cell hJ x0
      have z1 := Ext.cell hJ x1
      have z2 := Ext.cell hJ x2
      go_simp
      exact hK _ _ rfl (fun _ _ _ h => h) hJ
    · intro done us W hJ hdep haft hnot b hb hb' K hK Q'
      simp only [List.getD_cons_succ, List.getD_cons_zero, List.mem_cons, List.not_mem_nil, or_false, forall_eq_or_imp, forall_eq] at hdep
      have e48 := hb 6 48 rfl
      have e51 := hb 9 51 rfl
      have d6 := hdep.1
      have d9 := hdep.2
      rw [d6.1] at e48
      rw [d9.1] at e51
      clear hb hb' hdep d6 d9
      go_simp
      refine (qminus_any _ q _ (QZ.ext hq hJ)).mono ?_
      rintro e w' ⟨v, rfl, hv, hX⟩
      exact hK _ _ hv (fun j u _ h => hmono _ _ j u hX h) (Ext.trans hJ hX)
    · intro done us W hJ hdep haft hnot b hb hb' K hK Q'
      simp only [List.getD_cons_succ, List.getD_cons_zero, List.mem_cons, List.not_mem_nil, or_false, forall_eq_or_imp, forall_eq] at hdep
      have e4 := (hb' 4 (by simp)).trans s4
      have e48 := hb 6 48 rfl
      have d6 := hdep
      rw [d6.1] at e48
      clear hb hb' hdep d6
      go_simp
      exact hK _ _ rfl (fun _ _ _ h => h) hJ
    · intro done us W hJ hdep haft hnot b hb hb' K hK Q'
      simp only [List.getD_cons_succ, List.getD_cons_zero, List.mem_cons, List.not_mem_nil, or_false, forall_eq_or_imp, forall_eq] at hdep
      have e48 := hb 6 48 rfl
      have e49 := hb 7 49 rfl
      have e50 := hb 8 50 rfl
      have e52 := hb 10 52 rfl
      have e53 := hb 11 53 rfl
      have d6 := hdep.1
      have d7 := hdep.2.1
      have d8 := hdep.2.2.1
      have d10 := hdep.2.2.2.1
      have d11 := hdep.2.2.2.2
      rw [d6.1] at e48
      rw [d7.1] at e49
      rw [d8.1] at e50
      rw [d11.1] at e53
      clear hb hb' hdep d6 d7 d8 d11
      go_simp
      refine (is_ok (RatC.ext hn hJ) d10.1 hf2).mono ?_
      rintro e w' ⟨rfl, hX⟩
      exact hK _ _ rfl (fun j u _ h => hmono _ _ j u hX h) (Ext.trans hJ hX)
    · intro done us W hJ hdep haft hnot b hb hb' K hK Q'
      simp only [List.getD_cons_succ, List.getD_cons_zero, List.mem_cons, List.not_mem_nil, or_false, forall_eq_or_imp, forall_eq] at hdep
      have e48 := hb 6 48 rfl
      have e54 := hb 12 54 rfl
      have d6 := hdep.1
      have d12 := hdep.2
      rw [d6.1] at e48
      rw [d12.1] at e54
      clear hb hb' hdep d6 d12
      go_simp
      exact hK _ _ rfl (fun _ _ _ h => h) hJ
    · intro done us W hJ hdep haft hnot b hb hb' K hK Q'
      simp only [List.getD_cons_succ, List.getD_cons_zero, List.mem_cons, List.not_mem_nil, or_false, forall_eq_or_imp, forall_eq] at hdep
      have e48 := hb 6 48 rfl
      have e55 := hb 13 55 rfl
      have d6 := hdep.1
      have d13 := hdep.2
      rw [d6.1] at e48
      rw [d13.1] at e55
      clear hb hb' hdep d6 d13
      go_simp
      exact hK _ _ rfl (fun _ _ _ h => h) hJ
    · intro done us W hJ hdep haft hnot b hb hb' K hK Q'
      simp only [List.getD_cons_succ, List.getD_cons_zero, List.mem_cons, List.not_mem_nil, or_false, forall_eq_or_imp, forall_eq] at hdep
      have e56 := hb 14 56 rfl
      have d14 := hdep
      rw [d14.1] at e56
      clear hb hb' hdep d14
      go_simp
      exact hK _ _ rfl (fun _ _ _ h => h) hJ
    · intro done us W hJ hdep haft hnot b hb hb' K hK Q'
      simp only [List.getD_cons_succ, List.getD_cons_zero, List.mem_cons, List.not_mem_nil, or_false, forall_eq_or_imp, forall_eq] at hdep
      have e10 := (hb' 10 (by simp)).trans s10
      have e57 := hb 15 57 rfl
      have d15 := hdep
      rw [d15.1] at e57
      clear hb hb' hdep d15
      go_simp
      exact hK _ _ rfl (fun _ _ _ h => h) hJ
    · intro done us W hJ hdep haft hnot b hb hb' K hK Q'
      simp only [List.getD_cons_succ, List.getD_cons_zero, List.mem_cons, List.not_mem_nil, or_false, forall_eq_or_imp, forall_eq] at hdep
      have e4 := (hb' 4 (by simp)).trans s4
      have e57 := hb 15 57 rfl
      have d15 := hdep
      rw [d15.1] at e57
      clear hb hb' hdep d15
      go_simp
      exact hK _ _ rfl (fun _ _ _ h => h) hJ
    · intro done us W hJ hdep haft hnot b hb hb' K hK Q'
      simp only [List.getD_cons_succ, List.getD_cons_zero, List.mem_cons, List.not_mem_nil, or_false, forall_eq_or_imp, forall_eq] at hdep
      have e57 := hb 15 57 rfl
      have e58 := hb 16 58 rfl
      have e59 := hb 17 59 rfl
      have d15 := hdep.1
      have d16 := hdep.2.1
      have d17 := hdep.2.2
      rw [d15.1] at e57
      rw [d16.1] at e58
      rw [d17.1] at e59
      clear hb hb' hdep d15 d16 d17
      go_simp
      exact hK _ _ rfl (fun _ _ _ h => h) hJ
    · intro done us W hJ hdep haft hnot b hb hb' K hK Q'
      simp only [List.getD_cons_succ, List.getD_cons_zero, List.mem_cons, List.not_mem_nil, or_false, forall_eq_or_imp, forall_eq] at hdep
      have e57 := hb 15 57 rfl
      have e60 := hb 18 60 rfl
      have d15 := hdep.1
      have d18 := hdep.2
      rw [d15.1] at e57
      rw [d18.1] at e60
      clear hb hb' hdep d15 d18
      go_simp
      exact hK _ _ rfl (fun _ _ _ h => h) hJ
    · intro done us W hJ hdep haft hnot b hb hb' K hK Q'
      simp only [List.getD_cons_succ, List.getD_cons_zero, List.mem_cons, List.not_mem_nil, or_false, forall_eq_or_imp, forall_eq] at hdep
      have e61 := hb 19 61 rfl
      have d19 := hdep
      rw [d19.1] at e61
      clear hb hb' hdep d19
      go_simp
      exact hK _ _ rfl (fun _ _ _ h => h) hJ
    · intro done us W hJ hdep haft hnot b hb hb' K hK Q'
      simp only [List.getD_cons_succ, List.getD_cons_zero, List.mem_cons, List.not_mem_nil, or_false, forall_eq_or_imp, forall_eq] at hdep
      have e12 := (hb' 12 (by simp)).trans s12
      have e62 := hb 20 62 rfl
      have d20 := hdep
      rw [d20.1] at e62
      clear hb hb' hdep d20
      go_simp
      exact hK _ _ rfl (fun _ _ _ h => h) hJ
    · intro done us W hJ hdep haft hnot b hb hb' K hK Q'
      simp only [List.getD_cons_succ, List.getD_cons_zero, List.mem_cons, List.not_mem_nil, or_false, forall_eq_or_imp, forall_eq] at hdep
      have e4 := (hb' 4 (by simp)).trans s4
      have e62 := hb 20 62 rfl
      have d20 := hdep
      rw [d20.1] at e62
      clear hb hb' hdep d20
      go_simp
      exact hK _ _ rfl (fun _ _ _ h => h) hJ
    · intro done us W hJ hdep haft hnot b hb hb' K hK Q'
      simp only [List.getD_cons_succ, List.getD_cons_zero, List.mem_cons, List.not_mem_nil, or_false, forall_eq_or_imp, forall_eq] at hdep
      have e62 := hb 20 62 rfl
      have e63 := hb 21 63 rfl
      have e64 := hb 22 64 rfl
      have d20 := hdep.1
      have d21 := hdep.2.1
      have d22 := hdep.2.2
      rw [d20.1] at e62
      rw [d21.1] at e63
      rw [d22.1] at e64
      clear hb hb' hdep d20 d21 d22
      go_simp
      exact hK _ _ rfl (fun _ _ _ h => h) hJ
    · intro done us W hJ hdep haft hnot b hb hb' K hK Q'
      simp only [List.getD_cons_succ, List.getD_cons_zero, List.mem_cons, List.not_mem_nil, or_false, forall_eq_or_imp, forall_eq] at hdep
      have e62 := hb 20 62 rfl
      have e65 := hb 23 65 rfl
      have d20 := hdep.1
      have d23 := hdep.2
      rw [d20.1] at e62
      rw [d23.1] at e65
      clear hb hb' hdep d20 d23
      go_simp
      exact hK _ _ rfl (fun _ _ _ h => h) hJ
  · intro us W hV hJ
    exact hend (us 0) (us 1) (us 2) (us 3) (us 4) (us 5) (us 6) (us 7) (us 8) (us 9) (us 10) (us 11) (us 12) (us 13) (us 14) (us 15) (us 16) (us 17) (us 18) (us 19) (us 20) (us 21) (us 22) (us 23) (us 24) W (hV 0 (by omega)) (hV 1 (by omega)) (hV 2 (by omega)) (hV 3 (by omega)) (hV 4 (by omega)) (hV 5 (by omega)) (hV 6 (by omega)) (hV 7 (by omega)) (hV 8 (by omega)) (hV 9 (by omega)) (hV 10 (by omega)) (hV 11 (by omega)) (hV 12 (by omega)) (hV 13 (by omega)) (hV 14 (by omega)) (hV 15 (by omega)) (hV 16 (by omega)) (hV 17 (by omega)) (hV 18 (by omega)) (hV 19 (by omega)) (hV 20 (by omega)) (hV 21 (by omega)) (hV 22 (by omega)) (hV 23 (by omega)) (hV 24 (by omega)) hJ
set_option maxRecDepth 100000 in
set_option maxHeartbeats 2000000 in
theorem canon_r8e (gx gy gz : Nat) (w : World) (x0 : w.cell? ⟨gx, 0, none⟩ = some (.bool false)) (x1 : w.cell? ⟨gx, 1, none⟩ = some (.slice none 0 0)) (x2 : w.cell? ⟨gx, 2, none⟩ = some (.slice none 0 0)) (y0 : w.cell? ⟨gy, 0, none⟩ = some (.bool false)) (y1 : w.cell? ⟨gy, 1, none⟩ = some (.slice none 0 0)) (y2 : w.cell? ⟨gy, 2, none⟩ = some (.slice none 0 0)) (z0 : w.cell? ⟨gz, 0, none⟩ = some (.bool false)) (z1 : w.cell? ⟨gz, 1, none⟩ = some (.slice none 0 0)) (z2 : w.cell? ⟨gz, 2, none⟩ = some (.slice none 0 0)) (hq0 : (1 : Int) ≠ 0) (a : Act) (Q : Exit → Act → World → Prop) (hsize : 67 ≤ a.tmps.size)
    (s3 : a.tmps[3]? = some (.pointer (some ⟨gx, 0, none⟩)))
    (s4 : a.tmps[4]? = some (.int .i64 1))
    (s5 : a.tmps[5]? = some (.pointer (some ⟨gy, 0, none⟩)))
    (s6 : a.tmps[6]? = some (.int .i64 1))
    (s7 : a.tmps[7]? = some (.pointer (some ⟨gz, 0, none⟩)))
    (s8 : a.tmps[8]? = some (.int .i64 1))
    (s10 : a.tmps[10]? = some (.int .i64 1))
    (s12 : a.tmps[12]? = some (.int .i64 1))
    (hend : ∀ (xv0 xv1 xv2 xv3 xv4 xv5 xv6 xv7 xv8 xv9 xv10 xv11 xv12 xv13 xv14 xv15 xv16 xv17 xv18 xv19 xv20 xv21 xv22 xv23 xv24 : Value) (W : World), (xv0 = .agg #[.bool false, .slice none 0 0, .slice none 0 0]) → (xv1 = .int .i64 1) → (xv2 = .agg #[.bool false, .slice none 0 0, .slice none 0 0]) → (xv3 = .int .i64 1) → (xv4 = .bool true) → (xv5 = .bool false) → (xv6 = .bool false) → (xv7 = .agg #[.bool false, .slice none 0 0, .slice none 0 0]) → (xv8 = .int .i64 1) → (xv9 = .agg #[.bool false, .slice none 0 0, .slice none 0 0]) → (∃ s A l c B m k, xv10 = .agg #[.bool s, .slice A l c, .slice B m k]) → (xv11 = .int .i64 1) → (xv12 = .bool true) → (xv13 = .bool false) → (xv14 = .bool false) → (xv15 = .bool false) → (xv16 = .int .i64 1) → (xv17 = .int .i64 1) → (xv18 = .bool false) → (xv19 = .bool false) → (xv20 = .bool false) → (xv21 = .int .i64 1) → (xv22 = .int .i64 1) → (xv23 = .bool false) → (xv24 = .bool false) → Ext w W → wpList Try.prog (rops Try.f7 8).toArray Q ((rops Try.f7 8).drop 25) (((((((((((((((((((((((((a.put (some 42) xv0).put (some 43) xv1).put (some 44) xv2).put (some 45) xv3).put (some 46) xv4).put (some 47) xv5).put (some 48) xv6).put (some 49) xv7).put (some 50) xv8).put (some 51) xv9).put (some 52) xv10).put (some 53) xv11).put (some 54) xv12).put (some 55) xv13).put (some 56) xv14).put (some 57) xv15).put (some 58) xv16).put (some 59) xv17).put (some 60) xv18).put (some 61) xv19).put (some 62) xv20).put (some 63) xv21).put (some 64) xv22).put (some 65) xv23).put (some 66) xv24) W) :
    (Code.region 8 (rops Try.f7 8).toArray true).wp Try.prog Q a w := by
  have hmono : ∀ (W W' : World) (j : Nat) (u : Value), Ext W W' → (fun (i : Nat) (v : Value) (W : World) => match i with
    | 0 => v = .agg #[.bool false, .slice none 0 0, .slice none 0 0]
    | 1 => v = .int .i64 1
    | 2 => v = .agg #[.bool false, .slice none 0 0, .slice none 0 0]
    | 3 => v = .int .i64 1
    | 4 => v = .bool true
    | 5 => v = .bool false
    | 6 => v = .bool false
    | 7 => v = .agg #[.bool false, .slice none 0 0, .slice none 0 0]
    | 8 => v = .int .i64 1
    | 9 => v = .agg #[.bool false, .slice none 0 0, .slice none 0 0]
    | 10 => ∃ s A l c B m k, v = .agg #[.bool s, .slice A l c, .slice B m k]
    | 11 => v = .int .i64 1
    | 12 => v = .bool true
    | 13 => v = .bool false
    | 14 => v = .bool false
    | 15 => v = .bool false
    | 16 => v = .int .i64 1
    | 17 => v = .int .i64 1
    | 18 => v = .bool false
    | 19 => v = .bool false
    | 20 => v = .bool false
    | 21 => v = .int .i64 1
    | 22 => v = .int .i64 1
    | 23 => v = .bool false
    | 24 => v = .bool false
    | _ => True) j u W → (fun (i : Nat) (v : Value) (W : World) => match i with
    | 0 => v = .agg #[.bool false, .slice none 0 0, .slice none 0 0]
    | 1 => v = .int .i64 1
    | 2 => v = .agg #[.bool false, .slice none 0 0, .slice none 0 0]
    | 3 => v = .int .i64 1
    | 4 => v = .bool true
    | 5 => v = .bool false
    | 6 => v = .bool false
    | 7 => v = .agg #[.bool false, .slice none 0 0, .slice none 0 0]
    | 8 => v = .int .i64 1
    | 9 => v = .agg #[.bool false, .slice none 0 0, .slice none 0 0]
    | 10 => ∃ s A l c B m k, v = .agg #[.bool s, .slice A l c, .slice B m k]
    | 11 => v = .int .i64 1
    | 12 => v = .bool true
    | 13 => v = .bool false
    | 14 => v = .bool false
    | 15 => v = .bool false
    | 16 => v = .int .i64 1
    | 17 => v = .int .i64 1
    | 18 => v = .bool false
    | 19 => v = .bool false
    | 20 => v = .bool false
    | 21 => v = .int .i64 1
    | 22 => v = .int .i64 1
    | 23 => v = .bool false
    | 24 => v = .bool false
    | _ => True) j u W' := by
    intro W W' j u hX h
    match j, h with
    | 0, h => exact h
    | 1, h => exact h
    | 2, h => exact h
    | 3, h => exact h
    | 4, h => exact h
    | 5, h => exact h
    | 6, h => exact h
    | 7, h => exact h
    | 8, h => exact h
    | 9, h => exact h
    | 10, h => exact h
    | 11, h => exact h
    | 12, h => exact h
    | 13, h => exact h
    | 14, h => exact h
    | 15, h => exact h
    | 16, h => exact h
    | 17, h => exact h
    | 18, h => exact h
    | 19, h => exact h
    | 20, h => exact h
    | 21, h => exact h
    | 22, h => exact h
    | 23, h => exact h
    | 24, h => exact h
    | _ + 25, h => exact h
  have hsz : ∀ d, some d ∈ ([some 42, some 43, some 44, some 45, some 46, some 47, some 48, some 49, some 50, some 51, some 52, some 53, some 54, some 55, some 56, some 57, some 58, some 59, some 60, some 61, some 62, some 63, some 64, some 65, some 66] : List (Option Tmp)) → d < a.tmps.size := slots_lt (by decide) hsize
  refine wp_region_j 25 [some 42, some 43, some 44, some 45, some 46, some 47, some 48, some 49, some 50, some 51, some 52, some 53, some 54, some 55, some 56, some 57, some 58, some 59, some 60, some 61, some 62, some 63, some 64, some 65, some 66] [[], [], [], [], [0, 1, 2, 3], [4], [5], [6], [6], [6], [6, 9], [6], [6, 7, 8, 10, 11], [6, 12], [6, 13], [14], [15], [15], [15, 16, 17], [15, 18], [19], [20], [20], [20, 21, 22], [20, 23]] [[], [], [], [], [], [], [], [], [], [], [], [], [], [], [], [], [], [], [], [], [], [], [], [], []] (fun (i : Nat) (v : Value) (W : World) => match i with
    | 0 => v = .agg #[.bool false, .slice none 0 0, .slice none 0 0]
    | 1 => v = .int .i64 1
    | 2 => v = .agg #[.bool false, .slice none 0 0, .slice none 0 0]
    | 3 => v = .int .i64 1
    | 4 => v = .bool true
    | 5 => v = .bool false
    | 6 => v = .bool false
    | 7 => v = .agg #[.bool false, .slice none 0 0, .slice none 0 0]
    | 8 => v = .int .i64 1
    | 9 => v = .agg #[.bool false, .slice none 0 0, .slice none 0 0]
    | 10 => ∃ s A l c B m k, v = .agg #[.bool s, .slice A l c, .slice B m k]
    | 11 => v = .int .i64 1
    | 12 => v = .bool true
    | 13 => v = .bool false
    | 14 => v = .bool false
    | 15 => v = .bool false
    | 16 => v = .int .i64 1
    | 17 => v = .int .i64 1
    | 18 => v = .bool false
    | 19 => v = .bool false
    | 20 => v = .bool false
    | 21 => v = .int .i64 1
    | 22 => v = .int .i64 1
    | 23 => v = .bool false
    | 24 => v = .bool false
    | _ => True) (fun _ W => Ext w W) (by kernel_rfl) (by kernel_rfl) hsz (fun _ _ _ _ h => h) ((Ext.refl w).drew) ?_ ?_
  · clear hend
    simp only [rops, Try.f7, regOf, Option.bind_some, Nat.reduceBEq, if_true, if_false, Bool.false_eq_true, Option.getD_some]
    simp only [List.take_succ_cons, List.take_zero]
    refine ⟨?_, ?_, ?_, ?_, ?_, ?_, ?_, ?_, ?_, ?_, ?_, ?_, ?_, ?_, ?_, ?_, ?_, ?_, ?_, ?_, ?_, ?_, ?_, ?_, ?_, trivial⟩
    · intro done us W hJ hdep haft hnot b hb hb' K hK Q'
      have e5 := (hb' 5 (by simp)).trans s5
      clear hb hb'
      have z0 := Ext.cell hJ y0
      have z1 := Ext.cell hJ y1
      have z2 := Ext.cell hJ y2
      go_simp
      exact hK _ _ rfl (fun _ _ _ h => h) hJ
    · intro done us W hJ hdep haft hnot b hb hb' K hK Q'
      have e6 := (hb' 6 (by simp)).trans s6
      clear hb hb'
      go_simp
      exact hK _ _ rfl (fun _ _ _ h => h) hJ
    · intro done us W hJ hdep haft hnot b hb hb' K hK Q'
      have e3 := (hb' 3 (by simp)).trans s3
      clear hb hb'
      have z0 := Ext.cell hJ x0
      have z1 := Ext.cell hJ x1
      have z2 := Ext.cell hJ x2
      go_simp
      exact hK _ _ rfl (fun _ _ _ h => h) hJ
    · intro done us W hJ hdep haft hnot b hb hb' K hK Q'
      have e4 := (hb' 4 (by simp)).trans s4
      clear hb hb'
      go_simp
      exact hK _ _ rfl (fun _ _ _ h => h) hJ
    · intro done us W hJ hdep haft hnot b hb hb' K hK Q'
      simp only [List.getD_cons_succ, List.getD_cons_zero, List.mem_cons, List.not_mem_nil, or_false, forall_eq_or_imp, forall_eq] at hdep
      have e42 := hb 0 42 rfl
      have e43 := hb 1 43 rfl
      have e44 := hb 2 44 rfl
      have e45 := hb 3 45 rfl
      have d0 := hdep.1
      have d1 := hdep.2.1
      have d2 := hdep.2.2.1
      have d3 := hdep.2.2.2
      rw [d0.1] at e42
      rw [d1.1] at e43
      rw [d2.1] at e44
      rw [d3.1] at e45
      clear hb hb' hdep d0 d1 d2 d3
      go_simp
      refine (is_e 1 false none none 0 0 0 0 _ (by omega)).mono ?_
      rintro e w' ⟨rfl, hX⟩
      exact hK _ _ rfl (fun j u _ h => hmono _ _ j u hX h) (Ext.trans hJ hX)
    · intro done us W hJ hdep haft hnot b hb hb' K hK Q'
      simp only [List.getD_cons_succ, List.getD_cons_zero, List.mem_cons, List.not_mem_nil, or_false, forall_eq_or_imp, forall_eq] at hdep
      have e46 := hb 4 46 rfl
      have d4 := hdep
      rw [d4.1] at e46
      clear hb hb' hdep d4
      go_simp
      exact hK _ _ rfl (fun _ _ _ h => h) hJ
    · intro done us W hJ hdep haft hnot b hb hb' K hK Q'
      simp only [List.getD_cons_succ, List.getD_cons_zero, List.mem_cons, List.not_mem_nil, or_false, forall_eq_or_imp, forall_eq] at hdep
      have e47 := hb 5 47 rfl
      have d5 := hdep
      rw [d5.1] at e47
      clear hb hb' hdep d5
      go_simp
      exact hK _ _ rfl (fun _ _ _ h => h) hJ
    · intro done us W hJ hdep haft hnot b hb hb' K hK Q'
      simp only [List.getD_cons_succ, List.getD_cons_zero, List.mem_cons, List.not_mem_nil, or_false, forall_eq_or_imp, forall_eq] at hdep
      have e7 := (hb' 7 (by simp)).trans s7
      have e48 := hb 6 48 rfl
      have d6 := hdep
      rw [d6.1] at e48
      clear hb hb' hdep d6
      have u0 := Ext.cell hJ z0
      have u1 := Ext.cell hJ z1
      have u2 := Ext.cell hJ z2
      go_simp
      exact hK _ _ rfl (fun _ _ _ h => h) hJ
    · intro done us W hJ hdep haft hnot b hb hb' K hK Q'
      simp only [List.getD_cons_succ, List.getD_cons_zero, List.mem_cons, List.not_mem_nil, or_false, forall_eq_or_imp, forall_eq] at hdep
      have e8 := (hb' 8 (by simp)).trans s8
      have e48 := hb 6 48 rfl
      have d6 := hdep
      rw [d6.1] at e48
      clear hb hb' hdep d6
      go_simp
      exact hK _ _ rfl (fun _ _ _ h => h) hJ
    · intro done us W hJ hdep haft hnot b hb hb' K hK Q'
      simp only [List.getD_cons_succ, List.getD_cons_zero, List.mem_cons, List.not_mem_nil, or_false, forall_eq_or_imp, forall_eq] at hdep
      have e3 := (hb' 3 (by simp)).trans s3
      have e48 := hb 6 48 rfl
      have d6 := hdep
      rw [d6.1] at e48
      clear hb hb' hdep d6
      have z0 := Ext.cell hJ x0
      have z1 := Ext.cell hJ x1
      have z2 := Ext.cell hJ x2
      go_simp
      exact hK _ _ rfl (fun _ _ _ h => h) hJ
    · intro done us W hJ hdep haft hnot b hb hb' K hK Q'
      simp only [List.getD_cons_succ, List.getD_cons_zero, List.mem_cons, List.not_mem_nil, or_false, forall_eq_or_imp, forall_eq] at hdep
      have e48 := hb 6 48 rfl
      have e51 := hb 9 51 rfl
      have d6 := hdep.1
      have d9 := hdep.2
      rw [d6.1] at e48
      rw [d9.1] at e51
      clear hb hb' hdep d6 d9
      go_simp
      refine (qminus_zero _).mono ?_
      rintro e w' ⟨s, A, l, c, B, m, k, rfl, hX⟩
      exact hK _ _ ⟨s, A, l, c, B, m, k, rfl⟩ (fun j u _ h => hmono _ _ j u hX h) (Ext.trans hJ hX)
    · intro done us W hJ hdep haft hnot b hb hb' K hK Q'
      simp only [List.getD_cons_succ, List.getD_cons_zero, List.mem_cons, List.not_mem_nil, or_false, forall_eq_or_imp, forall_eq] at hdep
      have e4 := (hb' 4 (by simp)).trans s4
      have e48 := hb 6 48 rfl
      have d6 := hdep
      rw [d6.1] at e48
      clear hb hb' hdep d6
      go_simp
      exact hK _ _ rfl (fun _ _ _ h => h) hJ
    · intro done us W hJ hdep haft hnot b hb hb' K hK Q'
      simp only [List.getD_cons_succ, List.getD_cons_zero, List.mem_cons, List.not_mem_nil, or_false, forall_eq_or_imp, forall_eq] at hdep
      have e48 := hb 6 48 rfl
      have e49 := hb 7 49 rfl
      have e50 := hb 8 50 rfl
      have e52 := hb 10 52 rfl
      have e53 := hb 11 53 rfl
      have d6 := hdep.1
      have d7 := hdep.2.1
      have d8 := hdep.2.2.1
      have d10 := hdep.2.2.2.1
      have d11 := hdep.2.2.2.2
      rw [d6.1] at e48
      rw [d7.1] at e49
      rw [d8.1] at e50
      rw [d11.1] at e53
      clear hb hb' hdep d6 d7 d8 d11
      obtain ⟨s9, A9, l9, c9, B9, m9, k9, hv9⟩ := d10.1
      rw [hv9] at e52
      go_simp
      refine (is_e 1 s9 A9 B9 l9 c9 m9 k9 _ (by omega)).mono ?_
      rintro e w' ⟨rfl, hX⟩
      exact hK _ _ rfl (fun j u _ h => hmono _ _ j u hX h) (Ext.trans hJ hX)
    · intro done us W hJ hdep haft hnot b hb hb' K hK Q'
      simp only [List.getD_cons_succ, List.getD_cons_zero, List.mem_cons, List.not_mem_nil, or_false, forall_eq_or_imp, forall_eq] at hdep
      have e48 := hb 6 48 rfl
      have e54 := hb 12 54 rfl
      have d6 := hdep.1
      have d12 := hdep.2
      rw [d6.1] at e48
      rw [d12.1] at e54
      clear hb hb' hdep d6 d12
      go_simp
      exact hK _ _ rfl (fun _ _ _ h => h) hJ
    · intro done us W hJ hdep haft hnot b hb hb' K hK Q'
      simp only [List.getD_cons_succ, List.getD_cons_zero, List.mem_cons, List.not_mem_nil, or_false, forall_eq_or_imp, forall_eq] at hdep
      have e48 := hb 6 48 rfl
      have e55 := hb 13 55 rfl
      have d6 := hdep.1
      have d13 := hdep.2
      rw [d6.1] at e48
      rw [d13.1] at e55
      clear hb hb' hdep d6 d13
      go_simp
      exact hK _ _ rfl (fun _ _ _ h => h) hJ
    · intro done us W hJ hdep haft hnot b hb hb' K hK Q'
      simp only [List.getD_cons_succ, List.getD_cons_zero, List.mem_cons, List.not_mem_nil, or_false, forall_eq_or_imp, forall_eq] at hdep
      have e56 := hb 14 56 rfl
      have d14 := hdep
      rw [d14.1] at e56
      clear hb hb' hdep d14
      go_simp
      exact hK _ _ rfl (fun _ _ _ h => h) hJ
    · intro done us W hJ hdep haft hnot b hb hb' K hK Q'
      simp only [List.getD_cons_succ, List.getD_cons_zero, List.mem_cons, List.not_mem_nil, or_false, forall_eq_or_imp, forall_eq] at hdep
      have e10 := (hb' 10 (by simp)).trans s10
      have e57 := hb 15 57 rfl
      have d15 := hdep
      rw [d15.1] at e57
      clear hb hb' hdep d15
      go_simp
      exact hK _ _ rfl (fun _ _ _ h => h) hJ
    · intro done us W hJ hdep haft hnot b hb hb' K hK Q'
      simp only [List.getD_cons_succ, List.getD_cons_zero, List.mem_cons, List.not_mem_nil, or_false, forall_eq_or_imp, forall_eq] at hdep
      have e4 := (hb' 4 (by simp)).trans s4
      have e57 := hb 15 57 rfl
      have d15 := hdep
      rw [d15.1] at e57
      clear hb hb' hdep d15
      go_simp
      exact hK _ _ rfl (fun _ _ _ h => h) hJ
    · intro done us W hJ hdep haft hnot b hb hb' K hK Q'
      simp only [List.getD_cons_succ, List.getD_cons_zero, List.mem_cons, List.not_mem_nil, or_false, forall_eq_or_imp, forall_eq] at hdep
      have e57 := hb 15 57 rfl
      have e58 := hb 16 58 rfl
      have e59 := hb 17 59 rfl
      have d15 := hdep.1
      have d16 := hdep.2.1
      have d17 := hdep.2.2
      rw [d15.1] at e57
      rw [d16.1] at e58
      rw [d17.1] at e59
      clear hb hb' hdep d15 d16 d17
      go_simp
      exact hK _ _ rfl (fun _ _ _ h => h) hJ
    · intro done us W hJ hdep haft hnot b hb hb' K hK Q'
      simp only [List.getD_cons_succ, List.getD_cons_zero, List.mem_cons, List.not_mem_nil, or_false, forall_eq_or_imp, forall_eq] at hdep
      have e57 := hb 15 57 rfl
      have e60 := hb 18 60 rfl
      have d15 := hdep.1
      have d18 := hdep.2
      rw [d15.1] at e57
      rw [d18.1] at e60
      clear hb hb' hdep d15 d18
      go_simp
      exact hK _ _ rfl (fun _ _ _ h => h) hJ
    · intro done us W hJ hdep haft hnot b hb hb' K hK Q'
      simp only [List.getD_cons_succ, List.getD_cons_zero, List.mem_cons, List.not_mem_nil, or_false, forall_eq_or_imp, forall_eq] at hdep
      have e61 := hb 19 61 rfl
      have d19 := hdep
      rw [d19.1] at e61
      clear hb hb' hdep d19
      go_simp
      exact hK _ _ rfl (fun _ _ _ h => h) hJ
    · intro done us W hJ hdep haft hnot b hb hb' K hK Q'
      simp only [List.getD_cons_succ, List.getD_cons_zero, List.mem_cons, List.not_mem_nil, or_false, forall_eq_or_imp, forall_eq] at hdep
      have e12 := (hb' 12 (by simp)).trans s12
      have e62 := hb 20 62 rfl
      have d20 := hdep
      rw [d20.1] at e62
      clear hb hb' hdep d20
      go_simp
      exact hK _ _ rfl (fun _ _ _ h => h) hJ
    · intro done us W hJ hdep haft hnot b hb hb' K hK Q'
      simp only [List.getD_cons_succ, List.getD_cons_zero, List.mem_cons, List.not_mem_nil, or_false, forall_eq_or_imp, forall_eq] at hdep
      have e4 := (hb' 4 (by simp)).trans s4
      have e62 := hb 20 62 rfl
      have d20 := hdep
      rw [d20.1] at e62
      clear hb hb' hdep d20
      go_simp
      exact hK _ _ rfl (fun _ _ _ h => h) hJ
    · intro done us W hJ hdep haft hnot b hb hb' K hK Q'
      simp only [List.getD_cons_succ, List.getD_cons_zero, List.mem_cons, List.not_mem_nil, or_false, forall_eq_or_imp, forall_eq] at hdep
      have e62 := hb 20 62 rfl
      have e63 := hb 21 63 rfl
      have e64 := hb 22 64 rfl
      have d20 := hdep.1
      have d21 := hdep.2.1
      have d22 := hdep.2.2
      rw [d20.1] at e62
      rw [d21.1] at e63
      rw [d22.1] at e64
      clear hb hb' hdep d20 d21 d22
      go_simp
      exact hK _ _ rfl (fun _ _ _ h => h) hJ
    · intro done us W hJ hdep haft hnot b hb hb' K hK Q'
      simp only [List.getD_cons_succ, List.getD_cons_zero, List.mem_cons, List.not_mem_nil, or_false, forall_eq_or_imp, forall_eq] at hdep
      have e62 := hb 20 62 rfl
      have e65 := hb 23 65 rfl
      have d20 := hdep.1
      have d23 := hdep.2
      rw [d20.1] at e62
      rw [d23.1] at e65
      clear hb hb' hdep d20 d23
      go_simp
      exact hK _ _ rfl (fun _ _ _ h => h) hJ
  · intro us W hV hJ
    exact hend (us 0) (us 1) (us 2) (us 3) (us 4) (us 5) (us 6) (us 7) (us 8) (us 9) (us 10) (us 11) (us 12) (us 13) (us 14) (us 15) (us 16) (us 17) (us 18) (us 19) (us 20) (us 21) (us 22) (us 23) (us 24) W (hV 0 (by omega)) (hV 1 (by omega)) (hV 2 (by omega)) (hV 3 (by omega)) (hV 4 (by omega)) (hV 5 (by omega)) (hV 6 (by omega)) (hV 7 (by omega)) (hV 8 (by omega)) (hV 9 (by omega)) (hV 10 (by omega)) (hV 11 (by omega)) (hV 12 (by omega)) (hV 13 (by omega)) (hV 14 (by omega)) (hV 15 (by omega)) (hV 16 (by omega)) (hV 17 (by omega)) (hV 18 (by omega)) (hV 19 (by omega)) (hV 20 (by omega)) (hV 21 (by omega)) (hV 22 (by omega)) (hV 23 (by omega)) (hV 24 (by omega)) hJ
set_option maxRecDepth 100000 in
set_option maxHeartbeats 2000000 in
theorem canon_no (s0 : Bool) (A0 B0 : Option Addr) (l0 c0 m0 k0 : Nat) (neg : Bool) (xs ys : List Int) (w : World) (hv : RatV w (.agg #[.bool s0, .slice A0 l0 c0, .slice B0 m0 k0]) neg xs ys) (hx : RatL w (.agg #[.bool s0, .slice A0 l0 c0, .slice B0 m0 k0]) true) :
    Calls Try.prog 7 #[.agg #[.bool s0, .slice A0 l0 c0, .slice B0 m0 k0]] w (fun e w' => e = .returned (.bool true) ∧ Ext w w') := by
  have HVV := Lib.hid hv
  have HXX := Lib.hid hx
  clear hv hx
  have hXe : Ext w ((w.alloc (.cells #[.bool s0, .slice A0 l0 c0, .slice B0 m0 k0] 33)).alloc (.cells #[.bool s0, .slice A0 l0 c0, .slice B0 m0 k0] 33)) := (((Ext.refl w).alloc _).alloc _)
  have kA : Blk ((w.alloc (.cells #[.bool s0, .slice A0 l0 c0, .slice B0 m0 k0] 33)).alloc (.cells #[.bool s0, .slice A0 l0 c0, .slice B0 m0 k0] 33)) w.heap.size 33 #[.bool s0, .slice A0 l0 c0, .slice B0 m0 k0] := Blk.alloc (Blk.at_ (by simp)) _
  have kH : Blk ((w.alloc (.cells #[.bool s0, .slice A0 l0 c0, .slice B0 m0 k0] 33)).alloc (.cells #[.bool s0, .slice A0 l0 c0, .slice B0 m0 k0] 33)) (w.heap.size + 1) 33 #[.bool s0, .slice A0 l0 c0, .slice B0 m0 k0] := Blk.at_ (by simp)
  go_enter Try.func7, Try.ntmps7
  go_wp2_with fail
  generalize ((w.alloc (.cells #[.bool s0, .slice A0 l0 c0, .slice B0 m0 k0] 33)).alloc (.cells #[.bool s0, .slice A0 l0 c0, .slice B0 m0 k0] 33)) = w1 at hXe kA kH ⊢
  have HX := Lib.hid hXe
  clear hXe
  have KA := Lib.hid kA
  clear kA
  have KH := Lib.hid kH
  clear kH
  replace HVV := Lib.hid (HVV.out.ext HX.out)
  replace HXX := Lib.hid (HXX.out.ext HX.out)
  refine (heavy_any _ 1 _ (ratsAt_one KH.out HVV.out) (by omega)).mono ?_
  rintro e w2 ⟨b9, rfl, hX⟩
  replace hX : Ext w1 w2 := by with_reducible exact hX
  replace HX := Lib.hid (HX.out.trans hX)
  replace HVV := Lib.hid (HVV.out.ext hX)
  replace HXX := Lib.hid (HXX.out.ext hX)
  replace KA := Lib.hid (KA.out.ext hX)
  replace KH := Lib.hid (KH.out.ext hX)
  clear hX
  clear KH
  clear HVV
  by_cases hb9 : b9 = true
  · subst hb9
    go_wp2_with fail
    refine (first_any _).mono ?_
    rintro e w3 ⟨rfl, hX⟩
    replace hX : Ext w2 w3 := by with_reducible exact hX
    replace HX := Lib.hid (HX.out.trans hX)
    replace HXX := Lib.hid (HXX.out.ext hX)
    replace KA := Lib.hid (KA.out.ext hX)
    clear hX
    go_wp2
    go_ret
    exact ⟨rfl, HX.out⟩
  · have hb8 : b9 = false := by simpa using hb9
    clear hb9
    subst hb8
    have cA0 : w2.cell? ⟨w.heap.size, 0, none⟩ = some (.bool s0) := KA.out.cell 0
    have cA1 : w2.cell? ⟨w.heap.size, 1, none⟩ = some (.slice A0 l0 c0) := KA.out.cell 1
    have cA2 : w2.cell? ⟨w.heap.size, 2, none⟩ = some (.slice B0 m0 k0) := KA.out.cell 2
    go_wp2_with fail
    clear cA0 cA1 cA2
    refine (read_no HXX.out).mono ?_
    rintro e w3 ⟨rfl, hX⟩
    replace hX : Ext w2 w3 := by with_reducible exact hX
    replace HX := Lib.hid (HX.out.trans hX)
    replace HXX := Lib.hid (HXX.out.ext hX)
    replace KA := Lib.hid (KA.out.ext hX)
    clear hX
    go_upto_region 4 with (fail)
    have hXa : Ext w3 (w3.alloc (.cells #[.bool false, .slice none 0 0, .slice none 0 0] 42)) := (Ext.refl _).alloc _
    have kXQ := Blk.new w3 42 #[.bool false, .slice none 0 0, .slice none 0 0]
    have zA := KA.out.lt
    have zg := HX.out.size
    replace HX := Lib.hid (HX.out.trans hXa)
    replace HXX := Lib.hid (HXX.out.ext hXa)
    replace KA := Lib.hid (KA.out.ext hXa)
    generalize (w3.alloc (.cells #[.bool false, .slice none 0 0, .slice none 0 0] 42)) = w4 at HX HXX KA kXQ ⊢
    have KXQ := Lib.hid kXQ
    clear kXQ hXa
    have cA0 : w4.cell? ⟨w.heap.size, 0, none⟩ = some (.bool s0) := KA.out.cell 0
    have cA1 : w4.cell? ⟨w.heap.size, 1, none⟩ = some (.slice A0 l0 c0) := KA.out.cell 1
    have cA2 : w4.cell? ⟨w.heap.size, 2, none⟩ = some (.slice B0 m0 k0) := KA.out.cell 2
    go_wp2_with fail
    clear cA0 cA1 cA2
    refine (ecanonL HXX.out).mono ?_
    unfold RetE zeroR
    rintro e w5 ⟨rfl, hX⟩
    replace hX : Ext w4 w5 := by with_reducible exact hX
    replace HX := Lib.hid (HX.out.trans hX)
    replace HXX := Lib.hid (HXX.out.ext hX)
    replace KA := Lib.hid (KA.out.ext hX)
    replace KXQ := Lib.hid (KXQ.out.ext hX)
    clear hX
    go_upto_region 5 with (fail)
    have hXa : Ext w5 (w5.alloc (.cells #[.bool false, .slice none 0 0, .slice none 0 0] 33)) := (Ext.refl _).alloc _
    have kCC := Blk.new w5 33 #[.bool false, .slice none 0 0, .slice none 0 0]
    have zA := KA.out.lt
    have zXQ := KXQ.out.lt
    have zg := HX.out.size
    replace HX := Lib.hid (HX.out.trans hXa)
    replace HXX := Lib.hid (HXX.out.ext hXa)
    replace KA := Lib.hid (KA.out.ext hXa)
    replace KXQ := Lib.hid (KXQ.out.ext hXa)
    generalize (w5.alloc (.cells #[.bool false, .slice none 0 0, .slice none 0 0] 33)) = w6 at HX HXX KA KXQ kCC ⊢
    have KCC := Lib.hid kCC
    clear kCC hXa
    have cA0 : w6.cell? ⟨w.heap.size, 0, none⟩ = some (.bool s0) := KA.out.cell 0
    have cA1 : w6.cell? ⟨w.heap.size, 1, none⟩ = some (.slice A0 l0 c0) := KA.out.cell 1
    have cA2 : w6.cell? ⟨w.heap.size, 2, none⟩ = some (.slice B0 m0 k0) := KA.out.cell 2
    go_wp2_with fail
    clear cA0 cA1 cA2
    refine (enegL HXX.out).mono ?_
    unfold RetE zeroR
    rintro e w7 ⟨rfl, hX⟩
    replace hX : Ext w6 w7 := by with_reducible exact hX
    replace HX := Lib.hid (HX.out.trans hX)
    replace HXX := Lib.hid (HXX.out.ext hX)
    replace KA := Lib.hid (KA.out.ext hX)
    replace KXQ := Lib.hid (KXQ.out.ext hX)
    replace KCC := Lib.hid (KCC.out.ext hX)
    clear hX
    go_upto_region 6 with (fail)
    have hXa : Ext w7 (w7.alloc (.cells #[.bool false, .slice none 0 0, .slice none 0 0] 33)) := (Ext.refl _).alloc _
    have kNN := Blk.new w7 33 #[.bool false, .slice none 0 0, .slice none 0 0]
    have zA := KA.out.lt
    have zXQ := KXQ.out.lt
    have zCC := KCC.out.lt
    have zg := HX.out.size
    replace HX := Lib.hid (HX.out.trans hXa)
    replace HXX := Lib.hid (HXX.out.ext hXa)
    replace KA := Lib.hid (KA.out.ext hXa)
    replace KXQ := Lib.hid (KXQ.out.ext hXa)
    replace KCC := Lib.hid (KCC.out.ext hXa)
    generalize (w7.alloc (.cells #[.bool false, .slice none 0 0, .slice none 0 0] 33)) = w8 at HX HXX KA KXQ KCC kNN ⊢
    have KNN := Lib.hid kNN
    clear kNN hXa
    have cA0 : w8.cell? ⟨w.heap.size, 0, none⟩ = some (.bool s0) := KA.out.cell 0
    have cA1 : w8.cell? ⟨w.heap.size, 1, none⟩ = some (.slice A0 l0 c0) := KA.out.cell 1
    have cA2 : w8.cell? ⟨w.heap.size, 2, none⟩ = some (.slice B0 m0 k0) := KA.out.cell 2
    go_wp2_with fail
    clear cA0 cA1 cA2
    refine (esignL HXX.out).mono ?_
    unfold RetE
    rintro e w9 ⟨rfl, hX⟩
    replace hX : Ext w8 w9 := by with_reducible exact hX
    replace HX := Lib.hid (HX.out.trans hX)
    replace HXX := Lib.hid (HXX.out.ext hX)
    replace KA := Lib.hid (KA.out.ext hX)
    replace KXQ := Lib.hid (KXQ.out.ext hX)
    replace KCC := Lib.hid (KCC.out.ext hX)
    replace KNN := Lib.hid (KNN.out.ext hX)
    clear hX
    have cA0 : w9.cell? ⟨w.heap.size, 0, none⟩ = some (.bool s0) := KA.out.cell 0
    have cA1 : w9.cell? ⟨w.heap.size, 1, none⟩ = some (.slice A0 l0 c0) := KA.out.cell 1
    have cA2 : w9.cell? ⟨w.heap.size, 2, none⟩ = some (.slice B0 m0 k0) := KA.out.cell 2
    go_wp2_with fail
    clear cA0 cA1 cA2
    refine (etextL HXX.out).mono ?_
    unfold RetE
    rintro e w10 ⟨rfl, hX⟩
    replace hX : Ext w9 w10 := by with_reducible exact hX
    replace HX := Lib.hid (HX.out.trans hX)
    replace HXX := Lib.hid (HXX.out.ext hX)
    replace KA := Lib.hid (KA.out.ext hX)
    replace KXQ := Lib.hid (KXQ.out.ext hX)
    replace KCC := Lib.hid (KCC.out.ext hX)
    replace KNN := Lib.hid (KNN.out.ext hX)
    clear hX
    clear KA
    clear HXX
    go_upto_region 8 with (fail)
    refine canon_r8e w3.heap.size w5.heap.size w7.heap.size w10 (KXQ.out.cell 0) (KXQ.out.cell 1) (KXQ.out.cell 2) (KCC.out.cell 0) (KCC.out.cell 1) (KCC.out.cell 2) (KNN.out.cell 0) (KNN.out.cell 1) (KNN.out.cell 2) (by omega) _ _ (by simp) rfl rfl rfl rfl rfl rfl rfl rfl ?_
    rintro xv0 xv1 xv2 xv3 xv4 xv5 xv6 xv7 xv8 xv9 xv10 xv11 xv12 xv13 xv14 xv15 xv16 xv17 xv18 xv19 xv20 xv21 xv22 xv23 xv24 w11 rfl rfl rfl rfl rfl rfl rfl rfl rfl rfl _ rfl rfl rfl rfl rfl rfl rfl rfl rfl rfl rfl rfl rfl rfl hXW
    simp only [rops, Try.f7, regOf, Option.bind_some, Nat.reduceBEq, if_true, if_false, Bool.false_eq_true, Option.getD_some, List.drop_succ_cons, List.drop_zero]
    simp only [Act.put, List.setIfInBounds_toArray, List.set_cons_succ, List.set_cons_zero]
    replace HX := Lib.hid (HX.out.trans hXW)
    replace KXQ := Lib.hid (KXQ.out.ext hXW)
    replace KCC := Lib.hid (KCC.out.ext hXW)
    replace KNN := Lib.hid (KNN.out.ext hXW)
    clear hXW
    go_wp2_with fail
    refine (first_any _).mono ?_
    rintro e w12 ⟨rfl, hX⟩
    replace hX : Ext w11 w12 := by with_reducible exact hX
    replace HX := Lib.hid (HX.out.trans hX)
    replace KXQ := Lib.hid (KXQ.out.ext hX)
    replace KCC := Lib.hid (KCC.out.ext hX)
    replace KNN := Lib.hid (KNN.out.ext hX)
    clear hX
    go_wp2
    go_ret
    exact ⟨rfl, HX.out⟩

set_option maxRecDepth 100000 in
set_option maxHeartbeats 2000000 in
theorem canon_ok (s0 : Bool) (A0 B0 : Option Addr) (l0 c0 m0 k0 : Nat) (neg : Bool) (xs ys : List Int) (q : Rat) (w : World) (hv : RatV w (.agg #[.bool s0, .slice A0 l0 c0, .slice B0 m0 k0]) neg xs ys) (hx : RatG w (.agg #[.bool s0, .slice A0 l0 c0, .slice B0 m0 k0]) q) :
    Calls Try.prog 7 #[.agg #[.bool s0, .slice A0 l0 c0, .slice B0 m0 k0]] w (fun e w' => e = .returned (.bool true) ∧ Ext w w') := by
  have HVV := Lib.hid hv
  have HXX := Lib.hid hx
  clear hv hx
  have HF := Lib.hid (FitQW.of HXX.out.fit)
  have HF2 := Lib.hid (FitQW.of (fitQ_neg HXX.out.fit))
  have HFQ := Lib.hid HXX.out.fit
  obtain ⟨bt, hbt⟩ := textb (decide (q.num < 0)) q.num.natAbs q.den
  have HBT := Lib.hid hbt
  clear hbt
  obtain ⟨sg, hsg⟩ : ∃ s, sgnQ q = s := ⟨_, rfl⟩
  have HSG := Lib.hid hsg
  clear hsg
  have hXe : Ext w ((w.alloc (.cells #[.bool s0, .slice A0 l0 c0, .slice B0 m0 k0] 33)).alloc (.cells #[.bool s0, .slice A0 l0 c0, .slice B0 m0 k0] 33)) := (((Ext.refl w).alloc _).alloc _)
  have kA : Blk ((w.alloc (.cells #[.bool s0, .slice A0 l0 c0, .slice B0 m0 k0] 33)).alloc (.cells #[.bool s0, .slice A0 l0 c0, .slice B0 m0 k0] 33)) w.heap.size 33 #[.bool s0, .slice A0 l0 c0, .slice B0 m0 k0] := Blk.alloc (Blk.at_ (by simp)) _
  have kH : Blk ((w.alloc (.cells #[.bool s0, .slice A0 l0 c0, .slice B0 m0 k0] 33)).alloc (.cells #[.bool s0, .slice A0 l0 c0, .slice B0 m0 k0] 33)) (w.heap.size + 1) 33 #[.bool s0, .slice A0 l0 c0, .slice B0 m0 k0] := Blk.at_ (by simp)
  go_enter Try.func7, Try.ntmps7
  go_wp2_with fail
  generalize ((w.alloc (.cells #[.bool s0, .slice A0 l0 c0, .slice B0 m0 k0] 33)).alloc (.cells #[.bool s0, .slice A0 l0 c0, .slice B0 m0 k0] 33)) = w1 at hXe kA kH ⊢
  have HX := Lib.hid hXe
  clear hXe
  have KA := Lib.hid kA
  clear kA
  have KH := Lib.hid kH
  clear kH
  replace HVV := Lib.hid (HVV.out.ext HX.out)
  replace HXX := Lib.hid (HXX.out.ext HX.out)
  refine (heavy_any _ 1 _ (ratsAt_one KH.out HVV.out) (by omega)).mono ?_
  rintro e w2 ⟨b9, rfl, hX⟩
  replace hX : Ext w1 w2 := by with_reducible exact hX
  replace HX := Lib.hid (HX.out.trans hX)
  replace HVV := Lib.hid (HVV.out.ext hX)
  replace HXX := Lib.hid (HXX.out.ext hX)
  replace KA := Lib.hid (KA.out.ext hX)
  replace KH := Lib.hid (KH.out.ext hX)
  clear hX
  clear KH
  clear HVV
  by_cases hb9 : b9 = true
  · subst hb9
    go_wp2_with fail
    refine (first_any _).mono ?_
    rintro e w3 ⟨rfl, hX⟩
    replace hX : Ext w2 w3 := by with_reducible exact hX
    replace HX := Lib.hid (HX.out.trans hX)
    replace HXX := Lib.hid (HXX.out.ext hX)
    replace KA := Lib.hid (KA.out.ext hX)
    clear hX
    go_wp2
    go_ret
    exact ⟨rfl, HX.out⟩
  · have hb8 : b9 = false := by simpa using hb9
    clear hb9
    subst hb8
    have cA0 : w2.cell? ⟨w.heap.size, 0, none⟩ = some (.bool s0) := KA.out.cell 0
    have cA1 : w2.cell? ⟨w.heap.size, 1, none⟩ = some (.slice A0 l0 c0) := KA.out.cell 1
    have cA2 : w2.cell? ⟨w.heap.size, 2, none⟩ = some (.slice B0 m0 k0) := KA.out.cell 2
    go_wp2_with fail
    clear cA0 cA1 cA2
    refine (read_ok HXX.out).mono ?_
    rintro e w3 ⟨v7, rfl, hv, hX⟩
    replace hX : Ext w2 w3 := by with_reducible exact hX
    replace HX := Lib.hid (HX.out.trans hX)
    replace HXX := Lib.hid (HXX.out.ext hX)
    replace KA := Lib.hid (KA.out.ext hX)
    clear hX
    replace hv : QZ w3 v7 q := hv
    obtain ⟨s17, A17, l17, c17, B17, m17, k17, rfl⟩ := hv.open
    have HQ := Lib.hid hv
    clear hv
    go_upto_region 4 with (fail)
    have hXa : Ext w3 (w3.alloc (.cells #[.bool s17, .slice A17 l17 c17, .slice B17 m17 k17] 42)) := (Ext.refl _).alloc _
    have kXQ := Blk.new w3 42 #[.bool s17, .slice A17 l17 c17, .slice B17 m17 k17]
    have zA := KA.out.lt
    have zg := HX.out.size
    replace HX := Lib.hid (HX.out.trans hXa)
    replace HXX := Lib.hid (HXX.out.ext hXa)
    replace HQ := Lib.hid (HQ.out.ext hXa)
    replace KA := Lib.hid (KA.out.ext hXa)
    generalize (w3.alloc (.cells #[.bool s17, .slice A17 l17 c17, .slice B17 m17 k17] 42)) = w4 at HX HXX HQ KA kXQ ⊢
    have KXQ := Lib.hid kXQ
    clear kXQ hXa
    have cA0 : w4.cell? ⟨w.heap.size, 0, none⟩ = some (.bool s0) := KA.out.cell 0
    have cA1 : w4.cell? ⟨w.heap.size, 1, none⟩ = some (.slice A0 l0 c0) := KA.out.cell 1
    have cA2 : w4.cell? ⟨w.heap.size, 2, none⟩ = some (.slice B0 m0 k0) := KA.out.cell 2
    go_wp2_with fail
    clear cA0 cA1 cA2
    refine (canonG HXX.out).mono ?_
    rintro e w5 ⟨v8, rfl, hv, hX⟩
    replace hX : Ext w4 w5 := by with_reducible exact hX
    replace HX := Lib.hid (HX.out.trans hX)
    replace HXX := Lib.hid (HXX.out.ext hX)
    replace HQ := Lib.hid (HQ.out.ext hX)
    replace KA := Lib.hid (KA.out.ext hX)
    replace KXQ := Lib.hid (KXQ.out.ext hX)
    clear hX
    obtain ⟨s18, A18, l18, c18, B18, m18, k18, rfl⟩ := hv.open
    have HC := Lib.hid hv
    clear hv
    go_upto_region 5 with (fail)
    have hXa : Ext w5 (w5.alloc (.cells #[.bool s18, .slice A18 l18 c18, .slice B18 m18 k18] 33)) := (Ext.refl _).alloc _
    have kCC := Blk.new w5 33 #[.bool s18, .slice A18 l18 c18, .slice B18 m18 k18]
    have zA := KA.out.lt
    have zXQ := KXQ.out.lt
    have zg := HX.out.size
    replace HX := Lib.hid (HX.out.trans hXa)
    replace HXX := Lib.hid (HXX.out.ext hXa)
    replace HQ := Lib.hid (HQ.out.ext hXa)
    replace HC := Lib.hid (HC.out.ext hXa)
    replace KA := Lib.hid (KA.out.ext hXa)
    replace KXQ := Lib.hid (KXQ.out.ext hXa)
    generalize (w5.alloc (.cells #[.bool s18, .slice A18 l18 c18, .slice B18 m18 k18] 33)) = w6 at HX HXX HQ HC KA KXQ kCC ⊢
    have KCC := Lib.hid kCC
    clear kCC hXa
    have cA0 : w6.cell? ⟨w.heap.size, 0, none⟩ = some (.bool s0) := KA.out.cell 0
    have cA1 : w6.cell? ⟨w.heap.size, 1, none⟩ = some (.slice A0 l0 c0) := KA.out.cell 1
    have cA2 : w6.cell? ⟨w.heap.size, 2, none⟩ = some (.slice B0 m0 k0) := KA.out.cell 2
    go_wp2_with fail
    clear cA0 cA1 cA2
    refine (negG HXX.out).mono ?_
    rintro e w7 ⟨v9, rfl, hv, hX⟩
    replace hX : Ext w6 w7 := by with_reducible exact hX
    replace HX := Lib.hid (HX.out.trans hX)
    replace HXX := Lib.hid (HXX.out.ext hX)
    replace HQ := Lib.hid (HQ.out.ext hX)
    replace HC := Lib.hid (HC.out.ext hX)
    replace KA := Lib.hid (KA.out.ext hX)
    replace KXQ := Lib.hid (KXQ.out.ext hX)
    replace KCC := Lib.hid (KCC.out.ext hX)
    clear hX
    obtain ⟨s19, A19, l19, c19, B19, m19, k19, rfl⟩ := hv.open
    have HN := Lib.hid hv
    clear hv
    go_upto_region 6 with (fail)
    have hXa : Ext w7 (w7.alloc (.cells #[.bool s19, .slice A19 l19 c19, .slice B19 m19 k19] 33)) := (Ext.refl _).alloc _
    have kNN := Blk.new w7 33 #[.bool s19, .slice A19 l19 c19, .slice B19 m19 k19]
    have zA := KA.out.lt
    have zXQ := KXQ.out.lt
    have zCC := KCC.out.lt
    have zg := HX.out.size
    replace HX := Lib.hid (HX.out.trans hXa)
    replace HXX := Lib.hid (HXX.out.ext hXa)
    replace HQ := Lib.hid (HQ.out.ext hXa)
    replace HC := Lib.hid (HC.out.ext hXa)
    replace HN := Lib.hid (HN.out.ext hXa)
    replace KA := Lib.hid (KA.out.ext hXa)
    replace KXQ := Lib.hid (KXQ.out.ext hXa)
    replace KCC := Lib.hid (KCC.out.ext hXa)
    generalize (w7.alloc (.cells #[.bool s19, .slice A19 l19 c19, .slice B19 m19 k19] 33)) = w8 at HX HXX HQ HC HN KA KXQ KCC kNN ⊢
    have KNN := Lib.hid kNN
    clear kNN hXa
    have cA0 : w8.cell? ⟨w.heap.size, 0, none⟩ = some (.bool s0) := KA.out.cell 0
    have cA1 : w8.cell? ⟨w.heap.size, 1, none⟩ = some (.slice A0 l0 c0) := KA.out.cell 1
    have cA2 : w8.cell? ⟨w.heap.size, 2, none⟩ = some (.slice B0 m0 k0) := KA.out.cell 2
    go_wp2_with fail
    clear cA0 cA1 cA2
    refine (signG HXX.out).mono ?_
    rw [HSG.out]
    unfold RetE
    rintro e w9 ⟨rfl, hX⟩
    replace hX : Ext w8 w9 := by with_reducible exact hX
    replace HX := Lib.hid (HX.out.trans hX)
    replace HXX := Lib.hid (HXX.out.ext hX)
    replace HQ := Lib.hid (HQ.out.ext hX)
    replace HC := Lib.hid (HC.out.ext hX)
    replace HN := Lib.hid (HN.out.ext hX)
    replace KA := Lib.hid (KA.out.ext hX)
    replace KXQ := Lib.hid (KXQ.out.ext hX)
    replace KCC := Lib.hid (KCC.out.ext hX)
    replace KNN := Lib.hid (KNN.out.ext hX)
    clear hX
    have cA0 : w9.cell? ⟨w.heap.size, 0, none⟩ = some (.bool s0) := KA.out.cell 0
    have cA1 : w9.cell? ⟨w.heap.size, 1, none⟩ = some (.slice A0 l0 c0) := KA.out.cell 1
    have cA2 : w9.cell? ⟨w.heap.size, 2, none⟩ = some (.slice B0 m0 k0) := KA.out.cell 2
    go_wp2_with fail
    clear cA0 cA1 cA2
    refine (textT HXX.out HBT.out).mono ?_
    rintro e w10 ⟨rfl, hX⟩
    replace hX : Ext w9 w10 := by with_reducible exact hX
    replace HX := Lib.hid (HX.out.trans hX)
    replace HXX := Lib.hid (HXX.out.ext hX)
    replace HQ := Lib.hid (HQ.out.ext hX)
    replace HC := Lib.hid (HC.out.ext hX)
    replace HN := Lib.hid (HN.out.ext hX)
    replace KA := Lib.hid (KA.out.ext hX)
    replace KXQ := Lib.hid (KXQ.out.ext hX)
    replace KCC := Lib.hid (KCC.out.ext hX)
    replace KNN := Lib.hid (KNN.out.ext hX)
    clear hX
    clear KA
    clear HXX
    go_upto_region 8 with (fail)
    refine canon_r8 w3.heap.size w5.heap.size w7.heap.size s17 A17 B17 l17 c17 m17 k17 s18 A18 B18 l18 c18 m18 k18 s19 A19 B19 l19 c19 m19 k19 q w10 (KXQ.out.cell 0) (KXQ.out.cell 1) (KXQ.out.cell 2) (KCC.out.cell 0) (KCC.out.cell 1) (KCC.out.cell 2) (KNN.out.cell 0) (KNN.out.cell 1) (KNN.out.cell 2) HQ.out HC.out HN.out HF.out HF2.out _ _ (by simp) rfl rfl rfl rfl rfl rfl rfl rfl ?_
    rintro xv0 xv1 xv2 xv3 xv4 xv5 xv6 xv7 xv8 xv9 xv10 xv11 xv12 xv13 xv14 xv15 xv16 xv17 xv18 xv19 xv20 xv21 xv22 xv23 xv24 w11 rfl rfl rfl rfl rfl rfl rfl rfl rfl rfl _ rfl rfl rfl rfl rfl rfl rfl rfl rfl rfl rfl rfl rfl rfl hXW
    simp only [rops, Try.f7, regOf, Option.bind_some, Nat.reduceBEq, if_true, if_false, Bool.false_eq_true, Option.getD_some, List.drop_succ_cons, List.drop_zero]
    simp only [Act.put, List.setIfInBounds_toArray, List.set_cons_succ, List.set_cons_zero]
    replace HX := Lib.hid (HX.out.trans hXW)
    replace HQ := Lib.hid (HQ.out.ext hXW)
    replace HC := Lib.hid (HC.out.ext hXW)
    replace HN := Lib.hid (HN.out.ext hXW)
    replace KXQ := Lib.hid (KXQ.out.ext hXW)
    replace KCC := Lib.hid (KCC.out.ext hXW)
    replace KNN := Lib.hid (KNN.out.ext hXW)
    clear hXW
    clear KCC
    clear KNN
    clear HC
    clear HN
    have cXQ0 : w11.cell? ⟨w3.heap.size, 0, none⟩ = some (.bool s17) := KXQ.out.cell 0
    have cXQ1 : w11.cell? ⟨w3.heap.size, 1, none⟩ = some (.slice A17 l17 c17) := KXQ.out.cell 1
    have cXQ2 : w11.cell? ⟨w3.heap.size, 2, none⟩ = some (.slice B17 m17 k17) := KXQ.out.cell 2
    go_wp2_with fail
    clear cXQ0 cXQ1 cXQ2
    refine (rsign_any _ _ _ HQ.out.num).mono ?_
    rw [sgI_num, HSG.out]
    rintro e w12 ⟨rfl, hX⟩
    replace hX : Ext w11 w12 := by with_reducible exact hX
    replace HX := Lib.hid (HX.out.trans hX)
    replace HQ := Lib.hid (HQ.out.ext hX)
    replace KXQ := Lib.hid (KXQ.out.ext hX)
    clear hX
    have cXQ0 : w12.cell? ⟨w3.heap.size, 0, none⟩ = some (.bool s17) := KXQ.out.cell 0
    have cXQ1 : w12.cell? ⟨w3.heap.size, 1, none⟩ = some (.slice A17 l17 c17) := KXQ.out.cell 1
    have cXQ2 : w12.cell? ⟨w3.heap.size, 2, none⟩ = some (.slice B17 m17 k17) := KXQ.out.cell 2
    go_wp2_with fail
    clear cXQ0 cXQ1 cXQ2
    refine (qtextT HQ.out HFQ.out HBT.out).mono ?_
    rintro e w13 ⟨rfl, hX⟩
    replace hX : Ext w12 w13 := by with_reducible exact hX
    replace HX := Lib.hid (HX.out.trans hX)
    replace HQ := Lib.hid (HQ.out.ext hX)
    replace KXQ := Lib.hid (KXQ.out.ext hX)
    clear hX
    go_wp2_with fail
    refine (first_any _).mono ?_
    rintro e w14 ⟨rfl, hX⟩
    replace hX : Ext w13 w14 := by with_reducible exact hX
    replace HX := Lib.hid (HX.out.trans hX)
    replace HQ := Lib.hid (HQ.out.ext hX)
    replace KXQ := Lib.hid (KXQ.out.ext hX)
    clear hX
    go_wp2
    go_ret
    exact ⟨rfl, HX.out⟩

theorem exactCanon_walk (vx : Value) (f : Bool × List Int × List Int) (w : World) (hx : RatV_ w vx f) :
    Calls Try.prog 7 #[vx] w fun e w' => e = .returned (.bool true) ∧ Ext w w' := by
  obtain ⟨s, xs, ys⟩ := f
  obtain ⟨A0, l0, c0, B0, m0, k0, rfl, ⟨hA0, hl0, hc0⟩, ⟨hB0, hm0, hk0⟩⟩ := hx
  have hv : RatV w (.agg #[.bool s, .slice A0 l0 c0, .slice B0 m0 k0]) s xs ys := ⟨A0, l0, c0, B0, m0, k0, rfl, hA0, hl0, hc0, hB0, hm0, hk0⟩
  rcases hv.cases with h | ⟨_, h⟩
  · exact canon_no _ _ _ _ _ _ _ _ _ _ w hv h
  · exact canon_ok _ _ _ _ _ _ _ _ _ _ _ w hv h
end Go.Proofs.Yteoijnaljkagfaa
