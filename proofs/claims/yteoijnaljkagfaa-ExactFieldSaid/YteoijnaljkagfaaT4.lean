/- Walk: Text of a rational number (program). -/
import Derived.Test.YteoijnaljkagfaaT3
import Derived.Test.YteoijnaljkagfaaR8
namespace Go.Proofs.Yteoijnaljkagfaa
open Go.RowKit

/-- The text of a number: the sign, the numerator, and the denominator if it is not 1. -/
def TextB (s : Bool) (n d : Nat) (b : ByteArray) : Prop := ∃ x y, Dec n x ∧ Dec d y ∧
  b = bif decide (d = 1) then (bif s then ⟨#[45]⟩ ++ strOfNums x else strOfNums x) else (bif s then ⟨#[45]⟩ ++ strOfNums x else strOfNums x) ++ (⟨#[47]⟩ ++ strOfNums y)
theorem TextB.unique {s : Bool} {n d : Nat} {a b : ByteArray} (h : TextB s n d a) (k : TextB s n d b) : a = b := by
  obtain ⟨x, y, h1, h2, rfl⟩ := h
  obtain ⟨x', y', k1, k2, rfl⟩ := k
  rw [h1.unique k1, h2.unique k2]
def RetT (w : World) (s : Bool) (n d : Nat) (e : Ending) (w' : World) : Prop := ∃ b, e = .returned (.string b) ∧ TextB s n d b ∧ Ext w w'
theorem dec_one : Dec 1 [49] := .inr ⟨by omega, [1], Rep.one (by omega), rfl⟩
theorem Dec.size {n L : Nat} {x : List Int} (h : Dec n x) (hf : Fit 4294967296 n L) : (strOfNums x).size ≤ 32 * L + 1 := by
  have e : (strOfNums x).size = x.length := by simp [strOfNums, ByteArray.size]
  rw [e]
  rcases h with ⟨_, rfl⟩ | ⟨h0, xs, hx, rfl⟩
  · simp
  · simp only [List.length_reverse, List.length_map]
    have h1 := nm_low (B := 10) (by omega) hx.1 hx.2.1 (by rintro rfl; have := hx.2.2; simp [val] at this; omega)
    rw [hx.2.2] at h1
    have h2 : (2 : Int) ^ (xs.length - 1) ≤ 10 ^ (xs.length - 1) := by
      have : (2 : Nat) ^ (xs.length - 1) ≤ 10 ^ (xs.length - 1) := Nat.pow_le_pow_left (by omega) _
      exact_mod_cast this
    have h3 : (4294967296 : Int) ^ L = 2 ^ (32 * L) := by rw [Int.pow_mul]; rfl
    unfold Fit at hf
    rw [h3] at hf
    rcases Nat.lt_or_ge (32 * L + 1) xs.length with h4 | h4
    · have := pow_le (B := 2) (a := 32 * L) (b := xs.length - 1) (by omega) (by omega)
      omega
    · exact h4
theorem den_cases {w : World} {A : Option Addr} {l c d : Nat} (h : W32 w (.slice A l c) d) (hd : 0 < d) :
    (d = 1 ∧ l = 1 ∧ ∃ b o, A = some ⟨b, o, none⟩ ∧ w.cell? ⟨b, o, none⟩ = some (.int .u32 1)) ∨ (d ≠ 1 ∧ l = 1 ∧ ∃ b o x, A = some ⟨b, o, none⟩ ∧ w.cell? ⟨b, o, none⟩ = some (.int .u32 x) ∧ (x == 1) = false) ∨ (d ≠ 1 ∧ 1 < l) := by
  obtain ⟨A', l', c', xs, e, hI, hR, hc, hcm⟩ := h
  injection e with e1 e2 e3
  subst e1 e2 e3
  rcases xs with _ | ⟨x, _ | ⟨y, xs⟩⟩
  · have := (Rep.pos (by omega) hR).2 rfl; omega
  · obtain ⟨hx, _⟩ := Rep.single (by omega) hR
    have hl : l = 1 := by simpa using hI.1.symm
    obtain ⟨b, o, z, hA, hz, _, hc0⟩ := hI.get (j := 0) (by omega)
    obtain rfl : x = z := by simpa using hz
    by_cases h1 : d = 1
    · exact .inl ⟨h1, hl, b, o, hA, by rw [h1] at hx; rw [hx] at hc0; exact hc0⟩
    · exact .inr (.inl ⟨h1, hl, b, o, x, hA, hc0, by simp; omega⟩)
  · refine .inr (.inr ⟨?_, by rw [← hI.1]; simp⟩)
    intro h1
    subst h1
    have := hR.unique (by omega) (Rep.one (by omega))
    simp at this

set_option maxHeartbeats 1000000 in
theorem rtext_pos (v : Value) (n d L : Nat) (w : World) (h : NumV w v false n d) (hd : 0 < d) (f1 : Fit 4294967296 n L) (f2 : Fit 4294967296 d L) (hL : L ≤ 1000000000) :
    Calls Try.prog 92 #[v] w (RetT w false n d) := by
  obtain ⟨A1, l1, c1, A2, l2, c2, rfl, h1, h2, _, _⟩ := h.open
  have hXw : Ext w (w.alloc (.cells #[.bool false, .slice A1 l1 c1, .slice A2 l2 c2] 96)) := (Ext.refl w).alloc _
  have hBA := Blk.new w 96 #[.bool false, .slice A1 l1 c1, .slice A2 l2 c2]
  have H1 := Lib.hid (h1.ext hXw)
  have H2 := Lib.hid (h2.ext hXw)
  have F1 := Lib.hid f1
  have F2 := Lib.hid f2
  clear h h1 h2 f1 f2
  go_enter Try.func92, Try.ntmps92
  go_wp2_with fail
  generalize (w.alloc (.cells #[.bool false, .slice A1 l1 c1, .slice A2 l2 c2] 96)) = w1 at hXw hBA H1 H2 ⊢
  have HXw := Lib.hid hXw
  have HBA := Lib.hid hBA
  clear hXw hBA
  refine (text_any _ n L _ H1.out F1.out hL).mono ?_
  rintro e w2 ⟨x, rfl, hx, hX2⟩
  obtain ⟨z0, z1, z2, _, _, _⟩ := (HBA.out.ext hX2).three
  have HX2 := Lib.hid (HXw.out.trans hX2)
  replace H2 := Lib.hid (H2.out.ext hX2)
  have HDx := Lib.hid hx
  have hsx := hx.size F1.out
  obtain ⟨bx, hbx⟩ : ∃ b, strOfNums x = b := ⟨_, rfl⟩
  rw [hbx] at hsx ⊢
  have HBX := Lib.hid hbx
  have hsm : ¬ 9223372036854775807 < bx.size + 1 := by omega
  have hsm' : ¬ 9223372036854775807 < 1 + bx.size := by omega
  clear hX2 hx hbx
  rcases den_cases H2.out hd with ⟨h1, hl, b, o, rfl, hc⟩ | ⟨h1, hl, b, o, z, rfl, hc, hz⟩ | ⟨h1, hl⟩
  · subst h1 hl
    go_wp2
    go_ret
    exact ⟨_, rfl, ⟨x, [49], HDx.out, dec_one, by rw [HBX.out]; rfl⟩, HX2.out⟩
  · have HD1 := Lib.hid h1
    subst hl
    clear h1
    go_wp2_with fail
    refine (text_any _ d L _ H2.out F2.out hL).mono ?_
    rintro e w3 ⟨y, rfl, hy, hX3⟩
    have HX3 := Lib.hid (HX2.out.trans hX3)
    have HDy := Lib.hid hy
    have hsy := hy.size F2.out
    obtain ⟨bt, hby⟩ : ∃ b, strOfNums y = b := ⟨_, rfl⟩
    rw [hby] at hsy ⊢
    have HBY := Lib.hid hby
    have hsn : ¬ 9223372036854775807 < 1 + bt.size := by omega
    have hsn' : ¬ 9223372036854775807 < bx.size + (1 + bt.size) := by omega
    have hsn2 : ¬ 9223372036854775807 < 1 + bx.size + (1 + bt.size) := by omega
    clear hX3 hy hby
    go_wp2
    go_ret
    exact ⟨_, rfl, ⟨x, y, HDx.out, HDy.out, by rw [decide_eq_false HD1.out, HBX.out, HBY.out]; rfl⟩, HX3.out⟩
  · have HD1 := Lib.hid h1
    have hlI : (1 : Int) < (l2 : Int) := by omega
    clear h1
    go_wp2_with fail
    refine (text_any _ d L _ H2.out F2.out hL).mono ?_
    rintro e w3 ⟨y, rfl, hy, hX3⟩
    have HX3 := Lib.hid (HX2.out.trans hX3)
    have HDy := Lib.hid hy
    have hsy := hy.size F2.out
    obtain ⟨bt, hby⟩ : ∃ b, strOfNums y = b := ⟨_, rfl⟩
    rw [hby] at hsy ⊢
    have HBY := Lib.hid hby
    have hsn : ¬ 9223372036854775807 < 1 + bt.size := by omega
    have hsn' : ¬ 9223372036854775807 < bx.size + (1 + bt.size) := by omega
    have hsn2 : ¬ 9223372036854775807 < 1 + bx.size + (1 + bt.size) := by omega
    clear hX3 hy hby
    go_wp2
    go_ret
    exact ⟨_, rfl, ⟨x, y, HDx.out, HDy.out, by rw [decide_eq_false HD1.out, HBX.out, HBY.out]; rfl⟩, HX3.out⟩

set_option maxHeartbeats 1000000 in
theorem rtext_neg (v : Value) (n d L : Nat) (w : World) (h : NumV w v true n d) (hd : 0 < d) (f1 : Fit 4294967296 n L) (f2 : Fit 4294967296 d L) (hL : L ≤ 1000000000) :
    Calls Try.prog 92 #[v] w (RetT w true n d) := by
  obtain ⟨A1, l1, c1, A2, l2, c2, rfl, h1, h2, _, _⟩ := h.open
  have hXw : Ext w (w.alloc (.cells #[.bool true, .slice A1 l1 c1, .slice A2 l2 c2] 96)) := (Ext.refl w).alloc _
  have hBA := Blk.new w 96 #[.bool true, .slice A1 l1 c1, .slice A2 l2 c2]
  have H1 := Lib.hid (h1.ext hXw)
  have H2 := Lib.hid (h2.ext hXw)
  have F1 := Lib.hid f1
  have F2 := Lib.hid f2
  clear h h1 h2 f1 f2
  go_enter Try.func92, Try.ntmps92
  go_wp2_with fail
  generalize (w.alloc (.cells #[.bool true, .slice A1 l1 c1, .slice A2 l2 c2] 96)) = w1 at hXw hBA H1 H2 ⊢
  have HXw := Lib.hid hXw
  have HBA := Lib.hid hBA
  clear hXw hBA
  refine (text_any _ n L _ H1.out F1.out hL).mono ?_
  rintro e w2 ⟨x, rfl, hx, hX2⟩
  obtain ⟨z0, z1, z2, _, _, _⟩ := (HBA.out.ext hX2).three
  have HX2 := Lib.hid (HXw.out.trans hX2)
  replace H2 := Lib.hid (H2.out.ext hX2)
  have HDx := Lib.hid hx
  have hsx := hx.size F1.out
  obtain ⟨bx, hbx⟩ : ∃ b, strOfNums x = b := ⟨_, rfl⟩
  rw [hbx] at hsx ⊢
  have HBX := Lib.hid hbx
  have hsm : ¬ 9223372036854775807 < bx.size + 1 := by omega
  have hsm' : ¬ 9223372036854775807 < 1 + bx.size := by omega
  clear hX2 hx hbx
  rcases den_cases H2.out hd with ⟨h1, hl, b, o, rfl, hc⟩ | ⟨h1, hl, b, o, z, rfl, hc, hz⟩ | ⟨h1, hl⟩
  · subst h1 hl
    go_wp2
    go_ret
    exact ⟨_, rfl, ⟨x, [49], HDx.out, dec_one, by rw [HBX.out]; rfl⟩, HX2.out⟩
  · have HD1 := Lib.hid h1
    subst hl
    clear h1
    go_wp2_with fail
    refine (text_any _ d L _ H2.out F2.out hL).mono ?_
    rintro e w3 ⟨y, rfl, hy, hX3⟩
    have HX3 := Lib.hid (HX2.out.trans hX3)
    have HDy := Lib.hid hy
    have hsy := hy.size F2.out
    obtain ⟨bt, hby⟩ : ∃ b, strOfNums y = b := ⟨_, rfl⟩
    rw [hby] at hsy ⊢
    have HBY := Lib.hid hby
    have hsn : ¬ 9223372036854775807 < 1 + bt.size := by omega
    have hsn' : ¬ 9223372036854775807 < bx.size + (1 + bt.size) := by omega
    have hsn2 : ¬ 9223372036854775807 < 1 + bx.size + (1 + bt.size) := by omega
    clear hX3 hy hby
    go_wp2
    go_ret
    exact ⟨_, rfl, ⟨x, y, HDx.out, HDy.out, by rw [decide_eq_false HD1.out, HBX.out, HBY.out]; rfl⟩, HX3.out⟩
  · have HD1 := Lib.hid h1
    have hlI : (1 : Int) < (l2 : Int) := by omega
    clear h1
    go_wp2_with fail
    refine (text_any _ d L _ H2.out F2.out hL).mono ?_
    rintro e w3 ⟨y, rfl, hy, hX3⟩
    have HX3 := Lib.hid (HX2.out.trans hX3)
    have HDy := Lib.hid hy
    have hsy := hy.size F2.out
    obtain ⟨bt, hby⟩ : ∃ b, strOfNums y = b := ⟨_, rfl⟩
    rw [hby] at hsy ⊢
    have HBY := Lib.hid hby
    have hsn : ¬ 9223372036854775807 < 1 + bt.size := by omega
    have hsn' : ¬ 9223372036854775807 < bx.size + (1 + bt.size) := by omega
    have hsn2 : ¬ 9223372036854775807 < 1 + bx.size + (1 + bt.size) := by omega
    clear hX3 hy hby
    go_wp2
    go_ret
    exact ⟨_, rfl, ⟨x, y, HDx.out, HDy.out, by rw [decide_eq_false HD1.out, HBX.out, HBY.out]; rfl⟩, HX3.out⟩

theorem rtext_any (v : Value) (s : Bool) (n d L : Nat) (w : World) (h : NumV w v s n d) (hd : 0 < d) (f1 : Fit 4294967296 n L) (f2 : Fit 4294967296 d L) (hL : L ≤ 1000000000) :
    Calls Try.prog 92 #[v] w (RetT w s n d) := by
  cases s
  · exact rtext_pos v n d L w h hd f1 f2 hL
  · exact rtext_neg v n d L w h hd f1 f2 hL
end Go.Proofs.Yteoijnaljkagfaa
