/- Walks: what Number (program) returns, and that 'awake' returns true. Condition: the slice reads as bytes and is not too long. -/
import Derived.Test.YtekhmfliaojabaaChecked
import Derived.Test.YtekhmfliaojabaaBase
import Derived.Test.YtekhmfliaojabaaNum
namespace Go.Proofs.Ytekhmfliaojabaa
open Go.RowKit

theorem elB : Elem Try.prog 22 5 1 1 (.int .u8 0) := Elem.mk' (by kernel_rfl) (by kernel_rfl) rfl (by decide)

/-- What a call returns that makes bytes: they read as 'xs', in memory of its own. -/
def RetBytes (w : World) (xs : List Int) (er : Int) (e : Ending) (w' : World) : Prop :=
  ∃ A n c, e = .returned (.tuple #[.slice A n c, .int .i64 er]) ∧ OwnS .u8 5 w.heap.size w' A n c xs ∧ Ext w w'
/-- The same where the bytes are the one result. -/
def RetB (w : World) (xs : List Int) (e : Ending) (w' : World) : Prop :=
  ∃ A n c, e = .returned (.slice A n c) ∧ OwnS .u8 5 w.heap.size w' A n c xs ∧ Ext w w'

theorem wf_app {xs ys : List Int} (h : ∀ x ∈ xs, (Lit.int .u8 x).wf = true) (k : ∀ y ∈ ys, 0 ≤ y ∧ y ≤ 255) : ∀ x ∈ xs ++ ys, (Lit.int .u8 x).wf = true := fun x hx => by
  rcases List.mem_append.1 hx with hx | hx
  · exact h x hx
  · exact WalkArith.wf_u8 (k x hx)

set_option maxHeartbeats 1000000 in
theorem number_ok (A : Option Addr) (n c : Nat) (xs : List Int) (m : Int) (w : World) (h : Ints .u8 w A n xs) (hn : n ≤ 1000000) (h0 : 0 ≤ m) (h1 : m ≤ 4611686018427387903) :
    Calls Try.prog 23 #[.slice A n c, .int .i64 m] w (RetBytes w (xs ++ enc m) 0) := by
  have H := Lib.hid h
  have hs := EncAt.start h0 h1
  have HS := Lib.hid hs
  have HL : Hid (xs.length = n) := h.1
  clear h hs
  go_enter Try.func23, Try.ntmps23
  go_wp2_with (first | (at_make; refine wpList_mk _ elB rfl rfl _ _ rfl w.heap.size _ _ _ _ n (n + 9) rfl rfl rfl (by omega) (by omega) (by omega) (by unfold maxLen; omega) (Nat.le_refl _) ?_; intro w1 hown1 hext1 hsz1) | (refine wpList_cp (o := ⟨some 21, _, _, _, _, _⟩) _ elB rfl _ _ rfl w.heap.size _ _ _ _ rfl hown1 A n c (xs.map (.int .u8)) rfl (by rw [List.length_map]; exact HL.out) (H.out.ext hext1).2.2 (ints_oneCell _ _) ?_; intro w2 r2 hown2 hgr2 _))
  go_frame
  go_loopg [1, 6] m.toNat (fun g q v wr => ∃ (m' : Int) (pre : List Int), g = m'.toNat ∧ q = .int .i64 m' ∧ Hid (EncAt m pre m') ∧ m' ≤ 4611686018427387903 ∧ wr.ownsRow w.heap.size 5 1 v (n + pre.length) ((xs ++ pre).map (.int .u8)) ∧ Ext w wr)
  case atStart => 
    refine ⟨m, [], rfl, rfl, HS.out, h1, ?_, hext1.grown hgr2 ?_⟩
    · have e : List.take n (xs.map (Value.int .u8)) ++ List.drop n (List.replicate n (Value.int .u8 0)) = (xs ++ []).map (Value.int .u8) := by
        rw [List.take_of_length_le (by rw [List.length_map, HL.out]; omega), List.drop_eq_nil_of_le (by simp)]; simp
      rw [e] at hown2
      exact hown2
    · intro k hk; simp [Value.ownBlock] at hk; omega
  case round => 
    obtain ⟨m', pre, rfl, rfl, hE, hm1, hown, hext⟩ := hrel
    have hm0 := hE.out.pos
    have hpl := hE.out.len
    obtain ⟨A1, c1, rfl⟩ := own_slice hown
    by_cases hge : 128 ≤ m'
    · have hor := or_128 (m' % 128) (by omega) (by omega)
      have HH := Lib.hid hext
      clear hext
      go_wp2_with (at_builtin; refine wpList_app _ elB rfl _ _ rfl w.heap.size _ _ _ rfl (hown.alloc _) _ 1 1 [.int .u8 (m' % 128 + 128)] rfl rfl (At.new _ [_] _) (by simp [Value.oneCell']) (by omega) (by unfold maxLen; omega) (by have := HH.out.size; simp; omega) ?_; intro v1 w1 hown1 hgr1 _)
      go_roundg ((m' / 128).toNat)
      case rel => 
        refine ⟨m' / 128, pre ++ [m' % 128 + 128], rfl, rfl, hE.out.step hge, by omega, ?_, HH.out.push hown hgr1⟩
        simpa [Nat.add_assoc] using hown1
      case measure => omega
    · have HH := Lib.hid hext
      clear hext
      go_wp2_with (at_builtin; refine wpList_app _ elB rfl _ _ rfl w.heap.size _ _ _ rfl (hown.alloc _) _ 1 1 [.int .u8 m'] rfl rfl (At.new _ [_] _) (by simp [Value.oneCell']) (by omega) (by unfold maxLen; omega) (by have := HH.out.size; simp; omega) ?_; intro v1 w1 hown1 hgr1 _)
      go_ret2
      obtain ⟨A2, c2, rfl⟩ := own_slice hown1
      refine ⟨A2, _, c2, rfl, ⟨?_, ?_, wf_app H.out.2.1 (enc_byte h0 h1)⟩, HH.out.push hown hgr1⟩
      · have e := hE.out.done (by omega)
        rw [← e]
        simpa using hown1
      · rw [← hE.out.done (by omega)]
        have := HL.out
        simp; omega

set_option maxHeartbeats 400000 in
theorem number_bad (A : Option Addr) (n c : Nat) (m : Int) (w : World) (h : m < 0 ∨ 4611686018427387903 < m) :
    Calls Try.prog 23 #[.slice A n c, .int .i64 m] w fun e w' => e = .returned (.tuple #[.slice none 0 0, .int .i64 2]) ∧ w = w' := by
  rcases h with h | h
  · go_enter Try.func23, Try.ntmps23
    go_wp2
    go_ret2
    exact ⟨rfl, rfl⟩
  · have h' : ¬ m < 0 := by omega
    go_enter Try.func23, Try.ntmps23
    go_wp2
    go_ret2
    exact ⟨rfl, rfl⟩

theorem enc300 : enc 300 = [172, 2] := by decide

set_option maxHeartbeats 400000 in
theorem awake (w : World) : Calls Try.prog 18 #[] w fun e w' => e = .returned (.bool true) ∧ Ext w w' := by
  go_enter Try.func18, Try.ntmps18
  go_wp2_with fail
  refine (number_ok none 0 0 [] 300 w Ints.nil (by omega) (by omega) (by omega)).mono ?_
  rintro e w1 ⟨A, n, c, rfl, ⟨hown, hn, _⟩, hext⟩
  rw [enc300] at hown hn
  have hAt := At.of_own hown
  obtain ⟨b, off, rfl, hc⟩ := hAt (by simp)
  have hc0 : w1.cell? ⟨b, off, none⟩ = some (.int .u8 172) := hc 0 _ rfl
  have hc1 : w1.cell? ⟨b, off + 1, none⟩ = some (.int .u8 2) := hc 1 _ rfl
  obtain rfl : n = 2 := hn.symm
  have HX := Lib.hid hext
  clear hext hown hAt hc
  go_wp2
  go_ret
  exact ⟨rfl, HX.out⟩
end Go.Proofs.Ytekhmfliaojabaa
