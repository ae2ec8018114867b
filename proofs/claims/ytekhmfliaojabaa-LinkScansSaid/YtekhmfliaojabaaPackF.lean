/- Plain: the encoding of a frame ('pck'), and that reading it gives the frame back. No program in sight. Conditions: as stated. -/
import Derived.Test.YtekhmfliaojabaaFrame
namespace Go.Proofs.Ytekhmfliaojabaa
open Go.RowKit

/-- Four bytes, the most significant one first. -/
def big4 (n : Int) : List Int := [n / 16777216, n / 65536 % 256, n / 256 % 256, n % 256]
theorem big4_bigN {n : Int} (h0 : 0 ≤ n) (_h1 : n ≤ 4294967295) : bigN (big4 n) = n := by
  unfold big4; rw [bigN_four]; omega
theorem big4_byte {n : Int} (h0 : 0 ≤ n) (h1 : n ≤ 4294967295) : ∀ x ∈ big4 n, 0 ≤ x ∧ x ≤ 255 := by
  intro x hx
  simp [big4] at hx
  omega

def FrOk (f : Fr) : Prop := 0 ≤ f.stream ∧ f.stream ≤ 255 ∧ 0 ≤ f.seq ∧ f.seq ≤ 4294967295 ∧ f.body.length ≤ 1024
instance (f : Fr) : Decidable (FrOk f) := inferInstanceAs (Decidable (_ ∧ _))

def heads (f : Fr) : List Int := [165, f.stream] ++ big4 f.seq ++ [(f.body.length : Int) / 256, (f.body.length : Int) % 256] ++ f.body
/-- The encoding of a frame. -/
def pck (f : Fr) : List Int := heads f ++ big4 (crc (heads f))

theorem heads_len (f : Fr) : (heads f).length = 8 + f.body.length := by simp [heads, big4]; omega
theorem pck_len (f : Fr) : (pck f).length = 12 + f.body.length := by simp [pck, heads_len, big4]; omega
theorem heads_byte {f : Fr} (h : FrOk f) (hb : ∀ x ∈ f.body, 0 ≤ x ∧ x ≤ 255) : ∀ x ∈ heads f, 0 ≤ x ∧ x ≤ 255 := by
  obtain ⟨h1, h2, h3, h4, h5⟩ := h
  intro x hx
  simp only [heads, List.mem_append, List.mem_cons, List.not_mem_nil, or_false] at hx
  rcases hx with (((rfl | rfl) | hx) | (rfl | rfl)) | hx
  · omega
  · omega
  · exact big4_byte h3 h4 x hx
  · omega
  · omega
  · exact hb x hx
theorem pck_byte {f : Fr} (h : FrOk f) (hb : ∀ x ∈ f.body, 0 ≤ x ∧ x ≤ 255) : ∀ x ∈ pck f, 0 ≤ x ∧ x ≤ 255 := by
  intro x hx
  rcases List.mem_append.1 hx with hx | hx
  · exact heads_byte h hb x hx
  · exact big4_byte (crc_range _).1 (crc_range _).2 x hx

theorem szN_heads {f : Fr} (ys : List Int) (h : f.body.length ≤ 1024) : szN (heads f ++ ys) = f.body.length := by
  simp [szN, heads, big4]; omega

/-- Reading an encoding, with bytes of any kind behind it, gives the frame back. -/
theorem unp_pck {f : Fr} (h : FrOk f) (ys : List Int) : unp (pck f ++ ys) = (f, 12 + (f.body.length : Int), 0) := by
  obtain ⟨h1, h2, h3, h4, h5⟩ := h
  have hs : szN (pck f ++ ys) = f.body.length := by unfold pck; rw [List.append_assoc]; exact szN_heads _ h5
  have hl : (pck f ++ ys).length = 12 + f.body.length + ys.length := by rw [List.length_append, pck_len]
  have ht : (pck f ++ ys).take (8 + f.body.length) = heads f := by
    unfold pck; rw [List.append_assoc]; exact List.take_left' (heads_len f)
  have hd : (pck f ++ ys).drop (8 + f.body.length) = big4 (crc (heads f)) ++ ys := by
    unfold pck; rw [List.append_assoc]; exact List.drop_left' (heads_len f)
  have h0 : (pck f ++ ys).getD 0 0 = 165 := by simp [pck, heads, big4]
  have hst : (pck f ++ ys).getD 1 0 = f.stream := by simp [pck, heads, big4]
  have hq : bigN (((pck f ++ ys).drop 2).take 4) = f.seq := by
    have e : ((pck f ++ ys).drop 2).take 4 = big4 f.seq := by simp [pck, heads, big4]
    rw [e, big4_bigN h3 h4]
  rw [unp_ok h0 (by rw [hs]; exact h5) (by rw [hs, hl]; omega) ?_, hs, hst, hq, ht]
  · have : (heads f).drop 8 = f.body := by simp [heads, big4]
    rw [this]
  · rw [hs, ht, hd]
    have e : (big4 (crc (heads f)) ++ ys).take 4 = big4 (crc (heads f)) := by simp [big4]
    rw [e, big4_bigN (crc_range _).1 (crc_range _).2]

end Go.Proofs.Ytekhmfliaojabaa
