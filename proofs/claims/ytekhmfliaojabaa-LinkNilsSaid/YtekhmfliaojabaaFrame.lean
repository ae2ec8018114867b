/- Plain: a frame as data, and what reading one returns ('unp'). -/
import Derived.Test.YtekhmfliaojabaaBase
import Derived.Test.YtekhmfliaojabaaCrc
import Derived.Test.YtekhmfliaojabaaBig
namespace Go.Proofs.Ytekhmfliaojabaa
open Go.RowKit

/-- A frame. -/
structure Fr where
  stream : Int
  seq : Int
  body : List Int
def fr0 : Fr := ⟨0, 0, []⟩

def szN (xs : List Int) : Nat := (xs.getD 6 0 * 256 + xs.getD 7 0).toNat
/-- What Unpack returns: the frame, the number of bytes, the error. -/
def unp (xs : List Int) : Fr × Int × Int :=
  if xs.length = 0 then (fr0, 0, 21)
  else if xs.getD 0 0 ≠ 165 then (fr0, 0, 22)
  else if xs.length < 8 then (fr0, 0, 21)
  else if 1024 < szN xs then (fr0, 0, 23)
  else if xs.length < 12 + szN xs then (fr0, 0, 21)
  else if bigN ((xs.drop (8 + szN xs)).take 4) ≠ crc (xs.take (8 + szN xs)) then (fr0, 0, 24)
  else (⟨xs.getD 1 0, bigN ((xs.drop 2).take 4), (xs.take (8 + szN xs)).drop 8⟩, 12 + (szN xs : Int), 0)

section
variable {xs : List Int}
theorem unp_none (h : xs.length = 0) : unp xs = (fr0, 0, 21) := by simp [unp, h]
theorem unp_mark (h : xs.length ≠ 0) (h1 : xs.getD 0 0 ≠ 165) : unp xs = (fr0, 0, 22) := by unfold unp; rw [if_neg h, if_pos h1]
theorem unp_short (h : xs.length ≠ 0) (h1 : xs.getD 0 0 = 165) (h2 : xs.length < 8) : unp xs = (fr0, 0, 21) := by
  unfold unp; rw [if_neg h, if_neg (by omega), if_pos h2]
theorem unp_long (h1 : xs.getD 0 0 = 165) (h2 : 8 ≤ xs.length) (h3 : 1024 < szN xs) : unp xs = (fr0, 0, 23) := by
  unfold unp; rw [if_neg (by omega), if_neg (by omega), if_neg (by omega), if_pos h3]
theorem unp_cut (h1 : xs.getD 0 0 = 165) (h2 : 8 ≤ xs.length) (h3 : szN xs ≤ 1024) (h4 : xs.length < 12 + szN xs) : unp xs = (fr0, 0, 21) := by
  unfold unp; rw [if_neg (by omega), if_neg (by omega), if_neg (by omega), if_neg (by omega), if_pos h4]
theorem unp_sum (h1 : xs.getD 0 0 = 165) (h3 : szN xs ≤ 1024) (h4 : 12 + szN xs ≤ xs.length) (h5 : bigN ((xs.drop (8 + szN xs)).take 4) ≠ crc (xs.take (8 + szN xs))) : unp xs = (fr0, 0, 24) := by
  unfold unp; rw [if_neg (by omega), if_neg (by omega), if_neg (by omega), if_neg (by omega), if_neg (by omega), if_pos h5]
theorem unp_ok (h1 : xs.getD 0 0 = 165) (h3 : szN xs ≤ 1024) (h4 : 12 + szN xs ≤ xs.length) (h5 : bigN ((xs.drop (8 + szN xs)).take 4) = crc (xs.take (8 + szN xs))) :
    unp xs = (⟨xs.getD 1 0, bigN ((xs.drop 2).take 4), (xs.take (8 + szN xs)).drop 8⟩, 12 + (szN xs : Int), 0) := by
  unfold unp; rw [if_neg (by omega), if_neg (by omega), if_neg (by omega), if_neg (by omega), if_neg (by omega), if_neg (by omega)]
end

/-- What Unpack leaves: the frame as a value, its bytes in memory of the call's own. -/
def RetF (w : World) (r : Fr × Int × Int) (e : Ending) (w' : World) : Prop :=
  ∃ A n c, e = .returned (.tuple #[.agg #[.int .i64 r.1.stream, .int .i64 r.1.seq, .slice A n c], .int .i64 r.2.1, .int .i64 r.2.2]) ∧ OwnS .u8 5 w.heap.size w' A n c r.1.body ∧ Ext w w'
theorem RetF.bad {w w' : World} {r : Fr × Int × Int} {er : Int} {e : Ending} (h : r = (fr0, 0, er)) (he : e = .returned (.tuple #[.agg #[.int .i64 0, .int .i64 0, .slice none 0 0], .int .i64 0, .int .i64 er])) (hx : Ext w w') : RetF w r e w' := by
  subst h
  exact ⟨none, 0, 0, he, ⟨World.ownsRow_nil _ _ _ _, rfl, by simp [fr0]⟩, hx⟩

/-- A value that is a frame. -/
def FrV (w : World) (v : Value) (f : Fr) : Prop :=
  ∃ A n c, v = .agg #[.int .i64 f.stream, .int .i64 f.seq, .slice A n c] ∧ Ints .u8 w A n f.body ∧ n ≤ c ∧ c ≤ 9223372036854775807 ∧ (-9223372036854775808 ≤ f.stream ∧ f.stream ≤ 9223372036854775807) ∧ (-9223372036854775808 ≤ f.seq ∧ f.seq ≤ 9223372036854775807)

theorem or_size {x y : Int} (hx : 0 ≤ x ∧ x ≤ 255) (hy : 0 ≤ y ∧ y ≤ 255) : bits .or .i64 (x * 256) y = x * 256 + y := by
  obtain ⟨a, rfl⟩ := Int.eq_ofNat_of_zero_le hx.1
  obtain ⟨b, rfl⟩ := Int.eq_ofNat_of_zero_le hy.1
  have e0 : ((a : Int) * 256) = ((a * 256 : Nat) : Int) := by simp
  rw [e0]
  show IntKind.i64.wrap ((BitVec.ofInt 64 ((a * 256 : Nat) : Int) ||| BitVec.ofInt 64 (b : Int)).toNat : Int) = _
  have q : ∀ k : Nat, k < 65536 → (BitVec.ofInt 64 (k : Int)).toNat = k := fun k hk => by
    rw [BitVec.ofInt_natCast, BitVec.toNat_ofNat]; exact Nat.mod_eq_of_lt (by omega)
  rw [BitVec.toNat_or, q _ (by omega), q _ (by omega), nat_join 8 (a * 256) b (by omega) (by omega), IntWalk.i64_in _ (by omega)]
  omega
theorem getD_of {xs : List Int} {j : Nat} {x : Int} (h : xs[j]? = some x) : xs.getD j 0 = x := by simp [List.getD, h]
end Go.Proofs.Ytekhmfliaojabaa
