/- Lemmas of the proof that follows (Orders, part 2): walks of functions by contract, and plain lemmas. Conditions: none. -/
import Derived.Test.YtekhmfliaojabaaOrdersA
namespace Go.Proofs.Ytekhmfliaojabaa
open Go.RowKit

/-- The values 'vs' are slices of bytes that read as 'xss'. -/
def LV (w : World) (vs : List Value) (xss : List (List Int)) : Prop := vs.length = xss.length ∧ ∀ (j : Nat) v xs, vs[j]? = some v → xss[j]? = some xs → SlV .u8 w v xs
section
variable {w w' : World} {vs : List Value} {xss : List (List Int)}
theorem LV.ext (h : LV w vs xss) (he : Ext w w') : LV w' vs xss := ⟨h.1, fun j v xs a b => (h.2 j v xs a b).ext he⟩
theorem LV.one (h : LV w vs xss) : ∀ v ∈ vs, v.oneCell' = true := by
  intro v hv
  obtain ⟨j, hj, rfl⟩ := List.getElem_of_mem hv
  obtain ⟨A, n, c, h1, _⟩ := h.2 j _ _ (List.getElem?_eq_getElem hj) (List.getElem?_eq_getElem (by rw [← h.1]; exact hj))
  rw [h1]; rfl
theorem LV.dele (h : LV w vs xss) (i : Nat) : LV w (dele vs i) (dele xss i) := by
  refine ⟨by have := h.1; simp [Proofs.Ytekhmfliaojabaa.dele, this], fun j v xs a b => ?_⟩
  rw [get_dele] at a b
  rw [h.1] at a
  split at a
  · rename_i hc; rw [if_pos hc] at b; exact h.2 _ _ _ a b
  · rename_i hc
    rw [if_neg hc] at b
    split at a
    · rename_i hc2; rw [if_pos hc2] at b; exact h.2 _ _ _ a b
    · rename_i hc2; rw [if_neg hc2] at b; exact h.2 _ _ _ a b
theorem LV.inse {v : Value} {xs : List Int} {i : Nat} (h : LV w vs xss) (hi : i ≤ xss.length) (hv : SlV .u8 w v xs) : LV w (inse vs i v) (inse xss i xs) := by
  have hi' : i ≤ vs.length := by rw [h.1]; exact hi
  refine ⟨by rw [inse_len hi', inse_len hi, h.1], fun j u ys a b => ?_⟩
  rw [get_inse hi'] at a
  rw [get_inse hi] at b
  split at a
  · rename_i hc; rw [if_pos hc] at b; exact h.2 _ _ _ a b
  · rename_i hc
    rw [if_neg hc] at b
    split at a
    · rename_i hc2
      rw [if_pos hc2] at b
      injection a with a; injection b with b
      subst a b
      exact hv
    · rename_i hc2; rw [if_neg hc2] at b; exact h.2 _ _ _ a b
theorem Lists.len {k : IntKind} {A : Option Addr} {n : Nat} (h : Lists k w A n xss) : xss.length = n := h.1
end

theorem own_block {w : World} {base : Nat} {e : TypeId} {size n c : Nat} {A : Option Addr} {vs : List Value} (h : w.ownsRow base e size (.slice A n c) n vs) (hn : 0 < n) : ∃ g, A = some ⟨g, 0, none⟩ ∧ base ≤ g ∧ g < w.heap.size := by
  rcases h.2 with ⟨hv, h0⟩ | ⟨g, cap, cur, hv, hb, hg, _⟩
  · omega
  · injection hv with hA
    exact ⟨g, hA, hb, (Array.getElem?_eq_some_iff.1 hg).1⟩
end Go.Proofs.Ytekhmfliaojabaa
namespace Go.Proofs.Ytekhmfliaojabaa
open Go.RowKit

/-- A value that is a slice of bytes with a row of its own, which reads as 'xs'. -/
def BodyV (base : Nat) (w : World) (v : Value) (xs : List Int) : Prop := ∃ A n c, v = .slice A n c ∧ OwnS .u8 5 base w A n c xs
section
variable {base : Nat} {w w' : World} {v : Value} {xs : List Int} {vs : List Value} {xss : List (List Int)}
theorem BodyV.ext (h : BodyV base w v xs) (he : Ext w w') : BodyV base w' v xs := by obtain ⟨A, n, c, h1, h2⟩ := h; exact ⟨A, n, c, h1, h2.ext he⟩
theorem BodyV.mono {base' : Nat} (h : BodyV base w v xs) (hb : base' ≤ base) : BodyV base' w v xs := by obtain ⟨A, n, c, h1, h2⟩ := h; exact ⟨A, n, c, h1, h2.mono hb⟩
theorem BodyV.kept {te : TypeId} {base' size n : Nat} {v' : Value} {us : List Value} (h : BodyV base w v xs) (h' : w.ownsRow base' te size v' n us) (hne : 5 ≠ te) (hg : w.grownBy w' v'.ownBlock) : BodyV base w' v xs := by
  obtain ⟨A, n, c, h1, h2⟩ := h; exact ⟨A, n, c, h1, h2.kept h' hne hg⟩
theorem BodyV.keeps {L : List Nat} (h : BodyV base w v xs) (hk : Keeps L w w') (hn : ∀ g ∈ L, NoRow 5 w g) : BodyV base w' v xs := by
  obtain ⟨A, n, c, h1, h2⟩ := h; exact ⟨A, n, c, h1, h2.keeps hk hn⟩
theorem BodyV.nil (base : Nat) (w : World) : BodyV base w (.slice none 0 0) [] := ⟨none, 0, 0, rfl, ⟨World.ownsRow_nil _ _ _ _, rfl, by simp⟩⟩
end

/-- The integers of a fault are integers of 64 bits. -/
def FltIn (f : Flt) : Prop := (-9223372036854775808 ≤ f.kind ∧ f.kind ≤ 9223372036854775807) ∧ (-9223372036854775808 ≤ f.place ∧ f.place ≤ 9223372036854775807) ∧ (-9223372036854775808 ≤ f.num ∧ f.num ≤ 9223372036854775807)
def FltC (cs : List Value) (f : Flt) : Prop := cs = [.int .i64 f.kind, .int .i64 f.place, .int .i64 f.num]
/-- A slice of faults reads as 'fs'. -/
def Flts (w : World) (A : Option Addr) (n : Nat) (fs : List Flt) : Prop := fs.length = n ∧ (∀ f ∈ fs, FltIn f) ∧ ∃ vs, CsR FltC vs fs ∧ At w A vs
section
variable {w w' : World} {A : Option Addr} {n : Nat} {fs : List Flt}
theorem Flts.ext (h : Flts w A n fs) (he : Ext w w') : Flts w' A n fs := by obtain ⟨h1, h2, vs, h3, h4⟩ := h; exact ⟨h1, h2, vs, h3, h4.ext he⟩
theorem Flts.nil (w : World) (A : Option Addr) : Flts w A 0 [] := ⟨rfl, by simp, [], CsR.nil, At.nil⟩
theorem Flts.get (h : Flts w A n fs) {j : Nat} (hj : j < n) : ∃ b off f, A = some ⟨b, off, none⟩ ∧ fs[j]? = some f ∧ FltIn f ∧ w.cell? ⟨b, off + j * 3, none⟩ = some (.int .i64 f.kind) ∧ w.cell? ⟨b, off + j * 3 + 1, none⟩ = some (.int .i64 f.place) ∧ w.cell? ⟨b, off + j * 3 + 2, none⟩ = some (.int .i64 f.num) := by
  obtain ⟨h1, h2, vs, h3, h4⟩ := h
  have hf : fs[j]? = some fs[j] := List.getElem?_eq_getElem (by omega)
  obtain ⟨cs, rfl, h5⟩ := h3.get (k := 3) (fun cs f h => by rw [h]; rfl) hf
  obtain ⟨b, off, hA, hc⟩ := h4 (by intro e; subst e; have := h5 0 _ rfl; simp at this)
  refine ⟨b, off, _, hA, hf, h2 _ (List.getElem_mem (by omega)), hc _ _ (h5 0 _ rfl), ?_, ?_⟩
  · rw [Nat.add_assoc]; exact hc _ _ (h5 1 _ rfl)
  · rw [Nat.add_assoc]; exact hc _ _ (h5 2 _ rfl)
end
end Go.Proofs.Ytekhmfliaojabaa
namespace Go.Proofs.Ytekhmfliaojabaa

def toI (v : BitVec 32) : Int := v.toNat
def byteV (x : Int) : BitVec 32 := BitVec.ofNat 32 x.toNat
/-- One round of the program. -/
def rnd (v : BitVec 32) : BitVec 32 := if v &&& 1#32 = 1#32 then (v >>> 1) ^^^ 0xedb88320#32 else v >>> 1
def rnds : Nat → BitVec 32 → BitVec 32
  | 0, v => v
  | n + 1, v => rnds n (rnd v)
def crcByte (v : BitVec 32) (x : Int) : BitVec 32 := rnds 8 (v ^^^ byteV x)
def crcL (v : BitVec 32) (xs : List Int) : BitVec 32 := xs.foldl crcByte v
/-- The checksum. -/
def crc (xs : List Int) : Int := toI (~~~ crcL 0xffffffff#32 xs)
end Go.Proofs.Ytekhmfliaojabaa
namespace Go.Proofs.Ytekhmfliaojabaa
open Go.RowKit

/-- The number that bytes denote, the most significant one first. -/
def bigN (xs : List Int) : Int := xs.foldl (fun n x => n * 256 + x) 0
end Go.Proofs.Ytekhmfliaojabaa
namespace Go.Proofs.Ytekhmfliaojabaa
open Go.RowKit

/-- A frame. -/
structure Fr where
  stream : Int
  seq : Int
  body : List Int
def fr0 : Fr := ⟨0, 0, []⟩

def szN (xs : List Int) : Nat := (xs.getD 6 0 * 256 + xs.getD 7 0).toNat
/-- What Unpack returns: the frame, the number of bytes, the error. -/
def unp (xs : List Int) : Fr × Int × Int :=
  if xs.length = 0 then (fr0, 0, 21)
  else if xs.getD 0 0 ≠ 165 then (fr0, 0, 22)
  else if xs.length < 8 then (fr0, 0, 21)
  else if 1024 < szN xs then (fr0, 0, 23)
  else if xs.length < 12 + szN xs then (fr0, 0, 21)
  else if bigN ((xs.drop (8 + szN xs)).take 4) ≠ crc (xs.take (8 + szN xs)) then (fr0, 0, 24)
  else (⟨xs.getD 1 0, bigN ((xs.drop 2).take 4), (xs.take (8 + szN xs)).drop 8⟩, 12 + (szN xs : Int), 0)

section
variable {xs : List Int}
theorem unp_none (h : xs.length = 0) : unp xs = (fr0, 0, 21) := by simp [unp, h]
theorem unp_mark (h : xs.length ≠ 0) (h1 : xs.getD 0 0 ≠ 165) : unp xs = (fr0, 0, 22) := by unfold unp; rw [if_neg h, if_pos h1]
theorem unp_short (h : xs.length ≠ 0) (h1 : xs.getD 0 0 = 165) (h2 : xs.length < 8) : unp xs = (fr0, 0, 21) := by
  unfold unp; rw [if_neg h, if_neg (by omega), if_pos h2]
theorem unp_long (h1 : xs.getD 0 0 = 165) (h2 : 8 ≤ xs.length) (h3 : 1024 < szN xs) : unp xs = (fr0, 0, 23) := by
  unfold unp; rw [if_neg (by omega), if_neg (by omega), if_neg (by omega), if_pos h3]
theorem unp_cut (h1 : xs.getD 0 0 = 165) (h2 : 8 ≤ xs.length) (h3 : szN xs ≤ 1024) (h4 : xs.length < 12 + szN xs) : unp xs = (fr0, 0, 21) := by
  unfold unp; rw [if_neg (by omega), if_neg (by omega), if_neg (by omega), if_neg (by omega), if_pos h4]
theorem unp_sum (h1 : xs.getD 0 0 = 165) (h3 : szN xs ≤ 1024) (h4 : 12 + szN xs ≤ xs.length) (h5 : bigN ((xs.drop (8 + szN xs)).take 4) ≠ crc (xs.take (8 + szN xs))) : unp xs = (fr0, 0, 24) := by
  unfold unp; rw [if_neg (by omega), if_neg (by omega), if_neg (by omega), if_neg (by omega), if_neg (by omega), if_pos h5]
theorem unp_ok (h1 : xs.getD 0 0 = 165) (h3 : szN xs ≤ 1024) (h4 : 12 + szN xs ≤ xs.length) (h5 : bigN ((xs.drop (8 + szN xs)).take 4) = crc (xs.take (8 + szN xs))) :
    unp xs = (⟨xs.getD 1 0, bigN ((xs.drop 2).take 4), (xs.take (8 + szN xs)).drop 8⟩, 12 + (szN xs : Int), 0) := by
  unfold unp; rw [if_neg (by omega), if_neg (by omega), if_neg (by omega), if_neg (by omega), if_neg (by omega), if_neg (by omega)]
end

end Go.Proofs.Ytekhmfliaojabaa
namespace Go.Proofs.Ytekhmfliaojabaa
open Go.RowKit

def FrOk (f : Fr) : Prop := 0 ≤ f.stream ∧ f.stream ≤ 255 ∧ 0 ≤ f.seq ∧ f.seq ≤ 4294967295 ∧ f.body.length ≤ 1024
instance (f : Fr) : Decidable (FrOk f) := inferInstanceAs (Decidable (_ ∧ _))

end Go.Proofs.Ytekhmfliaojabaa
namespace Go.Proofs.Ytekhmfliaojabaa
open Go.RowKit

/-- What a reading without an error says of the bytes. -/
theorem unp_good {xs : List Int} (h : (unp xs).2.2 = 0) : szN xs ≤ 1024 ∧ 12 + szN xs ≤ xs.length ∧ bigN ((xs.drop (8 + szN xs)).take 4) = crc (xs.take (8 + szN xs)) ∧ (unp xs).1.body = (xs.take (8 + szN xs)).drop 8 := by
  by_cases h0 : xs.length = 0
  · rw [unp_none h0] at h; simp at h
  by_cases h1 : xs.getD 0 0 = 165
  · by_cases h2 : xs.length < 8
    · rw [unp_short h0 h1 h2] at h; simp at h
    · by_cases h3 : 1024 < szN xs
      · rw [unp_long h1 (by omega) h3] at h; simp at h
      · by_cases h4 : xs.length < 12 + szN xs
        · rw [unp_cut h1 (by omega) (by omega) h4] at h; simp at h
        · by_cases h5 : bigN ((xs.drop (8 + szN xs)).take 4) = crc (xs.take (8 + szN xs))
          · rw [unp_ok h1 (by omega) (by omega) h5]
            exact ⟨by omega, by omega, h5, rfl⟩
          · rw [unp_sum h1 (by omega) (by omega) h5] at h; simp at h
  · rw [unp_mark h0 h1] at h; simp at h

end Go.Proofs.Ytekhmfliaojabaa
namespace Go.Proofs.Ytekhmfliaojabaa
open Go.RowKit

/-- What goes before what is found behind it. -/
def preS (fs : List Fr) (s : Nat) (r : List Fr × Nat × Nat) : List Fr × Nat × Nat := (fs ++ r.1, s + r.2.1, r.2.2)
theorem preS_preS (fs gs : List Fr) (s t : Nat) (r : List Fr × Nat × Nat) : preS fs s (preS gs t r) = preS (fs ++ gs) (s + t) r := by
  simp [preS, Nat.add_assoc]
def scn : Nat → List Int → List Fr × Nat × Nat
  | 0, xs => ([], 0, xs.length)
  | f + 1, xs => if (unp xs).2.2 = 21 then ([], 0, xs.length) else if (unp xs).2.2 = 0 then preS [(unp xs).1] 0 (scn f (xs.drop (12 + szN xs))) else preS [] 1 (scn f (xs.drop 1))

/-- What Scan finds: the frames, how many bytes were skipped, how many are left. -/
def scan (xs : List Int) : List Fr × Nat × Nat := scn xs.length xs

theorem unp_nil : unp [] = (fr0, 0, 21) := unp_none rfl

theorem scn_more : ∀ (f : Nat) (xs : List Int), xs.length ≤ f → scn f xs = scn xs.length xs := by
  intro f
  induction f using Nat.strongRecOn with
  | _ f ih =>
    intro xs hl
    rcases Nat.eq_or_lt_of_le hl with h | h
    · rw [h]
    · cases f with
      | zero => omega
      | succ f =>
        cases hx : xs.length with
        | zero =>
          obtain rfl : xs = [] := List.eq_nil_of_length_eq_zero hx
          simp [scn, unp_nil]
        | succ m =>
          simp only [scn]
          have h1 : scn f (xs.drop 1) = scn m (xs.drop 1) := by
            rw [ih f (by omega) (xs.drop 1) (by simp; omega)]
            rw [show (xs.drop 1).length = m by simp; omega]
          by_cases he : (unp xs).2.2 = 0
          · have hg := unp_good he
            have h2 : scn f (xs.drop (12 + szN xs)) = scn m (xs.drop (12 + szN xs)) := by
              rw [ih f (by omega) _ (by simp; omega), ← ih m (by omega) _ (by simp; omega)]
            rw [h2]; simp [he]
          · rw [h1]; simp only [he, if_false]

theorem scan_short {xs : List Int} (h : (unp xs).2.2 = 21) : scan xs = ([], 0, xs.length) := by
  unfold scan
  cases hx : xs.length with
  | zero => simp [scn, hx]
  | succ m => simp [scn, h, hx]
theorem scan_ok {xs : List Int} (h : (unp xs).2.2 = 0) : scan xs = preS [(unp xs).1] 0 (scan (xs.drop (12 + szN xs))) := by
  have hg := unp_good h
  unfold scan
  cases hx : xs.length with
  | zero => omega
  | succ m =>
    simp only [scn, h]
    rw [scn_more m _ (by simp; omega)]
    simp
/-- Where a scan stands: at place k, the frames fs were found and s bytes were skipped. -/
def ScanAt (xs : List Int) (k : Nat) (fs : List Fr) (s : Nat) : Prop := k ≤ xs.length ∧ scan xs = preS fs s (scan (xs.drop k))
theorem ScanAt.start (xs : List Int) : ScanAt xs 0 [] 0 := ⟨by omega, by simp [preS]⟩
theorem ScanAt.done {xs : List Int} {k s : Nat} {fs : List Fr} (h : ScanAt xs k fs s) (he : (unp (xs.drop k)).2.2 = 21) : scan xs = (fs, s, xs.length - k) := by
  rw [h.2, scan_short he]; simp [preS]
theorem ScanAt.found {xs : List Int} {k s : Nat} {fs : List Fr} (h : ScanAt xs k fs s) (he : (unp (xs.drop k)).2.2 = 0) : ScanAt xs (k + (12 + szN (xs.drop k))) (fs ++ [(unp (xs.drop k)).1]) s := by
  have hg := unp_good he
  refine ⟨by have := h.1; simp at hg; omega, ?_⟩
  rw [h.2, scan_ok he, preS_preS, List.drop_drop]; simp
/-- Three cells that hold a frame. -/
def FrC (w : World) (cs : List Value) (f : Fr) : Prop := ∃ A n c, cs = [.int .i64 f.stream, .int .i64 f.seq, .slice A n c] ∧ Ints .u8 w A n f.body ∧ n ≤ c ∧ c ≤ 9223372036854775807
/-- Three cells that hold a frame whose bytes lie in a row of their own. -/
def FrO (base : Nat) (w : World) (cs : List Value) (f : Fr) : Prop := ∃ A n c, cs = [.int .i64 f.stream, .int .i64 f.seq, .slice A n c] ∧ OwnS .u8 5 base w A n c f.body
section
variable {w w' : World} {base : Nat} {cs : List Value} {f : Fr}
theorem FrC.ext (h : FrC w cs f) (he : Ext w w') : FrC w' cs f := by
  obtain ⟨A, n, c, h1, h2, h3⟩ := h
  exact ⟨A, n, c, h1, h2.ext he, h3⟩
theorem FrC.len (h : FrC w cs f) : cs.length = 3 := by
  obtain ⟨A, n, c, rfl, _⟩ := h; rfl
theorem FrC.one (h : FrC w cs f) : ∀ u ∈ cs, u.oneCell' = true := by
  obtain ⟨A, n, c, rfl, _⟩ := h
  simp [Value.oneCell']
theorem FrO.ext (h : FrO base w cs f) (he : Ext w w') : FrO base w' cs f := by
  obtain ⟨A, n, c, h1, h2⟩ := h
  exact ⟨A, n, c, h1, h2.ext he⟩
theorem FrO.kept {base' size' n' : Nat} {e' : TypeId} {v' : Value} {vs' : List Value} (h : FrO base w cs f) (h' : w.ownsRow base' e' size' v' n' vs') (hne : 5 ≠ e') (hg : w.grownBy w' v'.ownBlock) : FrO base w' cs f := by
  obtain ⟨A, n, c, h1, h2⟩ := h
  exact ⟨A, n, c, h1, h2.kept h' hne hg⟩
end
/-- A slice of frames reads as 'fs'. -/
def Frs (w : World) (A : Option Addr) (n : Nat) (fs : List Fr) : Prop := fs.length = n ∧ ∃ vs, CsR (FrC w) vs fs ∧ At w A vs
theorem Frs.ext {w w' : World} {A : Option Addr} {n : Nat} {fs : List Fr} (h : Frs w A n fs) (he : Ext w w') : Frs w' A n fs := by
  obtain ⟨h1, vs, h2, h3⟩ := h
  exact ⟨h1, vs, h2.imp fun _ _ h => h.ext he, h3.ext he⟩
theorem Frs.get {w : World} {A : Option Addr} {n : Nat} {fs : List Fr} (h : Frs w A n fs) {j : Nat} (hj : j < n) : ∃ b off f A' n' c', A = some ⟨b, off, none⟩ ∧ fs[j]? = some f ∧ w.cell? ⟨b, off + j * 3, none⟩ = some (.int .i64 f.stream) ∧ w.cell? ⟨b, off + j * 3 + 1, none⟩ = some (.int .i64 f.seq) ∧ w.cell? ⟨b, off + j * 3 + 2, none⟩ = some (.slice A' n' c') ∧ Ints .u8 w A' n' f.body ∧ n' ≤ c' ∧ c' ≤ 9223372036854775807 := by
  obtain ⟨h1, vs, h2, h3⟩ := h
  have hf : fs[j]? = some fs[j] := List.getElem?_eq_getElem (by omega)
  obtain ⟨cs, ⟨A', n', c', rfl, h4⟩, h5⟩ := h2.get (fun _ _ h => h.len) hf
  obtain ⟨b, off, hA, hc⟩ := h3 (by intro e; subst e; have := h5 0 _ rfl; simp at this)
  refine ⟨b, off, _, A', n', c', hA, hf, hc _ _ (h5 0 _ rfl), ?_, ?_, h4⟩
  · rw [Nat.add_assoc]; exact hc _ _ (h5 1 _ rfl)
  · rw [Nat.add_assoc]; exact hc _ _ (h5 2 _ rfl)
end Go.Proofs.Ytekhmfliaojabaa
namespace Go.Proofs.Ytekhmfliaojabaa
open Go.ChangeShapes Go.WideShapes Go.ChangeAt Go.RowKit Go.Joins

/-- The cells of a value of type Frame. -/
def FrameE (W : World) (cs : List Value) (f : Int × Int × List Int) : Prop := ∃ (A2 : Option Addr) (l2 c2 : Nat), cs = [.int .i64 f.1, .int .i64 f.2.1, .slice A2 l2 c2] ∧ (-9223372036854775808 ≤ f.1 ∧ f.1 ≤ 9223372036854775807) ∧ (-9223372036854775808 ≤ f.2.1 ∧ f.2.1 ≤ 9223372036854775807) ∧ (Ints .u8 W A2 l2 f.2.2 ∧ l2 ≤ c2 ∧ c2 ≤ 9223372036854775807)
/-- The cells of a value of type Send. -/
def SendE (W : World) (cs : List Value) (f : Int × Int × List Int × List Int) : Prop := ∃ (A2 : Option Addr) (l2 c2 : Nat), ∃ (A3 : Option Addr) (l3 c3 : Nat), cs = [.int .i64 f.1, .int .i64 f.2.1, .slice A2 l2 c2, .slice A3 l3 c3] ∧ (-9223372036854775808 ≤ f.1 ∧ f.1 ≤ 9223372036854775807) ∧ (-9223372036854775808 ≤ f.2.1 ∧ f.2.1 ≤ 9223372036854775807) ∧ (Ints .u8 W A2 l2 f.2.2.1 ∧ l2 ≤ c2 ∧ c2 ≤ 9223372036854775807) ∧ (Ints .i64 W A3 l3 f.2.2.2 ∧ l3 ≤ c3 ∧ c3 ≤ 9223372036854775807)
/-- The cells of a value of type Call. -/
def CallE (W : World) (cs : List Value) (f : Int × Int × Int × List Int) : Prop := ∃ (A3 : Option Addr) (l3 c3 : Nat), cs = [.int .i64 f.1, .int .i64 f.2.1, .int .i64 f.2.2.1, .slice A3 l3 c3] ∧ (-9223372036854775808 ≤ f.1 ∧ f.1 ≤ 9223372036854775807) ∧ (-9223372036854775808 ≤ f.2.1 ∧ f.2.1 ≤ 9223372036854775807) ∧ (-9223372036854775808 ≤ f.2.2.1 ∧ f.2.2.1 ≤ 9223372036854775807) ∧ (Ints .u8 W A3 l3 f.2.2.2 ∧ l3 ≤ c3 ∧ c3 ≤ 9223372036854775807)
/-- A slice of byte strings that came in. -/
theorem lists_open {W : World} {H : Type} {enc : TypeId × Value → H} {a : Option Addr} {len cap : Nat} {d : DataW H} {p : List MemPlace} {b : Nat} {sp : Nat → Bool} {hd : Bool}
    (h : DataW.Trod enc Try.prog W b sp hd 32 (.slice a len cap) d p) : ∃ xss, Lists .u8 W a len xss ∧ len ≤ cap ∧ cap ≤ 9223372036854775807 := by
  obtain ⟨fuel, hf⟩ := h
  obtain ⟨xss, vs, h1, h2, h3, h4, h5⟩ := slice_trod (k := 1) (R := fun cs xs => ∃ v, cs = [v] ∧ SlV .u8 W v xs) Try.underlying32 (by kernel_rfl) (fun cs x h => by obtain ⟨v, rfl, _⟩ := h; rfl) (fun fuel cs z hl hz => by
    obtain ⟨A, n, c, rfl⟩ := slice_form Try.underlying22 hz
    obtain ⟨xs, hI, h1, h2⟩ := ints_trod Try.underlying22 Try.underlying5 (by kernel_rfl) hz
    exact ⟨xs, _, rfl, A, n, c, rfl, hI, h1, h2⟩) hf
  have hvl := h2.len (k := 1) (fun cs x h => by obtain ⟨v, rfl, _⟩ := h; rfl)
  refine ⟨xss, ⟨h1, vs, by omega, h3, fun j v xs hv hx => ?_⟩, h4, h5⟩
  obtain ⟨cs, ⟨v', rfl, hs⟩, hg⟩ := h2.get (k := 1) (fun cs x h => by obtain ⟨v, rfl, _⟩ := h; rfl) hx
  have := hg 0 v' rfl
  rw [Nat.mul_one, Nat.add_zero, hv] at this
  exact (Option.some.inj this) ▸ hs
end Go.Proofs.Ytekhmfliaojabaa
namespace Go.Proofs.Ytekhmfliaojabaa
open Go.RowKit

structure Snd where
  stream : Int
  window : Int
  acked : Nat
  bodies : List (List Int)
/-- Records with their numbers. -/
def keyed {α : Type} (n : Int) : List α → List (Int × α)
  | [] => []
  | x :: xs => (n, x) :: keyed (n + 1) xs
def pendK (s : Snd) : List (Int × List Int) := keyed s.acked (s.bodies.drop s.acked)
structure SndOk (s : Snd) : Prop where
  stream : 0 ≤ s.stream ∧ s.stream ≤ 255
  window : 1 ≤ s.window ∧ s.window ≤ 64
  acked : s.acked ≤ s.bodies.length
  room : (s.bodies.length : Int) - s.acked ≤ s.window
  body : ∀ b ∈ s.bodies, b.length ≤ 1024 ∧ ∀ x ∈ b, (Lit.int .u8 x).wf = true

theorem keyed_len {α : Type} (n : Int) (l : List α) : (keyed n l).length = l.length := by
  induction l generalizing n with
  | nil => rfl
  | cons x l ih => simp [keyed, ih]
theorem keyed_append {α : Type} (n : Int) (l m : List α) : keyed n (l ++ m) = keyed n l ++ keyed (n + l.length) m := by
  induction l generalizing n with
  | nil => simp [keyed]
  | cons x l ih =>
    simp only [List.cons_append, keyed, ih, List.length_cons]
    congr 3; omega
theorem keyed_get {α : Type} (n : Int) (l : List α) (j : Nat) : (keyed n l)[j]? = (l[j]?).map fun x => (n + j, x) := by
  induction l generalizing n j with
  | nil => simp [keyed]
  | cons x l ih =>
    cases j with
    | zero => simp [keyed]
    | succ j =>
      simp only [keyed, List.getElem?_cons_succ, ih]
      congr 1; funext y; congr 1; omega
theorem keyed_ge {α : Type} {n : Int} {l : List α} {p : Int × α} (h : p ∈ keyed n l) : n ≤ p.1 ∧ p.1 < n + l.length := by
  obtain ⟨j, hj⟩ := List.getElem?_of_mem h
  rw [keyed_get] at hj
  obtain ⟨x, hx, rfl⟩ := Option.map_eq_some_iff.1 hj
  have := (List.getElem?_eq_some_iff.1 hx).1
  simp only; omega
theorem keyed_strike {α : Type} (n : Int) (l : List α) : (keyed n l).filter (fun p => !(p.1 == n)) = keyed (n + 1) (l.drop 1) := by
  cases l with
  | nil => rfl
  | cons x l =>
    simp only [keyed, List.drop_succ_cons, List.drop_zero]
    rw [List.filter_cons_of_neg (by simp), List.filter_eq_self]
    intro p hp
    have := keyed_ge hp
    have : p.1 ≠ n := by omega
    simpa using this
theorem pendK_len {s : Snd} : (pendK s).length = s.bodies.length - s.acked := by unfold pendK; rw [keyed_len, List.length_drop]
theorem pendK_snoc {s : Snd} (h : s.acked ≤ s.bodies.length) (b : List Int) : pendK { s with bodies := s.bodies ++ [b] } = pendK s ++ [((s.bodies.length : Int), b)] := by
  unfold pendK
  simp only
  rw [List.drop_append_of_le_length h, keyed_append]
  simp only [keyed, List.length_drop]
  congr 3; omega
theorem pendK_strike (s : Snd) : (pendK s).filter (fun p => !(p.1 == (s.acked : Int))) = pendK { s with acked := s.acked + 1 } := by
  unfold pendK
  rw [keyed_strike, List.drop_drop]
  simp only
  congr 1

end Go.Proofs.Ytekhmfliaojabaa
namespace Go.Proofs.Ytekhmfliaojabaa
open Go.RowKit

/-- How an element reads: as itself. -/
def mR (v : Value) : Option (DataW Value × List MemPlace) := some (.held v, [])
/-- What stands at a key. -/
def look (l : List (Int × Value)) (x : Int) : Option Value := (l.find? fun p => p.1 == x).map Prod.snd
theorem look_snoc {l : List (Int × Value)} {x : Int} {v : Value} (h : look l x = none) (y : Int) : look (l ++ [(x, v)]) y = if y = x then some v else look l y := by
  unfold look at h ⊢
  rw [List.find?_append]
  by_cases e : y = x
  · subst e
    rw [Option.map_eq_none_iff] at h
    rw [h]
    simp
  · rw [if_neg e]
    have : ([(x, v)] : List (Int × Value)).find? (fun p => p.1 == y) = none := by simp; exact fun h => e h.symm
    rw [this]; simp
theorem look_strike (l : List (Int × Value)) (x y : Int) : look (l.filter fun p => !(p.1 == x)) y = if y = x then none else look l y := by
  unfold look
  induction l with
  | nil => simp
  | cons p l ih =>
    by_cases h : p.1 = x
    · have : (!(p.1 == x)) = false := by simp [h]
      rw [List.filter_cons_of_neg (by simp [h]), ih]
      by_cases e : y = x
      · rw [if_pos e, if_pos e]
      · rw [if_neg e, if_neg e, List.find?_cons_of_neg (by simp; rw [h]; exact fun q => e q.symm)]
    · rw [List.filter_cons_of_pos (by simp [h])]
      by_cases e : p.1 = y
      · rw [List.find?_cons_of_pos (by simp [e]), List.find?_cons_of_pos (by simp [e]), if_neg (by rw [← e]; exact h)]
      · rw [List.find?_cons_of_neg (by simp [e]), List.find?_cons_of_neg (by simp [e]), ih]
theorem look_none {l : List (Int × Value)} {x : Int} : look l x = none ↔ x ∉ l.map Prod.fst := by
  unfold look
  rw [Option.map_eq_none_iff, List.find?_eq_none]
  constructor
  · intro h hm
    obtain ⟨p, hp, rfl⟩ := List.mem_map.1 hm
    exact h p hp (by simp)
  · intro h p hp e
    exact h (List.mem_map.2 ⟨p, hp, by simpa using e⟩)
theorem nodup_snoc {l : List (Int × Value)} (hn : (l.map Prod.fst).Nodup) {x : Int} {v : Value} (h : look l x = none) : ((l ++ [(x, v)]).map Prod.fst).Nodup := by
  rw [List.map_append, List.nodup_append]
  refine ⟨hn, by simp, fun a ha b hb => ?_⟩
  simp at hb
  subst hb
  rintro rfl
  exact look_none.1 h ha
theorem nodup_strike {l : List (Int × Value)} (hn : (l.map Prod.fst).Nodup) (x : Int) : ((l.filter fun p => !(p.1 == x)).map Prod.fst).Nodup :=
  hn.sublist (List.filter_sublist.map _)
theorem length_strike' {l : List (Int × Value)} (hn : (l.map Prod.fst).Nodup) {x : Int} {v : Value} (h : look l x = some v) : (l.filter fun p => !(p.1 == x)).length + 1 = l.length := by
  induction l with
  | nil => simp [look] at h
  | cons p l ih =>
    simp only [List.map_cons, List.nodup_cons] at hn
    by_cases e : p.1 = x
    · rw [List.filter_cons_of_neg (by simp [e]), List.length_cons]
      have : l.filter (fun p => !(p.1 == x)) = l := by
        rw [List.filter_eq_self]
        intro q hq
        have : q.1 ≠ x := fun e' => hn.1 (by rw [e, ← e']; exact List.mem_map.2 ⟨q, hq, rfl⟩)
        simpa using this
      rw [this]
    · rw [List.filter_cons_of_pos (by simp [e]), List.length_cons, List.length_cons]
      have : look l x = some v := by
        unfold look at h ⊢
        rwa [List.find?_cons_of_neg (by simp [e])] at h
      rw [ih hn.2 this]

theorem own_tight {P : Program} {k : TypeId} {w : World} {b n m : Nat} {D : DataW Value} (h : w.ownsMap P k mR b n D) (hm : Maps.size D ≤ m) : w.ownsMap P k mR b m D := by
  obtain ⟨es, clock, hb, F, hs, rfl⟩ := h
  exact ⟨es, clock, hb, F, by simpa [Maps.size, length_sorted] using hm, rfl⟩

/-- Block 'b' is a map of just these keys with these values. -/
structure MapL (P : Program) (k : TypeId) (w : World) (b : Nat) (l : List (Int × Value)) : Prop where
  own : ∃ D, w.ownsMap P k mR b l.length D ∧ (∀ x z, D.atKey (.int .i64 x) z = ((look l x).map DataW.held).getD z) ∧ Maps.size D = l.length
  apart : (l.map Prod.fst).Nodup

section
variable {P : Program} {k : TypeId} {w w' : World} {b : Nat} {l l' : List (Int × Value)}
theorem MapL.lt (h : MapL P k w b l) : b < w.heap.size := by obtain ⟨D, h1, _⟩ := h.own; exact h1.lt
theorem MapL.kept {row : Option Nat} (h : MapL P k w b l) (hg : w.grownBy w' row) (hne : some b ≠ row) : MapL P k w' b l := by obtain ⟨D, h1, h2⟩ := h.own; exact ⟨⟨D, h1.kept hg hne, h2⟩, h.apart⟩
theorem MapL.ext (h : MapL P k w b l) (he : Ext w w') : MapL P k w' b l := h.kept (he.row none) (by simp)
theorem MapL.keeps {L : List Nat} (h : MapL P k w b l) (hk : Keeps L w w') (hn : b ∉ L) : MapL P k w' b l := by
  obtain ⟨⟨D, h1, h2⟩, h3⟩ := h
  have hl := h1.lt
  obtain ⟨es, clock, hb, r⟩ := h1
  exact ⟨⟨D, ⟨es, clock, (hk.block b hl hn).trans hb, r⟩, h2⟩, h3⟩
theorem MapL.setCell (h : MapL P k w b l) {a : Addr} (ha : b ≠ a.block) (u : Value) : MapL P k (w.setCell a u) b l := by obtain ⟨D, h1, h2⟩ := h.own; exact ⟨⟨D, h1.setCell ha u, h2⟩, h.apart⟩
theorem MapL.drew (h : MapL P k w b l) : MapL P k w.drew b l := by obtain ⟨D, h1, h2⟩ := h.own; exact ⟨⟨D, h1.drew, h2⟩, h.apart⟩
theorem MapL.made (w : World) (P : Program) (k : TypeId) : MapL P k (w.alloc (.map #[] 0)) w.heap.size [] := ⟨⟨_, World.ownsMap_made w P k mR, fun _ _ => rfl, rfl⟩, by simp⟩
theorem MapL.notRow (h : MapL P k w b l) (t : TypeId) : NoRow t w b := by
  obtain ⟨D, ⟨es, c, hb, _⟩, _⟩ := h.own
  exact NoRow.of_map hb
theorem MapL.ne_blk {g : Nat} {t : TypeId} {cs : Array Value} (h : MapL P k w b l) (hB : Blk w g t cs) : g ≠ b := by
  rintro rfl
  exact h.notRow t _ _ hB
theorem MapL.ne_row {te : TypeId} {base size m : Nat} {v : Value} {vs : List Value} (h : MapL P k w b l) (hB : w.ownsRow base te size v m vs) : some b ≠ v.ownBlock := by
  intro e
  rcases hB.2 with ⟨rfl, _⟩ | ⟨g, cap, cur, rfl, _, hg, _⟩
  · simp [Value.ownBlock] at e
  · simp [Value.ownBlock] at e
    subst e
    exact h.notRow te _ _ hg

variable (K : Maps.Keyed P k) {t e : TypeId} (ht : P.underlying t = some (.map k e))
theorem has_of {D : DataW Value} {l : List (Int × Value)} (h : ∀ x z, D.atKey (.int .i64 x) z = ((look l x).map DataW.held).getD z) (x : Int) : Maps.has D (.int .i64 x) = (look l x).isSome := by
  cases hl : look l x with
  | none => exact Maps.has_false_of_atKey fun z => by rw [h, hl]; rfl
  | some v => exact Maps.has_true_of_atKey (y := .held v) fun z => by rw [h, hl]; rfl
include K ht
/-- 'v, ok := m[x]'. -/
theorem MapL.run_look (h : MapL P k w b l) {z : Value} (hz : (zeroValue e).run P w = .ok z w) {x : Int} (hkey : keyOf P k (.int .i64 x) = some (.int .i64 x)) :
    (Instr.lookup t (.map (some b)) (.int .i64 x) true).run P w = .ok (.tuple #[(look l x).getD z, .bool (look l x).isSome]) w := by
  obtain ⟨⟨D, h1, h2, h3⟩, h4⟩ := h
  obtain ⟨v, ps, hrun, hv⟩ := h1.look_ok K ht hz (zd := .held z) (zp := []) rfl hkey
  rw [h2] at hv
  have : v = (look l x).getD z := by
    injection hv with hv
    injection hv with hv _
    cases hl : look l x with
    | none => rw [hl] at hv; injection hv
    | some u => rw [hl] at hv; injection hv
  subst this
  rw [hrun, has_of h2]
/-- 'm[x] = v', x a new key. -/
theorem MapL.run_put (h : MapL P k w b l) (hn : l.length < maxLen) {x : Int} {v : Value} (hkey : keyOf P k (.int .i64 x) = some (.int .i64 x)) (hl : look l x = none) :
    ∃ w', (Instr.mapUpdate t (.map (some b)) (.int .i64 x) v).run P w = .ok () w' ∧ MapL P k w' b (l ++ [(x, v)]) ∧ w.grownBy w' (some b) := by
  obtain ⟨⟨D, h1, h2, h3⟩, h4⟩ := h
  obtain ⟨w', hrun, h5, h6⟩ := h1.store K ht hn (d := .held v) (ps := []) hkey rfl (val := v)
  refine ⟨w', hrun, ⟨⟨_, by rw [List.length_append]; exact h5, fun y z => ?_, ?_⟩, nodup_snoc h4 hl⟩, h6.grown⟩
  · by_cases e : y = x
    · subst e
      rw [Maps.atKey_put_same h1.isMap (K.key hkey), look_snoc hl, if_pos rfl]; rfl
    · rw [Maps.atKey_put_other (by intro e'; injection e' with _ e'; exact e e'), look_snoc hl, if_neg e, h2]
  · rw [Maps.size_put (h1.tidy K), has_of h2, hl]; simp [h3]
/-- 'delete(m, x)', x a key that is there. -/
theorem MapL.run_del (h : MapL P k w b l) {x : Int} {v : Value} (hkey : keyOf P k (.int .i64 x) = some (.int .i64 x)) (hl : look l x = some v) (ty : TypeId) :
    ∃ w', (Builtin.delete_ #[t, k] ty #[.map (some b), .int .i64 x]).run P w = .ok (.tuple #[]) w' ∧ MapL P k w' b (l.filter fun p => !(p.1 == x)) ∧ w.grownBy w' (some b) := by
  obtain ⟨⟨D, h1, h2, h3⟩, h4⟩ := h
  obtain ⟨w', hrun, h5, h6⟩ := h1.drop K ht hkey ty
  refine ⟨w', hrun, ⟨⟨_, own_tight h5 (by
    have h7 := Maps.size_del (k := .int .i64 x) (h1.tidy K)
    rw [has_of h2, hl] at h7
    have h8 := length_strike' h4 hl
    simp at h7
    omega), fun y z => ?_, ?_⟩, nodup_strike h4 x⟩, h6.grown⟩
  · rw [look_strike]
    by_cases e : y = x
    · subst e
      rw [Maps.atKey_del_same, if_pos rfl]; rfl
    · rw [Maps.atKey_del_other (by intro e'; injection e' with _ e'; exact e e'), if_neg e, h2]
  · have h7 := Maps.size_del (k := .int .i64 x) (h1.tidy K)
    rw [has_of h2, hl] at h7
    have h8 := length_strike' h4 hl
    simp at h7
    omega
end

section
variable {P : Program} (w : World) {ops : Array Oper} {rest : List Oper} {o : Oper} {a : Act} {Q : Exit → Act → World → Prop} {k : TypeId} {b : Nat} {l : List (Int × Value)}
theorem keyOf_i64 {P : Program} {k : TypeId} (hk : P.underlying k = some (.int .i64)) {x : Int} (hx : -9223372036854775808 ≤ x ∧ x ≤ 9223372036854775807) : keyOf P k (.int .i64 x) = some (.int .i64 x) := by
  have : (Lit.int .i64 x).wf = true := by simp [Lit.wf, IntKind.min, IntKind.max, IntKind.bits, IntKind.signed]; omega
  simp [keyOf, mapKey, hk, this]
/-- 'm[x] = v', a new key. -/
theorem wpList_put_new (hg : o.guard = none) (m x v : Operand) (t : TypeId) (hop : o.op = Op.mapUpdate t m x v) (e : TypeId) (K : Maps.Keyed P k) (hk : P.underlying k = some (.int .i64)) (ht : P.underlying t = some (.map k e))
    (hm : a.eval m = .map (some b)) (hown : MapL P k w b l) (hn : l.length < maxLen) (X : Int) (V : Value) (hx : a.eval x = .int .i64 X) (hv : a.eval v = V) (hX : -9223372036854775808 ≤ X ∧ X ≤ 9223372036854775807) (hl : look l X = none)
    (hK : ∀ w', MapL P k w' b (l ++ [(X, V)]) → w.grownBy w' (some b) → wpList P ops Q rest (a.put o.dst undef) w') : wpList P ops Q (o :: rest) a w := by
  refine wpList_plain hg fun K' hK' => ?_
  obtain ⟨w', hrun, r1, r2⟩ := hown.run_put K ht hn (v := V) (keyOf_i64 hk hX) hl
  unfold Oper.wp
  simp [execOp, hop, hm, hx, hv, hrun, Result.andThen]
  exact hK' _ _ (hK w' r1 r2)
/-- 'delete(m, x)', the key is there. -/
theorem wpList_del_yes (hg : o.guard = none) (m x : Operand) (t : TypeId) (hop : o.op = Op.call { callee := Callee.builtin Builtin.delete, args := #[m, x], argTypes := #[t, k] }) (e : TypeId) (K : Maps.Keyed P k) (hk : P.underlying k = some (.int .i64)) (ht : P.underlying t = some (.map k e))
    (hm : a.eval m = .map (some b)) (hown : MapL P k w b l) (X : Int) (hx : a.eval x = .int .i64 X) (hX : -9223372036854775808 ≤ X ∧ X ≤ 9223372036854775807) (v : Value) (hl : look l X = some v)
    (hK : ∀ w', MapL P k w' b (l.filter fun p => !(p.1 == X)) → w.grownBy w' (some b) → wpList P ops Q rest (a.put o.dst (.tuple #[])) w') : wpList P ops Q (o :: rest) a w := by
  refine wpList_plain hg fun K' hK' => ?_
  obtain ⟨w', hrun, r1, r2⟩ := hown.run_del K ht (keyOf_i64 hk hX) hl o.type
  unfold Oper.wp
  simp [execOp, hop, resolve, invoke, builtin, hm, hx, hrun, Result.andThen]
  exact hK' _ _ (hK w' r1 r2)
end
end Go.Proofs.Ytekhmfliaojabaa
namespace Go.Proofs.Ytekhmfliaojabaa
open Go.RowKit

/-- A value that is a frame whose bytes lie in a row of their own. -/
def FrVO (base : Nat) (w : World) (v : Value) (f : Fr) : Prop := ∃ A n c, v = .agg #[.int .i64 f.stream, .int .i64 f.seq, .slice A n c] ∧ OwnS .u8 5 base w A n c f.body
theorem FrVO.ext {base : Nat} {w w' : World} {v : Value} {f : Fr} (h : FrVO base w v f) (he : Ext w w') : FrVO base w' v f := by obtain ⟨A, n, c, h1, h2⟩ := h; exact ⟨A, n, c, h1, h2.ext he⟩
theorem FrVO.keeps {L : List Nat} {base : Nat} {w w' : World} {v : Value} {f : Fr} (h : FrVO base w v f) (hk : Keeps L w w') (hn : ∀ g ∈ L, NoRow 5 w g) : FrVO base w' v f := by obtain ⟨A, n, c, h1, h2⟩ := h; exact ⟨A, n, c, h1, h2.keeps hk hn⟩
theorem FrVO.zero (base : Nat) (w : World) : FrVO base w (.agg #[.int .i64 0, .int .i64 0, .slice none 0 0]) fr0 := ⟨none, 0, 0, rfl, World.ownsRow_nil _ _ _ _, rfl, by simp [fr0]⟩

theorem Blk.away {w w' : World} {L : List Nat} {g : Nat} {t : TypeId} {cs : Array Value} (h : Blk w g t cs) (hk : Keeps L w w') (hn : ∀ k ∈ L, NoRow t w k) : Blk w' g t cs :=
  h.keeps hk fun hl => hn g hl _ _ h

/-- The program's sender: block g, map m. -/
structure SndP (base : Nat) (w : World) (g m : Nat) (s : Snd) : Prop where
  blk : Blk w g 98 #[.int .i64 s.stream, .int .i64 s.window, .int .i64 s.acked, .int .i64 s.bodies.length, .map (some m)]
  map : ∃ l, MapL Try.prog 3 w m l ∧ F2 (fun p q => p.1 = q.1 ∧ BodyV base w p.2 q.2) l (pendK s)
  lo : base ≤ g ∧ base ≤ m
  ok : SndOk s
section
variable {base : Nat} {w w' : World} {g m : Nat} {s : Snd}
theorem SndP.ext (h : SndP base w g m s) (he : Ext w w') : SndP base w' g m s := by
  obtain ⟨h1, ⟨l, h2, h3⟩, h4, h5⟩ := h
  exact ⟨h1.ext he, ⟨l, h2.ext he, h3.imp fun _ _ _ h => ⟨h.1, h.2.ext he⟩⟩, h4, h5⟩
theorem SndP.keeps {L : List Nat} (h : SndP base w g m s) (hk : Keeps L w w') (n1 : ∀ k ∈ L, NoRow 98 w k) (n2 : m ∉ L) (n3 : ∀ k ∈ L, NoRow 5 w k) : SndP base w' g m s := by
  obtain ⟨h1, ⟨l, h2, h3⟩, h4, h5⟩ := h
  exact ⟨h1.away hk n1, ⟨l, h2.keeps hk n2, h3.imp fun _ _ _ h => ⟨h.1, h.2.keeps hk n3⟩⟩, h4, h5⟩
theorem SndP.lt (h : SndP base w g m s) : g < w.heap.size ∧ m < w.heap.size := ⟨h.blk.lt, by obtain ⟨l, h2, _⟩ := h.map; exact h2.lt⟩
theorem SndP.base_le (h : SndP base w g m s) : base ≤ w.heap.size := by have := h.lt; have := h.lo; omega
/-- The blocks that a sender's methods write into hold no rows of other types. -/
theorem SndP.far (h : SndP base w g m s) (t : TypeId) (ht : 98 ≠ t) : ∀ k ∈ [g, m], NoRow t w k := by
  intro k hk
  simp at hk
  rcases hk with rfl | rfl
  · exact NoRow.of_blk h.blk ht
  · obtain ⟨l, h2, _⟩ := h.map; exact h2.notRow t
theorem SndP.new {w0 : World} (h : SndP base w g m s) (hb : w0.heap.size ≤ base) : ∀ k ∈ [g, m], w0.heap.size ≤ k := by
  intro k hk
  have := h.lo
  simp at hk
  rcases hk with rfl | rfl <;> omega
theorem SndP.len {l : List (Int × Value)} (h : SndP base w g m s) (h3 : F2 (fun p q => p.1 = q.1 ∧ BodyV base w p.2 q.2) l (pendK s)) : l.length = s.bodies.length - s.acked := by rw [h3.len, pendK_len]
end

/-- The reference's sender: block g, the row v. -/
structure SndR (base : Nat) (w : World) (g : Nat) (v : Value) (s : Snd) : Prop where
  blk : Blk w g 118 #[.int .i64 s.stream, .int .i64 s.window, .int .i64 s.acked, v]
  row : ∃ vs, w.ownsRow base 22 1 v s.bodies.length vs ∧ F2 (BodyV base w) vs s.bodies
  lo : base ≤ g
  ok : SndOk s
section
variable {base : Nat} {w w' : World} {g : Nat} {v : Value} {s : Snd}
theorem SndR.ext (h : SndR base w g v s) (he : Ext w w') : SndR base w' g v s := by
  obtain ⟨h1, ⟨l, h2, h3⟩, h4, h5⟩ := h
  exact ⟨h1.ext he, ⟨l, World.ownsRow.ext' h2 he, h3.imp fun _ _ _ h => h.ext he⟩, h4, h5⟩
theorem SndR.keeps {L : List Nat} (h : SndR base w g v s) (hk : Keeps L w w') (n1 : ∀ k ∈ L, NoRow 118 w k) (n2 : ∀ k ∈ L, NoRow 22 w k) (n3 : ∀ k ∈ L, NoRow 5 w k) : SndR base w' g v s := by
  obtain ⟨h1, ⟨l, h2, h3⟩, h4, h5⟩ := h
  refine ⟨h1.away hk n1, ⟨l, ownsRow_keeps h2 hk fun k hv hl => ?_, h3.imp fun _ _ _ h => h.keeps hk n3⟩, h4, h5⟩
  rcases h2.2 with ⟨rfl, _⟩ | ⟨g', cap, cur, rfl, _, hg, _⟩
  · simp [Value.ownBlock] at hv
  · simp [Value.ownBlock] at hv
    subst hv
    exact n2 _ hl _ _ hg
theorem SndR.lt (h : SndR base w g v s) : g < w.heap.size := h.blk.lt
theorem SndR.base_le (h : SndR base w g v s) : base ≤ w.heap.size := by have := h.lt; have := h.lo; omega
theorem SndR.far (h : SndR base w g v s) (t : TypeId) (ht : 118 ≠ t) (ht' : 22 ≠ t) : ∀ k ∈ g :: v.ownBlock.toList, NoRow t w k := by
  intro k hk
  simp only [List.mem_cons, Option.mem_toList] at hk
  rcases hk with rfl | hk
  · exact NoRow.of_blk h.blk ht
  · obtain ⟨l, h2, _⟩ := h.row; exact NoRow.of_own h2 hk ht'
theorem SndR.new {w0 : World} (h : SndR base w g v s) (hb : w0.heap.size ≤ base) : ∀ k ∈ g :: v.ownBlock.toList, w0.heap.size ≤ k := by
  intro k hk
  have := h.lo
  simp only [List.mem_cons, Option.mem_toList] at hk
  rcases hk with rfl | hk
  · omega
  · obtain ⟨l, h2, _⟩ := h.row
    rcases h2.2 with ⟨rfl, _⟩ | ⟨g', cap, cur, rfl, hb', hg, _⟩
    · simp [Value.ownBlock] at hk
    · simp [Value.ownBlock] at hk
      omega
theorem SndR.noMap {P : Program} {k : TypeId} {m : Nat} {l : List (Int × Value)} (h : SndR base w g v s) (hm : MapL P k w m l) : m ∉ g :: v.ownBlock.toList := by
  intro hk
  simp only [List.mem_cons, Option.mem_toList] at hk
  rcases hk with rfl | hk
  · exact hm.notRow _ _ _ h.blk
  · obtain ⟨l, h2, _⟩ := h.row
    exact hm.ne_row h2 hk.symm
theorem SndR.ne (h : SndR base w g v s) : some g ≠ v.ownBlock := by
  obtain ⟨l, h2, _⟩ := h.row
  intro e
  exact NoRow.of_own h2 e.symm (show 22 ≠ 118 by decide) _ _ h.blk
end
/-- What the one sender's methods do leaves the other sender. -/
theorem SndP.away {base base' : Nat} {w w' : World} {g m g' : Nat} {v : Value} {s s' : Snd} (h : SndP base w g m s) (h' : SndR base' w g' v s') (hk : Keeps (g' :: v.ownBlock.toList) w w') : SndP base w' g m s := by
  obtain ⟨l, h2, _⟩ := h.map
  exact h.keeps hk (h'.far _ (by decide) (by decide)) (h'.noMap h2) (h'.far _ (by decide) (by decide))
theorem SndR.away {base base' : Nat} {w w' : World} {g m g' : Nat} {v : Value} {s s' : Snd} (h : SndR base w g' v s) (h' : SndP base' w g m s') (hk : Keeps [g, m] w w') : SndR base w' g' v s :=
  h.keeps hk (h'.far _ (by decide)) (h'.far _ (by decide)) (h'.far _ (by decide))
end Go.Proofs.Ytekhmfliaojabaa
namespace Go.Proofs.Ytekhmfliaojabaa
open Go.RowKit

section
variable {P : Program}
theorem run_app0 (w : World) {t e : TypeId} {size bytes : Nat} {z : Value} (E : Elem P t e size bytes z) (ty : TypeId) (base g : Nat)
    (hown : w.ownsRow base e size (.slice (some ⟨g, 0, none⟩) 0 0) 0 [])
    (A : Option Addr) (m c : Nat) (news : List Value) (hl : news.length = m * size) (hat : At w A news) (h1 : ∀ u ∈ news, u.oneCell' = true)
    (hbytes : m * bytes ≤ 140737488355328) (h63 : m ≤ maxLen) (hbase : base ≤ w.heap.size) :
    ∃ v' w', (Builtin.append_ #[t, t] ty #[.slice (some ⟨g, 0, none⟩) 0 0, .slice A m c]).run P w = .ok v' w' ∧ w'.ownsRow base e size v' m news ∧ Ext w w' := by
  obtain ⟨i, hi, hz, hs, hb⟩ := E.info
  rcases Nat.eq_zero_or_pos m with rfl | hm
  · obtain rfl : news = [] := List.eq_nil_of_length_eq_zero (by simpa using hl)
    refine ⟨_, w, ?_, hown, Ext.refl w⟩
    rcases A with _ | ad <;> simp [Builtin.append_, run_underlying E.und, sizeOf, typeInfo, hi, Builtin.lenOf, Builtin.firstCells, storeCells, loadCells, loadCellsFrom]
  · have hp := E.pos
    have hne : news ≠ [] := by
      intro h
      subst h
      have h0 : m * size = 0 := by simpa using hl.symm
      rcases Nat.mul_eq_zero.1 h0 with h | h <;> omega
    obtain ⟨b, off, rfl, _⟩ := hat hne
    have hnews := hat.add ⟨b, off, none⟩ rfl
    have hmax : m ≤ 9223372036854775807 := by simp only [maxLen] at h63; omega
    obtain ⟨v', w', hr, h2, h3, _, h5⟩ := run_append_own_at (P := P) w base t ty e i z size bytes E.und hi hz hs hb E.cells E.pos _ 0 [] hown ⟨b, off, none⟩ m c news hl hnews h1 (by omega) (by simpa using hbytes) hbase
    have hr' := run_append_grow (P := P) w t ty e i z E.und hi hz ⟨g, 0, none⟩ 0 0 [] (by rw [hs]; exact hown.1) (hown.cells (g := g) rfl) ⟨b, off, none⟩ m c news (by rw [hs]; exact hl) hnews (by omega) (by omega) (by rw [hb]; exact growslice_fits (by omega) (by simpa using hbytes))
    refine ⟨v', w', hr, by simpa using h2, ?_⟩
    rw [hr'] at hr
    injection hr with e1 e2
    subst e2
    exact (Ext.refl w).drew.alloc _
/-- An operation that is always done, whose value is known. -/
theorem jop_run {ops : Array Oper} {o : Oper} {b : Act} {W W' : World} {K : Act → World → Prop} {Q' : Exit → Act → World → Prop} {v' : Value} (hg : o.guard = none) (hrun : (execOp b.eval o).run P W = .ok (.value v') W') (hK : K (b.put o.dst v') W') :
    if Region.wanted o (yielded ops b.tmps) then o.wp P b W K Q' else K (b.put o.dst undef) W := by
  simp only [Region.wanted, hg, if_true, Oper.wp, hrun]
  exact hK
/-- 'append(s, x...)' in a region that draws its order. -/
theorem jop_app {ops : Array Oper} {o : Oper} {b : Act} {W W' : World} {K : Act → World → Prop} {Q' : Exit → Act → World → Prop} {t : TypeId} {i j : Tmp} {v u v' : Value} (hg : o.guard = none)
    (ho : o.op = .call { callee := .builtin .append, args := #[.tmp i, .tmp j], argTypes := #[t, t] }) (hi : b.tmps[i]? = some v) (hj : b.tmps[j]? = some u)
    (hrun : (Builtin.append_ #[t, t] o.type #[v, u]).run P W = .ok v' W') (hK : K (b.put o.dst v') W') :
    if Region.wanted o (yielded ops b.tmps) then o.wp P b W K Q' else K (b.put o.dst undef) W := by
  refine jop_run hg ?_ hK
  have e1 : b.eval (.tmp i) = v := by simp [Act.eval, hi]
  have e2 : b.eval (.tmp j) = u := by simp [Act.eval, hj]
  unfold execOp
  simp only [ho, resolve, invoke, builtin, Sem.run_bind, Sem.run_pure, Result.andThen_ok, List.map_toArray, List.map_cons, List.map_nil, e1, e2, hrun]
end
end Go.Proofs.Ytekhmfliaojabaa
namespace Go.Proofs.Ytekhmfliaojabaa
open Go.RowKit

theorem keyed_int : Maps.Keyed Try.prog 3 := Maps.int_keyed Try.underlying3
theorem und_int : Try.prog.underlying 3 = some (.int .i64) := by kernel_rfl
/-- What is a row without elements. -/
def Row0 (base : Nat) (W : World) (v : Value) : Prop := ∃ gq, v = .slice (some ⟨gq, 0, none⟩) 0 0 ∧ W.ownsRow base 5 1 (.slice (some ⟨gq, 0, none⟩) 0 0) 0 []
theorem Row0.ext {base : Nat} {W W' : World} {v : Value} (h : Row0 base W v) (hX : Ext W W') : Row0 base W' v := by obtain ⟨gq, h1, h2⟩ := h; exact ⟨gq, h1, World.ownsRow.ext' h2 hX⟩
theorem Row0.new {base : Nat} {W : World} (hb : base ≤ W.heap.size) : Row0 base (W.alloc (.cells #[] 5)) (.slice (some ⟨W.heap.size, 0, none⟩) 0 0) := ⟨_, rfl, World.ownsRow_lit W #[] 0 hb (by unfold maxLen; omega) rfl⟩
/-- A frame behind the region that makes it. -/
def FrM (base : Nat) (W : World) (v : Value) (st q : Int) (xs : List Int) : Prop := ∃ A n c, v = .agg #[.int .i64 st, .int .i64 q, .slice A n c] ∧ OwnS .u8 5 base W A n c xs
theorem FrM.ext {base : Nat} {W W' : World} {v : Value} {st q : Int} {xs : List Int} (h : FrM base W v st q xs) (hX : Ext W W') : FrM base W' v st q xs := by obtain ⟨A, n, c, h1, h2⟩ := h; exact ⟨A, n, c, h1, h2.ext hX⟩

end Go.Proofs.Ytekhmfliaojabaa
namespace Go.Proofs.Ytekhmfliaojabaa
open Go.RowKit

theorem SndP.grow {base : Nat} {w : World} {g m : Nat} {s : Snd} {l : List (Int × Value)} {v : Value} {xs : List Int} (hB : Blk w g 98 #[.int .i64 s.stream, .int .i64 s.window, .int .i64 s.acked, .int .i64 s.bodies.length, .map (some m)])
    (hM : MapL Try.prog 3 w m (l ++ [((s.bodies.length : Int), v)])) (hF : F2 (fun p q => p.1 = q.1 ∧ BodyV base w p.2 q.2) l (pendK s)) (hO : BodyV base w v xs) (lo : base ≤ g ∧ base ≤ m) (hac : s.acked ≤ s.bodies.length) (ok : SndOk { s with bodies := s.bodies ++ [xs] }) :
    SndP base (w.setCell ⟨g, 3, none⟩ (.int .i64 ((s.bodies.length : Int) + 1))) g m { s with bodies := s.bodies ++ [xs] } := by
  have hgm : g ≠ m := hM.ne_blk hB
  have hK : Keeps [g] w (w.setCell ⟨g, 3, none⟩ (.int .i64 ((s.bodies.length : Int) + 1))) := (Keeps.refl _ _).setCell (.inl (by simp)) _
  have hN : ∀ k ∈ [g], NoRow 5 w k := by intro k hk; simp at hk; subst hk; exact NoRow.of_blk hB (by decide)
  refine ⟨?_, ⟨_, hM.setCell (by simpa using hgm.symm) _, ?_⟩, lo, ok⟩
  · have := hB.set 3 (.int .i64 ((s.bodies.length : Int) + 1))
    simpa using this
  · rw [pendK_snoc hac]
    exact (hF.snoc (a := ((s.bodies.length : Int), v)) (b := ((s.bodies.length : Int), xs)) ⟨rfl, hO⟩).imp fun p q _ h => ⟨h.1, h.2.keeps hK hN⟩

end Go.Proofs.Ytekhmfliaojabaa
namespace Go.Proofs.Ytekhmfliaojabaa
open Go.RowKit

/-- A slice of frames in a row of its own. -/
def FrL (base : Nat) (w : World) (v : Value) (fs : List Fr) : Prop := ∃ vs, w.ownsRow base 38 3 v fs.length vs ∧ CsR (FrO base w) vs fs
section
variable {base : Nat} {w w' : World} {v : Value} {fs : List Fr}
theorem FrL.nil (base : Nat) (w : World) : FrL base w (.slice none 0 0) [] := ⟨[], World.ownsRow_nil _ _ _ _, rfl⟩
theorem FrL.ext (h : FrL base w v fs) (he : Ext w w') : FrL base w' v fs := by obtain ⟨vs, h1, h2⟩ := h; exact ⟨vs, World.ownsRow.ext' h1 he, h2.imp fun _ _ h => h.ext he⟩
theorem FrL.snoc {w1 : World} {v1 : Value} {vs : List Value} {st q : Int} {A : Option Addr} {n c : Nat} {xs : List Int} (hv : w.ownsRow base 38 3 v fs.length vs) (hc : CsR (FrO base w) vs fs) (hO : OwnS .u8 5 base w A n c xs)
    (o : Obj) (hown : w1.ownsRow base 38 3 v1 (fs.length + 1) (vs ++ [.int .i64 st, .int .i64 q, .slice A n c])) (hgr : (w.alloc o).grownBy w1 v.ownBlock) : FrL base w1 v1 (fs ++ [⟨st, q, xs⟩]) := by
  have hX : Ext w (w.alloc o) := (Ext.refl w).alloc o
  have hv1 := World.ownsRow.ext' hv hX
  refine ⟨_, by rw [List.length_append]; exact hown, CsR.snoc (hc.imp fun _ _ h => FrO.kept (FrO.ext h hX) hv1 (by decide) hgr) ?_⟩
  exact FrO.kept (FrO.ext ⟨A, n, c, rfl, hO⟩ hX) hv1 (by decide) hgr
end
/-- One record is struck from the map and counted. -/
theorem SndP.shrink {base : Nat} {w : World} {g m : Nat} {s : Snd} {l : List (Int × Value)} (hB : Blk w g 98 #[.int .i64 s.stream, .int .i64 s.window, .int .i64 s.acked, .int .i64 s.bodies.length, .map (some m)])
    (hM : MapL Try.prog 3 w m (l.filter fun p => !(p.1 == (s.acked : Int)))) (hF : F2 (fun p q => p.1 = q.1 ∧ BodyV base w p.2 q.2) l (pendK s)) (lo : base ≤ g ∧ base ≤ m) (ok : SndOk { s with acked := s.acked + 1 }) :
    SndP base (w.setCell ⟨g, 2, none⟩ (.int .i64 ((s.acked : Int) + 1))) g m { s with acked := s.acked + 1 } := by
  have hgm : g ≠ m := hM.ne_blk hB
  have hK : Keeps [g] w (w.setCell ⟨g, 2, none⟩ (.int .i64 ((s.acked : Int) + 1))) := (Keeps.refl _ _).setCell (.inl (by simp)) _
  have hN : ∀ k ∈ [g], NoRow 5 w k := by intro k hk; simp at hk; subst hk; exact NoRow.of_blk hB (by decide)
  refine ⟨?_, ⟨_, hM.setCell (by simpa using hgm.symm) _, ?_⟩, lo, ok⟩
  · have := hB.set 2 (.int .i64 ((s.acked : Int) + 1))
    simpa using this
  · rw [← pendK_strike]
    exact F2.imp (F2.filter (p := fun p => !(p.1 == (s.acked : Int))) (q := fun p => !(p.1 == (s.acked : Int))) hF (fun p q h => by rw [h.1])) (fun p q _ h => And.intro h.1 (h.2.keeps hK hN))

end Go.Proofs.Ytekhmfliaojabaa
namespace Go.Proofs.Ytekhmfliaojabaa
open Go.RowKit

theorem SndR.slice {base : Nat} {w : World} {g : Nat} {v : Value} {s : Snd} (h : SndR base w g v s) : ∃ A c, v = .slice A s.bodies.length c := by obtain ⟨vs, ho, _⟩ := h.row; exact own_slice ho
end Go.Proofs.Ytekhmfliaojabaa
namespace Go.Proofs.Ytekhmfliaojabaa
open Go.RowKit

theorem SndR.grow {base : Nat} {w : World} {g : Nat} {s : Snd} {v v' : Value} {xs : List Int} (hB : Blk w g 118 #[.int .i64 s.stream, .int .i64 s.window, .int .i64 s.acked, v])
    (hR : ∃ vs, w.ownsRow base 22 1 v' (s.bodies.length + 1) vs ∧ F2 (BodyV base w) vs (s.bodies ++ [xs])) (lo : base ≤ g) (ok : SndOk { s with bodies := s.bodies ++ [xs] }) :
    SndR base (w.setCell ⟨g, 3, none⟩ v') g v' { s with bodies := s.bodies ++ [xs] } := by
  have hK : Keeps [g] w (w.setCell ⟨g, 3, none⟩ v') := (Keeps.refl _ _).setCell (.inl (by simp)) _
  have hN : ∀ t, 118 ≠ t → ∀ k ∈ [g], NoRow t w k := by intro t ht k hk; simp at hk; subst hk; exact NoRow.of_blk hB ht
  obtain ⟨vs, h1, h2⟩ := hR
  refine ⟨?_, ⟨vs, ?_, h2.imp fun _ _ _ h => h.keeps hK (hN _ (by decide))⟩, lo, ok⟩
  · have := hB.set 3 v'
    simpa using this
  · have : w.ownsRow base 22 1 v' (s.bodies ++ [xs]).length vs := by rw [List.length_append]; exact h1
    refine ownsRow_keeps this hK fun k hv hl => ?_
    rcases h1.2 with ⟨rfl, _⟩ | ⟨g', cap, cur, rfl, _, hg, _⟩
    · simp [Value.ownBlock] at hv
    · simp [Value.ownBlock] at hv
      subst hv
      exact hN _ (show 118 ≠ 22 by decide) _ hl _ _ hg
end Go.Proofs.Ytekhmfliaojabaa
namespace Go.Proofs.Ytekhmfliaojabaa
open Go.RowKit

/-- A slice of elements of k cells reads as 'xs'. -/
def Els {α : Type} (E : World → List Value → α → Prop) (w : World) (A : Option Addr) (n : Nat) (xs : List α) : Prop := xs.length = n ∧ ∃ vs, CsR (E w) vs xs ∧ At w A vs
theorem Els.get {α : Type} {E : World → List Value → α → Prop} {k : Nat} (hk : ∀ w cs x, E w cs x → cs.length = k) {w : World} {A : Option Addr} {n : Nat} {xs : List α} (h : Els E w A n xs) (hp : 0 < k) {j : Nat} (hj : j < n) :
    ∃ b off f cs, A = some ⟨b, off, none⟩ ∧ xs[j]? = some f ∧ E w cs f ∧ ∀ i u, cs[i]? = some u → w.cell? ⟨b, off + j * k + i, none⟩ = some u := by
  obtain ⟨h1, vs, h2, h3⟩ := h
  have hf : xs[j]? = some xs[j] := List.getElem?_eq_getElem (by omega)
  obtain ⟨cs, h4, h5⟩ := h2.get (hk w) hf
  have hl := hk _ _ _ h4
  obtain ⟨u, hu⟩ : ∃ u, cs[0]? = some u := ⟨cs[0], List.getElem?_eq_getElem (by omega)⟩
  obtain ⟨b, off, hA, hc⟩ := h3 (by intro e; subst e; have := h5 0 _ hu; simp at this)
  exact ⟨b, off, _, cs, hA, hf, h4, fun i u hi => by rw [Nat.add_assoc]; exact hc _ _ (h5 i u hi)⟩
theorem SendE.len (w : World) (cs : List Value) (f : Int × Int × List Int × List Int) (h : SendE w cs f) : cs.length = 4 := by obtain ⟨_, _, _, _, _, _, rfl, _⟩ := h; rfl
theorem CallE.len (w : World) (cs : List Value) (f : Int × Int × Int × List Int) (h : CallE w cs f) : cs.length = 4 := by obtain ⟨_, _, _, rfl, _⟩ := h; rfl
theorem FrameE.len (w : World) (cs : List Value) (f : Int × Int × List Int) (h : FrameE w cs f) : cs.length = 3 := by obtain ⟨_, _, _, rfl, _⟩ := h; rfl

end Go.Proofs.Ytekhmfliaojabaa
namespace Go.Proofs.Ytekhmfliaojabaa
open Go.RowKit

structure Dlv where
  seq : Int
  body : List Int
  lost : Bool
structure Rcv where
  stream : Int
  window : Int
  next : Int
  held : List Dlv

def findD (l : List Dlv) (s : Int) : Option Dlv := l.find? (fun d => d.seq == s)
/-- The error of a number. -/
def refuse (r : Rcv) (s : Int) : Int := if s < r.next then 26 else if (findD r.held s).isSome then 27 else if r.next + r.window ≤ s then 28 else 0
/-- The list without what has this number. -/
def wipe (l : List Dlv) (n : Int) : List Dlv := l.filter fun x => !(x.seq == n)
/-- What can be delivered from a number on, the number behind it, and what is left. -/
def deliv : Nat → Int → List Dlv → List Dlv × Int × List Dlv
  | 0, n, l => ([], n, l)
  | k + 1, n, l => match findD l n with
    | none => ([], n, l)
    | some d => (d :: (deliv k (n + 1) (wipe l n)).1, (deliv k (n + 1) (wipe l n)).2)
/-- A delivery is held; what can be delivered is. -/
def kept (r : Rcv) (d : Dlv) : List Dlv × Int × List Dlv := deliv (r.held.length + 1) r.next (r.held ++ [d])
def keepR (r : Rcv) (d : Dlv) : Rcv × List Dlv × Int :=
  if refuse r d.seq ≠ 0 then (r, [], refuse r d.seq) else ({ r with next := (kept r d).2.1, held := (kept r d).2.2 }, (kept r d).1, 0)
/-- A frame is taken. -/
def takeR (r : Rcv) (f : Fr) : Rcv × List Dlv × Int :=
  if ¬ FrOk f then (r, [], 20) else if f.stream ≠ r.stream then (r, [], 25) else keepR r ⟨f.seq, f.body, false⟩
/-- What holds of every receiver that was made by NewReceiver. -/
structure RcvOk (r : Rcv) : Prop where
  stream : 0 ≤ r.stream ∧ r.stream ≤ 255
  window : 1 ≤ r.window ∧ r.window ≤ 64
  next : 0 ≤ r.next ∧ r.next ≤ 4294967296
  seq : ∀ d ∈ r.held, r.next < d.seq ∧ d.seq < r.next + r.window ∧ d.seq ≤ 4294967295
  apart : (r.held.map Dlv.seq).Nodup
  body : ∀ d ∈ r.held, d.body.length ≤ 1024

section
variable {l : List Dlv} {n s : Int} {d : Dlv}
theorem findD_none : findD l s = none ↔ ∀ d ∈ l, d.seq ≠ s := by
  unfold findD; rw [List.find?_eq_none]
  constructor
  · intro h d hd e; exact h d hd (by simpa using e)
  · intro h d hd e; exact h d hd (by simpa using e)
theorem findD_mem (h : findD l s = some d) : d ∈ l ∧ d.seq = s := ⟨List.mem_of_find?_eq_some h, by simpa using List.find?_some h⟩
theorem wipe_mem {x : Dlv} : x ∈ wipe l n ↔ x ∈ l ∧ x.seq ≠ n := by simp [wipe, List.mem_filter]
theorem wipe_none (h : findD l n = none) : wipe l n = l := by
  unfold wipe; rw [List.filter_eq_self]; intro x hx; simpa using findD_none.1 h x hx
theorem wipe_len (hn : (l.map Dlv.seq).Nodup) (h : findD l n = some d) : (wipe l n).length + 1 = l.length := by
  induction l with
  | nil => simp [findD] at h
  | cons x l ih =>
    simp only [List.map_cons, List.nodup_cons] at hn
    by_cases e : x.seq = n
    · have : wipe (x :: l) n = wipe l n := by unfold wipe; rw [List.filter_cons_of_neg (by simp [e])]
      rw [this, wipe_none]
      · rfl
      · rw [findD_none]; intro y hy e'; exact hn.1 (by rw [e, ← e']; exact List.mem_map.2 ⟨y, hy, rfl⟩)
    · have : wipe (x :: l) n = x :: wipe l n := by unfold wipe; rw [List.filter_cons_of_pos (by simp [e])]
      rw [this, List.length_cons, List.length_cons]
      have : findD l n = some d := by unfold findD at h ⊢; rwa [List.find?_cons_of_neg (by simp [e])] at h
      rw [ih hn.2 this]
theorem wipe_lt (h : findD l n = some d) : (wipe l n).length < l.length := by
  have h1 := findD_mem h
  unfold wipe
  have := List.length_filter_lt_length_iff_exists (p := fun x : Dlv => !(x.seq == n)) (l := l)
  exact this.2 ⟨d, h1.1, by simp [h1.2]⟩
theorem wipe_nodup (hn : (l.map Dlv.seq).Nodup) : ((wipe l n).map Dlv.seq).Nodup := hn.sublist (List.filter_sublist.map _)
theorem deliv_none {f : Nat} (h : findD l n = none) : deliv f n l = ([], n, l) := by
  cases f with
  | zero => rfl
  | succ f => simp only [deliv, h]
theorem deliv_some {f : Nat} (h : findD l n = some d) : deliv (f + 1) n l = (d :: (deliv f (n + 1) (wipe l n)).1, (deliv f (n + 1) (wipe l n)).2) := by simp only [deliv, h]

/-- What holds behind a delivery. -/
theorem deliv_ok {f : Nat} {m : Int} (hf : l.length ≤ f) (hs : ∀ d ∈ l, n ≤ d.seq ∧ d.seq < m ∧ d.seq ≤ 4294967295) (hn : (l.map Dlv.seq).Nodup) (h0 : n ≤ 4294967296) :
    n ≤ (deliv f n l).2.1 ∧ (deliv f n l).2.1 ≤ 4294967296 ∧ (∀ d ∈ (deliv f n l).2.2, d ∈ l ∧ (deliv f n l).2.1 < d.seq) ∧ ((deliv f n l).2.2.map Dlv.seq).Nodup ∧ (∀ d ∈ (deliv f n l).1, d ∈ l) ∧ (deliv f n l).2.1 = n + (deliv f n l).1.length := by
  induction f generalizing n l with
  | zero =>
    obtain rfl : l = [] := List.eq_nil_of_length_eq_zero (by omega)
    simp [deliv]; exact h0
  | succ f ih =>
    cases h : findD l n with
    | none =>
      rw [deliv_none h]
      refine ⟨Int.le_refl _, h0, fun d hd => ⟨hd, ?_⟩, hn, by simp, by simp⟩
      have h1 := findD_none.1 h d hd
      have h2 := hs d hd
      simp only at h1 h2 ⊢
      omega
    | some d =>
      have h1 := findD_mem h
      have h2 := hs d h1.1
      rw [deliv_some h]
      have hw := wipe_lt h
      obtain ⟨i1, i2, i3, i4, i5, i6⟩ := ih (n := n + 1) (l := wipe l n) (by omega) (fun x hx => by
        obtain ⟨q1, q2⟩ := wipe_mem.1 hx
        have q3 := hs x q1
        omega) (wipe_nodup hn) (by omega)
      refine ⟨by simp only; omega, i2, fun x hx => ⟨(wipe_mem.1 (i3 x hx).1).1, (i3 x hx).2⟩, i4, fun x hx => ?_, ?_⟩
      · rcases List.mem_cons.1 hx with rfl | hx
        · exact h1.1
        · exact (wipe_mem.1 (i5 x hx)).1
      · simp only [List.length_cons]; rw [i6]; omega
end

theorem refuse_ok {r : Rcv} {s : Int} (h : refuse r s = 0) : r.next ≤ s ∧ findD r.held s = none ∧ s < r.next + r.window := by
  unfold refuse at h
  split at h
  · omega
  · split at h
    · omega
    · split at h
      · omega
      · rename_i h1 h2 h3
        exact ⟨by omega, by simpa using h2, by omega⟩
theorem keepR_ok {r : Rcv} {d : Dlv} (h : RcvOk r) (hd : d.seq ≤ 4294967295) (hb : d.body.length ≤ 1024) : RcvOk (keepR r d).1 := by
  unfold keepR
  split
  · exact h
  · rename_i hr
    obtain ⟨h1, h2, h3⟩ := refuse_ok (by simpa using hr)
    have hw := h.window
    have hn := h.next
    have hnd : ((r.held ++ [d]).map Dlv.seq).Nodup := by
      rw [List.map_append, List.nodup_append]
      refine ⟨h.apart, by simp, fun a ha b hb => ?_⟩
      simp at hb
      subst hb
      rintro rfl
      obtain ⟨x, hx, e⟩ := List.mem_map.1 ha
      exact findD_none.1 h2 x hx e
    obtain ⟨k1, k2, k3, k4, _, _⟩ := deliv_ok (f := r.held.length + 1) (l := r.held ++ [d]) (n := r.next) (m := r.next + r.window) (by simp) (fun x hx => by
      rcases List.mem_append.1 hx with hx | hx
      · have := h.seq x hx; omega
      · simp at hx; subst hx; exact ⟨h1, h3, hd⟩) hnd hn.2
    have e : kept r d = deliv (r.held.length + 1) r.next (r.held ++ [d]) := rfl
    rw [← e] at k1 k2 k3 k4
    refine ⟨h.stream, h.window, ⟨by simp only; omega, k2⟩, fun x hx => ?_, k4, fun x hx => ?_⟩
    · have q := k3 x hx
      simp only
      rcases List.mem_append.1 q.1 with hx1 | hx1
      · have := h.seq x hx1; omega
      · simp at hx1; subst hx1; omega
    · rcases List.mem_append.1 (k3 x hx).1 with hx1 | hx1
      · exact h.body x hx1
      · simp at hx1; subst hx1; exact hb
/-- Distinct numbers below one another are no more than there is room. -/
theorem nodup_room {l : List Int} {a : Int} {k : Nat} (hn : l.Nodup) (h : ∀ x ∈ l, a ≤ x ∧ x < a + k) : l.length ≤ k := by
  induction k generalizing l with
  | zero =>
    cases l with
    | nil => simp
    | cons x l => have := h x (by simp); omega
  | succ k ih =>
    have h1 := ih (l := l.filter fun x => !(x == a + k)) (hn.sublist List.filter_sublist) (fun x hx => by
      obtain ⟨h1, h2⟩ := List.mem_filter.1 hx
      have h3 := h x h1
      have : x ≠ a + k := by simpa using h2
      omega)
    have h2 : l.length ≤ (l.filter fun x => !(x == a + k)).length + 1 := by
      clear h ih h1
      induction l with
      | nil => simp
      | cons x l ih =>
        have hn' := List.nodup_cons.1 hn
        by_cases e : x = a + k
        · rw [List.filter_cons_of_neg (by simp [e]), List.filter_eq_self.2]
          · simp
          · intro y hy
            have : y ≠ a + k := fun e' => hn'.1 (by rw [e, ← e']; exact hy)
            simpa using this
        · rw [List.filter_cons_of_pos (by simp [e])]
          have := ih hn'.2
          simp only [List.length_cons]; omega
    omega
theorem RcvOk.room {r : Rcv} (h : RcvOk r) : r.held.length ≤ 64 := by
  have := nodup_room (a := r.next) (k := 64) h.apart (fun x hx => by
    obtain ⟨d, hd, rfl⟩ := List.mem_map.1 hx
    have := h.seq d hd; have := h.window; omega)
  simpa using this

end Go.Proofs.Ytekhmfliaojabaa
namespace Go.Proofs.Ytekhmfliaojabaa
open Go.RowKit

theorem deliv_mono (f : Nat) (n : Int) (l : List Dlv) : n ≤ (deliv f n l).2.1 := by
  induction f generalizing n l with
  | zero => exact Int.le_refl _
  | succ f ih =>
    cases h : findD l n with
    | none => rw [deliv_none h]; exact Int.le_refl _
    | some d => rw [deliv_some h]; have := ih (n + 1) (wipe l n); simp only; omega
theorem deliv_consec (f : Nat) (n : Int) (l : List Dlv) (j : Nat) (d : Dlv) (h : (deliv f n l).1[j]? = some d) : d.seq = n + j ∧ d ∈ l := by
  induction f generalizing n l j with
  | zero => simp [deliv] at h
  | succ f ih =>
    cases hf : findD l n with
    | none => rw [deliv_none hf] at h; simp at h
    | some e =>
      rw [deliv_some hf] at h
      cases j with
      | zero =>
        simp at h
        subst h
        have := findD_mem hf
        exact ⟨by rw [this.2]; simp, this.1⟩
      | succ j =>
        simp only [List.getElem?_cons_succ] at h
        obtain ⟨h1, h2⟩ := ih (n + 1) (wipe l n) j h
        exact ⟨by rw [h1]; omega, (wipe_mem.1 h2).1⟩
theorem deliv_rest (f : Nat) (n : Int) (l : List Dlv) (d : Dlv) (hd : d ∈ l) : d.seq < (deliv f n l).2.1 ∨ d ∈ (deliv f n l).2.2 := by
  induction f generalizing n l with
  | zero => exact .inr hd
  | succ f ih =>
    cases hf : findD l n with
    | none => rw [deliv_none hf]; exact .inr hd
    | some e =>
      rw [deliv_some hf]
      by_cases hs : d.seq = n
      · left
        have := deliv_mono f (n + 1) (wipe l n)
        simp only; omega
      · exact ih (n + 1) (wipe l n) (wipe_mem.2 ⟨hd, hs⟩)

/-- What the map of bodies says of a receiver. -/
structure OnceI (r : Rcv) (l : List (Int × Value)) : Prop where
  keys : ∀ x, look l x ≠ none → x < r.next ∨ ∃ d ∈ r.held, d.seq = x
  held : ∀ d ∈ r.held, d.lost = false ∧ look l d.seq = some (.string (strOfNums d.body))
theorem OnceI.none_ {r : Rcv} {l : List (Int × Value)} (h : OnceI r l) {x : Int} (h1 : r.next ≤ x) (h2 : findD r.held x = none) : look l x = none := by
  apply Classical.byContradiction
  intro hc
  rcases h.keys x hc with hk | ⟨d, hd, e⟩
  · omega
  · exact findD_none.1 h2 d hd e
theorem OnceI.end_ {r : Rcv} {l : List (Int × Value)} (h : OnceI r l) (ok : RcvOk r) : look l r.next = none := by
  refine h.none_ (Int.le_refl _) (findD_none.2 fun d hd e => ?_)
  have := ok.seq d hd
  omega
/-- What Take does with a frame that it refuses, and with one that it accepts. -/
theorem takeR_cases (r : Rcv) (f : Fr) : ((takeR r f).2.2 ≠ 0 ∧ takeR r f = (r, [], (takeR r f).2.2)) ∨
    ((takeR r f).2.2 = 0 ∧ FrOk f ∧ f.stream = r.stream ∧ refuse r f.seq = 0 ∧ takeR r f = ({ r with next := (deliv (r.held.length + 1) r.next (r.held ++ [⟨f.seq, f.body, false⟩])).2.1, held := (deliv (r.held.length + 1) r.next (r.held ++ [⟨f.seq, f.body, false⟩])).2.2 }, (deliv (r.held.length + 1) r.next (r.held ++ [⟨f.seq, f.body, false⟩])).1, 0)) := by
  unfold takeR
  by_cases h1 : FrOk f
  · rw [if_neg (fun h => h h1)]
    by_cases h2 : f.stream = r.stream
    · rw [if_neg (fun h => h h2)]
      unfold keepR
      by_cases h3 : refuse r f.seq = 0
      · right
        have e : ¬ refuse r (⟨f.seq, f.body, false⟩ : Dlv).seq ≠ 0 := fun h => h h3
        rw [if_neg e]
        exact ⟨rfl, h1, h2, h3, rfl⟩
      · left
        rw [if_pos (show refuse r (⟨f.seq, f.body, false⟩ : Dlv).seq ≠ 0 from h3)]
        exact ⟨h3, rfl⟩
    · left
      rw [if_pos h2]
      exact ⟨by simp, rfl⟩
  · left
    rw [if_pos h1]
    exact ⟨by simp, rfl⟩
/-- What holds behind a frame that was accepted. -/
theorem OnceI.took {r : Rcv} {l : List (Int × Value)} {f : Fr} (h : OnceI r l) (hr : refuse r f.seq = 0) (H : List Dlv) (hH : H = r.held ++ [⟨f.seq, f.body, false⟩]) (k : Nat) (r' : Rcv) (hr' : r' = { r with next := (deliv k r.next H).2.1, held := (deliv k r.next H).2.2 }) (ds : List Dlv) (hds : ds = (deliv k r.next H).1) (hrest : ∀ d ∈ (deliv k r.next H).2.2, d ∈ H) :
    look l f.seq = none ∧ OnceI r' (l ++ [(f.seq, .string (strOfNums f.body))]) ∧ ∀ (j : Nat) (d : Dlv), ds[j]? = some d → d.seq = r.next + j ∧ d.lost = false ∧ look (l ++ [(f.seq, .string (strOfNums f.body))]) d.seq = some (.string (strOfNums d.body)) := by
  obtain ⟨h1, h2, h3⟩ := refuse_ok hr
  have hl := h.none_ h1 h2
  have hb : ∀ d ∈ H, d.lost = false ∧ look (l ++ [(f.seq, .string (strOfNums f.body))]) d.seq = some (.string (strOfNums d.body)) := by
    intro d hd
    rw [look_snoc hl]
    rw [hH] at hd
    rcases List.mem_append.1 hd with hd | hd
    · obtain ⟨a, b⟩ := h.held d hd
      have hne : d.seq ≠ f.seq := findD_none.1 h2 d hd
      exact ⟨a, by rw [if_neg hne]; exact b⟩
    · simp at hd
      subst hd
      exact ⟨rfl, by simp⟩
  refine ⟨hl, ⟨fun x hx => ?_, fun d hd => ?_⟩, fun j d hd => ?_⟩
  · subst hr'
    simp only
    rw [look_snoc hl] at hx
    by_cases e : x = f.seq
    · have : (⟨f.seq, f.body, false⟩ : Dlv) ∈ H := by rw [hH]; simp
      rcases deliv_rest k r.next H _ this with h4 | h4
      · left; rw [e]; exact h4
      · right; exact ⟨_, h4, e.symm⟩
    · rw [if_neg e] at hx
      have hm := deliv_mono k r.next H
      rcases h.keys x hx with h4 | ⟨d, hd, e2⟩
      · left; omega
      · rcases deliv_rest k r.next H d (by rw [hH]; exact List.mem_append.2 (.inl hd)) with h5 | h5
        · left; rw [← e2]; exact h5
        · right; exact ⟨d, h5, e2⟩
  · subst hr'
    exact hb d (hrest d hd)
  · rw [hds] at hd
    obtain ⟨h4, h5⟩ := deliv_consec k r.next H j d hd
    obtain ⟨h6, h7⟩ := hb d h5
    exact ⟨h4, h6, h7⟩
theorem deliv_sub (f : Nat) (n : Int) (l : List Dlv) : ∀ d ∈ (deliv f n l).2.2, d ∈ l := by
  induction f generalizing n l with
  | zero => intro d hd; exact hd
  | succ f ih =>
    cases hf : findD l n with
    | none => rw [deliv_none hf]; intro d hd; exact hd
    | some e => rw [deliv_some hf]; intro d hd; exact (wipe_mem.1 (ih (n + 1) (wipe l n) d hd)).1
theorem deliv_next (f : Nat) (n : Int) (l : List Dlv) : (deliv f n l).2.1 = n + (deliv f n l).1.length := by
  induction f generalizing n l with
  | zero => simp [deliv]
  | succ f ih =>
    cases hf : findD l n with
    | none => rw [deliv_none hf]; simp
    | some e => rw [deliv_some hf]; simp only [List.length_cons]; rw [ih]; omega
theorem OnceI.step {r : Rcv} {l : List (Int × Value)} (h : OnceI r l) (f : Fr) {r' : Rcv} {ds : List Dlv} {er : Int} (e : takeR r f = (r', ds, er)) :
    (er ≠ 0 ∧ r' = r ∧ ds = []) ∨ (er = 0 ∧ r.next ≤ f.seq ∧ f.seq < r.next + r.window ∧ f.stream = r.stream ∧ f.seq ≤ 4294967295 ∧ look l f.seq = none ∧ OnceI r' (l ++ [(f.seq, .string (strOfNums f.body))]) ∧ r'.next = r.next + ds.length ∧ r'.stream = r.stream ∧ r'.window = r.window ∧
      ∀ (j : Nat) (d : Dlv), ds[j]? = some d → d.seq = r.next + j ∧ d.lost = false ∧ look (l ++ [(f.seq, .string (strOfNums f.body))]) d.seq = some (.string (strOfNums d.body))) := by
  rcases takeR_cases r f with ⟨h1, h2⟩ | ⟨h1, h2, h3, h4, h5⟩
  · left
    rw [e] at h1 h2
    injection h2 with h2 h6
    injection h6 with h6 h7
    exact ⟨h1, h2, h6⟩
  · right
    rw [e] at h1 h5
    injection h5 with h5 h6
    injection h6 with h6 h7
    obtain ⟨k1, k2, k3⟩ := refuse_ok h4
    obtain ⟨a, b, c⟩ := h.took h4 _ rfl _ r' h5 ds h6 (deliv_sub _ _ _)
    exact ⟨h7, k1, k3, h3, h2.2.2.2.1, a, b, by rw [h5, h6]; exact deliv_next _ _ _, by rw [h5], by rw [h5], c⟩
end Go.Proofs.Ytekhmfliaojabaa
namespace Go.Proofs.Ytekhmfliaojabaa
open Go.RowKit

/-- The delivery of record k. -/
def wantD (bs : List (List Int)) (k : Nat) : Dlv := ⟨5 + (k : Int), bs.getD k [], false⟩
def wantL (bs : List (List Int)) (n : Nat) : List Dlv := (List.range n).map (wantD bs)
theorem wantL_succ (bs : List (List Int)) (n : Nat) : wantL bs (n + 1) = wantL bs n ++ [wantD bs n] := by simp [wantL, List.range_succ]
theorem wantL_len (bs : List (List Int)) (n : Nat) : (wantL bs n).length = n := by simp [wantL]
theorem wantL_more (bs : List (List Int)) (n : Nat) (ds : List Dlv) (h : ∀ (j : Nat) (d : Dlv), ds[j]? = some d → d = wantD bs (n + j)) : wantL bs n ++ ds = wantL bs (n + ds.length) := by
  induction ds generalizing n with
  | nil => simp
  | cons d ds ih =>
    have h0 := h 0 d rfl
    rw [Nat.add_zero] at h0
    subst h0
    have := ih (n + 1) fun j e he => by rw [h (j + 1) e (by simpa using he)]; congr 1; omega
    rw [wantL_succ] at this
    rw [List.length_cons, show n + (ds.length + 1) = n + 1 + ds.length by omega, ← this]
    simp
/-- Record k has been accepted. -/
def Acc (r : Rcv) (k : Nat) : Prop := 5 + (k : Int) < r.next ∨ ∃ d ∈ r.held, d.seq = 5 + (k : Int)
structure OrdI (bs : List (List Int)) (r : Rcv) (ds : List Dlv) (m : Nat) : Prop where
  next : r.next = 5 + (ds.length : Int)
  le : ds.length ≤ bs.length
  got : ds = wantL bs ds.length
  held : ∀ d ∈ r.held, ∃ k < bs.length, d = wantD bs k
  acc : ∀ k < m, Acc r k
  win : r.window = 64
  st : r.stream = 7
theorem OrdI.start (bs : List (List Int)) : OrdI bs ⟨7, 64, 5, []⟩ [] 0 := ⟨by simp, by simp, rfl, by simp, by simp, rfl, rfl⟩
theorem OrdI.end_ {bs : List (List Int)} {r : Rcv} {ds : List Dlv} (h : OrdI bs r ds bs.length) (ok : RcvOk r) : ds = wantL bs bs.length ∧ r.next = 5 + (bs.length : Int) := by
  have e : ds.length = bs.length := by
    rcases Nat.lt_or_ge ds.length bs.length with hl | hl
    · exfalso
      rcases h.acc ds.length hl with h1 | ⟨d, hd, h1⟩
      · have := h.next; omega
      · have := ok.seq d hd
        have := h.next
        omega
    · have := h.le; omega
  refine ⟨?_, by rw [h.next, e]⟩
  have := h.got
  rwa [e] at this
theorem OrdI.take {bs : List (List Int)} {r : Rcv} {ds : List Dlv} {m : Nat} (h : OrdI bs r ds m) (hl : bs.length ≤ 64) (hb : ∀ b ∈ bs, b.length ≤ 64) {k : Nat} (hk : k < bs.length) {r' : Rcv} {ds' : List Dlv} {er : Int} (e : takeR r ⟨7, 5 + (k : Int), bs.getD k []⟩ = (r', ds', er)) :
    OrdI bs r' (ds ++ ds') m ∧ Acc r' k := by
  have hbk : (bs.getD k []).length ≤ 64 := hb _ (by simp [List.getD, List.getElem?_eq_getElem hk])
  have hok : FrOk ⟨7, 5 + (k : Int), bs.getD k []⟩ := ⟨by simp, by simp, by simp only; omega, by simp only; omega, by simp only; omega⟩
  have hn := h.next
  have hw := h.win
  unfold takeR at e
  rw [if_neg (fun hc => hc hok), if_neg (by rw [h.st]; simp)] at e
  unfold keepR at e
  by_cases hr : refuse r (5 + (k : Int)) = 0
  · rw [if_neg (show ¬ refuse r (⟨5 + (k : Int), bs.getD k [], false⟩ : Dlv).seq ≠ 0 from fun hc => hc hr)] at e
    injection e with e1 e2
    injection e2 with e2 e3
    have ek : kept r ⟨5 + (k : Int), bs.getD k [], false⟩ = deliv (r.held.length + 1) r.next (r.held ++ [wantD bs k]) := rfl
    rw [ek] at e1 e2
    obtain ⟨H, hH⟩ : ∃ H, H = r.held ++ [wantD bs k] := ⟨_, rfl⟩
    rw [← hH] at e1 e2
    have hHk : ∀ d ∈ H, ∃ k < bs.length, d = wantD bs k := by
      intro d hd
      rw [hH] at hd
      rcases List.mem_append.1 hd with hd | hd
      · exact h.held d hd
      · simp at hd; exact ⟨k, hk, hd⟩
    have hmono := deliv_mono (r.held.length + 1) r.next H
    have hnx := deliv_next (r.held.length + 1) r.next H
    have hacc : ∀ j, Acc r j ∨ wantD bs j ∈ H → Acc r' j := by
      rintro j (hj | hj)
      · rcases hj with hj | ⟨d, hd, hj⟩
        · left; rw [← e1]; simp only; omega
        · rcases deliv_rest (r.held.length + 1) r.next H d (by rw [hH]; exact List.mem_append.2 (.inl hd)) with h5 | h5
          · left; rw [← e1]; simp only; omega
          · right; rw [← e1]; exact ⟨d, h5, hj⟩
      · rcases deliv_rest (r.held.length + 1) r.next H _ hj with h5 | h5
        · left; rw [← e1]; exact h5
        · right; rw [← e1]; exact ⟨_, h5, rfl⟩
    have hds : ∀ (j : Nat) (d : Dlv), ds'[j]? = some d → d = wantD bs (ds.length + j) ∧ ds.length + j < bs.length := by
      intro j d hd
      rw [← e2] at hd
      obtain ⟨h6, h7⟩ := deliv_consec _ _ _ j d hd
      obtain ⟨k', hk', rfl⟩ := hHk d h7
      have : (wantD bs k').seq = 5 + (k' : Int) := rfl
      rw [this] at h6
      have : k' = ds.length + j := by omega
      subst this
      exact ⟨rfl, hk'⟩
    have hgot : ds ++ ds' = wantL bs (ds.length + ds'.length) := by
      have := wantL_more bs ds.length ds' fun j d hd => (hds j d hd).1
      rw [← h.got] at this
      exact this
    refine ⟨⟨?_, ?_, by rw [List.length_append]; exact hgot, fun d hd => ?_, fun j hj => hacc j (.inl (h.acc j hj)), by rw [← e1]; exact hw, by rw [← e1]; exact h.st⟩, hacc k (.inr (by rw [hH]; simp))⟩
    · rw [← e1, List.length_append]
      simp only
      rw [hnx, e2, hn]
      omega
    · rw [List.length_append]
      rcases Nat.eq_zero_or_pos ds'.length with h0 | h0
      · have := h.le; omega
      · have := (hds (ds'.length - 1) _ (List.getElem?_eq_getElem (by omega))).2
        omega
    · rw [← e1] at hd
      exact hHk d (deliv_sub _ _ _ d hd)
  · rw [if_pos (show refuse r (⟨5 + (k : Int), bs.getD k [], false⟩ : Dlv).seq ≠ 0 from hr)] at e
    injection e with e1 e2
    injection e2 with e2 e3
    subst e1 e2
    rw [List.append_nil]
    refine ⟨h, ?_⟩
    unfold refuse at hr
    split at hr
    · left; assumption
    · split at hr
      · rename_i hs
        obtain ⟨d, hd⟩ := Option.isSome_iff_exists.1 hs
        right
        exact ⟨d, (findD_mem hd).1, (findD_mem hd).2⟩
      · split at hr
        · exfalso; omega
        · exact absurd rfl hr
theorem OrdI.more {bs : List (List Int)} {r : Rcv} {ds : List Dlv} {m : Nat} (h : OrdI bs r ds m) (ha : Acc r m) : OrdI bs r ds (m + 1) :=
  ⟨h.next, h.le, h.got, h.held, fun k hk => by rcases Nat.lt_or_ge k m with h1 | h1; exact h.acc k h1; obtain rfl : k = m := by omega
                                               exact ha, h.win, h.st⟩
end Go.Proofs.Ytekhmfliaojabaa
namespace Go.Proofs.Ytekhmfliaojabaa
open Go.RowKit

/-- A slot of the program's map. -/
def SlotV (base : Nat) (w : World) (v : Value) (d : Dlv) : Prop := ∃ A n c, v = .agg #[.slice A n c, .bool d.lost] ∧ OwnS .u8 5 base w A n c d.body
/-- Three cells that hold a delivery. -/
def DlO (base : Nat) (w : World) (cs : List Value) (d : Dlv) : Prop := ∃ A n c, cs = [.int .i64 d.seq, .slice A n c, .bool d.lost] ∧ OwnS .u8 5 base w A n c d.body
/-- A slice of deliveries: a row of its own from 'rb' on, the bytes in rows from 'base' on. -/
def DlL (rb base : Nat) (w : World) (v : Value) (ds : List Dlv) : Prop := ∃ vs, w.ownsRow rb 72 3 v ds.length vs ∧ CsR (DlO base w) vs ds
section
variable {base rb : Nat} {w w' : World} {v : Value} {d : Dlv} {cs : List Value} {ds : List Dlv} {L : List Nat}
theorem SlotV.ext (h : SlotV base w v d) (he : Ext w w') : SlotV base w' v d := by obtain ⟨A, n, c, h1, h2⟩ := h; exact ⟨A, n, c, h1, h2.ext he⟩
theorem SlotV.keeps (h : SlotV base w v d) (hk : Keeps L w w') (hn : ∀ g ∈ L, NoRow 5 w g) : SlotV base w' v d := by obtain ⟨A, n, c, h1, h2⟩ := h; exact ⟨A, n, c, h1, h2.keeps hk hn⟩
theorem DlO.ext (h : DlO base w cs d) (he : Ext w w') : DlO base w' cs d := by obtain ⟨A, n, c, h1, h2⟩ := h; exact ⟨A, n, c, h1, h2.ext he⟩
theorem DlO.keeps (h : DlO base w cs d) (hk : Keeps L w w') (hn : ∀ g ∈ L, NoRow 5 w g) : DlO base w' cs d := by obtain ⟨A, n, c, h1, h2⟩ := h; exact ⟨A, n, c, h1, h2.keeps hk hn⟩
theorem DlO.len (h : DlO base w cs d) : cs.length = 3 := by obtain ⟨A, n, c, rfl, _⟩ := h; rfl
theorem DlO.one (h : DlO base w cs d) : ∀ u ∈ cs, u.oneCell' = true := by obtain ⟨A, n, c, rfl, _⟩ := h; simp [Value.oneCell']
theorem DlL.nil (rb base : Nat) (w : World) : DlL rb base w (.slice none 0 0) [] := ⟨[], World.ownsRow_nil _ _ _ _, rfl⟩
theorem DlL.ext (h : DlL rb base w v ds) (he : Ext w w') : DlL rb base w' v ds := by obtain ⟨vs, h1, h2⟩ := h; exact ⟨vs, World.ownsRow.ext' h1 he, h2.imp fun _ _ h => h.ext he⟩
theorem DlL.keeps (h : DlL rb base w v ds) (hk : Keeps L w w') (n1 : ∀ g ∈ L, NoRow 72 w g) (n2 : ∀ g ∈ L, NoRow 5 w g) : DlL rb base w' v ds := by
  obtain ⟨vs, h1, h2⟩ := h
  refine ⟨vs, ownsRow_keeps h1 hk fun k hv hl => ?_, h2.imp fun _ _ h => h.keeps hk n2⟩
  rcases h1.2 with ⟨rfl, _⟩ | ⟨g', cap, cur, rfl, _, hg, _⟩
  · simp [Value.ownBlock] at hv
  · simp [Value.ownBlock] at hv
    subst hv
    exact n1 _ hl _ _ hg
theorem DlL.slice (h : DlL rb base w v ds) : ∃ A c, v = .slice A ds.length c := by obtain ⟨vs, h1, _⟩ := h; exact own_slice h1
theorem DlL.mono {rb' : Nat} (h : DlL rb base w v ds) (hb : rb' ≤ rb) : DlL rb' base w v ds := by obtain ⟨vs, h1, h2⟩ := h; exact ⟨vs, World.ownsRow.mono' h1 hb, h2⟩
theorem DlL.get (h : DlL rb base w v ds) {j : Nat} (hj : j < ds.length) : ∃ g c d A n cc, v = .slice (some ⟨g, 0, none⟩) ds.length c ∧ ds[j]? = some d ∧ w.cell? ⟨g, j * 3, none⟩ = some (.int .i64 d.seq) ∧ w.cell? ⟨g, j * 3 + 1, none⟩ = some (.slice A n cc) ∧ w.cell? ⟨g, j * 3 + 2, none⟩ = some (.bool d.lost) ∧ OwnS .u8 5 base w A n cc d.body := by
  obtain ⟨vs, h1, h2⟩ := h
  obtain ⟨A, c, rfl⟩ := own_slice h1
  obtain ⟨g, rfl, _, _⟩ := own_block h1 (by omega)
  have hd : ds[j]? = some ds[j] := List.getElem?_eq_getElem hj
  obtain ⟨cs, ⟨A', n, cc, rfl, h4⟩, h5⟩ := h2.get (fun _ _ h => h.len) hd
  have hl := h2.len (k := 3) fun _ _ h => h.len
  have hc := At.of_own h1
  obtain ⟨b, off, hA, hc⟩ := hc (by intro e; subst e; simp at hl; omega)
  injection hA with hA
  injection hA with e1 e2
  subst e1 e2
  refine ⟨g, c, _, A', n, cc, rfl, hd, ?_, ?_, ?_, h4⟩
  · have := hc _ _ (h5 0 _ rfl); rwa [Nat.zero_add, Nat.add_zero] at this
  · have := hc _ _ (h5 1 _ rfl); rwa [Nat.zero_add] at this
  · have := hc _ _ (h5 2 _ rfl); rwa [Nat.zero_add] at this
/-- A delivery is put behind the others. -/
theorem DlL.snoc {vs : List Value} {v1 : Value} {s : Int} {A : Option Addr} {n c : Nat} {lo : Bool} {xs : List Int} (h2 : CsR (DlO base w) vs ds) (hv : w.ownsRow rb 72 3 v ds.length vs) (hO : OwnS .u8 5 base w A n c xs)
    (hown : w'.ownsRow rb 72 3 v1 (ds.length + 1) (vs ++ [.int .i64 s, .slice A n c, .bool lo])) (hgr : w.grownBy w' v.ownBlock) : DlL rb base w' v1 (ds ++ [⟨s, xs, lo⟩]) := by
  have hk : Keeps v.ownBlock.toList w w' := Keeps.of_grown hgr fun k hk => by rw [hk]; simp
  have hn : ∀ k ∈ v.ownBlock.toList, NoRow 5 w k := fun k hk => NoRow.of_own hv (by simpa using hk) (by decide)
  refine ⟨_, by rw [List.length_append]; exact hown, CsR.snoc (h2.imp fun _ _ h => h.keeps hk hn) ?_⟩
  exact DlO.keeps ⟨A, n, c, rfl, hO⟩ hk hn
end

/-- The program's receiver, whatever it holds: block g, map m. -/
structure RcvQ (base : Nat) (w : World) (g m : Nat) (st wn n : Int) (h : List Dlv) : Prop where
  blk : Blk w g 102 #[.int .i64 st, .int .i64 wn, .int .i64 n, .map (some m)]
  map : ∃ l, MapL Try.prog 3 w m l ∧ F2 (fun p d => p.1 = d.seq ∧ SlotV base w p.2 d) l h
  lo : base ≤ g ∧ base ≤ m
section
variable {base : Nat} {w w' : World} {g m : Nat} {st wn n : Int} {h : List Dlv} {L : List Nat} {l : List (Int × Value)}
theorem RcvQ.ext (hq : RcvQ base w g m st wn n h) (he : Ext w w') : RcvQ base w' g m st wn n h := by
  obtain ⟨h1, ⟨l, h2, h3⟩, h4⟩ := hq
  exact ⟨h1.ext he, ⟨l, h2.ext he, h3.imp fun _ _ _ h => ⟨h.1, h.2.ext he⟩⟩, h4⟩
theorem RcvQ.keeps (hq : RcvQ base w g m st wn n h) (hk : Keeps L w w') (n1 : ∀ k ∈ L, NoRow 102 w k) (n2 : m ∉ L) (n3 : ∀ k ∈ L, NoRow 5 w k) : RcvQ base w' g m st wn n h := by
  obtain ⟨h1, ⟨l, h2, h3⟩, h4⟩ := hq
  exact ⟨h1.away hk n1, ⟨l, h2.keeps hk n2, h3.imp fun _ _ _ h => ⟨h.1, h.2.keeps hk n3⟩⟩, h4⟩
theorem RcvQ.lt (hq : RcvQ base w g m st wn n h) : g < w.heap.size ∧ m < w.heap.size := ⟨hq.blk.lt, by obtain ⟨l, h2, _⟩ := hq.map; exact h2.lt⟩
theorem RcvQ.base_le (hq : RcvQ base w g m st wn n h) : base ≤ w.heap.size := by have := hq.lt; have := hq.lo; omega
theorem RcvQ.far (hq : RcvQ base w g m st wn n h) (t : TypeId) (ht : 102 ≠ t) : ∀ k ∈ [g, m], NoRow t w k := by
  intro k hk
  simp at hk
  rcases hk with rfl | rfl
  · exact NoRow.of_blk hq.blk ht
  · obtain ⟨l, h2, _⟩ := hq.map; exact h2.notRow t
theorem RcvQ.new {w0 : World} (hq : RcvQ base w g m st wn n h) (hb : w0.heap.size ≤ base) : ∀ k ∈ [g, m], w0.heap.size ≤ k := by
  intro k hk
  have := hq.lo
  simp at hk
  rcases hk with rfl | rfl <;> omega
theorem find_some_ (h3 : F2 (fun p d => p.1 = d.seq ∧ SlotV base w p.2 d) l h) {s : Int} {d : Dlv} (hf : findD h s = some d) : ∃ v, look l s = some v ∧ SlotV base w v d := by
  rcases h3.find (p := fun p => p.1 == s) (q := fun d => d.seq == s) (fun p d h => by rw [h.1]) with ⟨_, hb⟩ | ⟨p, d', ha, hb, hr⟩
  · unfold findD at hf; rw [hb] at hf; cases hf
  · unfold findD at hf
    rw [hb] at hf
    injection hf with hf
    subst hf
    exact ⟨p.2, by unfold look; rw [ha]; rfl, hr.2⟩
theorem find_none_ (h3 : F2 (fun p d => p.1 = d.seq ∧ SlotV base w p.2 d) l h) {s : Int} (hf : findD h s = none) : look l s = none := by
  rcases h3.find (p := fun p => p.1 == s) (q := fun d => d.seq == s) (fun p d h => by rw [h.1]) with ⟨ha, _⟩ | ⟨p, d', ha, hb, hr⟩
  · unfold look; rw [ha]; rfl
  · unfold findD at hf; rw [hb] at hf; cases hf
theorem RcvQ.apart (hq : RcvQ base w g m st wn n h) : (h.map Dlv.seq).Nodup := by
  obtain ⟨l, h2, h3⟩ := hq.map
  rw [← h3.map_eq (f := Prod.fst) (g := Dlv.seq) fun a b h => h.1]
  exact h2.apart
/-- What a lookup of a slot finds. -/
theorem slot_at (h3 : F2 (fun p d => p.1 = d.seq ∧ SlotV base w p.2 d) l h) (s : Int) :
    ∃ A nn c lo, (look l s).getD (.agg #[.slice none 0 0, .bool false]) = .agg #[.slice A nn c, .bool lo] ∧ (look l s).isSome = (findD h s).isSome ∧ ∀ d, findD h s = some d → d.lost = lo ∧ OwnS .u8 5 base w A nn c d.body := by
  cases hf : findD h s with
  | none =>
    rw [find_none_ h3 hf]
    exact ⟨none, 0, 0, false, rfl, rfl, fun d hd => by cases hd⟩
  | some d =>
    obtain ⟨v, hv, A, nn, c, rfl, hO⟩ := find_some_ h3 hf
    rw [hv]
    exact ⟨A, nn, c, d.lost, rfl, rfl, fun d' hd => by injection hd with hd; subst hd; exact ⟨rfl, hO⟩⟩
end
structure RcvP (base : Nat) (w : World) (g m : Nat) (r : Rcv) : Prop where
  q : RcvQ base w g m r.stream r.window r.next r.held
  ok : RcvOk r
theorem RcvP.ext {base : Nat} {w w' : World} {g m : Nat} {r : Rcv} (h : RcvP base w g m r) (he : Ext w w') : RcvP base w' g m r := ⟨h.q.ext he, h.ok⟩

/-- The reference's receiver: block g, the row v. -/
structure RecQ (base : Nat) (w : World) (g : Nat) (v : Value) (st wn n : Int) (h : List Dlv) : Prop where
  blk : Blk w g 126 #[.int .i64 st, .int .i64 wn, .int .i64 n, v]
  row : DlL base base w v h
  lo : base ≤ g
section
variable {base : Nat} {w w' : World} {g : Nat} {v : Value} {st wn n : Int} {h : List Dlv} {L : List Nat}
theorem RecQ.ext (hq : RecQ base w g v st wn n h) (he : Ext w w') : RecQ base w' g v st wn n h := ⟨hq.blk.ext he, hq.row.ext he, hq.lo⟩
theorem RecQ.keeps (hq : RecQ base w g v st wn n h) (hk : Keeps L w w') (n1 : ∀ k ∈ L, NoRow 126 w k) (n2 : ∀ k ∈ L, NoRow 72 w k) (n3 : ∀ k ∈ L, NoRow 5 w k) : RecQ base w' g v st wn n h :=
  ⟨hq.blk.away hk n1, hq.row.keeps hk n2 n3, hq.lo⟩
theorem RecQ.lt (hq : RecQ base w g v st wn n h) : g < w.heap.size := hq.blk.lt
theorem RecQ.base_le (hq : RecQ base w g v st wn n h) : base ≤ w.heap.size := by have := hq.lt; have := hq.lo; omega
theorem RecQ.far (hq : RecQ base w g v st wn n h) (t : TypeId) (ht : 126 ≠ t) (ht' : 72 ≠ t) : ∀ k ∈ g :: v.ownBlock.toList, NoRow t w k := by
  intro k hk
  simp only [List.mem_cons, Option.mem_toList] at hk
  rcases hk with rfl | hk
  · exact NoRow.of_blk hq.blk ht
  · obtain ⟨l, h2, _⟩ := hq.row; exact NoRow.of_own h2 hk ht'
theorem RecQ.new {w0 : World} (hq : RecQ base w g v st wn n h) (hb : w0.heap.size ≤ base) : ∀ k ∈ g :: v.ownBlock.toList, w0.heap.size ≤ k := by
  intro k hk
  have := hq.lo
  simp only [List.mem_cons, Option.mem_toList] at hk
  rcases hk with rfl | hk
  · omega
  · obtain ⟨l, h2, _⟩ := hq.row
    have := (h2.lt k hk).1
    omega
theorem RecQ.noMap {P : Program} {k : TypeId} {m : Nat} {l : List (Int × Value)} (hq : RecQ base w g v st wn n h) (hm : MapL P k w m l) : m ∉ g :: v.ownBlock.toList := by
  intro hk
  simp only [List.mem_cons, Option.mem_toList] at hk
  rcases hk with rfl | hk
  · exact hm.notRow _ _ _ hq.blk
  · obtain ⟨l, h2, _⟩ := hq.row
    exact hm.ne_row h2 hk.symm
theorem RecQ.ne (hq : RecQ base w g v st wn n h) : some g ≠ v.ownBlock := by
  obtain ⟨l, h2, _⟩ := hq.row
  intro e
  exact NoRow.of_own h2 e.symm (show 72 ≠ 126 by decide) _ _ hq.blk
end
structure RecR (base : Nat) (w : World) (g : Nat) (v : Value) (r : Rcv) : Prop where
  q : RecQ base w g v r.stream r.window r.next r.held
  ok : RcvOk r
theorem RecR.ext {base : Nat} {w w' : World} {g : Nat} {v : Value} {r : Rcv} (h : RecR base w g v r) (he : Ext w w') : RecR base w' g v r := ⟨h.q.ext he, h.ok⟩
theorem RcvQ.away {base base' : Nat} {w w' : World} {g m g' : Nat} {v : Value} {st wn n st' wn' n' : Int} {h h' : List Dlv} (hq : RcvQ base w g m st wn n h) (hr : RecQ base' w g' v st' wn' n' h') (hk : Keeps (g' :: v.ownBlock.toList) w w') : RcvQ base w' g m st wn n h := by
  obtain ⟨l, h2, _⟩ := hq.map
  exact hq.keeps hk (hr.far _ (by decide) (by decide)) (hr.noMap h2) (hr.far _ (by decide) (by decide))
theorem RecQ.away {base base' : Nat} {w w' : World} {g m g' : Nat} {v : Value} {st wn n st' wn' n' : Int} {h h' : List Dlv} (hr : RecQ base w g' v st wn n h) (hq : RcvQ base' w g m st' wn' n' h') (hk : Keeps [g, m] w w') : RecQ base w' g' v st wn n h :=
  hr.keeps hk (hq.far _ (by decide)) (hq.far _ (by decide)) (hq.far _ (by decide))
end Go.Proofs.Ytekhmfliaojabaa
