/- Lemmas of the proof that follows (Carries, part 2): walks of functions by contract, and plain lemmas. Conditions: none. -/
import Derived.Test.YtekhmfliaojabaaCarriesA
namespace Go.Proofs.Ytekhmfliaojabaa
open Go.RowKit

theorem elL : Elem Try.prog 32 22 1 24 (.slice none 0 0) := Elem.mk' (by kernel_rfl) (by kernel_rfl) rfl (by decide)

/-- The values 'vs' are slices of bytes that read as 'xss'. -/
def LV (w : World) (vs : List Value) (xss : List (List Int)) : Prop := vs.length = xss.length ∧ ∀ (j : Nat) v xs, vs[j]? = some v → xss[j]? = some xs → SlV .u8 w v xs
section
variable {w w' : World} {vs : List Value} {xss : List (List Int)}
theorem LV.ext (h : LV w vs xss) (he : Ext w w') : LV w' vs xss := ⟨h.1, fun j v xs a b => (h.2 j v xs a b).ext he⟩
theorem LV.sls (h : LV w vs xss) : ∀ v ∈ vs, ∃ A n c, v = .slice A n c := by
  intro v hv
  obtain ⟨j, hj, rfl⟩ := List.getElem_of_mem hv
  obtain ⟨A, n, c, h1, _⟩ := h.2 j _ _ (List.getElem?_eq_getElem hj) (List.getElem?_eq_getElem (by rw [← h.1]; exact hj))
  exact ⟨A, n, c, h1⟩
theorem LV.one (h : LV w vs xss) : ∀ v ∈ vs, v.oneCell' = true := by
  intro v hv
  obtain ⟨j, hj, rfl⟩ := List.getElem_of_mem hv
  obtain ⟨A, n, c, h1, _⟩ := h.2 j _ _ (List.getElem?_eq_getElem hj) (List.getElem?_eq_getElem (by rw [← h.1]; exact hj))
  rw [h1]; rfl
theorem LV.dele (h : LV w vs xss) (i : Nat) : LV w (dele vs i) (dele xss i) := by
  refine ⟨by have := h.1; simp [Proofs.Ytekhmfliaojabaa.dele, this], fun j v xs a b => ?_⟩
  rw [get_dele] at a b
  rw [h.1] at a
  split at a
  · rename_i hc; rw [if_pos hc] at b; exact h.2 _ _ _ a b
  · rename_i hc
    rw [if_neg hc] at b
    split at a
    · rename_i hc2; rw [if_pos hc2] at b; exact h.2 _ _ _ a b
    · rename_i hc2; rw [if_neg hc2] at b; exact h.2 _ _ _ a b
theorem LV.inse {v : Value} {xs : List Int} {i : Nat} (h : LV w vs xss) (hi : i ≤ xss.length) (hv : SlV .u8 w v xs) : LV w (inse vs i v) (inse xss i xs) := by
  have hi' : i ≤ vs.length := by rw [h.1]; exact hi
  refine ⟨by rw [inse_len hi', inse_len hi, h.1], fun j u ys a b => ?_⟩
  rw [get_inse hi'] at a
  rw [get_inse hi] at b
  split at a
  · rename_i hc; rw [if_pos hc] at b; exact h.2 _ _ _ a b
  · rename_i hc
    rw [if_neg hc] at b
    split at a
    · rename_i hc2
      rw [if_pos hc2] at b
      injection a with a; injection b with b
      subst a b
      exact hv
    · rename_i hc2; rw [if_neg hc2] at b; exact h.2 _ _ _ a b
theorem LV.lists {A : Option Addr} {n : Nat} (h : LV w vs xss) (hn : vs.length = n) (hat : At w A vs) : Lists .u8 w A n xss := ⟨by rw [← h.1]; exact hn, vs, hn, hat, h.2⟩
theorem Lists.lv {A : Option Addr} {n : Nat} (h : Lists .u8 w A n xss) : ∃ vs, LV w vs xss ∧ vs.length = n ∧ At w A vs := by
  obtain ⟨h1, vs, h2, h3, h4⟩ := h
  exact ⟨vs, ⟨by rw [h2, h1], h4⟩, h2, h3⟩
theorem Lists.len {k : IntKind} {A : Option Addr} {n : Nat} (h : Lists k w A n xss) : xss.length = n := h.1
end

/-- A slice of byte strings is returned. -/
def RetL (w : World) (r : List (List Int)) (e : Ending) (w' : World) : Prop :=
  ∃ A n c, e = .returned (.slice A n c) ∧ Lists .u8 w' A n r ∧ n ≤ c ∧ c ≤ 9223372036854775807 ∧ Ext w w'

theorem dele_take_skip {α : Type} (l : List α) (i : Nat) : dele (l.take (i + 1)) i = dele (l.take i) i := by
  unfold dele
  rw [List.take_take, List.take_take, List.drop_eq_nil_of_le (by rw [List.length_take]; omega), List.drop_eq_nil_of_le (by rw [List.length_take]; omega)]
  congr 2; omega
theorem dele_take_snoc {α : Type} {l : List α} {i k : Nat} {x : α} (h : l[k]? = some x) (hne : k ≠ i) : dele (l.take (k + 1)) i = dele (l.take k) i ++ [x] := by
  obtain ⟨hk, rfl⟩ := List.getElem?_eq_some_iff.1 h
  rw [List.take_add_one, List.getElem?_eq_getElem hk]
  have e : (l.take k).length = k := by rw [List.length_take]; omega
  generalize l.take k = m at e
  unfold dele
  simp only [Option.toList_some]
  rcases Nat.lt_or_ge k i with h1 | h1
  · have e2 : (m ++ [l[k]]).length ≤ i := by rw [List.length_append, e]; simp; omega
    rw [List.take_of_length_le e2, List.drop_eq_nil_of_le (Nat.le_succ_of_le e2), List.take_of_length_le (by omega), List.drop_eq_nil_of_le (by omega)]
    simp
  · rw [List.take_append_of_le_length (by omega), List.drop_append_of_le_length (by omega), List.append_assoc]
theorem inse_take_snoc {α : Type} {l : List α} {i k : Nat} {x y : α} (h : l[k]? = some y) (hi : i ≤ k) : inse (l.take (k + 1)) i x = inse (l.take k) i x ++ [y] := by
  obtain ⟨hk, rfl⟩ := List.getElem?_eq_some_iff.1 h
  rw [List.take_add_one, List.getElem?_eq_getElem hk]
  have e : (l.take k).length = k := by rw [List.length_take]; omega
  unfold inse
  simp only [Option.toList_some]
  rw [List.take_append_of_le_length (by rw [e]; omega), List.drop_append_of_le_length (by rw [e]; omega), List.append_assoc, List.cons_append]
theorem inse_end {α : Type} (l : List α) (x : α) : inse l l.length x = l ++ [x] := by simp [inse]
theorem inse_take_at {α : Type} {l : List α} {i : Nat} (x : α) (h : i ≤ l.length) : l.take i ++ [x] = inse (l.take i) i x := by
  have e : (l.take i).length = i := by rw [List.length_take]; omega
  generalize l.take i = m at e
  rw [← e, inse_end]

set_option maxRecDepth 100000 in
set_option maxHeartbeats 1000000 in
theorem without_vals (A : Option Addr) (n c : Nat) (i : Int) (vs : List Value) (w : World) (hat : At w A vs) (hlen : vs.length = n) (h1 : ∀ v ∈ vs, ∃ A n c, v = .slice A n c) (hn : n ≤ 1000000) (i0 : 0 ≤ i) (i1 : i < n) :
    Calls Try.prog 88 #[.slice A n c, .int .i64 i] w fun e w' => ∃ v, e = .returned v ∧ w'.ownsRow w.heap.size 22 1 v (n - 1) (dele vs i.toNat) ∧ Ext w w' := by
  have HA := Lib.hid hat
  have HL := Lib.hid hlen
  have H1 := Lib.hid h1
  clear hat hlen h1
  go_enter Try.func88, Try.ntmps88
  go_wp2
  go_loopg [5, 9] n (fun g v i' wr => ∃ (k m : Nat), g = n - k ∧ k ≤ n ∧ m ≤ k ∧ i' = .int .i64 k ∧ wr.ownsRow w.heap.size 22 1 v m (dele (vs.take k) i.toNat) ∧ Ext w wr)
  case atStart => exact ⟨0, 0, by omega, by omega, by omega, rfl, by simpa [dele] using World.ownsRow_nil _ _ _ _, Ext.refl w⟩
  case round =>
    obtain ⟨k, m, rfl, hk, hmk, rfl, hown, hext⟩ := hrel
    have HX := Lib.hid hext
    clear hext
    by_cases hlt : k < n
    · obtain ⟨b, off, y, rfl, hy, hc⟩ := (HA.out.ext HX.out).get (j := k) (by rw [HL.out]; exact hlt)
      have HY := Lib.hid hy
      clear hy
      by_cases he : (k : Int) = i
      · have hne : ((k : Int) != i) = false := by simpa using he
        have HE := Lib.hid he
        clear he
        go_wp2
        go_roundg (n - (k + 1))
        case rel =>
          refine ⟨k + 1, m, rfl, by omega, by omega, by go_num, ?_, HX.out⟩
          have : i.toNat = k := by have := HE.out; omega
          rw [this] at hown ⊢
          rw [dele_take_skip]; exact hown
        case measure => omega
      · have hne : ((k : Int) != i) = true := by simpa using he
        have HE := Lib.hid he
        obtain ⟨Ay, ny, cy, rfl⟩ := H1.out y (List.mem_of_getElem? HY.out)
        clear he
        go_wp2_with (at_builtin; refine wpList_app _ elL rfl _ _ rfl w.heap.size u5 _ _ rfl (hown.alloc _) _ 1 1 [.slice Ay ny cy] rfl rfl (At.new' _ [_] _ rfl) (by simp [Value.oneCell']) (by omega) (by unfold maxLen; omega) (by have := HX.out.size; simp; omega) ?_; intro v1 w1 hown1 hgr1 _)
        go_roundg (n - (k + 1))
        case rel =>
          refine ⟨k + 1, m + 1, rfl, by omega, by omega, by go_num, ?_, HX.out.push hown hgr1⟩
          rw [dele_take_snoc HY.out (by have := HE.out; omega)]; exact hown1
        case measure => omega
    · go_wp2
      go_ret
      rw [List.take_of_length_le (by rw [HL.out]; omega)] at hown
      have hm := hown.1
      rw [dele_len (by rw [HL.out]; omega), HL.out, Nat.mul_one] at hm
      rw [hm]
      exact ⟨_, rfl, hown, HX.out⟩

set_option maxRecDepth 100000 in
set_option maxHeartbeats 2000000 in
theorem with_vals (A : Option Addr) (n c : Nat) (i : Int) (Ax : Option Addr) (nx cx : Nat) (vs : List Value) (w : World) (hat : At w A vs) (hlen : vs.length = n) (h1 : ∀ v ∈ vs, ∃ A n c, v = .slice A n c) (hn : n ≤ 1000000) (i0 : 0 ≤ i) (i1 : i ≤ n) :
    Calls Try.prog 89 #[.slice A n c, .int .i64 i, .slice Ax nx cx] w fun e w' => ∃ v, e = .returned v ∧ w'.ownsRow w.heap.size 22 1 v (n + 1) (inse vs i.toNat (.slice Ax nx cx)) ∧ Ext w w' := by
  have HA := Lib.hid hat
  have HL := Lib.hid hlen
  have H1 := Lib.hid h1
  clear hat hlen h1
  go_enter Try.func89, Try.ntmps89
  go_wp2
  go_loopg [7, 11] n (fun g v i' wr => ∃ (k m : Nat), g = n - k ∧ k ≤ n ∧ m ≤ k + 1 ∧ i' = .int .i64 k ∧ wr.ownsRow w.heap.size 22 1 v m (if (k : Int) ≤ i then vs.take k else inse (vs.take k) i.toNat (.slice Ax nx cx)) ∧ Ext w wr)
  case atStart => exact ⟨0, 0, by omega, by omega, by omega, rfl, by rw [if_pos (by omega)]; simpa using World.ownsRow_nil _ _ _ _, Ext.refl w⟩
  case round =>
    obtain ⟨k, m, rfl, hk, hmk, rfl, hown, hext⟩ := hrel
    have HX := Lib.hid hext
    clear hext
    by_cases hlt : k < n
    · obtain ⟨b, off, y, rfl, hy, hc0⟩ := HA.out.get (j := k) (by rw [HL.out]; exact hlt)
      have hc := HX.out.cell hc0
      have HC := Lib.hid hc0
      have HY := Lib.hid hy
      obtain ⟨Ay, ny, cy, rfl⟩ := H1.out y (List.mem_of_getElem? hy)
      clear hy hc0
      by_cases he : (k : Int) = i
      · have HE := Lib.hid he
        have hne : ((k : Int) == i) = true := by simpa using he
        rw [if_pos (by omega)] at hown
        clear he
        go_wp2_with (at_builtin; first | (refine wpList_app _ elL rfl _ _ rfl w.heap.size u7 _ _ rfl (hown.alloc _) _ 1 1 [.slice Ax nx cx] rfl rfl (At.new' _ [_] _ rfl) (by simp [Value.oneCell']) (by omega) (by unfold maxLen; omega) (by have := HX.out.size; simp; omega) ?_; intro v1 w1 hown1 hgr1 _; have HX1 := Lib.hid (HX.out.push hown hgr1); clear hgr1 hc; have hc := HX1.out.cell HC.out) | (refine wpList_app _ elL rfl _ _ rfl w.heap.size v1 _ _ rfl (hown1.alloc _) _ 1 1 [.slice Ay ny cy] rfl rfl (At.new' _ [_] _ rfl) (by simp [Value.oneCell']) (by omega) (by unfold maxLen; omega) (by have := HX1.out.size; simp; omega) ?_; intro v2 w2 hown2 hgr2 _))
        go_roundg (n - (k + 1))
        case rel =>
          refine ⟨k + 1, m + 1 + 1, rfl, by omega, by have := hown.1; rw [List.length_take] at this; omega, by go_num, ?_, HX1.out.push hown1 hgr2⟩
          have e : i.toNat = k := by have := HE.out; omega
          rw [if_neg (by have := HE.out; omega), inse_take_snoc HY.out (by omega), e, ← inse_take_at _ (by rw [HL.out]; omega)]
          exact hown2
        case measure => omega
      · have HE := Lib.hid he
        have hne : ((k : Int) == i) = false := by simpa using he
        clear he
        go_wp2_with (at_builtin; refine wpList_app _ elL rfl _ _ rfl w.heap.size u7 _ _ rfl (hown.alloc _) _ 1 1 [.slice Ay ny cy] rfl rfl (At.new' _ [_] _ rfl) (by simp [Value.oneCell']) (by omega) (by unfold maxLen; omega) (by have := HX.out.size; simp; omega) ?_; intro v1 w1 hown1 hgr1 _)
        go_roundg (n - (k + 1))
        case rel =>
          refine ⟨k + 1, m + 1, rfl, by omega, by omega, by go_num, ?_, HX.out.push hown hgr1⟩
          have he := HE.out
          by_cases hc1 : (k : Int) ≤ i
          · rw [if_pos hc1] at hown1
            rw [if_pos (by omega), List.take_add_one, HY.out]
            exact hown1
          · rw [if_neg hc1] at hown1
            rw [if_neg (by omega), inse_take_snoc HY.out (by omega)]
            exact hown1
        case measure => omega
    · obtain rfl : k = n := by omega
      rw [List.take_of_length_le (by rw [HL.out]; omega)] at hown
      by_cases he : i = (k : Int)
      · have hne : (i == (k : Int)) = true := by simpa using he
        have HE := Lib.hid he
        rw [if_pos (by omega)] at hown
        have hm := hown.1
        rw [HL.out, Nat.mul_one] at hm
        obtain rfl : k = m := by omega
        clear he
        go_wp2_with (at_builtin; refine wpList_app _ elL rfl _ _ rfl w.heap.size u7 _ _ rfl (hown.alloc _) _ 1 1 [.slice Ax nx cx] rfl rfl (At.new' _ [_] _ rfl) (by simp [Value.oneCell']) (by omega) (by unfold maxLen; omega) (by have := HX.out.size; simp; omega) ?_; intro v1 w1 hown1 hgr1 _)
        go_ret
        refine ⟨_, rfl, ?_, HX.out.push hown hgr1⟩
        have e : i.toNat = vs.length := by rw [HE.out, HL.out]; omega
        rw [e, inse_end]
        exact hown1
      · have hne : (i == (k : Int)) = false := by simpa using he
        rw [if_neg (by omega)] at hown
        have hm := hown.1
        rw [inse_len (by rw [HL.out]; omega), HL.out, Nat.mul_one] at hm
        subst hm
        clear he
        go_wp2
        go_ret
        exact ⟨_, rfl, hown, HX.out⟩

theorem without_any (A : Option Addr) (n c i : Nat) (xss : List (List Int)) (w : World) (h : Lists .u8 w A n xss) (hn : n ≤ 1000000) (hi : i < n) :
    Calls Try.prog 88 #[.slice A n c, .int .i64 (i : Int)] w (RetL w (dele xss i)) := by
  obtain ⟨vs, hv, hl, hat⟩ := h.lv
  refine (without_vals A n c i vs w hat hl hv.sls hn (by omega) (by omega)).mono ?_
  rintro e w' ⟨v, rfl, ho, hX⟩
  obtain ⟨A', c', rfl⟩ := own_slice ho
  rw [Int.toNat_natCast] at ho
  exact ⟨A', _, c', rfl, ((hv.ext hX).dele i).lists (by simpa using ho.1) (At.of_own ho), (own_cap ho).1, (own_cap ho).2, hX⟩
theorem with_any (A : Option Addr) (n c i : Nat) (k : Int) (hk : k = i) (x : Value) (xs : List Int) (xss : List (List Int)) (w : World) (h : Lists .u8 w A n xss) (hx : SlV .u8 w x xs) (hn : n ≤ 1000000) (hi : i ≤ n) :
    Calls Try.prog 89 #[.slice A n c, .int .i64 k, x] w (RetL w (inse xss i xs)) := by
  subst hk
  obtain ⟨vs, hv, hl, hat⟩ := h.lv
  obtain ⟨Ax, nx, cx, rfl, hx'⟩ := hx
  have hx : SlV .u8 w (.slice Ax nx cx) xs := ⟨Ax, nx, cx, rfl, hx'⟩
  refine (with_vals A n c i Ax nx cx vs w hat hl hv.sls hn (by omega) (by omega)).mono ?_
  rintro e w' ⟨v, rfl, ho, hX⟩
  obtain ⟨A', c', rfl⟩ := own_slice ho
  rw [Int.toNat_natCast] at ho
  exact ⟨A', _, c', rfl, ((hv.ext hX).inse (by rw [h.len]; exact hi) (hx.ext hX)).lists (by simpa using ho.1) (At.of_own ho), (own_cap ho).1, (own_cap ho).2, hX⟩

theorem lists_one {W : World} {v : Value} {xs : List Int} (h : SlV .u8 W v xs) : Lists .u8 (W.alloc (.cells #[v] 22)) (some ⟨W.heap.size, 0, none⟩) 1 [xs] :=
  ⟨rfl, [v], rfl, At.new W [v] _, fun j a zs ha hz => by
    match j with
    | 0 => simp at ha hz; subst ha hz; exact h.ext ((Ext.refl W).alloc _)
    | j + 1 => simp at ha⟩
theorem flat_one (xs : List Int) : [xs].flatten = xs := by simp
theorem joined_one (A : Option Addr) (n c : Nat) (xs : List Int) (w : World) (h : Ints .u8 w A n xs) (hnc : n ≤ c) (hcm : c ≤ 9223372036854775807) (hn : n ≤ 1000000) :
    Calls Try.prog 69 #[.slice (some ⟨w.heap.size, 0, none⟩) 1 1] (w.alloc (.cells #[.slice A n c] 22)) (RetB w xs) := by
  refine (joined_any _ 1 1 [xs] _ (lists_one ⟨A, n, c, rfl, h, hnc, hcm⟩) (by omega) (by rw [flat_one, h.1]; omega)).mono ?_
  rintro e w' ⟨A', n', c', rfl, ho, hX⟩
  rw [flat_one] at ho
  exact ⟨A', n', c', rfl, ho.mono (by simp), ((Ext.refl w).alloc _).trans hX⟩
theorem OwnS.slv {k : IntKind} {e : TypeId} {base : Nat} {w : World} {A : Option Addr} {n c : Nat} {xs : List Int} (h : OwnS k e base w A n c xs) : SlV k w (.slice A n c) xs := ⟨A, n, c, rfl, h.ints, h.cap.1, h.cap.2⟩
theorem held_eq (num : Int) (m : Nat) : min (max num 0) (m : Int) = ((held num m : Nat) : Int) := by
  show _ = ((min num.toNat m : Nat) : Int)
  omega
theorem run_cutH {P : Program} {w : World} {t e : TypeId} {size bytes : Nat} {z : Value} (E : Elem P t e size bytes z) (A : Option Addr) (n c : Nat) (k : IntKind) (m : Nat) (hm : m ≤ c) :
    (Instr.sliceAt t (.slice A n c) none (some (.int k (m : Int))) none).run P w = .ok (.slice A m c) w := by
  obtain ⟨i, hi, hz, hs, hby⟩ := E.info
  have e0 : A.map (·.add 0) = A := by cases A <;> simp [Addr.add]
  simp [Instr.sliceAt, Instr.slice, run_underlying E.und, Instr.sliceBounds, run_sliceBound, sizeOf, typeInfo, hi, hm, e0]
/-- The address of x[l:]. -/
def cutA (A : Option Addr) (c l size : Nat) : Option Addr := if c = l then A else A.map (·.add (l * size))
theorem own_slice' {w : World} {base : Nat} {e : TypeId} {size n : Nat} {v : Value} {vs : List Value} (h : w.ownsRow base e size v n vs) : ∃ A m c, m = n ∧ v = .slice A m c := by
  obtain ⟨A, c, rfl⟩ := own_slice h
  exact ⟨A, n, c, rfl, rfl⟩
theorem run_cutL {P : Program} {w : World} {t e : TypeId} {size bytes : Nat} {z : Value} (E : Elem P t e size bytes z) (A : Option Addr) (n c : Nat) (k : IntKind) (l : Nat) (L : Int) (hL : L = l) (hl : l ≤ n) :
    (Instr.sliceAt t (.slice A n c) (some (.int k L)) none none).run P w = .ok (.slice (cutA A c l size) (n - l) (c - l)) w := by
  subst hL
  unfold cutA
  obtain ⟨i, hi, hz, hs, hby⟩ := E.info
  simp [Instr.sliceAt, Instr.slice, run_underlying E.und, Instr.sliceBounds, run_sliceBound, sizeOf, typeInfo, hi, hs, hl]
theorem xor_u8 {y : Int} (hy : 0 ≤ y ∧ y ≤ 255) (r : Nat) (hr : r < 8) : bits .xor .u8 y ((2 ^ r : Nat) : Int) = ((y.toNat ^^^ 2 ^ r : Nat) : Int) := by
  obtain ⟨a, rfl⟩ := Int.eq_ofNat_of_zero_le hy.1
  have h2 : 2 ^ r < 2 ^ 8 := Nat.pow_lt_pow_right (by omega) hr
  have h3 : a ^^^ 2 ^ r < 2 ^ 8 := Nat.xor_lt_two_pow (by omega) h2
  show IntKind.u8.wrap ((BitVec.ofInt 8 (a : Int) ^^^ BitVec.ofInt 8 ((2 ^ r : Nat) : Int)).toNat : Int) = _
  rw [BitVec.toNat_xor, BitVec.ofInt_natCast, BitVec.ofInt_natCast, BitVec.toNat_ofNat, BitVec.toNat_ofNat, Nat.mod_eq_of_lt (by omega), Nat.mod_eq_of_lt h2, IntWalk.u8_in _ (by omega)]
  rfl
theorem own_block {w : World} {base : Nat} {e : TypeId} {size n c : Nat} {A : Option Addr} {vs : List Value} (h : w.ownsRow base e size (.slice A n c) n vs) (hn : 0 < n) : ∃ g, A = some ⟨g, 0, none⟩ ∧ base ≤ g ∧ g < w.heap.size := by
  rcases h.2 with ⟨hv, h0⟩ | ⟨g, cap, cur, hv, hb, hg, _⟩
  · omega
  · injection hv with hA
    exact ⟨g, hA, hb, (Array.getElem?_eq_some_iff.1 hg).1⟩
theorem getD_u8 {xs : List Int} (h : ∀ x ∈ xs, (Lit.int .u8 x).wf = true) {j : Nat} (hj : j < xs.length) : 0 ≤ xs.getD j 0 ∧ xs.getD j 0 ≤ 255 := by
  have := u8_bounds (h _ (List.getElem_mem hj))
  simpa [List.getD, List.getElem?_eq_getElem hj] using this
/-- The byte with one bit inverted. -/
def flipB (xs : List Int) (q : Nat) : Int := (((xs.getD (q / 8) 0).toNat ^^^ 2 ^ (q % 8) : Nat) : Int)
theorem flip_val {xs : List Int} {q q8 r : Nat} {p2 : Int} (h : ∀ x ∈ xs, (Lit.int .u8 x).wf = true) (hq : q8 < xs.length) (h8 : q / 8 = q8) (hr : q % 8 = r) (hp : ((2 ^ r : Nat) : Int) = p2) : bits .xor .u8 (xs.getD q8 0) p2 = flipB xs q := by
  subst h8 hr hp
  exact xor_u8 (getD_u8 h hq) _ (Nat.mod_lt _ (by omega))
theorem OwnS.flip {tb : TypeId} {base : Nat} {w : World} {g n c : Nat} {xs : List Int} (h : OwnS .u8 tb base w (some ⟨g, 0, none⟩) n c xs) {q q8 : Nat} (h8 : q / 8 = q8) :
    OwnS .u8 tb base (w.setCell ⟨g, q8, none⟩ (.int .u8 (flipB xs q))) (some ⟨g, 0, none⟩) n c (flipped xs q) := by
  subst h8
  refine ⟨?_, by rw [flipped_len]; exact h.len, flipped_wf _ h.wf⟩
  have := (h.own.stored (q / 8) (.int .u8 (flipB xs q))).1
  unfold flipped
  rw [List.map_set]
  exact this
theorem OwnS.cellB {tb : TypeId} {base : Nat} {w : World} {g n c : Nat} {xs : List Int} (h : OwnS .u8 tb base w (some ⟨g, 0, none⟩) n c xs) {j : Nat} (hj : j < n) : w.cell? ⟨g, j, none⟩ = some (.int .u8 (xs.getD j 0)) ∧ w.frozen? ⟨g, j, none⟩ = false := by
  refine ⟨?_, h.own.frozenAt j⟩
  rw [h.own.cellAt j (by omega), List.getElem?_map]
  have : j < xs.length := by rw [h.len]; exact hj
  simp [List.getD, List.getElem?_eq_getElem this]
end Go.Proofs.Ytekhmfliaojabaa
namespace Go.Proofs.Ytekhmfliaojabaa
open Go.RowKit

/-- A value that is a slice of bytes with a row of its own, which reads as 'xs'. -/
def BodyV (base : Nat) (w : World) (v : Value) (xs : List Int) : Prop := ∃ A n c, v = .slice A n c ∧ OwnS .u8 5 base w A n c xs
section
variable {base : Nat} {w w' : World} {v : Value} {xs : List Int} {vs : List Value} {xss : List (List Int)}
theorem BodyV.ext (h : BodyV base w v xs) (he : Ext w w') : BodyV base w' v xs := by obtain ⟨A, n, c, h1, h2⟩ := h; exact ⟨A, n, c, h1, h2.ext he⟩
theorem BodyV.mono {base' : Nat} (h : BodyV base w v xs) (hb : base' ≤ base) : BodyV base' w v xs := by obtain ⟨A, n, c, h1, h2⟩ := h; exact ⟨A, n, c, h1, h2.mono hb⟩
theorem BodyV.kept {te : TypeId} {base' size n : Nat} {v' : Value} {us : List Value} (h : BodyV base w v xs) (h' : w.ownsRow base' te size v' n us) (hne : 5 ≠ te) (hg : w.grownBy w' v'.ownBlock) : BodyV base w' v xs := by
  obtain ⟨A, n, c, h1, h2⟩ := h; exact ⟨A, n, c, h1, h2.kept h' hne hg⟩
theorem BodyV.slv (h : BodyV base w v xs) : SlV .u8 w v xs := by obtain ⟨A, n, c, rfl, h2⟩ := h; exact h2.slv
theorem BodyV.nil (base : Nat) (w : World) : BodyV base w (.slice none 0 0) [] := ⟨none, 0, 0, rfl, ⟨World.ownsRow_nil _ _ _ _, rfl, by simp⟩⟩
theorem bodies_lv (h : F2 (BodyV base w) vs xss) : LV w vs xss := ⟨h.len, fun j v xs a b => by
  obtain ⟨xs', h1, h2⟩ := h.get a
  rw [b] at h1
  injection h1 with h1
  subst h1
  exact h2.slv⟩
end

/-- The integers of a fault are integers of 64 bits. -/
def FltIn (f : Flt) : Prop := (-9223372036854775808 ≤ f.kind ∧ f.kind ≤ 9223372036854775807) ∧ (-9223372036854775808 ≤ f.place ∧ f.place ≤ 9223372036854775807) ∧ (-9223372036854775808 ≤ f.num ∧ f.num ≤ 9223372036854775807)
def FltC (cs : List Value) (f : Flt) : Prop := cs = [.int .i64 f.kind, .int .i64 f.place, .int .i64 f.num]
/-- A slice of faults reads as 'fs'. -/
def Flts (w : World) (A : Option Addr) (n : Nat) (fs : List Flt) : Prop := fs.length = n ∧ (∀ f ∈ fs, FltIn f) ∧ ∃ vs, CsR FltC vs fs ∧ At w A vs
section
variable {w w' : World} {A : Option Addr} {n : Nat} {fs : List Flt}
theorem Flts.ext (h : Flts w A n fs) (he : Ext w w') : Flts w' A n fs := by obtain ⟨h1, h2, vs, h3, h4⟩ := h; exact ⟨h1, h2, vs, h3, h4.ext he⟩
theorem Flts.nil (w : World) (A : Option Addr) : Flts w A 0 [] := ⟨rfl, by simp, [], CsR.nil, At.nil⟩
theorem Flts.get (h : Flts w A n fs) {j : Nat} (hj : j < n) : ∃ b off f, A = some ⟨b, off, none⟩ ∧ fs[j]? = some f ∧ FltIn f ∧ w.cell? ⟨b, off + j * 3, none⟩ = some (.int .i64 f.kind) ∧ w.cell? ⟨b, off + j * 3 + 1, none⟩ = some (.int .i64 f.place) ∧ w.cell? ⟨b, off + j * 3 + 2, none⟩ = some (.int .i64 f.num) := by
  obtain ⟨h1, h2, vs, h3, h4⟩ := h
  have hf : fs[j]? = some fs[j] := List.getElem?_eq_getElem (by omega)
  obtain ⟨cs, rfl, h5⟩ := h3.get (k := 3) (fun cs f h => by rw [h]; rfl) hf
  obtain ⟨b, off, hA, hc⟩ := h4 (by intro e; subst e; have := h5 0 _ rfl; simp at this)
  refine ⟨b, off, _, hA, hf, h2 _ (List.getElem_mem (by omega)), hc _ _ (h5 0 _ rfl), ?_, ?_⟩
  · rw [Nat.add_assoc]; exact hc _ _ (h5 1 _ rfl)
  · rw [Nat.add_assoc]; exact hc _ _ (h5 2 _ rfl)
end
end Go.Proofs.Ytekhmfliaojabaa
namespace Go.Proofs.Ytekhmfliaojabaa

def toI (v : BitVec 32) : Int := v.toNat
def byteV (x : Int) : BitVec 32 := BitVec.ofNat 32 x.toNat
/-- One round of the program. -/
def rnd (v : BitVec 32) : BitVec 32 := if v &&& 1#32 = 1#32 then (v >>> 1) ^^^ 0xedb88320#32 else v >>> 1
def rnds : Nat → BitVec 32 → BitVec 32
  | 0, v => v
  | n + 1, v => rnds n (rnd v)
def crcByte (v : BitVec 32) (x : Int) : BitVec 32 := rnds 8 (v ^^^ byteV x)
def crcL (v : BitVec 32) (xs : List Int) : BitVec 32 := xs.foldl crcByte v
/-- The checksum. -/
def crc (xs : List Int) : Int := toI (~~~ crcL 0xffffffff#32 xs)
end Go.Proofs.Ytekhmfliaojabaa
namespace Go.Proofs.Ytekhmfliaojabaa
open Go.RowKit

/-- The number that bytes denote, the most significant one first. -/
def bigN (xs : List Int) : Int := xs.foldl (fun n x => n * 256 + x) 0
end Go.Proofs.Ytekhmfliaojabaa
namespace Go.Proofs.Ytekhmfliaojabaa
open Go.RowKit

/-- A frame. -/
structure Fr where
  stream : Int
  seq : Int
  body : List Int
def fr0 : Fr := ⟨0, 0, []⟩

def szN (xs : List Int) : Nat := (xs.getD 6 0 * 256 + xs.getD 7 0).toNat
/-- What Unpack returns: the frame, the number of bytes, the error. -/
def unp (xs : List Int) : Fr × Int × Int :=
  if xs.length = 0 then (fr0, 0, 21)
  else if xs.getD 0 0 ≠ 165 then (fr0, 0, 22)
  else if xs.length < 8 then (fr0, 0, 21)
  else if 1024 < szN xs then (fr0, 0, 23)
  else if xs.length < 12 + szN xs then (fr0, 0, 21)
  else if bigN ((xs.drop (8 + szN xs)).take 4) ≠ crc (xs.take (8 + szN xs)) then (fr0, 0, 24)
  else (⟨xs.getD 1 0, bigN ((xs.drop 2).take 4), (xs.take (8 + szN xs)).drop 8⟩, 12 + (szN xs : Int), 0)

section
variable {xs : List Int}
theorem unp_none (h : xs.length = 0) : unp xs = (fr0, 0, 21) := by simp [unp, h]
theorem unp_mark (h : xs.length ≠ 0) (h1 : xs.getD 0 0 ≠ 165) : unp xs = (fr0, 0, 22) := by unfold unp; rw [if_neg h, if_pos h1]
theorem unp_short (h : xs.length ≠ 0) (h1 : xs.getD 0 0 = 165) (h2 : xs.length < 8) : unp xs = (fr0, 0, 21) := by
  unfold unp; rw [if_neg h, if_neg (by omega), if_pos h2]
theorem unp_long (h1 : xs.getD 0 0 = 165) (h2 : 8 ≤ xs.length) (h3 : 1024 < szN xs) : unp xs = (fr0, 0, 23) := by
  unfold unp; rw [if_neg (by omega), if_neg (by omega), if_neg (by omega), if_pos h3]
theorem unp_cut (h1 : xs.getD 0 0 = 165) (h2 : 8 ≤ xs.length) (h3 : szN xs ≤ 1024) (h4 : xs.length < 12 + szN xs) : unp xs = (fr0, 0, 21) := by
  unfold unp; rw [if_neg (by omega), if_neg (by omega), if_neg (by omega), if_neg (by omega), if_pos h4]
theorem unp_sum (h1 : xs.getD 0 0 = 165) (h3 : szN xs ≤ 1024) (h4 : 12 + szN xs ≤ xs.length) (h5 : bigN ((xs.drop (8 + szN xs)).take 4) ≠ crc (xs.take (8 + szN xs))) : unp xs = (fr0, 0, 24) := by
  unfold unp; rw [if_neg (by omega), if_neg (by omega), if_neg (by omega), if_neg (by omega), if_neg (by omega), if_pos h5]
theorem unp_ok (h1 : xs.getD 0 0 = 165) (h3 : szN xs ≤ 1024) (h4 : 12 + szN xs ≤ xs.length) (h5 : bigN ((xs.drop (8 + szN xs)).take 4) = crc (xs.take (8 + szN xs))) :
    unp xs = (⟨xs.getD 1 0, bigN ((xs.drop 2).take 4), (xs.take (8 + szN xs)).drop 8⟩, 12 + (szN xs : Int), 0) := by
  unfold unp; rw [if_neg (by omega), if_neg (by omega), if_neg (by omega), if_neg (by omega), if_neg (by omega), if_neg (by omega)]
end

end Go.Proofs.Ytekhmfliaojabaa
namespace Go.Proofs.Ytekhmfliaojabaa
open Go.RowKit

def FrOk (f : Fr) : Prop := 0 ≤ f.stream ∧ f.stream ≤ 255 ∧ 0 ≤ f.seq ∧ f.seq ≤ 4294967295 ∧ f.body.length ≤ 1024
instance (f : Fr) : Decidable (FrOk f) := inferInstanceAs (Decidable (_ ∧ _))

end Go.Proofs.Ytekhmfliaojabaa
namespace Go.Proofs.Ytekhmfliaojabaa
open Go.RowKit

/-- What a reading without an error says of the bytes. -/
theorem unp_good {xs : List Int} (h : (unp xs).2.2 = 0) : szN xs ≤ 1024 ∧ 12 + szN xs ≤ xs.length ∧ bigN ((xs.drop (8 + szN xs)).take 4) = crc (xs.take (8 + szN xs)) ∧ (unp xs).1.body = (xs.take (8 + szN xs)).drop 8 := by
  by_cases h0 : xs.length = 0
  · rw [unp_none h0] at h; simp at h
  by_cases h1 : xs.getD 0 0 = 165
  · by_cases h2 : xs.length < 8
    · rw [unp_short h0 h1 h2] at h; simp at h
    · by_cases h3 : 1024 < szN xs
      · rw [unp_long h1 (by omega) h3] at h; simp at h
      · by_cases h4 : xs.length < 12 + szN xs
        · rw [unp_cut h1 (by omega) (by omega) h4] at h; simp at h
        · by_cases h5 : bigN ((xs.drop (8 + szN xs)).take 4) = crc (xs.take (8 + szN xs))
          · rw [unp_ok h1 (by omega) (by omega) h5]
            exact ⟨by omega, by omega, h5, rfl⟩
          · rw [unp_sum h1 (by omega) (by omega) h5] at h; simp at h
  · rw [unp_mark h0 h1] at h; simp at h

end Go.Proofs.Ytekhmfliaojabaa
namespace Go.Proofs.Ytekhmfliaojabaa
open Go.RowKit

/-- What goes before what is found behind it. -/
def preS (fs : List Fr) (s : Nat) (r : List Fr × Nat × Nat) : List Fr × Nat × Nat := (fs ++ r.1, s + r.2.1, r.2.2)
theorem preS_preS (fs gs : List Fr) (s t : Nat) (r : List Fr × Nat × Nat) : preS fs s (preS gs t r) = preS (fs ++ gs) (s + t) r := by
  simp [preS, Nat.add_assoc]
def scn : Nat → List Int → List Fr × Nat × Nat
  | 0, xs => ([], 0, xs.length)
  | f + 1, xs => if (unp xs).2.2 = 21 then ([], 0, xs.length) else if (unp xs).2.2 = 0 then preS [(unp xs).1] 0 (scn f (xs.drop (12 + szN xs))) else preS [] 1 (scn f (xs.drop 1))

/-- What Scan finds: the frames, how many bytes were skipped, how many are left. -/
def scan (xs : List Int) : List Fr × Nat × Nat := scn xs.length xs

theorem unp_nil : unp [] = (fr0, 0, 21) := unp_none rfl

theorem scn_more : ∀ (f : Nat) (xs : List Int), xs.length ≤ f → scn f xs = scn xs.length xs := by
  intro f
  induction f using Nat.strongRecOn with
  | _ f ih =>
    intro xs hl
    rcases Nat.eq_or_lt_of_le hl with h | h
    · rw [h]
    · cases f with
      | zero => omega
      | succ f =>
        cases hx : xs.length with
        | zero =>
          obtain rfl : xs = [] := List.eq_nil_of_length_eq_zero hx
          simp [scn, unp_nil]
        | succ m =>
          simp only [scn]
          have h1 : scn f (xs.drop 1) = scn m (xs.drop 1) := by
            rw [ih f (by omega) (xs.drop 1) (by simp; omega)]
            rw [show (xs.drop 1).length = m by simp; omega]
          by_cases he : (unp xs).2.2 = 0
          · have hg := unp_good he
            have h2 : scn f (xs.drop (12 + szN xs)) = scn m (xs.drop (12 + szN xs)) := by
              rw [ih f (by omega) _ (by simp; omega), ← ih m (by omega) _ (by simp; omega)]
            rw [h2]; simp [he]
          · rw [h1]; simp only [he, if_false]

theorem scan_short {xs : List Int} (h : (unp xs).2.2 = 21) : scan xs = ([], 0, xs.length) := by
  unfold scan
  cases hx : xs.length with
  | zero => simp [scn, hx]
  | succ m => simp [scn, h, hx]
theorem scan_ok {xs : List Int} (h : (unp xs).2.2 = 0) : scan xs = preS [(unp xs).1] 0 (scan (xs.drop (12 + szN xs))) := by
  have hg := unp_good h
  unfold scan
  cases hx : xs.length with
  | zero => omega
  | succ m =>
    simp only [scn, h]
    rw [scn_more m _ (by simp; omega)]
    simp
theorem scan_skip {xs : List Int} (h0 : (unp xs).2.2 ≠ 0) (h1 : (unp xs).2.2 ≠ 21) : scan xs = preS [] 1 (scan (xs.drop 1)) := by
  unfold scan
  cases hx : xs.length with
  | zero =>
    obtain rfl : xs = [] := List.eq_nil_of_length_eq_zero hx
    rw [unp_nil] at h1; simp at h1
  | succ m =>
    simp only [scn, h0, h1, if_false]
    rw [scn_more m _ (by simp; omega), show (xs.drop 1).length = m by simp; omega]

/-- Where a scan stands: at place k, the frames fs were found and s bytes were skipped. -/
def ScanAt (xs : List Int) (k : Nat) (fs : List Fr) (s : Nat) : Prop := k ≤ xs.length ∧ scan xs = preS fs s (scan (xs.drop k))
theorem ScanAt.start (xs : List Int) : ScanAt xs 0 [] 0 := ⟨by omega, by simp [preS]⟩
theorem ScanAt.done {xs : List Int} {k s : Nat} {fs : List Fr} (h : ScanAt xs k fs s) (he : (unp (xs.drop k)).2.2 = 21) : scan xs = (fs, s, xs.length - k) := by
  rw [h.2, scan_short he]; simp [preS]
theorem ScanAt.found {xs : List Int} {k s : Nat} {fs : List Fr} (h : ScanAt xs k fs s) (he : (unp (xs.drop k)).2.2 = 0) : ScanAt xs (k + (12 + szN (xs.drop k))) (fs ++ [(unp (xs.drop k)).1]) s := by
  have hg := unp_good he
  refine ⟨by have := h.1; simp at hg; omega, ?_⟩
  rw [h.2, scan_ok he, preS_preS, List.drop_drop]; simp
theorem ScanAt.skip {xs : List Int} {k s : Nat} {fs : List Fr} (h : ScanAt xs k fs s) (h0 : (unp (xs.drop k)).2.2 ≠ 0) (h1 : (unp (xs.drop k)).2.2 ≠ 21) : ScanAt xs (k + 1) fs (s + 1) := by
  have hk : k < xs.length := by
    rcases Nat.lt_or_ge k xs.length with hk | hk
    · exact hk
    · rw [List.drop_eq_nil_of_le hk, unp_nil] at h1; simp at h1
  refine ⟨by omega, ?_⟩
  rw [h.2, scan_skip h0 h1, preS_preS, List.drop_drop]; simp

/-- Three cells that hold a frame. -/
def FrC (w : World) (cs : List Value) (f : Fr) : Prop := ∃ A n c, cs = [.int .i64 f.stream, .int .i64 f.seq, .slice A n c] ∧ Ints .u8 w A n f.body ∧ n ≤ c ∧ c ≤ 9223372036854775807
/-- Three cells that hold a frame whose bytes lie in a row of their own. -/
def FrO (base : Nat) (w : World) (cs : List Value) (f : Fr) : Prop := ∃ A n c, cs = [.int .i64 f.stream, .int .i64 f.seq, .slice A n c] ∧ OwnS .u8 5 base w A n c f.body
section
variable {w w' : World} {base : Nat} {cs : List Value} {f : Fr}
theorem FrC.ext (h : FrC w cs f) (he : Ext w w') : FrC w' cs f := by
  obtain ⟨A, n, c, h1, h2, h3⟩ := h
  exact ⟨A, n, c, h1, h2.ext he, h3⟩
theorem FrC.len (h : FrC w cs f) : cs.length = 3 := by
  obtain ⟨A, n, c, rfl, _⟩ := h; rfl
theorem FrC.one (h : FrC w cs f) : ∀ u ∈ cs, u.oneCell' = true := by
  obtain ⟨A, n, c, rfl, _⟩ := h
  simp [Value.oneCell']
theorem FrO.ext (h : FrO base w cs f) (he : Ext w w') : FrO base w' cs f := by
  obtain ⟨A, n, c, h1, h2⟩ := h
  exact ⟨A, n, c, h1, h2.ext he⟩
theorem FrO.kept {base' size' n' : Nat} {e' : TypeId} {v' : Value} {vs' : List Value} (h : FrO base w cs f) (h' : w.ownsRow base' e' size' v' n' vs') (hne : 5 ≠ e') (hg : w.grownBy w' v'.ownBlock) : FrO base w' cs f := by
  obtain ⟨A, n, c, h1, h2⟩ := h
  exact ⟨A, n, c, h1, h2.kept h' hne hg⟩
end
/-- A slice of frames reads as 'fs'. -/
def Frs (w : World) (A : Option Addr) (n : Nat) (fs : List Fr) : Prop := fs.length = n ∧ ∃ vs, CsR (FrC w) vs fs ∧ At w A vs
theorem Frs.ext {w w' : World} {A : Option Addr} {n : Nat} {fs : List Fr} (h : Frs w A n fs) (he : Ext w w') : Frs w' A n fs := by
  obtain ⟨h1, vs, h2, h3⟩ := h
  exact ⟨h1, vs, h2.imp fun _ _ h => h.ext he, h3.ext he⟩
theorem Frs.get {w : World} {A : Option Addr} {n : Nat} {fs : List Fr} (h : Frs w A n fs) {j : Nat} (hj : j < n) : ∃ b off f A' n' c', A = some ⟨b, off, none⟩ ∧ fs[j]? = some f ∧ w.cell? ⟨b, off + j * 3, none⟩ = some (.int .i64 f.stream) ∧ w.cell? ⟨b, off + j * 3 + 1, none⟩ = some (.int .i64 f.seq) ∧ w.cell? ⟨b, off + j * 3 + 2, none⟩ = some (.slice A' n' c') ∧ Ints .u8 w A' n' f.body ∧ n' ≤ c' ∧ c' ≤ 9223372036854775807 := by
  obtain ⟨h1, vs, h2, h3⟩ := h
  have hf : fs[j]? = some fs[j] := List.getElem?_eq_getElem (by omega)
  obtain ⟨cs, ⟨A', n', c', rfl, h4⟩, h5⟩ := h2.get (fun _ _ h => h.len) hf
  obtain ⟨b, off, hA, hc⟩ := h3 (by intro e; subst e; have := h5 0 _ rfl; simp at this)
  refine ⟨b, off, _, A', n', c', hA, hf, hc _ _ (h5 0 _ rfl), ?_, ?_, h4⟩
  · rw [Nat.add_assoc]; exact hc _ _ (h5 1 _ rfl)
  · rw [Nat.add_assoc]; exact hc _ _ (h5 2 _ rfl)
end Go.Proofs.Ytekhmfliaojabaa
namespace Go.Proofs.Ytekhmfliaojabaa
open Go.ChangeShapes Go.WideShapes Go.ChangeAt Go.RowKit Go.Joins

theorem listN3 {α : Type} {cs : List α} (h : cs.length = 3) : ∃ c0 c1 c2, cs = [c0, c1, c2] := by
  match cs, h with
  | [c0, c1, c2], _ => exact ⟨c0, c1, c2, rfl⟩
/-- The cells of a value of type Fault. -/
def FaultE (W : World) (cs : List Value) (f : Int × Int × Int) : Prop := cs = [.int .i64 f.1, .int .i64 f.2.1, .int .i64 f.2.2] ∧ (-9223372036854775808 ≤ f.1 ∧ f.1 ≤ 9223372036854775807) ∧ (-9223372036854775808 ≤ f.2.1 ∧ f.2.1 ≤ 9223372036854775807) ∧ (-9223372036854775808 ≤ f.2.2 ∧ f.2.2 ≤ 9223372036854775807)
set_option maxRecDepth 100000 in
set_option maxHeartbeats 1000000 in
theorem fault_el {W : World} {H : Type} {enc : TypeId × Value → H} {fuel : Nat} {cs : List Value} {z : DataW H × List MemPlace} {b : Nat} {sp : Nat → Bool} {hd : Bool}
    (hl : cs.length = 3) (hf' : DataW.trod enc Try.prog W b sp hd fuel 114 cs = some z) : ∃ f, FaultE W cs f := by
  obtain ⟨c0, c1, c2, rfl⟩ := listN3 hl
  obtain ⟨xs1, n1, _, _, _, hl1, hg1⟩ := DataW.trod_struct Try.underlying114 hf'
  have g1_0 : DataW.trod enc Try.prog W b sp hd n1 3 [c0] = xs1[0]? := by
    have h := hg1 0 _ rfl
    rw [show Try.prog.cellsOf _ = 1 by kernel_rfl] at h
    exact h
  rw [List.getElem?_eq_getElem (by rw [hl1]; decide)] at g1_0
  obtain ⟨vc0, ec0, _, wc0⟩ := DataW.trod_int Try.underlying3 g1_0
  simp only [List.cons.injEq, and_true] at ec0
  subst ec0
  have g1_1 : DataW.trod enc Try.prog W b sp hd n1 3 [c1] = xs1[1]? := by
    have h := hg1 1 _ rfl
    rw [show Try.prog.cellsOf _ = 1 by kernel_rfl] at h
    exact h
  rw [List.getElem?_eq_getElem (by rw [hl1]; decide)] at g1_1
  obtain ⟨vc1, ec1, _, wc1⟩ := DataW.trod_int Try.underlying3 g1_1
  simp only [List.cons.injEq, and_true] at ec1
  subst ec1
  have g1_2 : DataW.trod enc Try.prog W b sp hd n1 3 [c2] = xs1[2]? := by
    have h := hg1 2 _ rfl
    rw [show Try.prog.cellsOf _ = 1 by kernel_rfl] at h
    exact h
  rw [List.getElem?_eq_getElem (by rw [hl1]; decide)] at g1_2
  obtain ⟨vc2, ec2, _, wc2⟩ := DataW.trod_int Try.underlying3 g1_2
  simp only [List.cons.injEq, and_true] at ec2
  subst ec2
  exact ⟨(vc0, vc1, vc2), rfl, i64_bounds wc0, i64_bounds wc1, i64_bounds wc2⟩

/-- A slice of byte strings that came in. -/
theorem lists_open {W : World} {H : Type} {enc : TypeId × Value → H} {a : Option Addr} {len cap : Nat} {d : DataW H} {p : List MemPlace} {b : Nat} {sp : Nat → Bool} {hd : Bool}
    (h : DataW.Trod enc Try.prog W b sp hd 32 (.slice a len cap) d p) : ∃ xss, Lists .u8 W a len xss ∧ len ≤ cap ∧ cap ≤ 9223372036854775807 := by
  obtain ⟨fuel, hf⟩ := h
  obtain ⟨xss, vs, h1, h2, h3, h4, h5⟩ := slice_trod (k := 1) (R := fun cs xs => ∃ v, cs = [v] ∧ SlV .u8 W v xs) Try.underlying32 (by kernel_rfl) (fun cs x h => by obtain ⟨v, rfl, _⟩ := h; rfl) (fun fuel cs z hl hz => by
    obtain ⟨A, n, c, rfl⟩ := slice_form Try.underlying22 hz
    obtain ⟨xs, hI, h1, h2⟩ := ints_trod Try.underlying22 Try.underlying5 (by kernel_rfl) hz
    exact ⟨xs, _, rfl, A, n, c, rfl, hI, h1, h2⟩) hf
  have hvl := h2.len (k := 1) (fun cs x h => by obtain ⟨v, rfl, _⟩ := h; rfl)
  refine ⟨xss, ⟨h1, vs, by omega, h3, fun j v xs hv hx => ?_⟩, h4, h5⟩
  obtain ⟨cs, ⟨v', rfl, hs⟩, hg⟩ := h2.get (k := 1) (fun cs x h => by obtain ⟨v, rfl, _⟩ := h; rfl) hx
  have := hg 0 v' rfl
  rw [Nat.mul_one, Nat.add_zero, hv] at this
  exact (Option.some.inj this) ▸ hs
theorem flts_open {W : World} {H : Type} {enc : TypeId × Value → H} {a : Option Addr} {len cap : Nat} {fuel : Nat} {y : DataW H × List MemPlace} {b : Nat} {sp : Nat → Bool} {hd : Bool}
    (hf : DataW.trod enc Try.prog W b sp hd fuel 33 [.slice a len cap] = some y) : ∃ fs, Flts W a len fs ∧ len ≤ cap ∧ cap ≤ 9223372036854775807 := by
  obtain ⟨xs, vs, h1, h2, h3, h4, h5⟩ := slice_trod (k := 3) (R := fun cs f => FltC cs f ∧ FltIn f) Try.underlying33 (by kernel_rfl) (fun cs x h => by rw [h.1]; rfl) (fun fuel cs z hl hz => by
    obtain ⟨f, h1, h2, h3, h4⟩ := fault_el hl hz
    exact ⟨⟨f.1, f.2.1, f.2.2⟩, h1, h2, h3, h4⟩) hf
  have hin : ∀ (vs : List Value) (fs : List Flt), CsR (fun cs f => FltC cs f ∧ FltIn f) vs fs → ∀ f ∈ fs, FltIn f := by
    intro vs fs
    induction fs generalizing vs with
    | nil => simp
    | cons f fs ih =>
      rintro ⟨cs, rest, rfl, ⟨_, h⟩, hr⟩ g hg
      rcases List.mem_cons.1 hg with rfl | hg
      · exact h
      · exact ih _ hr g hg
  exact ⟨xs, ⟨h1, hin vs xs h2, vs, h2.imp fun _ _ h => h.1, h3⟩, h4, h5⟩
end Go.Proofs.Ytekhmfliaojabaa
namespace Go.Proofs.Ytekhmfliaojabaa
open Go.RowKit

set_option maxRecDepth 100000 in
set_option maxHeartbeats 2000000 in
theorem fault_r8 (gf : Nat) (A : Option Addr) (n c z : Nat) (num : Int) (xss : List (List Int)) (A5 : Option Addr) (n5 c5 : Nat) (xs : List Int) (w : World) (f1 : w.cell? ⟨gf, 1, none⟩ = some (.int .i64 (z : Int))) (f2 : w.cell? ⟨gf, 2, none⟩ = some (.int .i64 num)) (hL : Lists .u8 w A n xss) (hn : n ≤ 1000000) (hi : z < n) (hI : Ints .u8 w A5 n5 xs) (hc1 : n5 ≤ c5) (hc2 : c5 ≤ 9223372036854775807) (h5 : n5 ≤ 1000000) (a : Act) (Q : Exit → Act → World → Prop) (hsize : 40 ≤ a.tmps.size)
    (s0 : a.tmps[0]? = some (.slice A n c))
    (s3 : a.tmps[3]? = some (.pointer (some ⟨gf, 0, none⟩)))
    (s5 : a.tmps[5]? = some (.slice A5 n5 c5))
    (hend : ∀ (xv0 xv1 xv2 xv3 xv4 xv5 xv6 : Value) (W : World), (xv0 = .slice A n c) → (xv1 = .pointer (some ⟨gf, 1, none⟩)) → (xv2 = .int .i64 (z : Int)) → (xv3 = .int .i64 ((z : Int) + 1)) → (xv4 = .slice A5 n5 c5) → (∃ A', xv5 = .slice A' 1 1 ∧ Lists .u8 W A' 1 [xs]) → (SlV .u8 W xv6 (xs)) → Ext w W → wpList Try.prog (rops Try.f71 8).toArray Q ((rops Try.f71 8).drop 7) (((((((a.put (some 33) xv0).put (some 34) xv1).put (some 35) xv2).put (some 36) xv3).put (some 37) xv4).put (some 38) xv5).put (some 39) xv6) W) :
    (Code.region 8 (rops Try.f71 8).toArray true).wp Try.prog Q a w := by
  have hmono : ∀ (W W' : World) (j : Nat) (u : Value), Ext W W' → (fun (i : Nat) (v : Value) (W : World) => match i with
    | 0 => v = .slice A n c
    | 1 => v = .pointer (some ⟨gf, 1, none⟩)
    | 2 => v = .int .i64 (z : Int)
    | 3 => v = .int .i64 ((z : Int) + 1)
    | 4 => v = .slice A5 n5 c5
    | 5 => ∃ A', v = .slice A' 1 1 ∧ Lists .u8 W A' 1 [xs]
    | 6 => SlV .u8 W v (xs)
    | _ => True) j u W → (fun (i : Nat) (v : Value) (W : World) => match i with
    | 0 => v = .slice A n c
    | 1 => v = .pointer (some ⟨gf, 1, none⟩)
    | 2 => v = .int .i64 (z : Int)
    | 3 => v = .int .i64 ((z : Int) + 1)
    | 4 => v = .slice A5 n5 c5
    | 5 => ∃ A', v = .slice A' 1 1 ∧ Lists .u8 W A' 1 [xs]
    | 6 => SlV .u8 W v (xs)
    | _ => True) j u W' := by
    intro W W' j u hX h
    match j, h with
    | 0, h => exact h
    | 1, h => exact h
    | 2, h => exact h
    | 3, h => exact h
    | 4, h => exact h
    | 5, h => obtain ⟨A', h1, h2⟩ := h; exact ⟨A', h1, h2.ext hX⟩
    | 6, h => exact SlV.ext h hX
    | _ + 7, h => exact h
  have hsz : ∀ d, some d ∈ ([some 33, some 34, some 35, some 36, some 37, some 38, some 39] : List (Option Tmp)) → d < a.tmps.size := slots_lt (by decide) hsize
  refine wp_region_j 7 [some 33, some 34, some 35, some 36, some 37, some 38, some 39] [[], [], [1], [2], [], [4], [5]] [[], [], [], [], [], [], []] (fun (i : Nat) (v : Value) (W : World) => match i with
    | 0 => v = .slice A n c
    | 1 => v = .pointer (some ⟨gf, 1, none⟩)
    | 2 => v = .int .i64 (z : Int)
    | 3 => v = .int .i64 ((z : Int) + 1)
    | 4 => v = .slice A5 n5 c5
    | 5 => ∃ A', v = .slice A' 1 1 ∧ Lists .u8 W A' 1 [xs]
    | 6 => SlV .u8 W v (xs)
    | _ => True) (fun _ W => Ext w W) (by kernel_rfl) (by kernel_rfl) hsz (fun _ _ _ _ h => h) ((Ext.refl w).drew) ?_ ?_
  · clear hend
    simp only [rops, Try.f71, regOf, Option.bind_some, Nat.reduceBEq, if_true, if_false, Bool.false_eq_true, Option.getD_some]
    simp only [List.take_succ_cons, List.take_zero]
    refine ⟨?_, ?_, ?_, ?_, ?_, ?_, ?_, trivial⟩
    · intro done us W hJ hdep haft hnot b hb hb' K hK Q'
      have e0 := (hb' 0 (by simp)).trans s0
      clear hb hb'
      go_simp
      exact hK _ _ rfl (fun _ _ _ h => h) hJ
    · intro done us W hJ hdep haft hnot b hb hb' K hK Q'
      have e3 := (hb' 3 (by simp)).trans s3
      clear hb hb'
      go_simp
      exact hK _ _ rfl (fun _ _ _ h => h) hJ
    · intro done us W hJ hdep haft hnot b hb hb' K hK Q'
      simp only [List.getD_cons_succ, List.getD_cons_zero, List.mem_cons, List.not_mem_nil, or_false, forall_eq_or_imp, forall_eq] at hdep
      have e34 := hb 1 34 rfl
      have d1 := hdep
      rw [d1.1] at e34
      clear hb hb' hdep d1
      have q := Ext.cell hJ f1
      go_simp
      exact hK _ _ rfl (fun _ _ _ h => h) hJ
    · intro done us W hJ hdep haft hnot b hb hb' K hK Q'
      simp only [List.getD_cons_succ, List.getD_cons_zero, List.mem_cons, List.not_mem_nil, or_false, forall_eq_or_imp, forall_eq] at hdep
      have e35 := hb 2 35 rfl
      have d2 := hdep
      rw [d2.1] at e35
      clear hb hb' hdep d2
      have qw : IntKind.i64.wrap ((z : Int) + 1) = (z : Int) + 1 := IntWalk.i64_in _ (by omega)
      go_simp
      exact hK _ _ (by first | rfl | (congr 1; omega) | (congr 1; split <;> omega)) (fun _ _ _ h => h) hJ
    · intro done us W hJ hdep haft hnot b hb hb' K hK Q'
      have e5 := (hb' 5 (by simp)).trans s5
      clear hb hb'
      go_simp
      exact hK _ _ rfl (fun _ _ _ h => h) hJ
    · intro done us W hJ hdep haft hnot b hb hb' K hK Q'
      simp only [List.getD_cons_succ, List.getD_cons_zero, List.mem_cons, List.not_mem_nil, or_false, forall_eq_or_imp, forall_eq] at hdep
      have e37 := hb 4 37 rfl
      have d4 := hdep
      rw [d4.1] at e37
      clear hb hb' hdep d4
      have hl1 := lists_one (W := W) (v := .slice A5 n5 c5) (xs := xs) (⟨A5, n5, c5, rfl, hI.ext hJ, hc1, hc2⟩)
      go_simp
      exact hK _ _ ⟨_, rfl, hl1⟩ (fun j u _ h => hmono _ _ j u ((Ext.refl _).alloc _) h) (Ext.alloc hJ _)
    · intro done us W hJ hdep haft hnot b hb hb' K hK Q'
      simp only [List.getD_cons_succ, List.getD_cons_zero, List.mem_cons, List.not_mem_nil, or_false, forall_eq_or_imp, forall_eq] at hdep
      have e38 := hb 5 38 rfl
      have d5 := hdep
      clear hb hb' hdep 
      obtain ⟨A', e', hl⟩ := d5.1
      rw [e'] at e38
      go_simp
      refine (joined_any A' 1 1 _ W hl (by omega) (by rw [flat_one]; exact by rw [hI.1]; omega)).mono ?_
      rintro e w' ⟨A2, n2, c2, rfl, ho, hX⟩
      rw [flat_one] at ho
      exact hK _ _ ho.slv (fun j u _ h => hmono _ _ j u hX h) (Ext.trans hJ hX)
  · intro us W hV hJ
    exact hend (us 0) (us 1) (us 2) (us 3) (us 4) (us 5) (us 6) W (hV 0 (by omega)) (hV 1 (by omega)) (hV 2 (by omega)) (hV 3 (by omega)) (hV 4 (by omega)) (hV 5 (by omega)) (hV 6 (by omega)) hJ
set_option maxRecDepth 100000 in
set_option maxHeartbeats 2000000 in
theorem fault_r10 (gf : Nat) (A : Option Addr) (n c z : Nat) (num : Int) (xss : List (List Int)) (A5 : Option Addr) (n5 c5 : Nat) (xs : List Int) (w : World) (f1 : w.cell? ⟨gf, 1, none⟩ = some (.int .i64 (z : Int))) (f2 : w.cell? ⟨gf, 2, none⟩ = some (.int .i64 num)) (hL : Lists .u8 w A n xss) (hn : n ≤ 1000000) (hi : z < n) (hI : Ints .u8 w A5 n5 xs) (hc1 : n5 ≤ c5) (hc2 : c5 ≤ 9223372036854775807) (h5 : n5 ≤ 1000000) (a : Act) (Q : Exit → Act → World → Prop) (hsize : 55 ≤ a.tmps.size)
    (s0 : a.tmps[0]? = some (.slice A n c))
    (s3 : a.tmps[3]? = some (.pointer (some ⟨gf, 0, none⟩)))
    (s5 : a.tmps[5]? = some (.slice A5 n5 c5))
    (hend : ∀ (xv0 xv1 xv2 xv3 xv4 xv5 xv6 xv7 xv8 xv9 xv10 xv11 : Value) (W : World), (xv0 = .slice A n c) → (xv1 = .pointer (some ⟨gf, 1, none⟩)) → (xv2 = .int .i64 (z : Int)) → (∃ A' n' c', xv3 = .slice A' n' c' ∧ Lists .u8 W A' n' (dele xss z)) → (xv4 = .pointer (some ⟨gf, 2, none⟩)) → (xv5 = .int .i64 num) → (xv6 = .int .i64 (max num 0)) → (xv7 = .slice A n c) → (xv8 = .int .i64 (n : Int)) → (xv9 = .int .i64 ((n : Int) - 1)) → (xv10 = .int .i64 (held num (n - 1) : Nat)) → (xv11 = .slice A5 n5 c5) → Ext w W → wpList Try.prog (rops Try.f71 10).toArray Q ((rops Try.f71 10).drop 12) ((((((((((((a.put (some 43) xv0).put (some 44) xv1).put (some 45) xv2).put (some 46) xv3).put (some 47) xv4).put (some 48) xv5).put (some 49) xv6).put (some 50) xv7).put (some 51) xv8).put (some 52) xv9).put (some 53) xv10).put (some 54) xv11) W) :
    (Code.region 10 (rops Try.f71 10).toArray true).wp Try.prog Q a w := by
  have hmono : ∀ (W W' : World) (j : Nat) (u : Value), Ext W W' → (fun (i : Nat) (v : Value) (W : World) => match i with
    | 0 => v = .slice A n c
    | 1 => v = .pointer (some ⟨gf, 1, none⟩)
    | 2 => v = .int .i64 (z : Int)
    | 3 => ∃ A' n' c', v = .slice A' n' c' ∧ Lists .u8 W A' n' (dele xss z)
    | 4 => v = .pointer (some ⟨gf, 2, none⟩)
    | 5 => v = .int .i64 num
    | 6 => v = .int .i64 (max num 0)
    | 7 => v = .slice A n c
    | 8 => v = .int .i64 (n : Int)
    | 9 => v = .int .i64 ((n : Int) - 1)
    | 10 => v = .int .i64 (held num (n - 1) : Nat)
    | 11 => v = .slice A5 n5 c5
    | _ => True) j u W → (fun (i : Nat) (v : Value) (W : World) => match i with
    | 0 => v = .slice A n c
    | 1 => v = .pointer (some ⟨gf, 1, none⟩)
    | 2 => v = .int .i64 (z : Int)
    | 3 => ∃ A' n' c', v = .slice A' n' c' ∧ Lists .u8 W A' n' (dele xss z)
    | 4 => v = .pointer (some ⟨gf, 2, none⟩)
    | 5 => v = .int .i64 num
    | 6 => v = .int .i64 (max num 0)
    | 7 => v = .slice A n c
    | 8 => v = .int .i64 (n : Int)
    | 9 => v = .int .i64 ((n : Int) - 1)
    | 10 => v = .int .i64 (held num (n - 1) : Nat)
    | 11 => v = .slice A5 n5 c5
    | _ => True) j u W' := by
    intro W W' j u hX h
    match j, h with
    | 0, h => exact h
    | 1, h => exact h
    | 2, h => exact h
    | 3, h => obtain ⟨A', n', c', h1, h2⟩ := h; exact ⟨A', n', c', h1, h2.ext hX⟩
    | 4, h => exact h
    | 5, h => exact h
    | 6, h => exact h
    | 7, h => exact h
    | 8, h => exact h
    | 9, h => exact h
    | 10, h => exact h
    | 11, h => exact h
    | _ + 12, h => exact h
  have hsz : ∀ d, some d ∈ ([some 43, some 44, some 45, some 46, some 47, some 48, some 49, some 50, some 51, some 52, some 53, some 54] : List (Option Tmp)) → d < a.tmps.size := slots_lt (by decide) hsize
  refine wp_region_j 12 [some 43, some 44, some 45, some 46, some 47, some 48, some 49, some 50, some 51, some 52, some 53, some 54] [[], [], [1], [0, 2], [], [4], [5], [], [7], [8], [6, 9], []] [[], [], [], [], [], [], [], [], [], [], [], []] (fun (i : Nat) (v : Value) (W : World) => match i with
    | 0 => v = .slice A n c
    | 1 => v = .pointer (some ⟨gf, 1, none⟩)
    | 2 => v = .int .i64 (z : Int)
    | 3 => ∃ A' n' c', v = .slice A' n' c' ∧ Lists .u8 W A' n' (dele xss z)
    | 4 => v = .pointer (some ⟨gf, 2, none⟩)
    | 5 => v = .int .i64 num
    | 6 => v = .int .i64 (max num 0)
    | 7 => v = .slice A n c
    | 8 => v = .int .i64 (n : Int)
    | 9 => v = .int .i64 ((n : Int) - 1)
    | 10 => v = .int .i64 (held num (n - 1) : Nat)
    | 11 => v = .slice A5 n5 c5
    | _ => True) (fun _ W => Ext w W) (by kernel_rfl) (by kernel_rfl) hsz (fun _ _ _ _ h => h) ((Ext.refl w).drew) ?_ ?_
  · clear hend
    simp only [rops, Try.f71, regOf, Option.bind_some, Nat.reduceBEq, if_true, if_false, Bool.false_eq_true, Option.getD_some]
    simp only [List.take_succ_cons, List.take_zero]
    refine ⟨?_, ?_, ?_, ?_, ?_, ?_, ?_, ?_, ?_, ?_, ?_, ?_, trivial⟩
    · intro done us W hJ hdep haft hnot b hb hb' K hK Q'
      have e0 := (hb' 0 (by simp)).trans s0
      clear hb hb'
      go_simp
      exact hK _ _ rfl (fun _ _ _ h => h) hJ
    · intro done us W hJ hdep haft hnot b hb hb' K hK Q'
      have e3 := (hb' 3 (by simp)).trans s3
      clear hb hb'
      go_simp
      exact hK _ _ rfl (fun _ _ _ h => h) hJ
    · intro done us W hJ hdep haft hnot b hb hb' K hK Q'
      simp only [List.getD_cons_succ, List.getD_cons_zero, List.mem_cons, List.not_mem_nil, or_false, forall_eq_or_imp, forall_eq] at hdep
      have e44 := hb 1 44 rfl
      have d1 := hdep
      rw [d1.1] at e44
      clear hb hb' hdep d1
      have q := Ext.cell hJ f1
      go_simp
      exact hK _ _ rfl (fun _ _ _ h => h) hJ
    · intro done us W hJ hdep haft hnot b hb hb' K hK Q'
      simp only [List.getD_cons_succ, List.getD_cons_zero, List.mem_cons, List.not_mem_nil, or_false, forall_eq_or_imp, forall_eq] at hdep
      have e43 := hb 0 43 rfl
      have e45 := hb 2 45 rfl
      have d0 := hdep.1
      have d2 := hdep.2
      rw [d0.1] at e43
      rw [d2.1] at e45
      clear hb hb' hdep d0 d2
      go_simp
      refine (without_any A n c z xss W (hL.ext hJ) hn hi).mono ?_
      rintro e w' ⟨A', n', c', rfl, hl, _, _, hX⟩
      exact hK _ _ ⟨A', n', c', rfl, hl⟩ (fun j u _ h => hmono _ _ j u hX h) (Ext.trans hJ hX)
    · intro done us W hJ hdep haft hnot b hb hb' K hK Q'
      have e3 := (hb' 3 (by simp)).trans s3
      clear hb hb'
      go_simp
      exact hK _ _ rfl (fun _ _ _ h => h) hJ
    · intro done us W hJ hdep haft hnot b hb hb' K hK Q'
      simp only [List.getD_cons_succ, List.getD_cons_zero, List.mem_cons, List.not_mem_nil, or_false, forall_eq_or_imp, forall_eq] at hdep
      have e47 := hb 4 47 rfl
      have d4 := hdep
      rw [d4.1] at e47
      clear hb hb' hdep d4
      have q := Ext.cell hJ f2
      go_simp
      exact hK _ _ rfl (fun _ _ _ h => h) hJ
    · intro done us W hJ hdep haft hnot b hb hb' K hK Q'
      simp only [List.getD_cons_succ, List.getD_cons_zero, List.mem_cons, List.not_mem_nil, or_false, forall_eq_or_imp, forall_eq] at hdep
      have e48 := hb 5 48 rfl
      have d5 := hdep
      rw [d5.1] at e48
      clear hb hb' hdep d5
      go_simp
      exact hK _ _ (by first | rfl | (congr 1; omega) | (congr 1; split <;> omega)) (fun _ _ _ h => h) hJ
    · intro done us W hJ hdep haft hnot b hb hb' K hK Q'
      have e0 := (hb' 0 (by simp)).trans s0
      clear hb hb'
      go_simp
      exact hK _ _ rfl (fun _ _ _ h => h) hJ
    · intro done us W hJ hdep haft hnot b hb hb' K hK Q'
      simp only [List.getD_cons_succ, List.getD_cons_zero, List.mem_cons, List.not_mem_nil, or_false, forall_eq_or_imp, forall_eq] at hdep
      have e50 := hb 7 50 rfl
      have d7 := hdep
      rw [d7.1] at e50
      clear hb hb' hdep d7
      go_simp
      exact hK _ _ rfl (fun _ _ _ h => h) hJ
    · intro done us W hJ hdep haft hnot b hb hb' K hK Q'
      simp only [List.getD_cons_succ, List.getD_cons_zero, List.mem_cons, List.not_mem_nil, or_false, forall_eq_or_imp, forall_eq] at hdep
      have e51 := hb 8 51 rfl
      have d8 := hdep
      rw [d8.1] at e51
      clear hb hb' hdep d8
      have qw : IntKind.i64.wrap ((n : Int) - 1) = (n : Int) - 1 := IntWalk.i64_in _ (by omega)
      go_simp
      exact hK _ _ (by first | rfl | (congr 1; omega) | (congr 1; split <;> omega)) (fun _ _ _ h => h) hJ
    · intro done us W hJ hdep haft hnot b hb hb' K hK Q'
      simp only [List.getD_cons_succ, List.getD_cons_zero, List.mem_cons, List.not_mem_nil, or_false, forall_eq_or_imp, forall_eq] at hdep
      have e49 := hb 6 49 rfl
      have e52 := hb 9 52 rfl
      have d6 := hdep.1
      have d9 := hdep.2
      rw [d6.1] at e49
      rw [d9.1] at e52
      clear hb hb' hdep d6 d9
      have q := Lib.hid (held_eq num (n - 1))
      go_simp
      exact hK _ _ (by have q := q.out; congr 1; split <;> omega) (fun _ _ _ h => h) hJ
    · intro done us W hJ hdep haft hnot b hb hb' K hK Q'
      have e5 := (hb' 5 (by simp)).trans s5
      clear hb hb'
      go_simp
      exact hK _ _ rfl (fun _ _ _ h => h) hJ
  · intro us W hV hJ
    exact hend (us 0) (us 1) (us 2) (us 3) (us 4) (us 5) (us 6) (us 7) (us 8) (us 9) (us 10) (us 11) W (hV 0 (by omega)) (hV 1 (by omega)) (hV 2 (by omega)) (hV 3 (by omega)) (hV 4 (by omega)) (hV 5 (by omega)) (hV 6 (by omega)) (hV 7 (by omega)) (hV 8 (by omega)) (hV 9 (by omega)) (hV 10 (by omega)) (hV 11 (by omega)) hJ
set_option maxRecDepth 100000 in
set_option maxHeartbeats 2000000 in
theorem fault_r15 (gf gy cy q q8 r n5 : Nat) (y p2 zz : Int) (w : World) (f2 : w.cell? ⟨gf, 2, none⟩ = some (.int .i64 (q : Int))) (hy : w.cell? ⟨gy, q8, none⟩ = some (.int .u8 y)) (hb : 0 ≤ y ∧ y ≤ 255) (hq : q8 < n5) (h5 : n5 ≤ 1000000) (hq8 : Hid (q / 8 = q8)) (hr8 : Hid (q % 8 = r)) (hp2 : Hid (((2 ^ r : Nat) : Int) = p2)) (hzz : Hid (bits .xor .u8 y p2 = zz)) (a : Act) (Q : Exit → Act → World → Prop) (hsize : 89 ≤ a.tmps.size)
    (s3 : a.tmps[3]? = some (.pointer (some ⟨gf, 0, none⟩)))
    (s6 : a.tmps[6]? = some (.slice (some ⟨gy, 0, none⟩) n5 cy))
    (hend : ∀ (xv0 xv1 xv2 xv3 xv4 xv5 xv6 xv7 xv8 xv9 xv10 xv11 xv12 xv13 xv14 xv15 : Value) (W : World), (xv0 = .slice (some ⟨gy, 0, none⟩) n5 cy) → (xv1 = .pointer (some ⟨gf, 2, none⟩)) → (xv2 = .int .i64 (q : Int)) → (xv3 = .int .i64 (q8 : Int)) → (xv4 = .slice (some ⟨gy, 0, none⟩) n5 cy) → (xv5 = .pointer (some ⟨gf, 2, none⟩)) → (xv6 = .int .i64 (q : Int)) → (xv7 = .int .i64 (q8 : Int)) → (xv8 = .pointer (some ⟨gy, q8, none⟩)) → (xv9 = .int .u8 y) → (xv10 = .pointer (some ⟨gf, 2, none⟩)) → (xv11 = .int .i64 (q : Int)) → (xv12 = .int .i64 (r : Int)) → (xv13 = .int .u8 p2) → (xv14 = .int .u8 zz) → (xv15 = .pointer (some ⟨gy, q8, none⟩)) → Ext w W → wpList Try.prog (rops Try.f71 15).toArray Q ((rops Try.f71 15).drop 16) ((((((((((((((((a.put (some 73) xv0).put (some 74) xv1).put (some 75) xv2).put (some 76) xv3).put (some 77) xv4).put (some 78) xv5).put (some 79) xv6).put (some 80) xv7).put (some 81) xv8).put (some 82) xv9).put (some 83) xv10).put (some 84) xv11).put (some 85) xv12).put (some 86) xv13).put (some 87) xv14).put (some 88) xv15) W) :
    (Code.region 15 (rops Try.f71 15).toArray true).wp Try.prog Q a w := by
  have hmono : ∀ (W W' : World) (j : Nat) (u : Value), Ext W W' → (fun (i : Nat) (v : Value) (W : World) => match i with
    | 0 => v = .slice (some ⟨gy, 0, none⟩) n5 cy
    | 1 => v = .pointer (some ⟨gf, 2, none⟩)
    | 2 => v = .int .i64 (q : Int)
    | 3 => v = .int .i64 (q8 : Int)
    | 4 => v = .slice (some ⟨gy, 0, none⟩) n5 cy
    | 5 => v = .pointer (some ⟨gf, 2, none⟩)
    | 6 => v = .int .i64 (q : Int)
    | 7 => v = .int .i64 (q8 : Int)
    | 8 => v = .pointer (some ⟨gy, q8, none⟩)
    | 9 => v = .int .u8 y
    | 10 => v = .pointer (some ⟨gf, 2, none⟩)
    | 11 => v = .int .i64 (q : Int)
    | 12 => v = .int .i64 (r : Int)
    | 13 => v = .int .u8 p2
    | 14 => v = .int .u8 zz
    | 15 => v = .pointer (some ⟨gy, q8, none⟩)
    | _ => True) j u W → (fun (i : Nat) (v : Value) (W : World) => match i with
    | 0 => v = .slice (some ⟨gy, 0, none⟩) n5 cy
    | 1 => v = .pointer (some ⟨gf, 2, none⟩)
    | 2 => v = .int .i64 (q : Int)
    | 3 => v = .int .i64 (q8 : Int)
    | 4 => v = .slice (some ⟨gy, 0, none⟩) n5 cy
    | 5 => v = .pointer (some ⟨gf, 2, none⟩)
    | 6 => v = .int .i64 (q : Int)
    | 7 => v = .int .i64 (q8 : Int)
    | 8 => v = .pointer (some ⟨gy, q8, none⟩)
    | 9 => v = .int .u8 y
    | 10 => v = .pointer (some ⟨gf, 2, none⟩)
    | 11 => v = .int .i64 (q : Int)
    | 12 => v = .int .i64 (r : Int)
    | 13 => v = .int .u8 p2
    | 14 => v = .int .u8 zz
    | 15 => v = .pointer (some ⟨gy, q8, none⟩)
    | _ => True) j u W' := by
    intro W W' j u hX h
    match j, h with
    | 0, h => exact h
    | 1, h => exact h
    | 2, h => exact h
    | 3, h => exact h
    | 4, h => exact h
    | 5, h => exact h
    | 6, h => exact h
    | 7, h => exact h
    | 8, h => exact h
    | 9, h => exact h
    | 10, h => exact h
    | 11, h => exact h
    | 12, h => exact h
    | 13, h => exact h
    | 14, h => exact h
    | 15, h => exact h
    | _ + 16, h => exact h
  have hsz : ∀ d, some d ∈ ([some 73, some 74, some 75, some 76, some 77, some 78, some 79, some 80, some 81, some 82, some 83, some 84, some 85, some 86, some 87, some 88] : List (Option Tmp)) → d < a.tmps.size := slots_lt (by decide) hsize
  refine wp_region_j 16 [some 73, some 74, some 75, some 76, some 77, some 78, some 79, some 80, some 81, some 82, some 83, some 84, some 85, some 86, some 87, some 88] [[], [], [1], [2], [], [], [5], [6], [4, 7], [8], [], [10], [11], [12], [9, 13], [0, 3]] [[], [], [], [], [], [], [], [], [], [], [], [], [], [], [], []] (fun (i : Nat) (v : Value) (W : World) => match i with
    | 0 => v = .slice (some ⟨gy, 0, none⟩) n5 cy
    | 1 => v = .pointer (some ⟨gf, 2, none⟩)
    | 2 => v = .int .i64 (q : Int)
    | 3 => v = .int .i64 (q8 : Int)
    | 4 => v = .slice (some ⟨gy, 0, none⟩) n5 cy
    | 5 => v = .pointer (some ⟨gf, 2, none⟩)
    | 6 => v = .int .i64 (q : Int)
    | 7 => v = .int .i64 (q8 : Int)
    | 8 => v = .pointer (some ⟨gy, q8, none⟩)
    | 9 => v = .int .u8 y
    | 10 => v = .pointer (some ⟨gf, 2, none⟩)
    | 11 => v = .int .i64 (q : Int)
    | 12 => v = .int .i64 (r : Int)
    | 13 => v = .int .u8 p2
    | 14 => v = .int .u8 zz
    | 15 => v = .pointer (some ⟨gy, q8, none⟩)
    | _ => True) (fun _ W => Ext w W) (by kernel_rfl) (by kernel_rfl) hsz (fun _ _ _ _ h => h) ((Ext.refl w).drew) ?_ ?_
  · clear hend
    simp only [rops, Try.f71, regOf, Option.bind_some, Nat.reduceBEq, if_true, if_false, Bool.false_eq_true, Option.getD_some]
    simp only [List.take_succ_cons, List.take_zero]
    refine ⟨?_, ?_, ?_, ?_, ?_, ?_, ?_, ?_, ?_, ?_, ?_, ?_, ?_, ?_, ?_, ?_, trivial⟩
    · intro done us W hJ hdep haft hnot b hb hb' K hK Q'
      have e6 := (hb' 6 (by simp)).trans s6
      clear hb hb'
      go_simp
      exact hK _ _ rfl (fun _ _ _ h => h) hJ
    · intro done us W hJ hdep haft hnot b hb hb' K hK Q'
      have e3 := (hb' 3 (by simp)).trans s3
      clear hb hb'
      go_simp
      exact hK _ _ rfl (fun _ _ _ h => h) hJ
    · intro done us W hJ hdep haft hnot b hb hb' K hK Q'
      simp only [List.getD_cons_succ, List.getD_cons_zero, List.mem_cons, List.not_mem_nil, or_false, forall_eq_or_imp, forall_eq] at hdep
      have e74 := hb 1 74 rfl
      have d1 := hdep
      rw [d1.1] at e74
      clear hb hb' hdep d1
      have q := Ext.cell hJ f2
      go_simp
      exact hK _ _ rfl (fun _ _ _ h => h) hJ
    · intro done us W hJ hdep haft hnot b hb hb' K hK Q'
      simp only [List.getD_cons_succ, List.getD_cons_zero, List.mem_cons, List.not_mem_nil, or_false, forall_eq_or_imp, forall_eq] at hdep
      have e75 := hb 2 75 rfl
      have d2 := hdep
      rw [d2.1] at e75
      clear hb hb' hdep d2
      have qw : IntKind.i64.wrap ((q : Int) / 8) = (q : Int) / 8 := IntWalk.i64_in _ (by have := hq8.out; have := hr8.out; omega)
      go_simp
      exact hK _ _ (by have := hq8.out; have := hr8.out; congr 1; omega) (fun _ _ _ h => h) hJ
    · intro done us W hJ hdep haft hnot b hb hb' K hK Q'
      have e6 := (hb' 6 (by simp)).trans s6
      clear hb hb'
      go_simp
      exact hK _ _ rfl (fun _ _ _ h => h) hJ
    · intro done us W hJ hdep haft hnot b hb hb' K hK Q'
      have e3 := (hb' 3 (by simp)).trans s3
      clear hb hb'
      go_simp
      exact hK _ _ rfl (fun _ _ _ h => h) hJ
    · intro done us W hJ hdep haft hnot b hb hb' K hK Q'
      simp only [List.getD_cons_succ, List.getD_cons_zero, List.mem_cons, List.not_mem_nil, or_false, forall_eq_or_imp, forall_eq] at hdep
      have e78 := hb 5 78 rfl
      have d5 := hdep
      rw [d5.1] at e78
      clear hb hb' hdep d5
      have q := Ext.cell hJ f2
      go_simp
      exact hK _ _ rfl (fun _ _ _ h => h) hJ
    · intro done us W hJ hdep haft hnot b hb hb' K hK Q'
      simp only [List.getD_cons_succ, List.getD_cons_zero, List.mem_cons, List.not_mem_nil, or_false, forall_eq_or_imp, forall_eq] at hdep
      have e79 := hb 6 79 rfl
      have d6 := hdep
      rw [d6.1] at e79
      clear hb hb' hdep d6
      have qw : IntKind.i64.wrap ((q : Int) / 8) = (q : Int) / 8 := IntWalk.i64_in _ (by have := hq8.out; have := hr8.out; omega)
      go_simp
      exact hK _ _ (by have := hq8.out; have := hr8.out; congr 1; omega) (fun _ _ _ h => h) hJ
    · intro done us W hJ hdep haft hnot b hb hb' K hK Q'
      simp only [List.getD_cons_succ, List.getD_cons_zero, List.mem_cons, List.not_mem_nil, or_false, forall_eq_or_imp, forall_eq] at hdep
      have e77 := hb 4 77 rfl
      have e80 := hb 7 80 rfl
      have d4 := hdep.1
      have d7 := hdep.2
      rw [d4.1] at e77
      rw [d7.1] at e80
      clear hb hb' hdep d4 d7
      go_simp
      exact hK _ _ rfl (fun _ _ _ h => h) hJ
    · intro done us W hJ hdep haft hnot b hb hb' K hK Q'
      simp only [List.getD_cons_succ, List.getD_cons_zero, List.mem_cons, List.not_mem_nil, or_false, forall_eq_or_imp, forall_eq] at hdep
      have e81 := hb 8 81 rfl
      have d8 := hdep
      rw [d8.1] at e81
      clear hb hb' hdep d8
      have q := Ext.cell hJ hy
      go_simp
      exact hK _ _ rfl (fun _ _ _ h => h) hJ
    · intro done us W hJ hdep haft hnot b hb hb' K hK Q'
      have e3 := (hb' 3 (by simp)).trans s3
      clear hb hb'
      go_simp
      exact hK _ _ rfl (fun _ _ _ h => h) hJ
    · intro done us W hJ hdep haft hnot b hb hb' K hK Q'
      simp only [List.getD_cons_succ, List.getD_cons_zero, List.mem_cons, List.not_mem_nil, or_false, forall_eq_or_imp, forall_eq] at hdep
      have e83 := hb 10 83 rfl
      have d10 := hdep
      rw [d10.1] at e83
      clear hb hb' hdep d10
      have q := Ext.cell hJ f2
      go_simp
      exact hK _ _ rfl (fun _ _ _ h => h) hJ
    · intro done us W hJ hdep haft hnot b hb hb' K hK Q'
      simp only [List.getD_cons_succ, List.getD_cons_zero, List.mem_cons, List.not_mem_nil, or_false, forall_eq_or_imp, forall_eq] at hdep
      have e84 := hb 11 84 rfl
      have d11 := hdep
      rw [d11.1] at e84
      clear hb hb' hdep d11
      have ht : (q : Int).tmod 8 = (q : Int) % 8 := Int.tmod_eq_emod_of_nonneg (by omega)
      have qw : IntKind.i64.wrap ((q : Int) % 8) = (q : Int) % 8 := IntWalk.i64_in _ (by have := hq8.out; have := hr8.out; omega)
      go_simp
      exact hK _ _ (by have := hq8.out; have := hr8.out; congr 1; omega) (fun _ _ _ h => h) hJ
    · intro done us W hJ hdep haft hnot b hb hb' K hK Q'
      simp only [List.getD_cons_succ, List.getD_cons_zero, List.mem_cons, List.not_mem_nil, or_false, forall_eq_or_imp, forall_eq] at hdep
      have e85 := hb 12 85 rfl
      have d12 := hdep
      rw [d12.1] at e85
      clear hb hb' hdep d12
      have hq9 : r < 8 := by have := hr8.out; omega
      have hr : r = 0 ∨ r = 1 ∨ r = 2 ∨ r = 3 ∨ r = 4 ∨ r = 5 ∨ r = 6 ∨ r = 7 := by omega
      rcases hr with rfl | rfl | rfl | rfl | rfl | rfl | rfl | rfl
      all_goals
        go_simp
        exact hK _ _ (by rw [← hp2.out]; rfl) (fun _ _ _ h => h) hJ
    · intro done us W hJ hdep haft hnot b hb hb' K hK Q'
      simp only [List.getD_cons_succ, List.getD_cons_zero, List.mem_cons, List.not_mem_nil, or_false, forall_eq_or_imp, forall_eq] at hdep
      have e82 := hb 9 82 rfl
      have e86 := hb 13 86 rfl
      have d9 := hdep.1
      have d13 := hdep.2
      rw [d9.1] at e82
      rw [d13.1] at e86
      clear hb hb' hdep d9 d13
      go_simp
      exact hK _ _ (congrArg (Value.int IntKind.u8) hzz.out) (fun _ _ _ h => h) hJ
    · intro done us W hJ hdep haft hnot b hb hb' K hK Q'
      simp only [List.getD_cons_succ, List.getD_cons_zero, List.mem_cons, List.not_mem_nil, or_false, forall_eq_or_imp, forall_eq] at hdep
      have e73 := hb 0 73 rfl
      have e76 := hb 3 76 rfl
      have d0 := hdep.1
      have d3 := hdep.2
      rw [d0.1] at e73
      rw [d3.1] at e76
      clear hb hb' hdep d0 d3
      go_simp
      exact hK _ _ rfl (fun _ _ _ h => h) hJ
  · intro us W hV hJ
    exact hend (us 0) (us 1) (us 2) (us 3) (us 4) (us 5) (us 6) (us 7) (us 8) (us 9) (us 10) (us 11) (us 12) (us 13) (us 14) (us 15) W (hV 0 (by omega)) (hV 1 (by omega)) (hV 2 (by omega)) (hV 3 (by omega)) (hV 4 (by omega)) (hV 5 (by omega)) (hV 6 (by omega)) (hV 7 (by omega)) (hV 8 (by omega)) (hV 9 (by omega)) (hV 10 (by omega)) (hV 11 (by omega)) (hV 12 (by omega)) (hV 13 (by omega)) (hV 14 (by omega)) (hV 15 (by omega)) hJ
set_option maxRecDepth 100000 in
set_option maxHeartbeats 2000000 in
theorem fault_r16 (gf : Nat) (A : Option Addr) (n c z : Nat) (num : Int) (xss : List (List Int)) (A5 : Option Addr) (n5 c5 : Nat) (xs : List Int) (A6 : Option Addr) (n6 c6 : Nat) (w : World) (f1 : w.cell? ⟨gf, 1, none⟩ = some (.int .i64 (z : Int))) (f2 : w.cell? ⟨gf, 2, none⟩ = some (.int .i64 num)) (hL : Lists .u8 w A n xss) (hn : n ≤ 1000000) (hi : z < n) (a : Act) (Q : Exit → Act → World → Prop) (hsize : 96 ≤ a.tmps.size)
    (s0 : a.tmps[0]? = some (.slice A n c))
    (s3 : a.tmps[3]? = some (.pointer (some ⟨gf, 0, none⟩)))
    (s6 : a.tmps[6]? = some (.slice A6 n6 c6))
    (hend : ∀ (xv0 xv1 xv2 xv3 xv4 xv5 xv6 : Value) (W : World), (xv0 = .slice A n c) → (xv1 = .pointer (some ⟨gf, 1, none⟩)) → (xv2 = .int .i64 (z : Int)) → (∃ A' n' c', xv3 = .slice A' n' c' ∧ Lists .u8 W A' n' (dele xss z)) → (xv4 = .pointer (some ⟨gf, 1, none⟩)) → (xv5 = .int .i64 (z : Int)) → (xv6 = .slice A6 n6 c6) → Ext w W → wpList Try.prog (rops Try.f71 16).toArray Q ((rops Try.f71 16).drop 7) (((((((a.put (some 89) xv0).put (some 90) xv1).put (some 91) xv2).put (some 92) xv3).put (some 93) xv4).put (some 94) xv5).put (some 95) xv6) W) :
    (Code.region 16 (rops Try.f71 16).toArray true).wp Try.prog Q a w := by
  have hmono : ∀ (W W' : World) (j : Nat) (u : Value), Ext W W' → (fun (i : Nat) (v : Value) (W : World) => match i with
    | 0 => v = .slice A n c
    | 1 => v = .pointer (some ⟨gf, 1, none⟩)
    | 2 => v = .int .i64 (z : Int)
    | 3 => ∃ A' n' c', v = .slice A' n' c' ∧ Lists .u8 W A' n' (dele xss z)
    | 4 => v = .pointer (some ⟨gf, 1, none⟩)
    | 5 => v = .int .i64 (z : Int)
    | 6 => v = .slice A6 n6 c6
    | _ => True) j u W → (fun (i : Nat) (v : Value) (W : World) => match i with
    | 0 => v = .slice A n c
    | 1 => v = .pointer (some ⟨gf, 1, none⟩)
    | 2 => v = .int .i64 (z : Int)
    | 3 => ∃ A' n' c', v = .slice A' n' c' ∧ Lists .u8 W A' n' (dele xss z)
    | 4 => v = .pointer (some ⟨gf, 1, none⟩)
    | 5 => v = .int .i64 (z : Int)
    | 6 => v = .slice A6 n6 c6
    | _ => True) j u W' := by
    intro W W' j u hX h
    match j, h with
    | 0, h => exact h
    | 1, h => exact h
    | 2, h => exact h
    | 3, h => obtain ⟨A', n', c', h1, h2⟩ := h; exact ⟨A', n', c', h1, h2.ext hX⟩
    | 4, h => exact h
    | 5, h => exact h
    | 6, h => exact h
    | _ + 7, h => exact h
  have hsz : ∀ d, some d ∈ ([some 89, some 90, some 91, some 92, some 93, some 94, some 95] : List (Option Tmp)) → d < a.tmps.size := slots_lt (by decide) hsize
  refine wp_region_j 7 [some 89, some 90, some 91, some 92, some 93, some 94, some 95] [[], [], [1], [0, 2], [], [4], []] [[], [], [], [], [], [], []] (fun (i : Nat) (v : Value) (W : World) => match i with
    | 0 => v = .slice A n c
    | 1 => v = .pointer (some ⟨gf, 1, none⟩)
    | 2 => v = .int .i64 (z : Int)
    | 3 => ∃ A' n' c', v = .slice A' n' c' ∧ Lists .u8 W A' n' (dele xss z)
    | 4 => v = .pointer (some ⟨gf, 1, none⟩)
    | 5 => v = .int .i64 (z : Int)
    | 6 => v = .slice A6 n6 c6
    | _ => True) (fun _ W => Ext w W) (by kernel_rfl) (by kernel_rfl) hsz (fun _ _ _ _ h => h) ((Ext.refl w).drew) ?_ ?_
  · clear hend
    simp only [rops, Try.f71, regOf, Option.bind_some, Nat.reduceBEq, if_true, if_false, Bool.false_eq_true, Option.getD_some]
    simp only [List.take_succ_cons, List.take_zero]
    refine ⟨?_, ?_, ?_, ?_, ?_, ?_, ?_, trivial⟩
    · intro done us W hJ hdep haft hnot b hb hb' K hK Q'
      have e0 := (hb' 0 (by simp)).trans s0
      clear hb hb'
      go_simp
      exact hK _ _ rfl (fun _ _ _ h => h) hJ
    · intro done us W hJ hdep haft hnot b hb hb' K hK Q'
      have e3 := (hb' 3 (by simp)).trans s3
      clear hb hb'
      go_simp
      exact hK _ _ rfl (fun _ _ _ h => h) hJ
    · intro done us W hJ hdep haft hnot b hb hb' K hK Q'
      simp only [List.getD_cons_succ, List.getD_cons_zero, List.mem_cons, List.not_mem_nil, or_false, forall_eq_or_imp, forall_eq] at hdep
      have e90 := hb 1 90 rfl
      have d1 := hdep
      rw [d1.1] at e90
      clear hb hb' hdep d1
      have q := Ext.cell hJ f1
      go_simp
      exact hK _ _ rfl (fun _ _ _ h => h) hJ
    · intro done us W hJ hdep haft hnot b hb hb' K hK Q'
      simp only [List.getD_cons_succ, List.getD_cons_zero, List.mem_cons, List.not_mem_nil, or_false, forall_eq_or_imp, forall_eq] at hdep
      have e89 := hb 0 89 rfl
      have e91 := hb 2 91 rfl
      have d0 := hdep.1
      have d2 := hdep.2
      rw [d0.1] at e89
      rw [d2.1] at e91
      clear hb hb' hdep d0 d2
      go_simp
      refine (without_any A n c z xss W (hL.ext hJ) hn hi).mono ?_
      rintro e w' ⟨A', n', c', rfl, hl, _, _, hX⟩
      exact hK _ _ ⟨A', n', c', rfl, hl⟩ (fun j u _ h => hmono _ _ j u hX h) (Ext.trans hJ hX)
    · intro done us W hJ hdep haft hnot b hb hb' K hK Q'
      have e3 := (hb' 3 (by simp)).trans s3
      clear hb hb'
      go_simp
      exact hK _ _ rfl (fun _ _ _ h => h) hJ
    · intro done us W hJ hdep haft hnot b hb hb' K hK Q'
      simp only [List.getD_cons_succ, List.getD_cons_zero, List.mem_cons, List.not_mem_nil, or_false, forall_eq_or_imp, forall_eq] at hdep
      have e93 := hb 4 93 rfl
      have d4 := hdep
      rw [d4.1] at e93
      clear hb hb' hdep d4
      have q := Ext.cell hJ f1
      go_simp
      exact hK _ _ rfl (fun _ _ _ h => h) hJ
    · intro done us W hJ hdep haft hnot b hb hb' K hK Q'
      have e6 := (hb' 6 (by simp)).trans s6
      clear hb hb'
      go_simp
      exact hK _ _ rfl (fun _ _ _ h => h) hJ
  · intro us W hV hJ
    exact hend (us 0) (us 1) (us 2) (us 3) (us 4) (us 5) (us 6) W (hV 0 (by omega)) (hV 1 (by omega)) (hV 2 (by omega)) (hV 3 (by omega)) (hV 4 (by omega)) (hV 5 (by omega)) (hV 6 (by omega)) hJ
set_option maxRecDepth 100000 in
set_option maxHeartbeats 2000000 in
theorem fault_r18 (gf : Nat) (A : Option Addr) (n c z : Nat) (num : Int) (xss : List (List Int)) (A5 : Option Addr) (n5 c5 : Nat) (xs : List Int) (w : World) (f1 : w.cell? ⟨gf, 1, none⟩ = some (.int .i64 (z : Int))) (f2 : w.cell? ⟨gf, 2, none⟩ = some (.int .i64 num)) (hL : Lists .u8 w A n xss) (hn : n ≤ 1000000) (hi : z < n) (hI : Ints .u8 w A5 n5 xs) (hc1 : n5 ≤ c5) (hc2 : c5 ≤ 9223372036854775807) (h5 : n5 ≤ 1000000) (a : Act) (Q : Exit → Act → World → Prop) (hsize : 115 ≤ a.tmps.size)
    (s0 : a.tmps[0]? = some (.slice A n c))
    (s3 : a.tmps[3]? = some (.pointer (some ⟨gf, 0, none⟩)))
    (s5 : a.tmps[5]? = some (.slice A5 n5 c5))
    (hend : ∀ (xv0 xv1 xv2 xv3 xv4 xv5 xv6 xv7 xv8 xv9 xv10 xv11 xv12 xv13 xv14 xv15 : Value) (W : World), (xv0 = .slice A n c) → (xv1 = .pointer (some ⟨gf, 1, none⟩)) → (xv2 = .int .i64 (z : Int)) → (∃ A' n' c', xv3 = .slice A' n' c' ∧ Lists .u8 W A' n' (dele xss z)) → (xv4 = .pointer (some ⟨gf, 1, none⟩)) → (xv5 = .int .i64 (z : Int)) → (xv6 = .slice A5 n5 c5) → (xv7 = .pointer (some ⟨gf, 2, none⟩)) → (xv8 = .int .i64 num) → (xv9 = .int .i64 (max num 0)) → (xv10 = .slice A5 n5 c5) → (xv11 = .int .i64 (n5 : Int)) → (xv12 = .int .i64 (held num n5 : Nat)) → (xv13 = .slice A5 (held num n5) c5) → (∃ A', xv14 = .slice A' 1 1 ∧ Lists .u8 W A' 1 [xs.take (held num n5)]) → (SlV .u8 W xv15 (xs.take (held num n5))) → Ext w W → wpList Try.prog (rops Try.f71 18).toArray Q ((rops Try.f71 18).drop 16) ((((((((((((((((a.put (some 99) xv0).put (some 100) xv1).put (some 101) xv2).put (some 102) xv3).put (some 103) xv4).put (some 104) xv5).put (some 105) xv6).put (some 106) xv7).put (some 107) xv8).put (some 108) xv9).put (some 109) xv10).put (some 110) xv11).put (some 111) xv12).put (some 112) xv13).put (some 113) xv14).put (some 114) xv15) W) :
    (Code.region 18 (rops Try.f71 18).toArray true).wp Try.prog Q a w := by
  have hmono : ∀ (W W' : World) (j : Nat) (u : Value), Ext W W' → (fun (i : Nat) (v : Value) (W : World) => match i with
    | 0 => v = .slice A n c
    | 1 => v = .pointer (some ⟨gf, 1, none⟩)
    | 2 => v = .int .i64 (z : Int)
    | 3 => ∃ A' n' c', v = .slice A' n' c' ∧ Lists .u8 W A' n' (dele xss z)
    | 4 => v = .pointer (some ⟨gf, 1, none⟩)
    | 5 => v = .int .i64 (z : Int)
    | 6 => v = .slice A5 n5 c5
    | 7 => v = .pointer (some ⟨gf, 2, none⟩)
    | 8 => v = .int .i64 num
    | 9 => v = .int .i64 (max num 0)
    | 10 => v = .slice A5 n5 c5
    | 11 => v = .int .i64 (n5 : Int)
    | 12 => v = .int .i64 (held num n5 : Nat)
    | 13 => v = .slice A5 (held num n5) c5
    | 14 => ∃ A', v = .slice A' 1 1 ∧ Lists .u8 W A' 1 [xs.take (held num n5)]
    | 15 => SlV .u8 W v (xs.take (held num n5))
    | _ => True) j u W → (fun (i : Nat) (v : Value) (W : World) => match i with
    | 0 => v = .slice A n c
    | 1 => v = .pointer (some ⟨gf, 1, none⟩)
    | 2 => v = .int .i64 (z : Int)
    | 3 => ∃ A' n' c', v = .slice A' n' c' ∧ Lists .u8 W A' n' (dele xss z)
    | 4 => v = .pointer (some ⟨gf, 1, none⟩)
    | 5 => v = .int .i64 (z : Int)
    | 6 => v = .slice A5 n5 c5
    | 7 => v = .pointer (some ⟨gf, 2, none⟩)
    | 8 => v = .int .i64 num
    | 9 => v = .int .i64 (max num 0)
    | 10 => v = .slice A5 n5 c5
    | 11 => v = .int .i64 (n5 : Int)
    | 12 => v = .int .i64 (held num n5 : Nat)
    | 13 => v = .slice A5 (held num n5) c5
    | 14 => ∃ A', v = .slice A' 1 1 ∧ Lists .u8 W A' 1 [xs.take (held num n5)]
    | 15 => SlV .u8 W v (xs.take (held num n5))
    | _ => True) j u W' := by
    intro W W' j u hX h
    match j, h with
    | 0, h => exact h
    | 1, h => exact h
    | 2, h => exact h
    | 3, h => obtain ⟨A', n', c', h1, h2⟩ := h; exact ⟨A', n', c', h1, h2.ext hX⟩
    | 4, h => exact h
    | 5, h => exact h
    | 6, h => exact h
    | 7, h => exact h
    | 8, h => exact h
    | 9, h => exact h
    | 10, h => exact h
    | 11, h => exact h
    | 12, h => exact h
    | 13, h => exact h
    | 14, h => obtain ⟨A', h1, h2⟩ := h; exact ⟨A', h1, h2.ext hX⟩
    | 15, h => exact SlV.ext h hX
    | _ + 16, h => exact h
  have hsz : ∀ d, some d ∈ ([some 99, some 100, some 101, some 102, some 103, some 104, some 105, some 106, some 107, some 108, some 109, some 110, some 111, some 112, some 113, some 114] : List (Option Tmp)) → d < a.tmps.size := slots_lt (by decide) hsize
  refine wp_region_j 16 [some 99, some 100, some 101, some 102, some 103, some 104, some 105, some 106, some 107, some 108, some 109, some 110, some 111, some 112, some 113, some 114] [[], [], [1], [0, 2], [], [4], [], [], [7], [8], [], [10], [9, 11], [6, 12], [13], [14]] [[], [], [], [], [], [], [], [], [], [], [], [], [], [], [], []] (fun (i : Nat) (v : Value) (W : World) => match i with
    | 0 => v = .slice A n c
    | 1 => v = .pointer (some ⟨gf, 1, none⟩)
    | 2 => v = .int .i64 (z : Int)
    | 3 => ∃ A' n' c', v = .slice A' n' c' ∧ Lists .u8 W A' n' (dele xss z)
    | 4 => v = .pointer (some ⟨gf, 1, none⟩)
    | 5 => v = .int .i64 (z : Int)
    | 6 => v = .slice A5 n5 c5
    | 7 => v = .pointer (some ⟨gf, 2, none⟩)
    | 8 => v = .int .i64 num
    | 9 => v = .int .i64 (max num 0)
    | 10 => v = .slice A5 n5 c5
    | 11 => v = .int .i64 (n5 : Int)
    | 12 => v = .int .i64 (held num n5 : Nat)
    | 13 => v = .slice A5 (held num n5) c5
    | 14 => ∃ A', v = .slice A' 1 1 ∧ Lists .u8 W A' 1 [xs.take (held num n5)]
    | 15 => SlV .u8 W v (xs.take (held num n5))
    | _ => True) (fun _ W => Ext w W) (by kernel_rfl) (by kernel_rfl) hsz (fun _ _ _ _ h => h) ((Ext.refl w).drew) ?_ ?_
  · clear hend
    simp only [rops, Try.f71, regOf, Option.bind_some, Nat.reduceBEq, if_true, if_false, Bool.false_eq_true, Option.getD_some]
    simp only [List.take_succ_cons, List.take_zero]
    refine ⟨?_, ?_, ?_, ?_, ?_, ?_, ?_, ?_, ?_, ?_, ?_, ?_, ?_, ?_, ?_, ?_, trivial⟩
    · intro done us W hJ hdep haft hnot b hb hb' K hK Q'
      have e0 := (hb' 0 (by simp)).trans s0
      clear hb hb'
      go_simp
      exact hK _ _ rfl (fun _ _ _ h => h) hJ
    · intro done us W hJ hdep haft hnot b hb hb' K hK Q'
      have e3 := (hb' 3 (by simp)).trans s3
      clear hb hb'
      go_simp
      exact hK _ _ rfl (fun _ _ _ h => h) hJ
    · intro done us W hJ hdep haft hnot b hb hb' K hK Q'
      simp only [List.getD_cons_succ, List.getD_cons_zero, List.mem_cons, List.not_mem_nil, or_false, forall_eq_or_imp, forall_eq] at hdep
      have e100 := hb 1 100 rfl
      have d1 := hdep
      rw [d1.1] at e100
      clear hb hb' hdep d1
      have q := Ext.cell hJ f1
      go_simp
      exact hK _ _ rfl (fun _ _ _ h => h) hJ
    · intro done us W hJ hdep haft hnot b hb hb' K hK Q'
      simp only [List.getD_cons_succ, List.getD_cons_zero, List.mem_cons, List.not_mem_nil, or_false, forall_eq_or_imp, forall_eq] at hdep
      have e99 := hb 0 99 rfl
      have e101 := hb 2 101 rfl
      have d0 := hdep.1
      have d2 := hdep.2
      rw [d0.1] at e99
      rw [d2.1] at e101
      clear hb hb' hdep d0 d2
      go_simp
      refine (without_any A n c z xss W (hL.ext hJ) hn hi).mono ?_
      rintro e w' ⟨A', n', c', rfl, hl, _, _, hX⟩
      exact hK _ _ ⟨A', n', c', rfl, hl⟩ (fun j u _ h => hmono _ _ j u hX h) (Ext.trans hJ hX)
    · intro done us W hJ hdep haft hnot b hb hb' K hK Q'
      have e3 := (hb' 3 (by simp)).trans s3
      clear hb hb'
      go_simp
      exact hK _ _ rfl (fun _ _ _ h => h) hJ
    · intro done us W hJ hdep haft hnot b hb hb' K hK Q'
      simp only [List.getD_cons_succ, List.getD_cons_zero, List.mem_cons, List.not_mem_nil, or_false, forall_eq_or_imp, forall_eq] at hdep
      have e103 := hb 4 103 rfl
      have d4 := hdep
      rw [d4.1] at e103
      clear hb hb' hdep d4
      have q := Ext.cell hJ f1
      go_simp
      exact hK _ _ rfl (fun _ _ _ h => h) hJ
    · intro done us W hJ hdep haft hnot b hb hb' K hK Q'
      have e5 := (hb' 5 (by simp)).trans s5
      clear hb hb'
      go_simp
      exact hK _ _ rfl (fun _ _ _ h => h) hJ
    · intro done us W hJ hdep haft hnot b hb hb' K hK Q'
      have e3 := (hb' 3 (by simp)).trans s3
      clear hb hb'
      go_simp
      exact hK _ _ rfl (fun _ _ _ h => h) hJ
    · intro done us W hJ hdep haft hnot b hb hb' K hK Q'
      simp only [List.getD_cons_succ, List.getD_cons_zero, List.mem_cons, List.not_mem_nil, or_false, forall_eq_or_imp, forall_eq] at hdep
      have e106 := hb 7 106 rfl
      have d7 := hdep
      rw [d7.1] at e106
      clear hb hb' hdep d7
      have q := Ext.cell hJ f2
      go_simp
      exact hK _ _ rfl (fun _ _ _ h => h) hJ
    · intro done us W hJ hdep haft hnot b hb hb' K hK Q'
      simp only [List.getD_cons_succ, List.getD_cons_zero, List.mem_cons, List.not_mem_nil, or_false, forall_eq_or_imp, forall_eq] at hdep
      have e107 := hb 8 107 rfl
      have d8 := hdep
      rw [d8.1] at e107
      clear hb hb' hdep d8
      go_simp
      exact hK _ _ (by first | rfl | (congr 1; omega) | (congr 1; split <;> omega)) (fun _ _ _ h => h) hJ
    · intro done us W hJ hdep haft hnot b hb hb' K hK Q'
      have e5 := (hb' 5 (by simp)).trans s5
      clear hb hb'
      go_simp
      exact hK _ _ rfl (fun _ _ _ h => h) hJ
    · intro done us W hJ hdep haft hnot b hb hb' K hK Q'
      simp only [List.getD_cons_succ, List.getD_cons_zero, List.mem_cons, List.not_mem_nil, or_false, forall_eq_or_imp, forall_eq] at hdep
      have e109 := hb 10 109 rfl
      have d10 := hdep
      rw [d10.1] at e109
      clear hb hb' hdep d10
      go_simp
      exact hK _ _ rfl (fun _ _ _ h => h) hJ
    · intro done us W hJ hdep haft hnot b hb hb' K hK Q'
      simp only [List.getD_cons_succ, List.getD_cons_zero, List.mem_cons, List.not_mem_nil, or_false, forall_eq_or_imp, forall_eq] at hdep
      have e108 := hb 9 108 rfl
      have e110 := hb 11 110 rfl
      have d9 := hdep.1
      have d11 := hdep.2
      rw [d9.1] at e108
      rw [d11.1] at e110
      clear hb hb' hdep d9 d11
      have q := Lib.hid (held_eq num n5)
      go_simp
      exact hK _ _ (by have q := q.out; congr 1; split <;> omega) (fun _ _ _ h => h) hJ
    · intro done us W hJ hdep haft hnot b hb hb' K hK Q'
      simp only [List.getD_cons_succ, List.getD_cons_zero, List.mem_cons, List.not_mem_nil, or_false, forall_eq_or_imp, forall_eq] at hdep
      have e105 := hb 6 105 rfl
      have e111 := hb 12 111 rfl
      have d6 := hdep.1
      have d12 := hdep.2
      rw [d6.1] at e105
      rw [d12.1] at e111
      clear hb hb' hdep d6 d12
      have q := run_cutH (P := Try.prog) (w := W) (t := 22) elB A5 n5 c5 .i64 (held num n5) (by have := held_le num n5; omega)
      go_simp
      exact hK _ _ rfl (fun _ _ _ h => h) hJ
    · intro done us W hJ hdep haft hnot b hb hb' K hK Q'
      simp only [List.getD_cons_succ, List.getD_cons_zero, List.mem_cons, List.not_mem_nil, or_false, forall_eq_or_imp, forall_eq] at hdep
      have e112 := hb 13 112 rfl
      have d13 := hdep
      rw [d13.1] at e112
      clear hb hb' hdep d13
      have hl1 := lists_one (W := W) (v := .slice A5 (held num n5) c5) (xs := xs.take (held num n5)) (⟨A5, _, c5, rfl, (hI.ext hJ).take (held_le num n5), by have := held_le num n5; omega, hc2⟩)
      go_simp
      exact hK _ _ ⟨_, rfl, hl1⟩ (fun j u _ h => hmono _ _ j u ((Ext.refl _).alloc _) h) (Ext.alloc hJ _)
    · intro done us W hJ hdep haft hnot b hb hb' K hK Q'
      simp only [List.getD_cons_succ, List.getD_cons_zero, List.mem_cons, List.not_mem_nil, or_false, forall_eq_or_imp, forall_eq] at hdep
      have e113 := hb 14 113 rfl
      have d14 := hdep
      clear hb hb' hdep 
      obtain ⟨A', e', hl⟩ := d14.1
      rw [e'] at e113
      go_simp
      refine (joined_any A' 1 1 _ W hl (by omega) (by rw [flat_one]; exact by rw [List.length_take, hI.1]; omega)).mono ?_
      rintro e w' ⟨A2, n2, c2, rfl, ho, hX⟩
      rw [flat_one] at ho
      exact hK _ _ ho.slv (fun j u _ h => hmono _ _ j u hX h) (Ext.trans hJ hX)
  · intro us W hV hJ
    exact hend (us 0) (us 1) (us 2) (us 3) (us 4) (us 5) (us 6) (us 7) (us 8) (us 9) (us 10) (us 11) (us 12) (us 13) (us 14) (us 15) W (hV 0 (by omega)) (hV 1 (by omega)) (hV 2 (by omega)) (hV 3 (by omega)) (hV 4 (by omega)) (hV 5 (by omega)) (hV 6 (by omega)) (hV 7 (by omega)) (hV 8 (by omega)) (hV 9 (by omega)) (hV 10 (by omega)) (hV 11 (by omega)) (hV 12 (by omega)) (hV 13 (by omega)) (hV 14 (by omega)) (hV 15 (by omega)) hJ
end Go.Proofs.Ytekhmfliaojabaa
