/- Lemmas of the proof that follows (TopTransfer, part 11): walks of functions by contract, and plain lemmas. Conditions: none. -/
import Derived.Test.YtekhmfliaojabaaTopTransferJ
namespace Go.Proofs.Ytekhmfliaojabaa
open Go.RowKit

/-- A list of byte strings, all in rows from block 'base' on. -/
def LO (base : Nat) (w : World) (A : Option Addr) (n : Nat) (xss : List (List Int)) : Prop := ∃ c vs, w.ownsRow base 22 1 (.slice A n c) n vs ∧ F2 (BodyV base w) vs xss
def RetLO (base : Nat) (w : World) (r : List (List Int)) (e : Ending) (w' : World) : Prop :=
  ∃ A n c, e = .returned (.slice A n c) ∧ LO base w' A n r ∧ n ≤ c ∧ c ≤ 9223372036854775807 ∧ Ext w w'
section
variable {base : Nat} {w w' : World} {A : Option Addr} {n : Nat} {xss : List (List Int)}
theorem LO.ext (h : LO base w A n xss) (he : Ext w w') : LO base w' A n xss := by obtain ⟨c, vs, h1, h2⟩ := h; exact ⟨c, vs, World.ownsRow.ext' h1 he, h2.imp fun _ _ _ h => h.ext he⟩
theorem LO.lists (h : LO base w A n xss) : Lists .u8 w A n xss := by
  obtain ⟨c, vs, h1, h2⟩ := h
  have := h1.1
  exact (bodies_lv h2).lists (by omega) (At.of_own h1)
theorem LO.len (h : LO base w A n xss) : xss.length = n := h.lists.len
theorem LO.get (h : LO base w A n xss) {j : Nat} (hj : j < n) : ∃ b off A' n' c' xs, A = some ⟨b, off, none⟩ ∧ xss[j]? = some xs ∧ w.cell? ⟨b, off + j, none⟩ = some (.slice A' n' c') ∧ OwnS .u8 5 base w A' n' c' xs := by
  obtain ⟨c, vs, h1, h2⟩ := h
  have hat := At.of_own h1
  have hl := h1.1
  obtain ⟨b, off, v, hA, hv, hc⟩ := hat.get (j := j) (by omega)
  obtain ⟨xs, hx, A', n', c', rfl, hO⟩ := h2.get hv
  exact ⟨b, off, A', n', c', xs, hA, hx, hc, hO⟩
theorem F2.take {α β : Type} {R : α → β → Prop} {l : List α} {m : List β} (h : F2 R l m) (k : Nat) : F2 R (l.take k) (m.take k) := by
  induction l generalizing m k with
  | nil => cases m with
    | nil => simp; trivial
    | cons => exact h.elim
  | cons x l ih => cases m with
    | nil => exact h.elim
    | cons y m => cases k with
      | zero => trivial
      | succ k => exact ⟨h.1, ih h.2 k⟩
theorem F2.drop {α β : Type} {R : α → β → Prop} {l : List α} {m : List β} (h : F2 R l m) (k : Nat) : F2 R (l.drop k) (m.drop k) := by
  induction l generalizing m k with
  | nil => cases m with
    | nil => simp; trivial
    | cons => exact h.elim
  | cons x l ih => cases m with
    | nil => exact h.elim
    | cons y m => cases k with
      | zero => exact h
      | succ k => exact ih h.2 k
theorem F2.dele {α β : Type} {R : α → β → Prop} {l : List α} {m : List β} (h : F2 R l m) (k : Nat) : F2 R (dele l k) (Proofs.Ytekhmfliaojabaa.dele m k) := by
  unfold Proofs.Ytekhmfliaojabaa.dele; exact (h.take k).append (h.drop (k + 1))
theorem F2.inse {α β : Type} {R : α → β → Prop} {l : List α} {m : List β} {a : α} {b : β} (h : F2 R l m) (k : Nat) (hr : R a b) : F2 R (inse l k a) (Proofs.Ytekhmfliaojabaa.inse m k b) := by
  unfold Proofs.Ytekhmfliaojabaa.inse
  exact (h.take k).append ⟨hr, h.drop k⟩
end
theorem BodyV.sls {base : Nat} {w : World} {vs : List Value} {xss : List (List Int)} (h : F2 (BodyV base w) vs xss) : ∀ v ∈ vs, ∃ A n c, v = .slice A n c := by
  intro v hv
  obtain ⟨j, hj⟩ := List.getElem?_of_mem hv
  obtain ⟨xs, _, A, n, c, rfl, _⟩ := h.get hj
  exact ⟨A, n, c, rfl⟩
theorem withouto_any (base : Nat) (A : Option Addr) (n c i : Nat) (xss : List (List Int)) (w : World) (h : LO base w A n xss) (hb : base ≤ w.heap.size) (hn : n ≤ 1000000) (hi : i < n) :
    Calls Try.prog 88 #[.slice A n c, .int .i64 (i : Int)] w (RetLO base w (dele xss i)) := by
  obtain ⟨cr, vs, h1, h2⟩ := h
  have hl := h1.1
  refine (without_vals A n c i vs w (At.of_own h1) (by omega) (BodyV.sls h2) hn (by omega) (by omega)).mono ?_
  rintro e w' ⟨v, rfl, ho, hX⟩
  obtain ⟨A', c', rfl⟩ := own_slice ho
  rw [Int.toNat_natCast] at ho
  exact ⟨A', _, c', rfl, ⟨c', _, World.ownsRow.mono' ho hb, F2.dele (h2.imp fun _ _ _ h => h.ext hX) i⟩, (own_cap ho).1, (own_cap ho).2, hX⟩
theorem witho_any (base : Nat) (A : Option Addr) (n c i : Nat) (k : Int) (hk : k = i) (x : Value) (xs : List Int) (xss : List (List Int)) (w : World) (h : LO base w A n xss) (hx : BodyV base w x xs) (hb : base ≤ w.heap.size) (hn : n ≤ 1000000) (hi : i ≤ n) :
    Calls Try.prog 89 #[.slice A n c, .int .i64 k, x] w (RetLO base w (inse xss i xs)) := by
  subst hk
  obtain ⟨cr, vs, h1, h2⟩ := h
  have hl := h1.1
  obtain ⟨Ax, nx, cx, rfl, hx'⟩ := hx
  refine (with_vals A n c i Ax nx cx vs w (At.of_own h1) (by omega) (BodyV.sls h2) hn (by omega) (by omega)).mono ?_
  rintro e w' ⟨v, rfl, ho, hX⟩
  obtain ⟨A', c', rfl⟩ := own_slice ho
  rw [Int.toNat_natCast] at ho
  exact ⟨A', _, c', rfl, ⟨c', _, World.ownsRow.mono' ho hb, F2.inse (h2.imp fun _ _ _ h => h.ext hX) i ⟨Ax, nx, cx, rfl, hx'.ext hX⟩⟩, (own_cap ho).1, (own_cap ho).2, hX⟩
end Go.Proofs.Ytekhmfliaojabaa
namespace Go.Proofs.Ytekhmfliaojabaa
open Go.RowKit

set_option maxRecDepth 100000 in
set_option maxHeartbeats 2000000 in
theorem faulto_r8 (base gf : Nat) (A : Option Addr) (n c z : Nat) (num : Int) (xss : List (List Int)) (A5 : Option Addr) (n5 c5 : Nat) (xs : List Int) (w : World) (f1 : w.cell? ⟨gf, 1, none⟩ = some (.int .i64 (z : Int))) (f2 : w.cell? ⟨gf, 2, none⟩ = some (.int .i64 num)) (hL : LO base w A n xss) (hbs : base ≤ w.heap.size) (hn : n ≤ 1000000) (hi : z < n) (hI : Ints .u8 w A5 n5 xs) (hc1 : n5 ≤ c5) (hc2 : c5 ≤ 9223372036854775807) (h5 : n5 ≤ 1000000) (a : Act) (Q : Exit → Act → World → Prop) (hsize : 40 ≤ a.tmps.size)
    (s0 : a.tmps[0]? = some (.slice A n c))
    (s3 : a.tmps[3]? = some (.pointer (some ⟨gf, 0, none⟩)))
    (s5 : a.tmps[5]? = some (.slice A5 n5 c5))
    (hend : ∀ (xv0 xv1 xv2 xv3 xv4 xv5 xv6 : Value) (W : World), (xv0 = .slice A n c) → (xv1 = .pointer (some ⟨gf, 1, none⟩)) → (xv2 = .int .i64 (z : Int)) → (xv3 = .int .i64 ((z : Int) + 1)) → (xv4 = .slice A5 n5 c5) → (∃ A', xv5 = .slice A' 1 1 ∧ Lists .u8 W A' 1 [xs]) → (BodyV base W xv6 (xs)) → Ext w W → wpList Try.prog (rops Try.f71 8).toArray Q ((rops Try.f71 8).drop 7) (((((((a.put (some 33) xv0).put (some 34) xv1).put (some 35) xv2).put (some 36) xv3).put (some 37) xv4).put (some 38) xv5).put (some 39) xv6) W) :
    (Code.region 8 (rops Try.f71 8).toArray true).wp Try.prog Q a w := by
  have hmono : ∀ (W W' : World) (j : Nat) (u : Value), Ext W W' → (fun (i : Nat) (v : Value) (W : World) => match i with
    | 0 => v = .slice A n c
    | 1 => v = .pointer (some ⟨gf, 1, none⟩)
    | 2 => v = .int .i64 (z : Int)
    | 3 => v = .int .i64 ((z : Int) + 1)
    | 4 => v = .slice A5 n5 c5
    | 5 => ∃ A', v = .slice A' 1 1 ∧ Lists .u8 W A' 1 [xs]
    | 6 => BodyV base W v (xs)
    | _ => True) j u W → (fun (i : Nat) (v : Value) (W : World) => match i with
    | 0 => v = .slice A n c
    | 1 => v = .pointer (some ⟨gf, 1, none⟩)
    | 2 => v = .int .i64 (z : Int)
    | 3 => v = .int .i64 ((z : Int) + 1)
    | 4 => v = .slice A5 n5 c5
    | 5 => ∃ A', v = .slice A' 1 1 ∧ Lists .u8 W A' 1 [xs]
    | 6 => BodyV base W v (xs)
    | _ => True) j u W' := by
    intro W W' j u hX h
    match j, h with
    | 0, h => exact h
    | 1, h => exact h
    | 2, h => exact h
    | 3, h => exact h
    | 4, h => exact h
    | 5, h => obtain ⟨A', h1, h2⟩ := h; exact ⟨A', h1, h2.ext hX⟩
    | 6, h => exact BodyV.ext h hX
    | _ + 7, h => exact h
  have hsz : ∀ d, some d ∈ ([some 33, some 34, some 35, some 36, some 37, some 38, some 39] : List (Option Tmp)) → d < a.tmps.size := slots_lt (by decide) hsize
  refine wp_region_j 7 [some 33, some 34, some 35, some 36, some 37, some 38, some 39] [[], [], [1], [2], [], [4], [5]] [[], [], [], [], [], [], []] (fun (i : Nat) (v : Value) (W : World) => match i with
    | 0 => v = .slice A n c
    | 1 => v = .pointer (some ⟨gf, 1, none⟩)
    | 2 => v = .int .i64 (z : Int)
    | 3 => v = .int .i64 ((z : Int) + 1)
    | 4 => v = .slice A5 n5 c5
    | 5 => ∃ A', v = .slice A' 1 1 ∧ Lists .u8 W A' 1 [xs]
    | 6 => BodyV base W v (xs)
    | _ => True) (fun _ W => Ext w W) (by kernel_rfl) (by kernel_rfl) hsz (fun _ _ _ _ h => h) ((Ext.refl w).drew) ?_ ?_
  · clear hend
    simp only [rops, Try.f71, regOf, Option.bind_some, Nat.reduceBEq, if_true, if_false, Bool.false_eq_true, Option.getD_some]
    simp only [List.take_succ_cons, List.take_zero]
    refine ⟨?_, ?_, ?_, ?_, ?_, ?_, ?_, trivial⟩
    · intro done us W hJ hdep haft hnot b hb hb' K hK Q'
      have e0 := (hb' 0 (by simp)).trans s0
      clear hb hb'
      go_simp
      exact hK _ _ rfl (fun _ _ _ h => h) hJ
    · intro done us W hJ hdep haft hnot b hb hb' K hK Q'
      have e3 := (hb' 3 (by simp)).trans s3
      clear hb hb'
      go_simp
      exact hK _ _ rfl (fun _ _ _ h => h) hJ
    · intro done us W hJ hdep haft hnot b hb hb' K hK Q'
      simp only [List.getD_cons_succ, List.getD_cons_zero, List.mem_cons, List.not_mem_nil, or_false, forall_eq_or_imp, forall_eq] at hdep
      have e34 := hb 1 34 rfl
      have d1 := hdep
      rw [d1.1] at e34
      clear hb hb' hdep d1
      have q := Ext.cell hJ f1
      go_simp
      exact hK _ _ rfl (fun _ _ _ h => h) hJ
    · intro done us W hJ hdep haft hnot b hb hb' K hK Q'
      simp only [List.getD_cons_succ, List.getD_cons_zero, List.mem_cons, List.not_mem_nil, or_false, forall_eq_or_imp, forall_eq] at hdep
      have e35 := hb 2 35 rfl
      have d2 := hdep
      rw [d2.1] at e35
      clear hb hb' hdep d2
      have qw : IntKind.i64.wrap ((z : Int) + 1) = (z : Int) + 1 := IntWalk.i64_in _ (by omega)
      go_simp
      exact hK _ _ (by first | rfl | (congr 1; omega) | (congr 1; split <;> omega)) (fun _ _ _ h => h) hJ
    · intro done us W hJ hdep haft hnot b hb hb' K hK Q'
      have e5 := (hb' 5 (by simp)).trans s5
      clear hb hb'
      go_simp
      exact hK _ _ rfl (fun _ _ _ h => h) hJ
    · intro done us W hJ hdep haft hnot b hb hb' K hK Q'
      simp only [List.getD_cons_succ, List.getD_cons_zero, List.mem_cons, List.not_mem_nil, or_false, forall_eq_or_imp, forall_eq] at hdep
      have e37 := hb 4 37 rfl
      have d4 := hdep
      rw [d4.1] at e37
      clear hb hb' hdep d4
      have hl1 := lists_one (W := W) (v := .slice A5 n5 c5) (xs := xs) (⟨A5, n5, c5, rfl, hI.ext hJ, hc1, hc2⟩)
      go_simp
      exact hK _ _ ⟨_, rfl, hl1⟩ (fun j u _ h => hmono _ _ j u ((Ext.refl _).alloc _) h) (Ext.alloc hJ _)
    · intro done us W hJ hdep haft hnot b hb hb' K hK Q'
      simp only [List.getD_cons_succ, List.getD_cons_zero, List.mem_cons, List.not_mem_nil, or_false, forall_eq_or_imp, forall_eq] at hdep
      have e38 := hb 5 38 rfl
      have d5 := hdep
      clear hb hb' hdep 
      obtain ⟨A', e', hl⟩ := d5.1
      rw [e'] at e38
      go_simp
      refine (joined_any A' 1 1 _ W hl (by omega) (by rw [flat_one]; exact by rw [hI.1]; omega)).mono ?_
      rintro e w' ⟨A2, n2, c2, rfl, ho, hX⟩
      rw [flat_one] at ho
      exact hK _ _ ⟨A2, n2, c2, rfl, ho.mono (Nat.le_trans hbs (Ext.size hJ))⟩ (fun j u _ h => hmono _ _ j u hX h) (Ext.trans hJ hX)
  · intro us W hV hJ
    exact hend (us 0) (us 1) (us 2) (us 3) (us 4) (us 5) (us 6) W (hV 0 (by omega)) (hV 1 (by omega)) (hV 2 (by omega)) (hV 3 (by omega)) (hV 4 (by omega)) (hV 5 (by omega)) (hV 6 (by omega)) hJ
set_option maxRecDepth 100000 in
set_option maxHeartbeats 2000000 in
theorem faulto_r10 (base gf : Nat) (A : Option Addr) (n c z : Nat) (num : Int) (xss : List (List Int)) (A5 : Option Addr) (n5 c5 : Nat) (xs : List Int) (w : World) (f1 : w.cell? ⟨gf, 1, none⟩ = some (.int .i64 (z : Int))) (f2 : w.cell? ⟨gf, 2, none⟩ = some (.int .i64 num)) (hL : LO base w A n xss) (hbs : base ≤ w.heap.size) (hn : n ≤ 1000000) (hi : z < n) (hI : Ints .u8 w A5 n5 xs) (hc1 : n5 ≤ c5) (hc2 : c5 ≤ 9223372036854775807) (h5 : n5 ≤ 1000000) (a : Act) (Q : Exit → Act → World → Prop) (hsize : 55 ≤ a.tmps.size)
    (s0 : a.tmps[0]? = some (.slice A n c))
    (s3 : a.tmps[3]? = some (.pointer (some ⟨gf, 0, none⟩)))
    (s5 : a.tmps[5]? = some (.slice A5 n5 c5))
    (hend : ∀ (xv0 xv1 xv2 xv3 xv4 xv5 xv6 xv7 xv8 xv9 xv10 xv11 : Value) (W : World), (xv0 = .slice A n c) → (xv1 = .pointer (some ⟨gf, 1, none⟩)) → (xv2 = .int .i64 (z : Int)) → (∃ A' n' c', xv3 = .slice A' n' c' ∧ LO base W A' n' (dele xss z)) → (xv4 = .pointer (some ⟨gf, 2, none⟩)) → (xv5 = .int .i64 num) → (xv6 = .int .i64 (max num 0)) → (xv7 = .slice A n c) → (xv8 = .int .i64 (n : Int)) → (xv9 = .int .i64 ((n : Int) - 1)) → (xv10 = .int .i64 (held num (n - 1) : Nat)) → (xv11 = .slice A5 n5 c5) → Ext w W → wpList Try.prog (rops Try.f71 10).toArray Q ((rops Try.f71 10).drop 12) ((((((((((((a.put (some 43) xv0).put (some 44) xv1).put (some 45) xv2).put (some 46) xv3).put (some 47) xv4).put (some 48) xv5).put (some 49) xv6).put (some 50) xv7).put (some 51) xv8).put (some 52) xv9).put (some 53) xv10).put (some 54) xv11) W) :
    (Code.region 10 (rops Try.f71 10).toArray true).wp Try.prog Q a w := by
  have hmono : ∀ (W W' : World) (j : Nat) (u : Value), Ext W W' → (fun (i : Nat) (v : Value) (W : World) => match i with
    | 0 => v = .slice A n c
    | 1 => v = .pointer (some ⟨gf, 1, none⟩)
    | 2 => v = .int .i64 (z : Int)
    | 3 => ∃ A' n' c', v = .slice A' n' c' ∧ LO base W A' n' (dele xss z)
    | 4 => v = .pointer (some ⟨gf, 2, none⟩)
    | 5 => v = .int .i64 num
    | 6 => v = .int .i64 (max num 0)
    | 7 => v = .slice A n c
    | 8 => v = .int .i64 (n : Int)
    | 9 => v = .int .i64 ((n : Int) - 1)
    | 10 => v = .int .i64 (held num (n - 1) : Nat)
    | 11 => v = .slice A5 n5 c5
    | _ => True) j u W → (fun (i : Nat) (v : Value) (W : World) => match i with
    | 0 => v = .slice A n c
    | 1 => v = .pointer (some ⟨gf, 1, none⟩)
    | 2 => v = .int .i64 (z : Int)
    | 3 => ∃ A' n' c', v = .slice A' n' c' ∧ LO base W A' n' (dele xss z)
    | 4 => v = .pointer (some ⟨gf, 2, none⟩)
    | 5 => v = .int .i64 num
    | 6 => v = .int .i64 (max num 0)
    | 7 => v = .slice A n c
    | 8 => v = .int .i64 (n : Int)
    | 9 => v = .int .i64 ((n : Int) - 1)
    | 10 => v = .int .i64 (held num (n - 1) : Nat)
    | 11 => v = .slice A5 n5 c5
    | _ => True) j u W' := by
    intro W W' j u hX h
    match j, h with
    | 0, h => exact h
    | 1, h => exact h
    | 2, h => exact h
    | 3, h => obtain ⟨A', n', c', h1, h2⟩ := h; exact ⟨A', n', c', h1, h2.ext hX⟩
    | 4, h => exact h
    | 5, h => exact h
    | 6, h => exact h
    | 7, h => exact h
    | 8, h => exact h
    | 9, h => exact h
    | 10, h => exact h
    | 11, h => exact h
    | _ + 12, h => exact h
  have hsz : ∀ d, some d ∈ ([some 43, some 44, some 45, some 46, some 47, some 48, some 49, some 50, some 51, some 52, some 53, some 54] : List (Option Tmp)) → d < a.tmps.size := slots_lt (by decide) hsize
  refine wp_region_j 12 [some 43, some 44, some 45, some 46, some 47, some 48, some 49, some 50, some 51, some 52, some 53, some 54] [[], [], [1], [0, 2], [], [4], [5], [], [7], [8], [6, 9], []] [[], [], [], [], [], [], [], [], [], [], [], []] (fun (i : Nat) (v : Value) (W : World) => match i with
    | 0 => v = .slice A n c
    | 1 => v = .pointer (some ⟨gf, 1, none⟩)
    | 2 => v = .int .i64 (z : Int)
    | 3 => ∃ A' n' c', v = .slice A' n' c' ∧ LO base W A' n' (dele xss z)
    | 4 => v = .pointer (some ⟨gf, 2, none⟩)
    | 5 => v = .int .i64 num
    | 6 => v = .int .i64 (max num 0)
    | 7 => v = .slice A n c
    | 8 => v = .int .i64 (n : Int)
    | 9 => v = .int .i64 ((n : Int) - 1)
    | 10 => v = .int .i64 (held num (n - 1) : Nat)
    | 11 => v = .slice A5 n5 c5
    | _ => True) (fun _ W => Ext w W) (by kernel_rfl) (by kernel_rfl) hsz (fun _ _ _ _ h => h) ((Ext.refl w).drew) ?_ ?_
  · clear hend
    simp only [rops, Try.f71, regOf, Option.bind_some, Nat.reduceBEq, if_true, if_false, Bool.false_eq_true, Option.getD_some]
    simp only [List.take_succ_cons, List.take_zero]
    refine ⟨?_, ?_, ?_, ?_, ?_, ?_, ?_, ?_, ?_, ?_, ?_, ?_, trivial⟩
    · intro done us W hJ hdep haft hnot b hb hb' K hK Q'
      have e0 := (hb' 0 (by simp)).trans s0
      clear hb hb'
      go_simp
      exact hK _ _ rfl (fun _ _ _ h => h) hJ
    · intro done us W hJ hdep haft hnot b hb hb' K hK Q'
      have e3 := (hb' 3 (by simp)).trans s3
      clear hb hb'
      go_simp
      exact hK _ _ rfl (fun _ _ _ h => h) hJ
    · intro done us W hJ hdep haft hnot b hb hb' K hK Q'
      simp only [List.getD_cons_succ, List.getD_cons_zero, List.mem_cons, List.not_mem_nil, or_false, forall_eq_or_imp, forall_eq] at hdep
      have e44 := hb 1 44 rfl
      have d1 := hdep
      rw [d1.1] at e44
      clear hb hb' hdep d1
      have q := Ext.cell hJ f1
      go_simp
      exact hK _ _ rfl (fun _ _ _ h => h) hJ
    · intro done us W hJ hdep haft hnot b hb hb' K hK Q'
      simp only [List.getD_cons_succ, List.getD_cons_zero, List.mem_cons, List.not_mem_nil, or_false, forall_eq_or_imp, forall_eq] at hdep
      have e43 := hb 0 43 rfl
      have e45 := hb 2 45 rfl
      have d0 := hdep.1
      have d2 := hdep.2
      rw [d0.1] at e43
      rw [d2.1] at e45
      clear hb hb' hdep d0 d2
      go_simp
      refine (withouto_any base A n c z xss W (hL.ext hJ) (Nat.le_trans hbs (Ext.size hJ)) hn hi).mono ?_
      rintro e w' ⟨A', n', c', rfl, hl, _, _, hX⟩
      exact hK _ _ ⟨A', n', c', rfl, hl⟩ (fun j u _ h => hmono _ _ j u hX h) (Ext.trans hJ hX)
    · intro done us W hJ hdep haft hnot b hb hb' K hK Q'
      have e3 := (hb' 3 (by simp)).trans s3
      clear hb hb'
      go_simp
      exact hK _ _ rfl (fun _ _ _ h => h) hJ
    · intro done us W hJ hdep haft hnot b hb hb' K hK Q'
      simp only [List.getD_cons_succ, List.getD_cons_zero, List.mem_cons, List.not_mem_nil, or_false, forall_eq_or_imp, forall_eq] at hdep
      have e47 := hb 4 47 rfl
      have d4 := hdep
      rw [d4.1] at e47
      clear hb hb' hdep d4
      have q := Ext.cell hJ f2
      go_simp
      exact hK _ _ rfl (fun _ _ _ h => h) hJ
    · intro done us W hJ hdep haft hnot b hb hb' K hK Q'
      simp only [List.getD_cons_succ, List.getD_cons_zero, List.mem_cons, List.not_mem_nil, or_false, forall_eq_or_imp, forall_eq] at hdep
      have e48 := hb 5 48 rfl
      have d5 := hdep
      rw [d5.1] at e48
      clear hb hb' hdep d5
      go_simp
      exact hK _ _ (by first | rfl | (congr 1; omega) | (congr 1; split <;> omega)) (fun _ _ _ h => h) hJ
    · intro done us W hJ hdep haft hnot b hb hb' K hK Q'
      have e0 := (hb' 0 (by simp)).trans s0
      clear hb hb'
      go_simp
      exact hK _ _ rfl (fun _ _ _ h => h) hJ
    · intro done us W hJ hdep haft hnot b hb hb' K hK Q'
      simp only [List.getD_cons_succ, List.getD_cons_zero, List.mem_cons, List.not_mem_nil, or_false, forall_eq_or_imp, forall_eq] at hdep
      have e50 := hb 7 50 rfl
      have d7 := hdep
      rw [d7.1] at e50
      clear hb hb' hdep d7
      go_simp
      exact hK _ _ rfl (fun _ _ _ h => h) hJ
    · intro done us W hJ hdep haft hnot b hb hb' K hK Q'
      simp only [List.getD_cons_succ, List.getD_cons_zero, List.mem_cons, List.not_mem_nil, or_false, forall_eq_or_imp, forall_eq] at hdep
      have e51 := hb 8 51 rfl
      have d8 := hdep
      rw [d8.1] at e51
      clear hb hb' hdep d8
      have qw : IntKind.i64.wrap ((n : Int) - 1) = (n : Int) - 1 := IntWalk.i64_in _ (by omega)
      go_simp
      exact hK _ _ (by first | rfl | (congr 1; omega) | (congr 1; split <;> omega)) (fun _ _ _ h => h) hJ
    · intro done us W hJ hdep haft hnot b hb hb' K hK Q'
      simp only [List.getD_cons_succ, List.getD_cons_zero, List.mem_cons, List.not_mem_nil, or_false, forall_eq_or_imp, forall_eq] at hdep
      have e49 := hb 6 49 rfl
      have e52 := hb 9 52 rfl
      have d6 := hdep.1
      have d9 := hdep.2
      rw [d6.1] at e49
      rw [d9.1] at e52
      clear hb hb' hdep d6 d9
      have q := Lib.hid (held_eq num (n - 1))
      go_simp
      exact hK _ _ (by have q := q.out; congr 1; split <;> omega) (fun _ _ _ h => h) hJ
    · intro done us W hJ hdep haft hnot b hb hb' K hK Q'
      have e5 := (hb' 5 (by simp)).trans s5
      clear hb hb'
      go_simp
      exact hK _ _ rfl (fun _ _ _ h => h) hJ
  · intro us W hV hJ
    exact hend (us 0) (us 1) (us 2) (us 3) (us 4) (us 5) (us 6) (us 7) (us 8) (us 9) (us 10) (us 11) W (hV 0 (by omega)) (hV 1 (by omega)) (hV 2 (by omega)) (hV 3 (by omega)) (hV 4 (by omega)) (hV 5 (by omega)) (hV 6 (by omega)) (hV 7 (by omega)) (hV 8 (by omega)) (hV 9 (by omega)) (hV 10 (by omega)) (hV 11 (by omega)) hJ
set_option maxRecDepth 100000 in
set_option maxHeartbeats 2000000 in
theorem faulto_r15 (gf gy cy q q8 r n5 : Nat) (y p2 zz : Int) (w : World) (f2 : w.cell? ⟨gf, 2, none⟩ = some (.int .i64 (q : Int))) (hy : w.cell? ⟨gy, q8, none⟩ = some (.int .u8 y)) (hb : 0 ≤ y ∧ y ≤ 255) (hq : q8 < n5) (h5 : n5 ≤ 1000000) (hq8 : Hid (q / 8 = q8)) (hr8 : Hid (q % 8 = r)) (hp2 : Hid (((2 ^ r : Nat) : Int) = p2)) (hzz : Hid (bits .xor .u8 y p2 = zz)) (a : Act) (Q : Exit → Act → World → Prop) (hsize : 89 ≤ a.tmps.size)
    (s3 : a.tmps[3]? = some (.pointer (some ⟨gf, 0, none⟩)))
    (s6 : a.tmps[6]? = some (.slice (some ⟨gy, 0, none⟩) n5 cy))
    (hend : ∀ (xv0 xv1 xv2 xv3 xv4 xv5 xv6 xv7 xv8 xv9 xv10 xv11 xv12 xv13 xv14 xv15 : Value) (W : World), (xv0 = .slice (some ⟨gy, 0, none⟩) n5 cy) → (xv1 = .pointer (some ⟨gf, 2, none⟩)) → (xv2 = .int .i64 (q : Int)) → (xv3 = .int .i64 (q8 : Int)) → (xv4 = .slice (some ⟨gy, 0, none⟩) n5 cy) → (xv5 = .pointer (some ⟨gf, 2, none⟩)) → (xv6 = .int .i64 (q : Int)) → (xv7 = .int .i64 (q8 : Int)) → (xv8 = .pointer (some ⟨gy, q8, none⟩)) → (xv9 = .int .u8 y) → (xv10 = .pointer (some ⟨gf, 2, none⟩)) → (xv11 = .int .i64 (q : Int)) → (xv12 = .int .i64 (r : Int)) → (xv13 = .int .u8 p2) → (xv14 = .int .u8 zz) → (xv15 = .pointer (some ⟨gy, q8, none⟩)) → Ext w W → wpList Try.prog (rops Try.f71 15).toArray Q ((rops Try.f71 15).drop 16) ((((((((((((((((a.put (some 73) xv0).put (some 74) xv1).put (some 75) xv2).put (some 76) xv3).put (some 77) xv4).put (some 78) xv5).put (some 79) xv6).put (some 80) xv7).put (some 81) xv8).put (some 82) xv9).put (some 83) xv10).put (some 84) xv11).put (some 85) xv12).put (some 86) xv13).put (some 87) xv14).put (some 88) xv15) W) :
    (Code.region 15 (rops Try.f71 15).toArray true).wp Try.prog Q a w := by
  have hmono : ∀ (W W' : World) (j : Nat) (u : Value), Ext W W' → (fun (i : Nat) (v : Value) (W : World) => match i with
    | 0 => v = .slice (some ⟨gy, 0, none⟩) n5 cy
    | 1 => v = .pointer (some ⟨gf, 2, none⟩)
    | 2 => v = .int .i64 (q : Int)
    | 3 => v = .int .i64 (q8 : Int)
    | 4 => v = .slice (some ⟨gy, 0, none⟩) n5 cy
    | 5 => v = .pointer (some ⟨gf, 2, none⟩)
    | 6 => v = .int .i64 (q : Int)
    | 7 => v = .int .i64 (q8 : Int)
    | 8 => v = .pointer (some ⟨gy, q8, none⟩)
    | 9 => v = .int .u8 y
    | 10 => v = .pointer (some ⟨gf, 2, none⟩)
    | 11 => v = .int .i64 (q : Int)
    | 12 => v = .int .i64 (r : Int)
    | 13 => v = .int .u8 p2
    | 14 => v = .int .u8 zz
    | 15 => v = .pointer (some ⟨gy, q8, none⟩)
    | _ => True) j u W → (fun (i : Nat) (v : Value) (W : World) => match i with
    | 0 => v = .slice (some ⟨gy, 0, none⟩) n5 cy
    | 1 => v = .pointer (some ⟨gf, 2, none⟩)
    | 2 => v = .int .i64 (q : Int)
    | 3 => v = .int .i64 (q8 : Int)
    | 4 => v = .slice (some ⟨gy, 0, none⟩) n5 cy
    | 5 => v = .pointer (some ⟨gf, 2, none⟩)
    | 6 => v = .int .i64 (q : Int)
    | 7 => v = .int .i64 (q8 : Int)
    | 8 => v = .pointer (some ⟨gy, q8, none⟩)
    | 9 => v = .int .u8 y
    | 10 => v = .pointer (some ⟨gf, 2, none⟩)
    | 11 => v = .int .i64 (q : Int)
    | 12 => v = .int .i64 (r : Int)
    | 13 => v = .int .u8 p2
    | 14 => v = .int .u8 zz
    | 15 => v = .pointer (some ⟨gy, q8, none⟩)
    | _ => True) j u W' := by
    intro W W' j u hX h
    match j, h with
    | 0, h => exact h
    | 1, h => exact h
    | 2, h => exact h
    | 3, h => exact h
    | 4, h => exact h
    | 5, h => exact h
    | 6, h => exact h
    | 7, h => exact h
    | 8, h => exact h
    | 9, h => exact h
    | 10, h => exact h
    | 11, h => exact h
    | 12, h => exact h
    | 13, h => exact h
    | 14, h => exact h
    | 15, h => exact h
    | _ + 16, h => exact h
  have hsz : ∀ d, some d ∈ ([some 73, some 74, some 75, some 76, some 77, some 78, some 79, some 80, some 81, some 82, some 83, some 84, some 85, some 86, some 87, some 88] : List (Option Tmp)) → d < a.tmps.size := slots_lt (by decide) hsize
  refine wp_region_j 16 [some 73, some 74, some 75, some 76, some 77, some 78, some 79, some 80, some 81, some 82, some 83, some 84, some 85, some 86, some 87, some 88] [[], [], [1], [2], [], [], [5], [6], [4, 7], [8], [], [10], [11], [12], [9, 13], [0, 3]] [[], [], [], [], [], [], [], [], [], [], [], [], [], [], [], []] (fun (i : Nat) (v : Value) (W : World) => match i with
    | 0 => v = .slice (some ⟨gy, 0, none⟩) n5 cy
    | 1 => v = .pointer (some ⟨gf, 2, none⟩)
    | 2 => v = .int .i64 (q : Int)
    | 3 => v = .int .i64 (q8 : Int)
    | 4 => v = .slice (some ⟨gy, 0, none⟩) n5 cy
    | 5 => v = .pointer (some ⟨gf, 2, none⟩)
    | 6 => v = .int .i64 (q : Int)
    | 7 => v = .int .i64 (q8 : Int)
    | 8 => v = .pointer (some ⟨gy, q8, none⟩)
    | 9 => v = .int .u8 y
    | 10 => v = .pointer (some ⟨gf, 2, none⟩)
    | 11 => v = .int .i64 (q : Int)
    | 12 => v = .int .i64 (r : Int)
    | 13 => v = .int .u8 p2
    | 14 => v = .int .u8 zz
    | 15 => v = .pointer (some ⟨gy, q8, none⟩)
    | _ => True) (fun _ W => Ext w W) (by kernel_rfl) (by kernel_rfl) hsz (fun _ _ _ _ h => h) ((Ext.refl w).drew) ?_ ?_
  · clear hend
    simp only [rops, Try.f71, regOf, Option.bind_some, Nat.reduceBEq, if_true, if_false, Bool.false_eq_true, Option.getD_some]
    simp only [List.take_succ_cons, List.take_zero]
    refine ⟨?_, ?_, ?_, ?_, ?_, ?_, ?_, ?_, ?_, ?_, ?_, ?_, ?_, ?_, ?_, ?_, trivial⟩
    · intro done us W hJ hdep haft hnot b hb hb' K hK Q'
      have e6 := (hb' 6 (by simp)).trans s6
      clear hb hb'
      go_simp
      exact hK _ _ rfl (fun _ _ _ h => h) hJ
    · intro done us W hJ hdep haft hnot b hb hb' K hK Q'
      have e3 := (hb' 3 (by simp)).trans s3
      clear hb hb'
      go_simp
      exact hK _ _ rfl (fun _ _ _ h => h) hJ
    · intro done us W hJ hdep haft hnot b hb hb' K hK Q'
      simp only [List.getD_cons_succ, List.getD_cons_zero, List.mem_cons, List.not_mem_nil, or_false, forall_eq_or_imp, forall_eq] at hdep
      have e74 := hb 1 74 rfl
      have d1 := hdep
      rw [d1.1] at e74
      clear hb hb' hdep d1
      have q := Ext.cell hJ f2
      go_simp
      exact hK _ _ rfl (fun _ _ _ h => h) hJ
    · intro done us W hJ hdep haft hnot b hb hb' K hK Q'
      simp only [List.getD_cons_succ, List.getD_cons_zero, List.mem_cons, List.not_mem_nil, or_false, forall_eq_or_imp, forall_eq] at hdep
      have e75 := hb 2 75 rfl
      have d2 := hdep
      rw [d2.1] at e75
      clear hb hb' hdep d2
      have qw : IntKind.i64.wrap ((q : Int) / 8) = (q : Int) / 8 := IntWalk.i64_in _ (by have := hq8.out; have := hr8.out; omega)
      go_simp
      exact hK _ _ (by have := hq8.out; have := hr8.out; congr 1; omega) (fun _ _ _ h => h) hJ
    · intro done us W hJ hdep haft hnot b hb hb' K hK Q'
      have e6 := (hb' 6 (by simp)).trans s6
      clear hb hb'
      go_simp
      exact hK _ _ rfl (fun _ _ _ h => h) hJ
    · intro done us W hJ hdep haft hnot b hb hb' K hK Q'
      have e3 := (hb' 3 (by simp)).trans s3
      clear hb hb'
      go_simp
      exact hK _ _ rfl (fun _ _ _ h => h) hJ
    · intro done us W hJ hdep haft hnot b hb hb' K hK Q'
      simp only [List.getD_cons_succ, List.getD_cons_zero, List.mem_cons, List.not_mem_nil, or_false, forall_eq_or_imp, forall_eq] at hdep
      have e78 := hb 5 78 rfl
      have d5 := hdep
      rw [d5.1] at e78
      clear hb hb' hdep d5
      have q := Ext.cell hJ f2
      go_simp
      exact hK _ _ rfl (fun _ _ _ h => h) hJ
    · intro done us W hJ hdep haft hnot b hb hb' K hK Q'
      simp only [List.getD_cons_succ, List.getD_cons_zero, List.mem_cons, List.not_mem_nil, or_false, forall_eq_or_imp, forall_eq] at hdep
      have e79 := hb 6 79 rfl
      have d6 := hdep
      rw [d6.1] at e79
      clear hb hb' hdep d6
      have qw : IntKind.i64.wrap ((q : Int) / 8) = (q : Int) / 8 := IntWalk.i64_in _ (by have := hq8.out; have := hr8.out; omega)
      go_simp
      exact hK _ _ (by have := hq8.out; have := hr8.out; congr 1; omega) (fun _ _ _ h => h) hJ
    · intro done us W hJ hdep haft hnot b hb hb' K hK Q'
      simp only [List.getD_cons_succ, List.getD_cons_zero, List.mem_cons, List.not_mem_nil, or_false, forall_eq_or_imp, forall_eq] at hdep
      have e77 := hb 4 77 rfl
      have e80 := hb 7 80 rfl
      have d4 := hdep.1
      have d7 := hdep.2
      rw [d4.1] at e77
      rw [d7.1] at e80
      clear hb hb' hdep d4 d7
      go_simp
      exact hK _ _ rfl (fun _ _ _ h => h) hJ
    · intro done us W hJ hdep haft hnot b hb hb' K hK Q'
      simp only [List.getD_cons_succ, List.getD_cons_zero, List.mem_cons, List.not_mem_nil, or_false, forall_eq_or_imp, forall_eq] at hdep
      have e81 := hb 8 81 rfl
      have d8 := hdep
      rw [d8.1] at e81
      clear hb hb' hdep d8
      have q := Ext.cell hJ hy
      go_simp
      exact hK _ _ rfl (fun _ _ _ h => h) hJ
    · intro done us W hJ hdep haft hnot b hb hb' K hK Q'
      have e3 := (hb' 3 (by simp)).trans s3
      clear hb hb'
      go_simp
      exact hK _ _ rfl (fun _ _ _ h => h) hJ
    · intro done us W hJ hdep haft hnot b hb hb' K hK Q'
      simp only [List.getD_cons_succ, List.getD_cons_zero, List.mem_cons, List.not_mem_nil, or_false, forall_eq_or_imp, forall_eq] at hdep
      have e83 := hb 10 83 rfl
      have d10 := hdep
      rw [d10.1] at e83
      clear hb hb' hdep d10
      have q := Ext.cell hJ f2
      go_simp
      exact hK _ _ rfl (fun _ _ _ h => h) hJ
    · intro done us W hJ hdep haft hnot b hb hb' K hK Q'
      simp only [List.getD_cons_succ, List.getD_cons_zero, List.mem_cons, List.not_mem_nil, or_false, forall_eq_or_imp, forall_eq] at hdep
      have e84 := hb 11 84 rfl
      have d11 := hdep
      rw [d11.1] at e84
      clear hb hb' hdep d11
      have ht : (q : Int).tmod 8 = (q : Int) % 8 := Int.tmod_eq_emod_of_nonneg (by omega)
      have qw : IntKind.i64.wrap ((q : Int) % 8) = (q : Int) % 8 := IntWalk.i64_in _ (by have := hq8.out; have := hr8.out; omega)
      go_simp
      exact hK _ _ (by have := hq8.out; have := hr8.out; congr 1; omega) (fun _ _ _ h => h) hJ
    · intro done us W hJ hdep haft hnot b hb hb' K hK Q'
      simp only [List.getD_cons_succ, List.getD_cons_zero, List.mem_cons, List.not_mem_nil, or_false, forall_eq_or_imp, forall_eq] at hdep
      have e85 := hb 12 85 rfl
      have d12 := hdep
      rw [d12.1] at e85
      clear hb hb' hdep d12
      have hq9 : r < 8 := by have := hr8.out; omega
      have hr : r = 0 ∨ r = 1 ∨ r = 2 ∨ r = 3 ∨ r = 4 ∨ r = 5 ∨ r = 6 ∨ r = 7 := by omega
      rcases hr with rfl | rfl | rfl | rfl | rfl | rfl | rfl | rfl
      all_goals
        go_simp
        exact hK _ _ (by rw [← hp2.out]; rfl) (fun _ _ _ h => h) hJ
    · intro done us W hJ hdep haft hnot b hb hb' K hK Q'
      simp only [List.getD_cons_succ, List.getD_cons_zero, List.mem_cons, List.not_mem_nil, or_false, forall_eq_or_imp, forall_eq] at hdep
      have e82 := hb 9 82 rfl
      have e86 := hb 13 86 rfl
      have d9 := hdep.1
      have d13 := hdep.2
      rw [d9.1] at e82
      rw [d13.1] at e86
      clear hb hb' hdep d9 d13
      go_simp
      exact hK _ _ (congrArg (Value.int IntKind.u8) hzz.out) (fun _ _ _ h => h) hJ
    · intro done us W hJ hdep haft hnot b hb hb' K hK Q'
      simp only [List.getD_cons_succ, List.getD_cons_zero, List.mem_cons, List.not_mem_nil, or_false, forall_eq_or_imp, forall_eq] at hdep
      have e73 := hb 0 73 rfl
      have e76 := hb 3 76 rfl
      have d0 := hdep.1
      have d3 := hdep.2
      rw [d0.1] at e73
      rw [d3.1] at e76
      clear hb hb' hdep d0 d3
      go_simp
      exact hK _ _ rfl (fun _ _ _ h => h) hJ
  · intro us W hV hJ
    exact hend (us 0) (us 1) (us 2) (us 3) (us 4) (us 5) (us 6) (us 7) (us 8) (us 9) (us 10) (us 11) (us 12) (us 13) (us 14) (us 15) W (hV 0 (by omega)) (hV 1 (by omega)) (hV 2 (by omega)) (hV 3 (by omega)) (hV 4 (by omega)) (hV 5 (by omega)) (hV 6 (by omega)) (hV 7 (by omega)) (hV 8 (by omega)) (hV 9 (by omega)) (hV 10 (by omega)) (hV 11 (by omega)) (hV 12 (by omega)) (hV 13 (by omega)) (hV 14 (by omega)) (hV 15 (by omega)) hJ
set_option maxRecDepth 100000 in
set_option maxHeartbeats 2000000 in
theorem faulto_r16 (base gf : Nat) (A : Option Addr) (n c z : Nat) (num : Int) (xss : List (List Int)) (A5 : Option Addr) (n5 c5 : Nat) (xs : List Int) (A6 : Option Addr) (n6 c6 : Nat) (w : World) (f1 : w.cell? ⟨gf, 1, none⟩ = some (.int .i64 (z : Int))) (f2 : w.cell? ⟨gf, 2, none⟩ = some (.int .i64 num)) (hL : LO base w A n xss) (hbs : base ≤ w.heap.size) (hn : n ≤ 1000000) (hi : z < n) (a : Act) (Q : Exit → Act → World → Prop) (hsize : 96 ≤ a.tmps.size)
    (s0 : a.tmps[0]? = some (.slice A n c))
    (s3 : a.tmps[3]? = some (.pointer (some ⟨gf, 0, none⟩)))
    (s6 : a.tmps[6]? = some (.slice A6 n6 c6))
    (hend : ∀ (xv0 xv1 xv2 xv3 xv4 xv5 xv6 : Value) (W : World), (xv0 = .slice A n c) → (xv1 = .pointer (some ⟨gf, 1, none⟩)) → (xv2 = .int .i64 (z : Int)) → (∃ A' n' c', xv3 = .slice A' n' c' ∧ LO base W A' n' (dele xss z)) → (xv4 = .pointer (some ⟨gf, 1, none⟩)) → (xv5 = .int .i64 (z : Int)) → (xv6 = .slice A6 n6 c6) → Ext w W → wpList Try.prog (rops Try.f71 16).toArray Q ((rops Try.f71 16).drop 7) (((((((a.put (some 89) xv0).put (some 90) xv1).put (some 91) xv2).put (some 92) xv3).put (some 93) xv4).put (some 94) xv5).put (some 95) xv6) W) :
    (Code.region 16 (rops Try.f71 16).toArray true).wp Try.prog Q a w := by
  have hmono : ∀ (W W' : World) (j : Nat) (u : Value), Ext W W' → (fun (i : Nat) (v : Value) (W : World) => match i with
    | 0 => v = .slice A n c
    | 1 => v = .pointer (some ⟨gf, 1, none⟩)
    | 2 => v = .int .i64 (z : Int)
    | 3 => ∃ A' n' c', v = .slice A' n' c' ∧ LO base W A' n' (dele xss z)
    | 4 => v = .pointer (some ⟨gf, 1, none⟩)
    | 5 => v = .int .i64 (z : Int)
    | 6 => v = .slice A6 n6 c6
    | _ => True) j u W → (fun (i : Nat) (v : Value) (W : World) => match i with
    | 0 => v = .slice A n c
    | 1 => v = .pointer (some ⟨gf, 1, none⟩)
    | 2 => v = .int .i64 (z : Int)
    | 3 => ∃ A' n' c', v = .slice A' n' c' ∧ LO base W A' n' (dele xss z)
    | 4 => v = .pointer (some ⟨gf, 1, none⟩)
    | 5 => v = .int .i64 (z : Int)
    | 6 => v = .slice A6 n6 c6
    | _ => True) j u W' := by
    intro W W' j u hX h
    match j, h with
    | 0, h => exact h
    | 1, h => exact h
    | 2, h => exact h
    | 3, h => obtain ⟨A', n', c', h1, h2⟩ := h; exact ⟨A', n', c', h1, h2.ext hX⟩
    | 4, h => exact h
    | 5, h => exact h
    | 6, h => exact h
    | _ + 7, h => exact h
  have hsz : ∀ d, some d ∈ ([some 89, some 90, some 91, some 92, some 93, some 94, some 95] : List (Option Tmp)) → d < a.tmps.size := slots_lt (by decide) hsize
  refine wp_region_j 7 [some 89, some 90, some 91, some 92, some 93, some 94, some 95] [[], [], [1], [0, 2], [], [4], []] [[], [], [], [], [], [], []] (fun (i : Nat) (v : Value) (W : World) => match i with
    | 0 => v = .slice A n c
    | 1 => v = .pointer (some ⟨gf, 1, none⟩)
    | 2 => v = .int .i64 (z : Int)
    | 3 => ∃ A' n' c', v = .slice A' n' c' ∧ LO base W A' n' (dele xss z)
    | 4 => v = .pointer (some ⟨gf, 1, none⟩)
    | 5 => v = .int .i64 (z : Int)
    | 6 => v = .slice A6 n6 c6
    | _ => True) (fun _ W => Ext w W) (by kernel_rfl) (by kernel_rfl) hsz (fun _ _ _ _ h => h) ((Ext.refl w).drew) ?_ ?_
  · clear hend
    simp only [rops, Try.f71, regOf, Option.bind_some, Nat.reduceBEq, if_true, if_false, Bool.false_eq_true, Option.getD_some]
    simp only [List.take_succ_cons, List.take_zero]
    refine ⟨?_, ?_, ?_, ?_, ?_, ?_, ?_, trivial⟩
    · intro done us W hJ hdep haft hnot b hb hb' K hK Q'
      have e0 := (hb' 0 (by simp)).trans s0
      clear hb hb'
      go_simp
      exact hK _ _ rfl (fun _ _ _ h => h) hJ
    · intro done us W hJ hdep haft hnot b hb hb' K hK Q'
      have e3 := (hb' 3 (by simp)).trans s3
      clear hb hb'
      go_simp
      exact hK _ _ rfl (fun _ _ _ h => h) hJ
    · intro done us W hJ hdep haft hnot b hb hb' K hK Q'
      simp only [List.getD_cons_succ, List.getD_cons_zero, List.mem_cons, List.not_mem_nil, or_false, forall_eq_or_imp, forall_eq] at hdep
      have e90 := hb 1 90 rfl
      have d1 := hdep
      rw [d1.1] at e90
      clear hb hb' hdep d1
      have q := Ext.cell hJ f1
      go_simp
      exact hK _ _ rfl (fun _ _ _ h => h) hJ
    · intro done us W hJ hdep haft hnot b hb hb' K hK Q'
      simp only [List.getD_cons_succ, List.getD_cons_zero, List.mem_cons, List.not_mem_nil, or_false, forall_eq_or_imp, forall_eq] at hdep
      have e89 := hb 0 89 rfl
      have e91 := hb 2 91 rfl
      have d0 := hdep.1
      have d2 := hdep.2
      rw [d0.1] at e89
      rw [d2.1] at e91
      clear hb hb' hdep d0 d2
      go_simp
      refine (withouto_any base A n c z xss W (hL.ext hJ) (Nat.le_trans hbs (Ext.size hJ)) hn hi).mono ?_
      rintro e w' ⟨A', n', c', rfl, hl, _, _, hX⟩
      exact hK _ _ ⟨A', n', c', rfl, hl⟩ (fun j u _ h => hmono _ _ j u hX h) (Ext.trans hJ hX)
    · intro done us W hJ hdep haft hnot b hb hb' K hK Q'
      have e3 := (hb' 3 (by simp)).trans s3
      clear hb hb'
      go_simp
      exact hK _ _ rfl (fun _ _ _ h => h) hJ
    · intro done us W hJ hdep haft hnot b hb hb' K hK Q'
      simp only [List.getD_cons_succ, List.getD_cons_zero, List.mem_cons, List.not_mem_nil, or_false, forall_eq_or_imp, forall_eq] at hdep
      have e93 := hb 4 93 rfl
      have d4 := hdep
      rw [d4.1] at e93
      clear hb hb' hdep d4
      have q := Ext.cell hJ f1
      go_simp
      exact hK _ _ rfl (fun _ _ _ h => h) hJ
    · intro done us W hJ hdep haft hnot b hb hb' K hK Q'
      have e6 := (hb' 6 (by simp)).trans s6
      clear hb hb'
      go_simp
      exact hK _ _ rfl (fun _ _ _ h => h) hJ
  · intro us W hV hJ
    exact hend (us 0) (us 1) (us 2) (us 3) (us 4) (us 5) (us 6) W (hV 0 (by omega)) (hV 1 (by omega)) (hV 2 (by omega)) (hV 3 (by omega)) (hV 4 (by omega)) (hV 5 (by omega)) (hV 6 (by omega)) hJ
set_option maxRecDepth 100000 in
set_option maxHeartbeats 2000000 in
theorem faulto_r18 (base gf : Nat) (A : Option Addr) (n c z : Nat) (num : Int) (xss : List (List Int)) (A5 : Option Addr) (n5 c5 : Nat) (xs : List Int) (w : World) (f1 : w.cell? ⟨gf, 1, none⟩ = some (.int .i64 (z : Int))) (f2 : w.cell? ⟨gf, 2, none⟩ = some (.int .i64 num)) (hL : LO base w A n xss) (hbs : base ≤ w.heap.size) (hn : n ≤ 1000000) (hi : z < n) (hI : Ints .u8 w A5 n5 xs) (hc1 : n5 ≤ c5) (hc2 : c5 ≤ 9223372036854775807) (h5 : n5 ≤ 1000000) (a : Act) (Q : Exit → Act → World → Prop) (hsize : 115 ≤ a.tmps.size)
    (s0 : a.tmps[0]? = some (.slice A n c))
    (s3 : a.tmps[3]? = some (.pointer (some ⟨gf, 0, none⟩)))
    (s5 : a.tmps[5]? = some (.slice A5 n5 c5))
    (hend : ∀ (xv0 xv1 xv2 xv3 xv4 xv5 xv6 xv7 xv8 xv9 xv10 xv11 xv12 xv13 xv14 xv15 : Value) (W : World), (xv0 = .slice A n c) → (xv1 = .pointer (some ⟨gf, 1, none⟩)) → (xv2 = .int .i64 (z : Int)) → (∃ A' n' c', xv3 = .slice A' n' c' ∧ LO base W A' n' (dele xss z)) → (xv4 = .pointer (some ⟨gf, 1, none⟩)) → (xv5 = .int .i64 (z : Int)) → (xv6 = .slice A5 n5 c5) → (xv7 = .pointer (some ⟨gf, 2, none⟩)) → (xv8 = .int .i64 num) → (xv9 = .int .i64 (max num 0)) → (xv10 = .slice A5 n5 c5) → (xv11 = .int .i64 (n5 : Int)) → (xv12 = .int .i64 (held num n5 : Nat)) → (xv13 = .slice A5 (held num n5) c5) → (∃ A', xv14 = .slice A' 1 1 ∧ Lists .u8 W A' 1 [xs.take (held num n5)]) → (BodyV base W xv15 (xs.take (held num n5))) → Ext w W → wpList Try.prog (rops Try.f71 18).toArray Q ((rops Try.f71 18).drop 16) ((((((((((((((((a.put (some 99) xv0).put (some 100) xv1).put (some 101) xv2).put (some 102) xv3).put (some 103) xv4).put (some 104) xv5).put (some 105) xv6).put (some 106) xv7).put (some 107) xv8).put (some 108) xv9).put (some 109) xv10).put (some 110) xv11).put (some 111) xv12).put (some 112) xv13).put (some 113) xv14).put (some 114) xv15) W) :
    (Code.region 18 (rops Try.f71 18).toArray true).wp Try.prog Q a w := by
  have hmono : ∀ (W W' : World) (j : Nat) (u : Value), Ext W W' → (fun (i : Nat) (v : Value) (W : World) => match i with
    | 0 => v = .slice A n c
    | 1 => v = .pointer (some ⟨gf, 1, none⟩)
    | 2 => v = .int .i64 (z : Int)
    | 3 => ∃ A' n' c', v = .slice A' n' c' ∧ LO base W A' n' (dele xss z)
    | 4 => v = .pointer (some ⟨gf, 1, none⟩)
    | 5 => v = .int .i64 (z : Int)
    | 6 => v = .slice A5 n5 c5
    | 7 => v = .pointer (some ⟨gf, 2, none⟩)
    | 8 => v = .int .i64 num
    | 9 => v = .int .i64 (max num 0)
    | 10 => v = .slice A5 n5 c5
    | 11 => v = .int .i64 (n5 : Int)
    | 12 => v = .int .i64 (held num n5 : Nat)
    | 13 => v = .slice A5 (held num n5) c5
    | 14 => ∃ A', v = .slice A' 1 1 ∧ Lists .u8 W A' 1 [xs.take (held num n5)]
    | 15 => BodyV base W v (xs.take (held num n5))
    | _ => True) j u W → (fun (i : Nat) (v : Value) (W : World) => match i with
    | 0 => v = .slice A n c
    | 1 => v = .pointer (some ⟨gf, 1, none⟩)
    | 2 => v = .int .i64 (z : Int)
    | 3 => ∃ A' n' c', v = .slice A' n' c' ∧ LO base W A' n' (dele xss z)
    | 4 => v = .pointer (some ⟨gf, 1, none⟩)
    | 5 => v = .int .i64 (z : Int)
    | 6 => v = .slice A5 n5 c5
    | 7 => v = .pointer (some ⟨gf, 2, none⟩)
    | 8 => v = .int .i64 num
    | 9 => v = .int .i64 (max num 0)
    | 10 => v = .slice A5 n5 c5
    | 11 => v = .int .i64 (n5 : Int)
    | 12 => v = .int .i64 (held num n5 : Nat)
    | 13 => v = .slice A5 (held num n5) c5
    | 14 => ∃ A', v = .slice A' 1 1 ∧ Lists .u8 W A' 1 [xs.take (held num n5)]
    | 15 => BodyV base W v (xs.take (held num n5))
    | _ => True) j u W' := by
    intro W W' j u hX h
    match j, h with
    | 0, h => exact h
    | 1, h => exact h
    | 2, h => exact h
    | 3, h => obtain ⟨A', n', c', h1, h2⟩ := h; exact ⟨A', n', c', h1, h2.ext hX⟩
    | 4, h => exact h
    | 5, h => exact h
    | 6, h => exact h
    | 7, h => exact h
    | 8, h => exact h
    | 9, h => exact h
    | 10, h => exact h
    | 11, h => exact h
    | 12, h => exact h
    | 13, h => exact h
    | 14, h => obtain ⟨A', h1, h2⟩ := h; exact ⟨A', h1, h2.ext hX⟩
    | 15, h => exact BodyV.ext h hX
    | _ + 16, h => exact h
  have hsz : ∀ d, some d ∈ ([some 99, some 100, some 101, some 102, some 103, some 104, some 105, some 106, some 107, some 108, some 109, some 110, some 111, some 112, some 113, some 114] : List (Option Tmp)) → d < a.tmps.size := slots_lt (by decide) hsize
  refine wp_region_j 16 [some 99, some 100, some 101, some 102, some 103, some 104, some 105, some 106, some 107, some 108, some 109, some 110, some 111, some 112, some 113, some 114] [[], [], [1], [0, 2], [], [4], [], [], [7], [8], [], [10], [9, 11], [6, 12], [13], [14]] [[], [], [], [], [], [], [], [], [], [], [], [], [], [], [], []] (fun (i : Nat) (v : Value) (W : World) => match i with
    | 0 => v = .slice A n c
    | 1 => v = .pointer (some ⟨gf, 1, none⟩)
    | 2 => v = .int .i64 (z : Int)
    | 3 => ∃ A' n' c', v = .slice A' n' c' ∧ LO base W A' n' (dele xss z)
    | 4 => v = .pointer (some ⟨gf, 1, none⟩)
    | 5 => v = .int .i64 (z : Int)
    | 6 => v = .slice A5 n5 c5
    | 7 => v = .pointer (some ⟨gf, 2, none⟩)
    | 8 => v = .int .i64 num
    | 9 => v = .int .i64 (max num 0)
    | 10 => v = .slice A5 n5 c5
    | 11 => v = .int .i64 (n5 : Int)
    | 12 => v = .int .i64 (held num n5 : Nat)
    | 13 => v = .slice A5 (held num n5) c5
    | 14 => ∃ A', v = .slice A' 1 1 ∧ Lists .u8 W A' 1 [xs.take (held num n5)]
    | 15 => BodyV base W v (xs.take (held num n5))
    | _ => True) (fun _ W => Ext w W) (by kernel_rfl) (by kernel_rfl) hsz (fun _ _ _ _ h => h) ((Ext.refl w).drew) ?_ ?_
  · clear hend
    simp only [rops, Try.f71, regOf, Option.bind_some, Nat.reduceBEq, if_true, if_false, Bool.false_eq_true, Option.getD_some]
    simp only [List.take_succ_cons, List.take_zero]
    refine ⟨?_, ?_, ?_, ?_, ?_, ?_, ?_, ?_, ?_, ?_, ?_, ?_, ?_, ?_, ?_, ?_, trivial⟩
    · intro done us W hJ hdep haft hnot b hb hb' K hK Q'
      have e0 := (hb' 0 (by simp)).trans s0
      clear hb hb'
      go_simp
      exact hK _ _ rfl (fun _ _ _ h => h) hJ
    · intro done us W hJ hdep haft hnot b hb hb' K hK Q'
      have e3 := (hb' 3 (by simp)).trans s3
      clear hb hb'
      go_simp
      exact hK _ _ rfl (fun _ _ _ h => h) hJ
    · intro done us W hJ hdep haft hnot b hb hb' K hK Q'
      simp only [List.getD_cons_succ, List.getD_cons_zero, List.mem_cons, List.not_mem_nil, or_false, forall_eq_or_imp, forall_eq] at hdep
      have e100 := hb 1 100 rfl
      have d1 := hdep
      rw [d1.1] at e100
      clear hb hb' hdep d1
      have q := Ext.cell hJ f1
      go_simp
      exact hK _ _ rfl (fun _ _ _ h => h) hJ
    · intro done us W hJ hdep haft hnot b hb hb' K hK Q'
      simp only [List.getD_cons_succ, List.getD_cons_zero, List.mem_cons, List.not_mem_nil, or_false, forall_eq_or_imp, forall_eq] at hdep
      have e99 := hb 0 99 rfl
      have e101 := hb 2 101 rfl
      have d0 := hdep.1
      have d2 := hdep.2
      rw [d0.1] at e99
      rw [d2.1] at e101
      clear hb hb' hdep d0 d2
      go_simp
      refine (withouto_any base A n c z xss W (hL.ext hJ) (Nat.le_trans hbs (Ext.size hJ)) hn hi).mono ?_
      rintro e w' ⟨A', n', c', rfl, hl, _, _, hX⟩
      exact hK _ _ ⟨A', n', c', rfl, hl⟩ (fun j u _ h => hmono _ _ j u hX h) (Ext.trans hJ hX)
    · intro done us W hJ hdep haft hnot b hb hb' K hK Q'
      have e3 := (hb' 3 (by simp)).trans s3
      clear hb hb'
      go_simp
      exact hK _ _ rfl (fun _ _ _ h => h) hJ
    · intro done us W hJ hdep haft hnot b hb hb' K hK Q'
      simp only [List.getD_cons_succ, List.getD_cons_zero, List.mem_cons, List.not_mem_nil, or_false, forall_eq_or_imp, forall_eq] at hdep
      have e103 := hb 4 103 rfl
      have d4 := hdep
      rw [d4.1] at e103
      clear hb hb' hdep d4
      have q := Ext.cell hJ f1
      go_simp
      exact hK _ _ rfl (fun _ _ _ h => h) hJ
    · intro done us W hJ hdep haft hnot b hb hb' K hK Q'
      have e5 := (hb' 5 (by simp)).trans s5
      clear hb hb'
      go_simp
      exact hK _ _ rfl (fun _ _ _ h => h) hJ
    · intro done us W hJ hdep haft hnot b hb hb' K hK Q'
      have e3 := (hb' 3 (by simp)).trans s3
      clear hb hb'
      go_simp
      exact hK _ _ rfl (fun _ _ _ h => h) hJ
    · intro done us W hJ hdep haft hnot b hb hb' K hK Q'
      simp only [List.getD_cons_succ, List.getD_cons_zero, List.mem_cons, List.not_mem_nil, or_false, forall_eq_or_imp, forall_eq] at hdep
      have e106 := hb 7 106 rfl
      have d7 := hdep
      rw [d7.1] at e106
      clear hb hb' hdep d7
      have q := Ext.cell hJ f2
      go_simp
      exact hK _ _ rfl (fun _ _ _ h => h) hJ
    · intro done us W hJ hdep haft hnot b hb hb' K hK Q'
      simp only [List.getD_cons_succ, List.getD_cons_zero, List.mem_cons, List.not_mem_nil, or_false, forall_eq_or_imp, forall_eq] at hdep
      have e107 := hb 8 107 rfl
      have d8 := hdep
      rw [d8.1] at e107
      clear hb hb' hdep d8
      go_simp
      exact hK _ _ (by first | rfl | (congr 1; omega) | (congr 1; split <;> omega)) (fun _ _ _ h => h) hJ
    · intro done us W hJ hdep haft hnot b hb hb' K hK Q'
      have e5 := (hb' 5 (by simp)).trans s5
      clear hb hb'
      go_simp
      exact hK _ _ rfl (fun _ _ _ h => h) hJ
    · intro done us W hJ hdep haft hnot b hb hb' K hK Q'
      simp only [List.getD_cons_succ, List.getD_cons_zero, List.mem_cons, List.not_mem_nil, or_false, forall_eq_or_imp, forall_eq] at hdep
      have e109 := hb 10 109 rfl
      have d10 := hdep
      rw [d10.1] at e109
      clear hb hb' hdep d10
      go_simp
      exact hK _ _ rfl (fun _ _ _ h => h) hJ
    · intro done us W hJ hdep haft hnot b hb hb' K hK Q'
      simp only [List.getD_cons_succ, List.getD_cons_zero, List.mem_cons, List.not_mem_nil, or_false, forall_eq_or_imp, forall_eq] at hdep
      have e108 := hb 9 108 rfl
      have e110 := hb 11 110 rfl
      have d9 := hdep.1
      have d11 := hdep.2
      rw [d9.1] at e108
      rw [d11.1] at e110
      clear hb hb' hdep d9 d11
      have q := Lib.hid (held_eq num n5)
      go_simp
      exact hK _ _ (by have q := q.out; congr 1; split <;> omega) (fun _ _ _ h => h) hJ
    · intro done us W hJ hdep haft hnot b hb hb' K hK Q'
      simp only [List.getD_cons_succ, List.getD_cons_zero, List.mem_cons, List.not_mem_nil, or_false, forall_eq_or_imp, forall_eq] at hdep
      have e105 := hb 6 105 rfl
      have e111 := hb 12 111 rfl
      have d6 := hdep.1
      have d12 := hdep.2
      rw [d6.1] at e105
      rw [d12.1] at e111
      clear hb hb' hdep d6 d12
      have q := run_cutH (P := Try.prog) (w := W) (t := 22) elB A5 n5 c5 .i64 (held num n5) (by have := held_le num n5; omega)
      go_simp
      exact hK _ _ rfl (fun _ _ _ h => h) hJ
    · intro done us W hJ hdep haft hnot b hb hb' K hK Q'
      simp only [List.getD_cons_succ, List.getD_cons_zero, List.mem_cons, List.not_mem_nil, or_false, forall_eq_or_imp, forall_eq] at hdep
      have e112 := hb 13 112 rfl
      have d13 := hdep
      rw [d13.1] at e112
      clear hb hb' hdep d13
      have hl1 := lists_one (W := W) (v := .slice A5 (held num n5) c5) (xs := xs.take (held num n5)) (⟨A5, _, c5, rfl, (hI.ext hJ).take (held_le num n5), by have := held_le num n5; omega, hc2⟩)
      go_simp
      exact hK _ _ ⟨_, rfl, hl1⟩ (fun j u _ h => hmono _ _ j u ((Ext.refl _).alloc _) h) (Ext.alloc hJ _)
    · intro done us W hJ hdep haft hnot b hb hb' K hK Q'
      simp only [List.getD_cons_succ, List.getD_cons_zero, List.mem_cons, List.not_mem_nil, or_false, forall_eq_or_imp, forall_eq] at hdep
      have e113 := hb 14 113 rfl
      have d14 := hdep
      clear hb hb' hdep 
      obtain ⟨A', e', hl⟩ := d14.1
      rw [e'] at e113
      go_simp
      refine (joined_any A' 1 1 _ W hl (by omega) (by rw [flat_one]; exact by rw [List.length_take, hI.1]; omega)).mono ?_
      rintro e w' ⟨A2, n2, c2, rfl, ho, hX⟩
      rw [flat_one] at ho
      exact hK _ _ ⟨A2, n2, c2, rfl, ho.mono (Nat.le_trans hbs (Ext.size hJ))⟩ (fun j u _ h => hmono _ _ j u hX h) (Ext.trans hJ hX)
  · intro us W hV hJ
    exact hend (us 0) (us 1) (us 2) (us 3) (us 4) (us 5) (us 6) (us 7) (us 8) (us 9) (us 10) (us 11) (us 12) (us 13) (us 14) (us 15) W (hV 0 (by omega)) (hV 1 (by omega)) (hV 2 (by omega)) (hV 3 (by omega)) (hV 4 (by omega)) (hV 5 (by omega)) (hV 6 (by omega)) (hV 7 (by omega)) (hV 8 (by omega)) (hV 9 (by omega)) (hV 10 (by omega)) (hV 11 (by omega)) (hV 12 (by omega)) (hV 13 (by omega)) (hV 14 (by omega)) (hV 15 (by omega)) hJ
end Go.Proofs.Ytekhmfliaojabaa
namespace Go.Proofs.Ytekhmfliaojabaa
open Go.RowKit


set_option maxRecDepth 100000 in
set_option maxHeartbeats 2000000 in
theorem faultO_out (base : Nat) (A : Option Addr) (n c : Nat) (kd pl num : Int) (xss : List (List Int)) (w : World) (hnc : n ≤ c) (hcm : c ≤ 9223372036854775807) (hL : LO base w A n xss) (ho : pl < 0 ∨ (n : Int) ≤ pl) :
    Calls Try.prog 71 #[.slice A n c, .agg #[.int .i64 kd, .int .i64 pl, .int .i64 num]] w (RetLO base w xss) := by
  have HL := Lib.hid hL
  clear hL
  rcases ho with ho | ho
  · go_enter Try.func71, Try.ntmps71
    go_wp2
    go_ret
    exact ⟨_, _, _, rfl, HL.out.ext ((Ext.refl w).alloc _), hnc, hcm, (Ext.refl w).alloc _⟩
  · by_cases ho2 : pl < 0
    · omega
    · go_enter Try.func71, Try.ntmps71
      go_wp2
      go_ret
      exact ⟨_, _, _, rfl, HL.out.ext ((Ext.refl w).alloc _), hnc, hcm, (Ext.refl w).alloc _⟩

set_option maxRecDepth 100000 in
set_option maxHeartbeats 2000000 in
theorem faultO_k1 (base : Nat) (A : Option Addr) (n c i : Nat) (kd num : Int) (xss : List (List Int)) (xs : List Int)  (w : World) (hnc : n ≤ c) (hcm : c ≤ 9223372036854775807) (hL : LO base w A n xss) (hbs : base ≤ w.heap.size) (hn : n ≤ 1000000) (hi : i < n) (hb : ∀ x ∈ xss, x.length ≤ 1000000) (hx : xss[i]? = some xs)  :
    Calls Try.prog 71 #[.slice A n c, .agg #[.int .i64 1, .int .i64 (i : Int), .int .i64 num]] w (RetLO base w (dele xss i)) := by
  have HL := Lib.hid hL
  have HB := Lib.hid hb
  have HXS := Lib.hid hx
  clear hL hb hx
  have hi0 : (i : Int) < (n : Int) := by omega
  have hi1 : (0 : Int) ≤ (i : Int) := by omega
  obtain ⟨b0, off, A5, n5, c5, xs', rfl, hx, hc, hO⟩ := HL.out.get hi
  have hI := hO.ints
  obtain ⟨hc1, hc2⟩ := hO.cap
  have HOX := Lib.hid hO
  clear hO
  obtain rfl : xs' = xs := by have := HXS.out; rw [hx] at this; exact Option.some.inj this
  have h5 : n5 ≤ 1000000 := by have := HB.out xs' (List.mem_of_getElem? hx); rw [hI.1] at this; exact this
  have HIX := Lib.hid hI
  have HC := Lib.hid hc
  clear hx hI hc
  have hXe : Ext w (w.alloc (.cells #[.int .i64 1, .int .i64 (i : Int), .int .i64 num] 114)) := ((Ext.refl w).alloc _)
  have kF : Blk (w.alloc (.cells #[.int .i64 1, .int .i64 (i : Int), .int .i64 num] 114)) w.heap.size 114 #[.int .i64 1, .int .i64 (i : Int), .int .i64 num] := Blk.at_ (by simp)
  have hc := hXe.cell HC.out
  go_enter Try.func71, Try.ntmps71
  go_wp2_with fail
  generalize (w.alloc (.cells #[.int .i64 1, .int .i64 (i : Int), .int .i64 num] 114)) = w1 at hXe hc kF ⊢
  have HX := Lib.hid hXe
  clear hXe
  have KF := Lib.hid kF
  clear kF
  have HL0 := HL
  replace HL := Lib.hid (HL.out.ext HX.out)
  replace HIX := Lib.hid (HIX.out.ext HX.out)
  replace HOX := Lib.hid (HOX.out.ext HX.out)
  have hbx := Nat.le_trans hbs HX.out.size
  have cF0 : w1.cell? ⟨w.heap.size, 0, none⟩ = some (.int .i64 1) := KF.out.cell 0
  have cF1 : w1.cell? ⟨w.heap.size, 1, none⟩ = some (.int .i64 (i : Int)) := KF.out.cell 1
  have cF2 : w1.cell? ⟨w.heap.size, 2, none⟩ = some (.int .i64 num) := KF.out.cell 2
  go_wp2_with fail
  clear cF0 cF1 cF2
  refine (withouto_any base _ n c i xss _ HL.out hbx hn hi).mono ?_
  rintro e w2 ⟨A9, n9, c9, rfl, hl9, hm1, hm2, hX⟩
  replace hX : Ext w1 w2 := by with_reducible exact hX
  replace HX := Lib.hid (HX.out.trans hX)
  replace HL := Lib.hid (HL.out.ext hX)
  replace HIX := Lib.hid (HIX.out.ext hX)
  replace HOX := Lib.hid (HOX.out.ext hX)
  replace KF := Lib.hid (KF.out.ext hX)
  clear hX
  go_wp2
  go_ret
  exact ⟨_, _, _, rfl, hl9, hm1, hm2, HX.out⟩

set_option maxRecDepth 100000 in
set_option maxHeartbeats 2000000 in
theorem faultO_k2 (base : Nat) (A : Option Addr) (n c i : Nat) (kd num : Int) (xss : List (List Int)) (xs : List Int)  (w : World) (hnc : n ≤ c) (hcm : c ≤ 9223372036854775807) (hL : LO base w A n xss) (hbs : base ≤ w.heap.size) (hn : n ≤ 1000000) (hi : i < n) (hb : ∀ x ∈ xss, x.length ≤ 1000000) (hx : xss[i]? = some xs)  :
    Calls Try.prog 71 #[.slice A n c, .agg #[.int .i64 2, .int .i64 (i : Int), .int .i64 num]] w (RetLO base w (inse xss (i + 1) xs)) := by
  have HL := Lib.hid hL
  have HB := Lib.hid hb
  have HXS := Lib.hid hx
  clear hL hb hx
  have hi0 : (i : Int) < (n : Int) := by omega
  have hi1 : (0 : Int) ≤ (i : Int) := by omega
  obtain ⟨b0, off, A5, n5, c5, xs', rfl, hx, hc, hO⟩ := HL.out.get hi
  have hI := hO.ints
  obtain ⟨hc1, hc2⟩ := hO.cap
  have HOX := Lib.hid hO
  clear hO
  obtain rfl : xs' = xs := by have := HXS.out; rw [hx] at this; exact Option.some.inj this
  have h5 : n5 ≤ 1000000 := by have := HB.out xs' (List.mem_of_getElem? hx); rw [hI.1] at this; exact this
  have HIX := Lib.hid hI
  have HC := Lib.hid hc
  clear hx hI hc
  have hXe : Ext w (w.alloc (.cells #[.int .i64 2, .int .i64 (i : Int), .int .i64 num] 114)) := ((Ext.refl w).alloc _)
  have kF : Blk (w.alloc (.cells #[.int .i64 2, .int .i64 (i : Int), .int .i64 num] 114)) w.heap.size 114 #[.int .i64 2, .int .i64 (i : Int), .int .i64 num] := Blk.at_ (by simp)
  have hc := hXe.cell HC.out
  go_enter Try.func71, Try.ntmps71
  go_wp2_with fail
  generalize (w.alloc (.cells #[.int .i64 2, .int .i64 (i : Int), .int .i64 num] 114)) = w1 at hXe hc kF ⊢
  have HX := Lib.hid hXe
  clear hXe
  have KF := Lib.hid kF
  clear kF
  have HL0 := HL
  replace HL := Lib.hid (HL.out.ext HX.out)
  replace HIX := Lib.hid (HIX.out.ext HX.out)
  replace HOX := Lib.hid (HOX.out.ext HX.out)
  have hbx := Nat.le_trans hbs HX.out.size
  have cF0 : w1.cell? ⟨w.heap.size, 0, none⟩ = some (.int .i64 2) := KF.out.cell 0
  have cF1 : w1.cell? ⟨w.heap.size, 1, none⟩ = some (.int .i64 (i : Int)) := KF.out.cell 1
  have cF2 : w1.cell? ⟨w.heap.size, 2, none⟩ = some (.int .i64 num) := KF.out.cell 2
  go_upto_region 8 with (fail)
  clear cF0 cF1 cF2
  refine faulto_r8 base w.heap.size (some ⟨b0, off, none⟩) n c i num xss A5 n5 c5 xs' w1 (KF.out.cell 1) (KF.out.cell 2) HL.out (Nat.le_trans hbs HX.out.size) hn hi HIX.out hc1 hc2 h5 _ _ (by simp) rfl rfl rfl ?_
  rintro xv0 xv1 xv2 xv3 xv4 xv5 xv6 w2 rfl rfl rfl rfl rfl ⟨A7, rfl, hl7⟩ ⟨A8, n8, c8, rfl, hI8⟩ hXW
  simp only [rops, Try.f71, regOf, Option.bind_some, Nat.reduceBEq, if_true, if_false, Bool.false_eq_true, Option.getD_some, List.drop_succ_cons, List.drop_zero]
  simp only [Act.put, List.setIfInBounds_toArray, List.set_cons_succ, List.set_cons_zero]
  replace HX := Lib.hid (HX.out.trans hXW)
  replace HL := Lib.hid (HL.out.ext hXW)
  replace HIX := Lib.hid (HIX.out.ext hXW)
  replace HOX := Lib.hid (HOX.out.ext hXW)
  replace KF := Lib.hid (KF.out.ext hXW)
  clear hXW
  have HI8 : Hid (BodyV base w2 (.slice A8 n8 c8) xs') := Lib.hid ⟨A8, n8, c8, rfl, hI8⟩
  clear hI8 hl7
  go_wp2_with fail
  refine (witho_any base _ n c (i + 1) ((i : Int) + 1) (by omega) _ xs' xss _ HL.out HI8.out (Nat.le_trans hbs HX.out.size) hn (by omega)).mono ?_
  rintro e w3 ⟨A9, n9, c9, rfl, hl9, hm1, hm2, hX⟩
  replace hX : Ext w2 w3 := by with_reducible exact hX
  replace HX := Lib.hid (HX.out.trans hX)
  replace HL := Lib.hid (HL.out.ext hX)
  replace HIX := Lib.hid (HIX.out.ext hX)
  replace HOX := Lib.hid (HOX.out.ext hX)
  replace KF := Lib.hid (KF.out.ext hX)
  clear hX
  go_wp2
  go_ret
  exact ⟨_, _, _, rfl, hl9, hm1, hm2, HX.out⟩

set_option maxRecDepth 100000 in
set_option maxHeartbeats 2000000 in
theorem faultO_k3 (base : Nat) (A : Option Addr) (n c i : Nat) (kd num : Int) (xss : List (List Int)) (xs : List Int)  (w : World) (hnc : n ≤ c) (hcm : c ≤ 9223372036854775807) (hL : LO base w A n xss) (hbs : base ≤ w.heap.size) (hn : n ≤ 1000000) (hi : i < n) (hb : ∀ x ∈ xss, x.length ≤ 1000000) (hx : xss[i]? = some xs)  :
    Calls Try.prog 71 #[.slice A n c, .agg #[.int .i64 3, .int .i64 (i : Int), .int .i64 num]] w (RetLO base w (inse (dele xss i) (held num (n - 1)) xs)) := by
  have HL := Lib.hid hL
  have HB := Lib.hid hb
  have HXS := Lib.hid hx
  clear hL hb hx
  have hi0 : (i : Int) < (n : Int) := by omega
  have hi1 : (0 : Int) ≤ (i : Int) := by omega
  obtain ⟨b0, off, A5, n5, c5, xs', rfl, hx, hc, hO⟩ := HL.out.get hi
  have hI := hO.ints
  obtain ⟨hc1, hc2⟩ := hO.cap
  have HOX := Lib.hid hO
  clear hO
  obtain rfl : xs' = xs := by have := HXS.out; rw [hx] at this; exact Option.some.inj this
  have h5 : n5 ≤ 1000000 := by have := HB.out xs' (List.mem_of_getElem? hx); rw [hI.1] at this; exact this
  have HIX := Lib.hid hI
  have HC := Lib.hid hc
  clear hx hI hc
  have hXe : Ext w (w.alloc (.cells #[.int .i64 3, .int .i64 (i : Int), .int .i64 num] 114)) := ((Ext.refl w).alloc _)
  have kF : Blk (w.alloc (.cells #[.int .i64 3, .int .i64 (i : Int), .int .i64 num] 114)) w.heap.size 114 #[.int .i64 3, .int .i64 (i : Int), .int .i64 num] := Blk.at_ (by simp)
  have hc := hXe.cell HC.out
  go_enter Try.func71, Try.ntmps71
  go_wp2_with fail
  generalize (w.alloc (.cells #[.int .i64 3, .int .i64 (i : Int), .int .i64 num] 114)) = w1 at hXe hc kF ⊢
  have HX := Lib.hid hXe
  clear hXe
  have KF := Lib.hid kF
  clear kF
  have HL0 := HL
  replace HL := Lib.hid (HL.out.ext HX.out)
  replace HIX := Lib.hid (HIX.out.ext HX.out)
  replace HOX := Lib.hid (HOX.out.ext HX.out)
  have hbx := Nat.le_trans hbs HX.out.size
  have cF0 : w1.cell? ⟨w.heap.size, 0, none⟩ = some (.int .i64 3) := KF.out.cell 0
  have cF1 : w1.cell? ⟨w.heap.size, 1, none⟩ = some (.int .i64 (i : Int)) := KF.out.cell 1
  have cF2 : w1.cell? ⟨w.heap.size, 2, none⟩ = some (.int .i64 num) := KF.out.cell 2
  go_upto_region 10 with (fail)
  clear cF0 cF1 cF2
  refine faulto_r10 base w.heap.size (some ⟨b0, off, none⟩) n c i num xss A5 n5 c5 xs' w1 (KF.out.cell 1) (KF.out.cell 2) HL.out (Nat.le_trans hbs HX.out.size) hn hi HIX.out hc1 hc2 h5 _ _ (by simp) rfl rfl rfl ?_
  rintro xv0 xv1 xv2 xv3 xv4 xv5 xv6 xv7 xv8 xv9 xv10 xv11 w2 rfl rfl rfl ⟨A7, n7, c7, rfl, hl7⟩ rfl rfl rfl rfl rfl rfl rfl rfl hXW
  simp only [rops, Try.f71, regOf, Option.bind_some, Nat.reduceBEq, if_true, if_false, Bool.false_eq_true, Option.getD_some, List.drop_succ_cons, List.drop_zero]
  simp only [Act.put, List.setIfInBounds_toArray, List.set_cons_succ, List.set_cons_zero]
  replace HX := Lib.hid (HX.out.trans hXW)
  replace HL := Lib.hid (HL.out.ext hXW)
  replace HIX := Lib.hid (HIX.out.ext hXW)
  replace HOX := Lib.hid (HOX.out.ext hXW)
  replace KF := Lib.hid (KF.out.ext hXW)
  clear hXW
  have hl8 := hl7.len
  rw [dele_len (by rw [HL.out.len]; exact hi), HL.out.len] at hl8
  have HL7 := Lib.hid hl7
  have HL8 := Lib.hid hl8
  clear hl7 hl8
  go_wp2_with fail
  refine (witho_any base _ n7 c7 (held num (n - 1)) _ rfl _ xs' _ _ HL7.out ⟨A5, n5, c5, rfl, HOX.out⟩ (Nat.le_trans hbs HX.out.size) (by have := HL8.out; omega) (by have := HL8.out; have := held_le num (n - 1); omega)).mono ?_
  rintro e w3 ⟨A9, n9, c9, rfl, hl9, hm1, hm2, hX⟩
  replace hX : Ext w2 w3 := by with_reducible exact hX
  replace HX := Lib.hid (HX.out.trans hX)
  replace HL := Lib.hid (HL.out.ext hX)
  replace HIX := Lib.hid (HIX.out.ext hX)
  replace HOX := Lib.hid (HOX.out.ext hX)
  replace KF := Lib.hid (KF.out.ext hX)
  clear hX
  go_wp2
  go_ret
  exact ⟨_, _, _, rfl, hl9, hm1, hm2, HX.out⟩

set_option maxRecDepth 100000 in
set_option maxHeartbeats 2000000 in
theorem faultO_k4n (base : Nat) (A : Option Addr) (n c i : Nat) (num : Int) (xss : List (List Int)) (xs : List Int) (w : World) (hnc : n ≤ c) (hcm : c ≤ 9223372036854775807) (hL : LO base w A n xss) (hi : i < n) (hx : xss[i]? = some xs) (hk : num < 0 ∨ (xs.length : Int) ≤ num.tdiv 8) (hnum : -9223372036854775808 ≤ num ∧ num ≤ 9223372036854775807) :
    Calls Try.prog 71 #[.slice A n c, .agg #[.int .i64 4, .int .i64 (i : Int), .int .i64 num]] w (RetLO base w xss) := by
  have HL := Lib.hid hL
  have HXS := Lib.hid hx
  have hi0 : (i : Int) < (n : Int) := by omega
  have hi1 : (0 : Int) ≤ (i : Int) := by omega
  obtain ⟨b0, off, A5, n5, c5, xs', rfl, hx', hc, hI, hc1, hc2⟩ := hL.lists.get hi
  obtain rfl : xs' = xs := by rw [hx] at hx'; exact (Option.some.inj hx').symm
  have hn5 := hI.1
  rw [hn5] at hk
  have hwr := wrap_tdiv hnum
  have hc' := ((Ext.refl w).alloc (.cells #[.int .i64 4, .int .i64 (i : Int), .int .i64 num] 114)).cell hc
  clear hL hx hx' hI hn5 hc
  rcases hk with hk | hk
  · go_enter Try.func71, Try.ntmps71
    go_wp2
    go_ret
    exact ⟨_, _, _, rfl, HL.out.ext ((Ext.refl w).alloc _), hnc, hcm, (Ext.refl w).alloc _⟩
  · by_cases hk2 : num < 0
    · go_enter Try.func71, Try.ntmps71
      go_wp2
      go_ret
      exact ⟨_, _, _, rfl, HL.out.ext ((Ext.refl w).alloc _), hnc, hcm, (Ext.refl w).alloc _⟩
    · go_enter Try.func71, Try.ntmps71
      go_wp2
      go_ret
      exact ⟨_, _, _, rfl, HL.out.ext ((Ext.refl w).alloc _), hnc, hcm, (Ext.refl w).alloc _⟩

set_option maxRecDepth 100000 in
set_option maxHeartbeats 2000000 in
theorem faultO_k4 (base : Nat) (A : Option Addr) (n c i : Nat) (kd num : Int) (xss : List (List Int)) (xs : List Int) (q : Nat) (w : World) (hnc : n ≤ c) (hcm : c ≤ 9223372036854775807) (hL : LO base w A n xss) (hbs : base ≤ w.heap.size) (hn : n ≤ 1000000) (hi : i < n) (hb : ∀ x ∈ xss, x.length ≤ 1000000) (hx : xss[i]? = some xs) (hq : q / 8 < xs.length) :
    Calls Try.prog 71 #[.slice A n c, .agg #[.int .i64 4, .int .i64 (i : Int), .int .i64 (q : Int)]] w (RetLO base w (inse (dele xss i) i (flipped xs q))) := by
  have HL := Lib.hid hL
  have HB := Lib.hid hb
  have HXS := Lib.hid hx
  clear hL hb hx
  have hi0 : (i : Int) < (n : Int) := by omega
  have hi1 : (0 : Int) ≤ (i : Int) := by omega
  have HQ := Lib.hid hq
  clear hq
  obtain ⟨b0, off, A5, n5, c5, xs', rfl, hx, hc, hO⟩ := HL.out.get hi
  have hI := hO.ints
  obtain ⟨hc1, hc2⟩ := hO.cap
  have HOX := Lib.hid hO
  clear hO
  obtain rfl : xs' = xs := by have := HXS.out; rw [hx] at this; exact Option.some.inj this
  have h5 : n5 ≤ 1000000 := by have := HB.out xs' (List.mem_of_getElem? hx); rw [hI.1] at this; exact this
  have HIX := Lib.hid hI
  have HC := Lib.hid hc
  clear hx hI hc
  have hq := HQ.out
  rw [HIX.out.1] at hq
  have hq0 : ¬ (q : Int) < 0 := by omega
  have hq9 : ¬ ((n5 : Int) ≤ (q : Int) / 8) := by omega
  have hXe : Ext w (w.alloc (.cells #[.int .i64 4, .int .i64 (i : Int), .int .i64 (q : Int)] 114)) := ((Ext.refl w).alloc _)
  have kF : Blk (w.alloc (.cells #[.int .i64 4, .int .i64 (i : Int), .int .i64 (q : Int)] 114)) w.heap.size 114 #[.int .i64 4, .int .i64 (i : Int), .int .i64 (q : Int)] := Blk.at_ (by simp)
  have hc := hXe.cell HC.out
  go_enter Try.func71, Try.ntmps71
  go_upto_region 14 with (fail)
  generalize (w.alloc (.cells #[.int .i64 4, .int .i64 (i : Int), .int .i64 (q : Int)] 114)) = w1 at hXe hc kF ⊢
  have HX := Lib.hid hXe
  clear hXe
  have KF := Lib.hid kF
  clear kF
  have HL0 := HL
  replace HL := Lib.hid (HL.out.ext HX.out)
  replace HIX := Lib.hid (HIX.out.ext HX.out)
  replace HOX := Lib.hid (HOX.out.ext HX.out)
  have hbx := Nat.le_trans hbs HX.out.size
  have cF0 : w1.cell? ⟨w.heap.size, 0, none⟩ = some (.int .i64 4) := KF.out.cell 0
  have cF1 : w1.cell? ⟨w.heap.size, 1, none⟩ = some (.int .i64 (i : Int)) := KF.out.cell 1
  have cF2 : w1.cell? ⟨w.heap.size, 2, none⟩ = some (.int .i64 (q : Int)) := KF.out.cell 2
  have z1 := KF.out.lt
  have HY9 : Hid (base ≤ w1.heap.size) := Lib.hid (Nat.le_trans hbs HX.out.size)
  go_wp2_with fail
  clear cF0 cF1 cF2
  refine (joined_one A5 n5 c5 xs' _ HIX.out hc1 hc2 h5).mono ?_
  rintro e w2 ⟨A6, n6, c6, rfl, ho6, hX⟩
  replace hX : Ext w1 w2 := by with_reducible exact hX
  replace HX := Lib.hid (HX.out.trans hX)
  replace HL := Lib.hid (HL.out.ext hX)
  replace HIX := Lib.hid (HIX.out.ext hX)
  replace HOX := Lib.hid (HOX.out.ext hX)
  replace KF := Lib.hid (KF.out.ext hX)
  clear hX
  obtain rfl : n6 = n5 := by have := ho6.len; rw [HIX.out.1] at this; exact this.symm
  obtain ⟨gy, rfl, hgy, hgy2⟩ := own_block ho6.own (by omega)
  have HO6 := Lib.hid ho6
  clear ho6
  obtain ⟨q8, hq8⟩ : ∃ q8, q / 8 = q8 := ⟨_, rfl⟩
  obtain ⟨r, hr8⟩ : ∃ r, q % 8 = r := ⟨_, rfl⟩
  obtain ⟨p2, hp2⟩ : ∃ p2 : Int, ((2 ^ r : Nat) : Int) = p2 := ⟨_, rfl⟩
  have hzz := flip_val HO6.out.wf (by rw [HO6.out.len, ← hq8]; exact hq) hq8 hr8 hp2
  have hyb := getD_u8 HO6.out.wf (j := q8) (by rw [HO6.out.len, ← hq8]; exact hq)
  obtain ⟨y, hy⟩ : ∃ y, xs'.getD q8 0 = y := ⟨_, rfl⟩
  obtain ⟨zz, hz⟩ : ∃ zz, flipB xs' q = zz := ⟨_, rfl⟩
  rw [hy] at hyb hzz
  rw [hz] at hzz
  have hq5 : q8 < n6 := by omega
  have HQ8 := Lib.hid hq8
  have HR8 := Lib.hid hr8
  have HP2 := Lib.hid hp2
  have HZZ := Lib.hid hzz
  have HY := Lib.hid hy
  have HZ := Lib.hid hz
  clear hq8 hr8 hp2 hzz hy hz hq hq9
  go_upto_region 15 with (fail)
  refine faulto_r15 w.heap.size gy c6 q q8 r n6 y p2 zz w2 (KF.out.cell 2) (by have := (HO6.out.cellB hq5).1; rw [HY.out] at this; exact this) hyb hq5 h5 HQ8 HR8 HP2 HZZ _ _ (by simp) rfl rfl ?_
  rintro xv0 xv1 xv2 xv3 xv4 xv5 xv6 xv7 xv8 xv9 xv10 xv11 xv12 xv13 xv14 xv15 w3 rfl rfl rfl rfl rfl rfl rfl rfl rfl rfl rfl rfl rfl rfl rfl rfl hXW
  simp only [rops, Try.f71, regOf, Option.bind_some, Nat.reduceBEq, if_true, if_false, Bool.false_eq_true, Option.getD_some, List.drop_succ_cons, List.drop_zero]
  simp only [Act.put, List.setIfInBounds_toArray, List.set_cons_succ, List.set_cons_zero]
  replace HX := Lib.hid (HX.out.trans hXW)
  replace HL := Lib.hid (HL.out.ext hXW)
  replace HIX := Lib.hid (HIX.out.ext hXW)
  replace HOX := Lib.hid (HOX.out.ext hXW)
  replace HO6 := Lib.hid (HO6.out.ext hXW)
  replace KF := Lib.hid (KF.out.ext hXW)
  clear hXW
  have hcy : w3.cell? ⟨gy, q8, none⟩ = some (.int .u8 y) := by have := (HO6.out.cellB hq5).1; rw [HY.out] at this; exact this
  have hfy := (HO6.out.cellB hq5).2
  go_upto_region 16 with (fail)
  have hXs : Ext w (w3.setCell ⟨gy, q8, none⟩ (.int .u8 zz)) := HX.out.setCell (show w.heap.size ≤ gy by omega) _
  have hof := HO6.out.flip HQ8.out
  rw [HZ.out] at hof
  have hKF := KF.out.far (p := ⟨gy, q8, none⟩) (show w.heap.size ≠ gy by omega) (.int .u8 zz)
  clear hcy hfy
  generalize (w3.setCell ⟨gy, q8, none⟩ (.int .u8 zz)) = w9 at hXs hof hKF ⊢
  replace HX := Lib.hid hXs
  replace HL := Lib.hid (HL0.out.ext hXs)
  replace KF := Lib.hid hKF
  have HOF := Lib.hid hof
  clear hXs hKF hof HIX HO6
  go_wp2_with fail
  refine faulto_r16 base w.heap.size (some ⟨b0, off, none⟩) n c i (q : Int) xss A5 n6 c5 xs' (some ⟨gy, 0, none⟩) n6 c6 w9 (KF.out.cell 1) (KF.out.cell 2) HL.out (Nat.le_trans hbs HX.out.size) hn hi _ _ (by simp) rfl rfl rfl ?_
  rintro xv0 xv1 xv2 xv3 xv4 xv5 xv6 w4 rfl rfl rfl ⟨A7, n7, c7, rfl, hl7⟩ rfl rfl rfl hXW
  simp only [rops, Try.f71, regOf, Option.bind_some, Nat.reduceBEq, if_true, if_false, Bool.false_eq_true, Option.getD_some, List.drop_succ_cons, List.drop_zero]
  simp only [Act.put, List.setIfInBounds_toArray, List.set_cons_succ, List.set_cons_zero]
  replace HX := Lib.hid (HX.out.trans hXW)
  replace HL := Lib.hid (HL.out.ext hXW)
  replace HOF := Lib.hid (HOF.out.ext hXW)
  replace KF := Lib.hid (KF.out.ext hXW)
  clear hXW
  have hl8 := hl7.len
  rw [dele_len (by rw [HL.out.len]; exact hi), HL.out.len] at hl8
  have HL7 := Lib.hid hl7
  have HL8 := Lib.hid hl8
  clear hl7 hl8
  go_wp2_with fail
  refine (witho_any base _ n7 c7 i _ rfl _ _ _ _ HL7.out ⟨_, _, _, rfl, HOF.out.mono (by have := HY9.out; omega)⟩ (Nat.le_trans hbs HX.out.size) (by have := HL8.out; omega) (by have := HL8.out; omega)).mono ?_
  rintro e w5 ⟨A9, n9, c9, rfl, hl9, hm1, hm2, hX⟩
  replace hX : Ext w4 w5 := by with_reducible exact hX
  replace HX := Lib.hid (HX.out.trans hX)
  replace HL := Lib.hid (HL.out.ext hX)
  replace HOF := Lib.hid (HOF.out.ext hX)
  replace KF := Lib.hid (KF.out.ext hX)
  clear hX
  go_wp2
  go_ret
  exact ⟨_, _, _, rfl, hl9, hm1, hm2, HX.out⟩

set_option maxRecDepth 100000 in
set_option maxHeartbeats 2000000 in
theorem faultO_k5 (base : Nat) (A : Option Addr) (n c i : Nat) (kd num : Int) (xss : List (List Int)) (xs : List Int)  (w : World) (hnc : n ≤ c) (hcm : c ≤ 9223372036854775807) (hL : LO base w A n xss) (hbs : base ≤ w.heap.size) (hn : n ≤ 1000000) (hi : i < n) (hb : ∀ x ∈ xss, x.length ≤ 1000000) (hx : xss[i]? = some xs)  :
    Calls Try.prog 71 #[.slice A n c, .agg #[.int .i64 5, .int .i64 (i : Int), .int .i64 num]] w (RetLO base w (inse (dele xss i) i (xs.take (held num xs.length)))) := by
  have HL := Lib.hid hL
  have HB := Lib.hid hb
  have HXS := Lib.hid hx
  clear hL hb hx
  have hi0 : (i : Int) < (n : Int) := by omega
  have hi1 : (0 : Int) ≤ (i : Int) := by omega
  obtain ⟨b0, off, A5, n5, c5, xs', rfl, hx, hc, hO⟩ := HL.out.get hi
  have hI := hO.ints
  obtain ⟨hc1, hc2⟩ := hO.cap
  have HOX := Lib.hid hO
  clear hO
  obtain rfl : xs' = xs := by have := HXS.out; rw [hx] at this; exact Option.some.inj this
  have h5 : n5 ≤ 1000000 := by have := HB.out xs' (List.mem_of_getElem? hx); rw [hI.1] at this; exact this
  have HIX := Lib.hid hI
  have HC := Lib.hid hc
  clear hx hI hc
  have hXe : Ext w (w.alloc (.cells #[.int .i64 5, .int .i64 (i : Int), .int .i64 num] 114)) := ((Ext.refl w).alloc _)
  have kF : Blk (w.alloc (.cells #[.int .i64 5, .int .i64 (i : Int), .int .i64 num] 114)) w.heap.size 114 #[.int .i64 5, .int .i64 (i : Int), .int .i64 num] := Blk.at_ (by simp)
  have hc := hXe.cell HC.out
  go_enter Try.func71, Try.ntmps71
  go_wp2_with fail
  generalize (w.alloc (.cells #[.int .i64 5, .int .i64 (i : Int), .int .i64 num] 114)) = w1 at hXe hc kF ⊢
  have HX := Lib.hid hXe
  clear hXe
  have KF := Lib.hid kF
  clear kF
  have HL0 := HL
  replace HL := Lib.hid (HL.out.ext HX.out)
  replace HIX := Lib.hid (HIX.out.ext HX.out)
  replace HOX := Lib.hid (HOX.out.ext HX.out)
  have hbx := Nat.le_trans hbs HX.out.size
  have cF0 : w1.cell? ⟨w.heap.size, 0, none⟩ = some (.int .i64 5) := KF.out.cell 0
  have cF1 : w1.cell? ⟨w.heap.size, 1, none⟩ = some (.int .i64 (i : Int)) := KF.out.cell 1
  have cF2 : w1.cell? ⟨w.heap.size, 2, none⟩ = some (.int .i64 num) := KF.out.cell 2
  go_upto_region 18 with (fail)
  clear cF0 cF1 cF2
  refine faulto_r18 base w.heap.size (some ⟨b0, off, none⟩) n c i num xss A5 n5 c5 xs' w1 (KF.out.cell 1) (KF.out.cell 2) HL.out (Nat.le_trans hbs HX.out.size) hn hi HIX.out hc1 hc2 h5 _ _ (by simp) rfl rfl rfl ?_
  rintro xv0 xv1 xv2 xv3 xv4 xv5 xv6 xv7 xv8 xv9 xv10 xv11 xv12 xv13 xv14 xv15 w2 rfl rfl rfl ⟨A7, n7, c7, rfl, hl7⟩ rfl rfl rfl rfl rfl rfl rfl rfl rfl rfl ⟨A8, rfl, hl9⟩ ⟨A9, n9, c9, rfl, hI9⟩ hXW
  simp only [rops, Try.f71, regOf, Option.bind_some, Nat.reduceBEq, if_true, if_false, Bool.false_eq_true, Option.getD_some, List.drop_succ_cons, List.drop_zero]
  simp only [Act.put, List.setIfInBounds_toArray, List.set_cons_succ, List.set_cons_zero]
  replace HX := Lib.hid (HX.out.trans hXW)
  replace HL := Lib.hid (HL.out.ext hXW)
  replace HIX := Lib.hid (HIX.out.ext hXW)
  replace HOX := Lib.hid (HOX.out.ext hXW)
  replace KF := Lib.hid (KF.out.ext hXW)
  clear hXW
  have HI9 : Hid (BodyV base w2 (.slice A9 n9 c9) (xs'.take (held num n5))) := Lib.hid ⟨A9, n9, c9, rfl, hI9⟩
  clear hI9 hl9
  have hl8 := hl7.len
  rw [dele_len (by rw [HL.out.len]; exact hi), HL.out.len] at hl8
  have HL7 := Lib.hid hl7
  have HL8 := Lib.hid hl8
  clear hl7 hl8
  go_wp2_with fail
  refine (witho_any base _ n7 c7 i _ rfl _ _ _ _ HL7.out HI9.out (Nat.le_trans hbs HX.out.size) (by have := HL8.out; omega) (by have := HL8.out; omega)).mono ?_
  rintro e w3 ⟨A10, n10, c10, rfl, hl10, hm1, hm2, hX⟩
  replace hX : Ext w2 w3 := by with_reducible exact hX
  replace HX := Lib.hid (HX.out.trans hX)
  replace HL := Lib.hid (HL.out.ext hX)
  replace HIX := Lib.hid (HIX.out.ext hX)
  replace HOX := Lib.hid (HOX.out.ext hX)
  replace KF := Lib.hid (KF.out.ext hX)
  clear hX
  go_wp2
  go_ret
  rw [HIX.out.1]
  exact ⟨_, _, _, rfl, hl10, hm1, hm2, HX.out⟩


set_option maxRecDepth 100000 in
set_option maxHeartbeats 1000000 in
theorem faultO_else (base : Nat) (A : Option Addr) (n c i : Nat) (kd num : Int) (xss : List (List Int)) (xs : List Int) (w : World) (hnc : n ≤ c) (hcm : c ≤ 9223372036854775807) (hL : LO base w A n xss) (hi : i < n) (hx : xss[i]? = some xs) (h1 : kd ≠ 1) (h2 : kd ≠ 2) (h3 : kd ≠ 3) (h4 : kd ≠ 4) (h5 : kd ≠ 5) :
    Calls Try.prog 71 #[.slice A n c, .agg #[.int .i64 kd, .int .i64 (i : Int), .int .i64 num]] w (RetLO base w xss) := by
  have HL := Lib.hid hL
  have hi0 : (i : Int) < (n : Int) := by omega
  have hi1 : (0 : Int) ≤ (i : Int) := by omega
  obtain ⟨b0, off, A5, n5, c5, xs', rfl, hx', hc, hI, hc1, hc2⟩ := hL.lists.get hi
  have e1 : (kd == 1) = false := by simpa using h1
  have e2 : (kd == 2) = false := by simpa using h2
  have e3 : (kd == 3) = false := by simpa using h3
  have e4 : (kd == 4) = false := by simpa using h4
  have e5 : (kd == 5) = false := by simpa using h5
  have hc' := ((Ext.refl w).alloc (.cells #[.int .i64 kd, .int .i64 (i : Int), .int .i64 num] 114)).cell hc
  clear hL hx hx' hI hc h1 h2 h3 h4 h5
  go_enter Try.func71, Try.ntmps71
  go_wp2
  go_ret
  exact ⟨_, _, _, rfl, HL.out.ext ((Ext.refl w).alloc _), hnc, hcm, (Ext.refl w).alloc _⟩

theorem faultO_any (base : Nat) (A : Option Addr) (n c : Nat) (f : Flt) (xss : List (List Int)) (w : World) (hnc : n ≤ c) (hcm : c ≤ 9223372036854775807) (hL : LO base w A n xss) (hbs : base ≤ w.heap.size) (hn : n ≤ 1000000) (hb : ∀ x ∈ xss, x.length ≤ 1000000) (hf : FltIn f) :
    Calls Try.prog 71 #[.slice A n c, .agg #[.int .i64 f.kind, .int .i64 f.place, .int .i64 f.num]] w (RetLO base w (fault1 xss f)) := by
  obtain ⟨kd, pl, num⟩ := f
  obtain ⟨_, _, hnum⟩ := hf
  simp only at hnum ⊢
  have hlen := hL.len
  unfold fault1
  simp only
  by_cases ho : pl < 0 ∨ (xss.length : Int) ≤ pl
  · rw [if_pos ho]
    exact faultO_out base A n c kd pl num xss w hnc hcm hL (by rw [hlen] at ho; exact ho)
  · rw [if_neg ho]
    obtain ⟨i, rfl⟩ := Int.eq_ofNat_of_zero_le (show 0 ≤ pl by omega)
    have hi : i < n := by omega
    have hi2 : i < xss.length := by omega
    have hx : xss[i]? = some xss[i] := List.getElem?_eq_getElem hi2
    have hd : xss.getD (Int.ofNat i).toNat [] = xss[i] := by simp [List.getD, hx]
    rw [show ((i : Int)).toNat = i from Int.toNat_natCast i]
    have hd : xss.getD i [] = xss[i] := by simp [List.getD, hx]
    rw [hd]
    generalize xss[i] = xs at hx
    unfold spoil1
    simp only
    by_cases k1 : kd = 1
    · subst k1; rw [if_pos rfl]; exact faultO_k1 base A n c i 1 num xss xs w hnc hcm hL hbs hn hi hb hx
    · rw [if_neg k1]
      by_cases k2 : kd = 2
      · subst k2; rw [if_pos rfl]; exact faultO_k2 base A n c i 2 num xss xs w hnc hcm hL hbs hn hi hb hx
      · rw [if_neg k2]
        by_cases k3 : kd = 3
        · subst k3; rw [if_pos rfl, hlen]; exact faultO_k3 base A n c i 3 num xss xs w hnc hcm hL hbs hn hi hb hx
        · rw [if_neg k3]
          by_cases k4 : kd = 4
          · subst k4
            rw [if_pos rfl]
            by_cases hk : num < 0 ∨ (xs.length : Int) ≤ num.tdiv 8
            · rw [if_pos hk]; exact faultO_k4n base A n c i num xss xs w hnc hcm hL hi hx hk hnum
            · rw [if_neg hk]
              obtain ⟨q, rfl⟩ := Int.eq_ofNat_of_zero_le (show 0 ≤ num by omega)
              rw [show ((q : Int)).toNat = q from Int.toNat_natCast q, ← set_inse hi2]
              refine faultO_k4 base A n c i 4 q xss xs q w hnc hcm hL hbs hn hi hb hx ?_
              have := Int.tdiv_eq_ediv_of_nonneg (a := (q : Int)) (b := 8) (by omega)
              omega
          · rw [if_neg k4]
            by_cases k5 : kd = 5
            · subst k5; rw [if_pos rfl, ← set_inse hi2]; exact faultO_k5 base A n c i 5 num xss xs w hnc hcm hL hbs hn hi hb hx
            · rw [if_neg k5]; exact faultO_else base A n c i kd num xss xs w hnc hcm hL hi hx k1 k2 k3 k4 k5

set_option maxRecDepth 100000 in
set_option maxHeartbeats 2000000 in
theorem carryO_any (A : Option Addr) (n c : Nat) (F : Option Addr) (m d : Nat) (xss : List (List Int)) (fs : List Flt) (w : World) (hL : Lists .u8 w A n xss) (hn : n ≤ 100000) (hF : Flts w F m fs) (hm : m ≤ 100000) (hG : Grams n 1000000 xss) :
    Calls Try.prog 30 #[.slice A n c, .slice F m d] w (RetLO w.heap.size w (carry1 xss fs)) := by
  have H := Lib.hid hL
  have HF := Lib.hid hF
  have HG := Lib.hid hG
  clear hL hF hG
  go_enter Try.func30, Try.ntmps30
  go_wp2
  go_loopg [5, 10] n (fun g v i' wr => ∃ (k : Nat) (vs : List Value), g = n - k ∧ k ≤ n ∧ i' = .int .i64 k ∧ wr.ownsRow w.heap.size 22 1 v k vs ∧ F2 (BodyV w.heap.size wr) vs (xss.take k) ∧ Ext w wr)
  case atStart => exact ⟨0, [], by omega, by omega, rfl, World.ownsRow_nil _ _ _ _, F2.nil, Ext.refl w⟩
  case round =>
    obtain ⟨k, vs, rfl, hk, rfl, hown, hvs, hext⟩ := hrel
    have HX := Lib.hid hext
    have HV := Lib.hid hvs
    clear hext hvs
    by_cases hlt : k < n
    · obtain ⟨b, off, A', n', c', xs, rfl, hx, hc, hI, hc1, hc2⟩ := (H.out.ext HX.out).get hlt
      have h5 : n' ≤ 1000000 := by have := (HG.out.2 xs (List.mem_of_getElem? hx)).1; rw [hI.1] at this; exact this
      have HI := Lib.hid hI
      have HXS := Lib.hid hx
      clear hI hx
      go_wp2_with fail
      refine (joined_one A' n' c' xs _ HI.out hc1 hc2 h5).mono ?_
      rintro e w1 ⟨A6, n6, c6, rfl, ho6, hX1⟩
      have hown1 := World.ownsRow.ext' hown hX1
      have HO6 := Lib.hid ho6
      have HX1 := Lib.hid hX1
      clear hown ho6 hX1 hc
      go_wp2_with (at_builtin; refine wpList_app _ elL rfl _ _ rfl w.heap.size u5 _ _ rfl (hown1.alloc _) _ 1 1 [.slice A6 n6 c6] rfl rfl (At.new' _ [_] _ rfl) (by simp [Value.oneCell']) (by omega) (by unfold maxLen; omega) (by have := HX.out.size; have := HX1.out.size; simp; omega) ?_; intro v2 w2 hown2 hgr2 _)
      go_roundg (n - (k + 1))
      case rel =>
        have hXa : Ext w1 (w1.alloc (.cells #[.slice A6 n6 c6] 22)) := (Ext.refl w1).alloc _
        refine ⟨k + 1, vs ++ [.slice A6 n6 c6], rfl, by omega, by go_num, hown2, ?_, ?_⟩
        · rw [List.take_add_one, HXS.out]
          refine F2.snoc (HV.out.imp fun a b _ h => ((h.ext HX1.out).ext hXa).kept (hown1.alloc _) (by decide) hgr2) ?_
          exact BodyV.kept (BodyV.ext ⟨A6, n6, c6, rfl, HO6.out.mono HX.out.size⟩ hXa) (hown1.alloc _) (by decide) hgr2
        · exact (HX.out.trans HX1.out).push hown1 hgr2
      case measure => omega
    · obtain rfl : k = n := by omega
      have hl1 : xss.take k = xss := List.take_of_length_le (by have := H.out.1; omega)
      have hLs : ∃ A5 c5, u5 = .slice A5 k c5 ∧ LO w.heap.size wr A5 k xss ∧ k ≤ c5 ∧ c5 ≤ 9223372036854775807 := by
        obtain ⟨A5, c5, rfl⟩ := own_slice hown
        have hv := HV.out
        rw [hl1] at hv
        exact ⟨A5, c5, rfl, ⟨c5, vs, hown, hv⟩, (own_cap hown).1, (own_cap hown).2⟩
      have HLS := Lib.hid hLs
      clear hl1 hLs hown HV
      go_wp2
      go_loopg [5, 25] m (fun g v i' wr => ∃ (j n5 : Nat) (A5 : Option Addr) (c5 : Nat), g = m - j ∧ j ≤ m ∧ i' = .int .i64 j ∧ v = .slice A5 n5 c5 ∧ LO w.heap.size wr A5 n5 (carry1 xss (fs.take j)) ∧ n5 ≤ c5 ∧ c5 ≤ 9223372036854775807 ∧ Ext w wr)
      case atStart =>
        obtain ⟨A5, c5, rfl, h1, h2, h3⟩ := HLS.out
        exact ⟨0, k, A5, c5, by omega, by omega, rfl, rfl, by simpa [carry1] using h1, h2, h3, HX.out⟩
      case round =>
        clear HLS HX
        obtain ⟨j, n5, A5, c5, rfl, hj, rfl, rfl, hL5, hn5, hc5, hext⟩ := hrel
        have HX := Lib.hid hext
        have HL5 := Lib.hid hL5
        clear hext hL5
        by_cases hlt : j < m
        · obtain ⟨b, off, f, rfl, hf, hfi, f0, f1, f2⟩ := (HF.out.ext HX.out).get hlt
          have hg := (HG.out.carry (fs.take j))
          have hl := HL5.out.len
          have h1 : (fs.take j).length = j := by rw [List.length_take, HF.out.1]; omega
          have hn6 : n5 ≤ 1000000 := by rw [← hl]; have := hg.1; rw [h1] at this; omega
          have HG2 := Lib.hid hg.2
          have HFI := Lib.hid hfi
          have HFF := Lib.hid hf
          clear hg hl h1 hf hfi
          obtain ⟨kd, pl, num⟩ := f
          simp only at f0 f1 f2
          go_wp2_with fail
          refine (faultO_any w.heap.size A5 n5 c5 ⟨kd, pl, num⟩ _ _ hn5 hc5 HL5.out HX.out.size hn6 (fun x hx => (HG2.out x hx).1) HFI.out).mono ?_
          rintro e w1 ⟨A6, n6, c6, rfl, hl6, h1, h2, hX1⟩
          have HL6 := Lib.hid hl6
          have HX1 := Lib.hid hX1
          clear hl6 hX1 f0 f1 f2
          go_wp2
          go_roundg (m - (j + 1))
          case rel => exact ⟨j + 1, n6, A6, c6, rfl, by omega, by go_num, rfl, by rw [carry_snoc HFF.out]; exact HL6.out, h1, h2, HX.out.trans HX1.out⟩
          case measure => omega
        · go_wp2
          go_ret
          refine ⟨_, _, _, rfl, ?_, hn5, hc5, HX.out⟩
          have e1 : fs.take j = fs := List.take_of_length_le (by have := HF.out.1; omega)
          have := HL5.out
          rwa [e1] at this

end Go.Proofs.Ytekhmfliaojabaa
namespace Go.Proofs.Ytekhmfliaojabaa
open Go.RowKit

theorem LO.mono {b' base : Nat} {w : World} {A : Option Addr} {n : Nat} {xss : List (List Int)} (h : LO base w A n xss) (hb : b' ≤ base) : LO b' w A n xss := by
  obtain ⟨c, vs, h1, h2⟩ := h
  exact ⟨c, vs, World.ownsRow.mono' h1 hb, h2.imp fun _ _ _ h => h.mono hb⟩
theorem LO.keeps {base : Nat} {w w' : World} {A : Option Addr} {n : Nat} {xss : List (List Int)} {L : List Nat} (h : LO base w A n xss) (hk : Keeps L w w') (n1 : ∀ k ∈ L, NoRow 22 w k) (n2 : ∀ k ∈ L, NoRow 5 w k) : LO base w' A n xss := by
  obtain ⟨c, vs, h1, h2⟩ := h
  exact ⟨c, vs, ownsRow_away h1 hk n1, h2.imp fun _ _ _ h => h.keeps hk n2⟩
theorem Dgs.lo {base : Nat} {w : World} {A : Option Addr} {n c : Nat} {gs : List (List Int)} (h : Dgs base w (.slice A n c) n gs) : LO base w A n gs := by
  obtain ⟨vs, h1, h2⟩ := h
  exact ⟨c, vs, h1, h2⟩
theorem scn_body (f : Nat) (xs : List Int) : ∀ r ∈ (scn f xs).1, r.body.length ≤ 1024 := by
  induction f generalizing xs with
  | zero => simp [scn]
  | succ f ih =>
    unfold scn
    split
    · simp
    · split
      · rename_i h
        have hg := unp_good h
        intro r hr
        simp only [preS, List.mem_append, List.mem_singleton] at hr
        rcases hr with rfl | hr
        · rw [hg.2.2.2, List.length_drop, List.length_take]; have := hg.1; omega
        · exact ih _ r hr
      · simpa [preS] using ih (xs.drop 1)
theorem scan_body {xs : List Int} : ∀ r ∈ (scan xs).1, r.body.length ≤ 1024 := scn_body _ _
theorem Grams.up {n k m m' : Nat} {xss : List (List Int)} (h : Grams n m xss) (hk : n ≤ k) (hm : m ≤ m') : Grams k m' xss := ⟨Nat.le_trans h.1 hk, fun x hx => ⟨Nat.le_trans (h.2 x hx).1 hm, (h.2 x hx).2⟩⟩
theorem Grams.up' {n i : Nat} {xss : List (List Int)} (h : Grams n 1036 xss) (hk : xss.length = i) : Grams i 1000000 xss := ⟨Nat.le_of_eq hk, fun x hx => ⟨Nat.le_trans (h.2 x hx).1 (by omega), (h.2 x hx).2⟩⟩
theorem FltLs.ext {w w' : World} {A : Option Addr} {n : Nat} {rs : List (List Flt)} (h : FltLs w A n rs) (he : Ext w w') : FltLs w' A n rs := by
  obtain ⟨hl, vs, h1, h2, h3⟩ := h
  exact ⟨hl, vs, h1, h2.ext he, fun j v fl hv hf => by obtain ⟨A', n', c', e, h4, h5⟩ := h3 j v fl hv hf; exact ⟨A', n', c', e, h4.ext he, h5⟩⟩


end Go.Proofs.Ytekhmfliaojabaa
namespace Go.Proofs.Ytekhmfliaojabaa
open Go.RowKit

/-- The delivery of record k. -/
def wantT (bs : List (List Int)) (k : Nat) : Dlv := ⟨(k : Int), bs.getD k [], false⟩
def wantTs (bs : List (List Int)) (n : Nat) : List Dlv := (List.range n).map (wantT bs)
theorem wantTs_succ (bs : List (List Int)) (n : Nat) : wantTs bs (n + 1) = wantTs bs n ++ [wantT bs n] := by simp [wantTs, List.range_succ]
theorem wantTs_len (bs : List (List Int)) (n : Nat) : (wantTs bs n).length = n := by simp [wantTs]
theorem wantTs_get (bs : List (List Int)) {n i : Nat} (h : i < n) : (wantTs bs n)[i]? = some (wantT bs i) := by simp [wantTs, List.getElem?_map, List.getElem?_range h]
theorem wantTs_more (bs : List (List Int)) (n : Nat) (ds : List Dlv) (h : ∀ (j : Nat) (d : Dlv), ds[j]? = some d → d = wantT bs (n + j)) : wantTs bs n ++ ds = wantTs bs (n + ds.length) := by
  induction ds generalizing n with
  | nil => simp
  | cons d ds ih =>
    have h0 := h 0 d rfl
    rw [Nat.add_zero] at h0
    subst h0
    have := ih (n + 1) fun j e he => by rw [h (j + 1) e (by simpa using he)]; congr 1; omega
    rw [wantTs_succ] at this
    rw [List.length_cons, show n + (ds.length + 1) = n + 1 + ds.length by omega, ← this]
    simp
/-- The receiver of a transfer of these records of which m have been offered. -/
structure TopI (xss : List (List Int)) (m : Nat) (win : Int) (r : Rcv) (ds : List Dlv) : Prop where
  ok : RcvOk r
  next : r.next = (ds.length : Int)
  le : ds.length ≤ m
  got : ds = wantTs xss ds.length
  held : ∀ d ∈ r.held, ∃ k < m, d = wantT xss k
  win : r.window = win
  st : r.stream = 0
theorem TopI.up {xss : List (List Int)} {m m' : Nat} {win : Int} {r : Rcv} {ds : List Dlv} (h : TopI xss m win r ds) (hm : m ≤ m') : TopI xss m' win r ds :=
  ⟨h.ok, h.next, Nat.le_trans h.le hm, h.got, fun d hd => by obtain ⟨k, hk, e⟩ := h.held d hd; exact ⟨k, by omega, e⟩, h.win, h.st⟩
/-- A frame that was sent. -/
def GoodF (xss : List (List Int)) (m : Nat) (f : Fr) : Prop := f.stream = 0 ∧ ∃ k < m, f.seq = (k : Int) ∧ f.body = xss.getD k []
theorem TopI.take {xss : List (List Int)} {m : Nat} {win : Int} {r : Rcv} {ds : List Dlv} (h : TopI xss m win r ds) {f : Fr} (hf : GoodF xss m f) : TopI xss m win (takeR r f).1 (ds ++ (takeR r f).2.1) := by
  obtain ⟨hs, k, hk, hq, hb⟩ := hf
  have hok := takeR_ok f h.ok
  have hnx := takeR_next r f
  rcases takeR_cases r f with ⟨_, e⟩ | ⟨_, h1, h2, h3, e⟩
  · rw [e]; simp only [List.append_nil]; exact h
  · rw [e] at hok hnx ⊢
    obtain ⟨H, hH⟩ : ∃ H, r.held ++ [⟨f.seq, f.body, false⟩] = H := ⟨_, rfl⟩
    rw [hH] at hok hnx ⊢
    simp only at hok hnx ⊢
    have hHk : ∀ d ∈ H, ∃ k < m, d = wantT xss k := by
      intro d hd
      rw [← hH] at hd
      rcases List.mem_append.1 hd with hd | hd
      · exact h.held d hd
      · simp at hd; exact ⟨k, hk, by rw [hd, hq, hb]; rfl⟩
    have hds : ∀ (j : Nat) (d : Dlv), (deliv (r.held.length + 1) r.next H).1[j]? = some d → d = wantT xss (ds.length + j) ∧ ds.length + j < m := by
      intro j d hd
      obtain ⟨h6, h7⟩ := deliv_consec _ _ _ j d hd
      obtain ⟨k', hk', rfl⟩ := hHk d h7
      have : (wantT xss k').seq = (k' : Int) := rfl
      rw [this, h.next] at h6
      have : k' = ds.length + j := by omega
      subst this
      exact ⟨rfl, hk'⟩
    refine ⟨hok, by simp only [List.length_append]; rw [hnx, h.next]; omega, ?_, ?_, fun d hd => hHk d (deliv_sub _ _ _ d hd), h.win, h.st⟩
    · rw [List.length_append]
      rcases Nat.eq_zero_or_pos (deliv (r.held.length + 1) r.next H).1.length with h0 | h0
      · have := h.le; omega
      · have := (hds ((deliv (r.held.length + 1) r.next H).1.length - 1) _ (List.getElem?_eq_getElem (by omega))).2
        omega
    · have := wantTs_more xss ds.length _ fun j d hd => (hds j d hd).1
      rw [← h.got] at this
      rw [List.length_append]
      exact this
theorem TopI.takes {xss : List (List Int)} {m : Nat} {win : Int} {r : Rcv} {ds : List Dlv} (h : TopI xss m win r ds) {fs : List Fr} (hf : ∀ f ∈ fs, GoodF xss m f) : TopI xss m win (takes r fs).1 (ds ++ (takes r fs).2) := by
  induction fs generalizing r ds with
  | nil => simpa [Proofs.Ytekhmfliaojabaa.takes] using h
  | cons f fs ih =>
    have := ih (h.take (hf f (by simp))) fun g hg => hf g (by simp [hg])
    simp only [Proofs.Ytekhmfliaojabaa.takes]
    rwa [List.append_assoc] at this
/-- The next number is accepted. -/
theorem take_next {xss : List (List Int)} {m : Nat} {win : Int} {r : Rcv} {ds : List Dlv} (h : TopI xss m win r ds) {f : Fr} (ho : FrOk f) (hs : f.stream = 0) (hq : f.seq = r.next) : r.next + 1 ≤ (takeR r f).1.next := by
  have hfn : findD r.held f.seq = none := by
    rw [findD_none, hq]
    intro d hd e
    have := (h.ok.seq d hd).1
    omega
  have hr : refuse r f.seq = 0 := by
    unfold refuse
    rw [if_neg (by omega), hfn, if_neg (by simp), if_neg (by have := h.ok.window; omega)]
  have hk : takeR r f = keepR r ⟨f.seq, f.body, false⟩ := by unfold takeR; rw [if_neg (fun hc => hc ho), if_neg (by rw [hs, h.st]; simp)]
  rw [hk]
  unfold keepR
  rw [if_neg (by rw [hr]; simp)]
  simp only [kept]
  rw [deliv_some (d := ⟨f.seq, f.body, false⟩)]
  · simp only
    exact deliv_mono _ _ _
  · unfold findD at hfn ⊢
    rw [hq] at hfn
    rw [List.find?_append, hfn, List.find?_cons_of_pos (by simp [hq])]
    rfl
theorem takes_quiet {xss : List (List Int)} {m : Nat} {win : Int} {r : Rcv} {ds : List Dlv} (h : TopI xss m win r ds) {a : Int} {fs : List Fr} (hf : ∀ f ∈ fs, GoodF xss m f ∧ FrOk f) (hq : ∀ (j : Nat) f, fs[j]? = some f → f.seq = a + j) (ha : a ≤ r.next) : a + fs.length ≤ (takes r fs).1.next := by
  induction fs generalizing r ds a with
  | nil => simpa [takes] using ha
  | cons f fs ih =>
    simp only [takes]
    have h1 := hf f (by simp)
    have h2 := hq 0 f rfl
    have h3 := takeR_next r f
    have h4 : a + 1 ≤ (takeR r f).1.next := by
      by_cases e : a = r.next
      · have := take_next h h1.2 h1.1.1 (by rw [h2, e]; simp)
        omega
      · omega
    have := ih (h.take h1.1) (fun g hg => hf g (by simp [hg])) (fun j g hg => by have := hq (j + 1) g (by simpa using hg); omega) h4
    simp only [List.length_cons]
    omega
theorem pendS_nth {s : Snd} {j : Nat} {f : Fr} (h : (pendS s)[j]? = some f) : f.stream = s.stream ∧ f.seq = (s.acked : Int) + j ∧ s.bodies[s.acked + j]? = some f.body := by
  unfold pendS pendK at h
  rw [List.getElem?_map, keyed_get, List.getElem?_drop] at h
  obtain ⟨p, hp, rfl⟩ := Option.map_eq_some_iff.1 h
  obtain ⟨x, hx, rfl⟩ := Option.map_eq_some_iff.1 hp
  exact ⟨rfl, rfl, hx⟩
theorem framesF_pack {fs : List Fr} (h : ∀ f ∈ fs, FrOk f) : framesF (fs.map pck) = fs := by
  induction fs with
  | nil => rfl
  | cons f fs ih =>
    have h1 := scan_frame (h f (by simp)) []
    rw [List.append_nil, scan_nil] at h1
    have h2 := ih fun g hg => h g (by simp [hg])
    unfold framesF at h2 ⊢
    rw [List.map_cons, List.flatMap_cons, h2, h1]
    rfl
theorem fillF_keeps (xss : List (List Int)) (k : Nat) (s : Snd) : (fillF xss k s).acked = s.acked ∧ (fillF xss k s).window = s.window ∧ s.bodies.length ≤ (fillF xss k s).bodies.length := by
  induction k generalizing s with
  | zero => exact ⟨rfl, rfl, Nat.le_refl _⟩
  | succ k ih =>
    unfold fillF
    split
    · rename_i he
      obtain ⟨h1, h2, _⟩ := offerS_zero he
      obtain ⟨i1, i2, i3⟩ := ih (offerS s (xss.getD s.bodies.length [])).1
      refine ⟨i1.trans h2, i2.trans ?_, ?_⟩
      · unfold offerS; split
        · rfl
        · split <;> rfl
      · rw [h1, List.length_append, List.length_cons, List.length_nil] at i3; omega
    · exact ⟨rfl, rfl, Nat.le_refl _⟩
theorem fillF_full {xss : List (List Int)} (hb : ∀ x ∈ xss, x.length ≤ 1024) (k : Nat) (s : Snd) (hk : k = xss.length - s.bodies.length) : xss.length ≤ (fillF xss k s).bodies.length ∨ s.window + s.acked ≤ ((fillF xss k s).bodies.length : Int) := by
  induction k generalizing s with
  | zero => left; simp only [fillF]; omega
  | succ k ih =>
    have hlt : s.bodies.length < xss.length := by omega
    have hm : xss[s.bodies.length]? = some (xss.getD s.bodies.length []) := by simp [List.getD, List.getElem?_eq_getElem hlt]
    have hbl := hb _ (List.mem_of_getElem? hm)
    unfold fillF
    split
    · rename_i he
      obtain ⟨h1, h2, _⟩ := offerS_zero he
      have hw : (offerS s (xss.getD s.bodies.length [])).1.window = s.window := by
        unfold offerS; split
        · rfl
        · split <;> rfl
      have := ih (offerS s (xss.getD s.bodies.length [])).1 (by rw [h1]; simp; omega)
      rwa [h2, hw] at this
    · rename_i he
      right
      unfold offerS at he
      rw [if_neg (by omega)] at he
      split at he
      · omega
      · exact absurd rfl he
/-- What the frames of a round are to be. -/
def GoodR (xss : List (List Int)) (s : Snd) (fl : List Flt) : Prop := ∀ f ∈ framesF (carry1 (sentF (fillF xss (xss.length - s.bodies.length) s)) fl), GoodF xss (fillF xss (xss.length - s.bodies.length) s).bodies.length f
structure TopS (xss : List (List Int)) (win : Int) (s : Snd) (r : Rcv) (ds : List Dlv) : Prop where
  snd : SndT xss s
  rcv : TopI xss s.bodies.length win r ds
  win : s.window = win
  ack : (s.acked : Int) = r.next
theorem TopS.round {xss : List (List Int)} {win : Int} {s : Snd} {r : Rcv} {ds : List Dlv} (h : TopS xss win s r ds) (hx : ∀ x ∈ xss, x.length ≤ 1024 ∧ ∀ y ∈ x, (Lit.int .u8 y).wf = true) (hl : xss.length ≤ 1000000) {fl : List Flt} (hg : GoodR xss s fl) :
    TopS xss win (roundF xss s r fl).1 (roundF xss s r fl).2.1 (ds ++ (roundF xss s r fl).2.2) ∧ (fl = [] → (xss.length : Int) ≤ (roundF xss s r fl).2.1.next ∨ win + r.next ≤ (roundF xss s r fl).2.1.next) := by
  have hS2 := h.snd.round (fun x hx' => (hx x hx').2) r fl
  have hF := h.snd.fill (fun x hx' => (hx x hx').2) _ (Nat.le_refl _)
  obtain ⟨k1, k2, k3⟩ := fillF_keeps xss (xss.length - s.bodies.length) s
  have hfull := fillF_full (fun x hx' => (hx x hx').1) _ s rfl
  unfold GoodR at hg
  obtain ⟨sF, hsF⟩ : ∃ sF, fillF xss (xss.length - s.bodies.length) s = sF := ⟨_, rfl⟩
  have hle := hF.le
  have hT := (h.rcv.up k3).takes hg
  have hnx := takes_next r (framesF (carry1 (sentF (fillF xss (xss.length - s.bodies.length) s)) fl))
  unfold roundF at hS2 ⊢
  rw [hsF] at hS2 hF k1 k2 k3 hfull hg hT hnx hle ⊢
  simp only at hS2 ⊢
  have hq : fl = [] → (xss.length : Int) ≤ (takes r (framesF (carry1 (sentF sF) fl))).1.next ∨ win + r.next ≤ (takes r (framesF (carry1 (sentF sF) fl))).1.next := by
    rintro rfl
    have hfp : framesF (carry1 (sentF sF) []) = pendS sF := framesF_pack fun f hf => (pendS_ok hF.ok (by omega) f hf).1
    rw [hfp] at hg ⊢
    have h5 := takes_quiet (h.rcv.up k3) (a := (s.acked : Int)) (fs := pendS sF) (fun f hf => ⟨hg f hf, (pendS_ok hF.ok (by omega) f hf).1⟩) (fun j f hf => by rw [(pendS_nth hf).2.1, k1]) (by rw [h.ack]; exact Int.le_refl _)
    rw [pendS_len, k1] at h5
    have h6 := hF.ok.acked
    have h7 := h.ack
    have h8 := h.win
    rw [k1] at h6
    rcases hfull with hf | hf
    · left; omega
    · right; omega
  refine ⟨⟨hS2, ?_, ?_, ?_⟩, hq⟩
  · have : (ackS sF (takes r (framesF (carry1 (sentF sF) fl))).1.next).1.bodies = sF.bodies := by unfold ackS; split <;> rfl
    rw [this]
    exact hT
  · have : (ackS sF (takes r (framesF (carry1 (sentF sF) fl))).1.next).1.window = sF.window := by unfold ackS; split <;> rfl
    rw [this, k2]
    exact h.win
  · have h5 := hT.next
    have h6 := hT.le
    have h7 := h.ack
    unfold ackS
    rw [if_neg (by rw [k1]; omega)]
    simp only
    omega
/-- What all rounds are to be. -/
def GoodT (xss : List (List Int)) (rs : List (List Flt)) : Nat → Nat → Snd → Rcv → Prop
  | 0, _, _, _ => True
  | k + 1, n, s, r => r.next < xss.length → GoodR xss s (rs.getD n []) ∧ GoodT xss rs k (n + 1) (roundF xss s r (rs.getD n [])).1 (roundF xss s r (rs.getD n [])).2.1
/-- How many of the first rounds are quiet. -/
def quietN (rs : List (List Flt)) : Nat → Nat
  | 0 => 0
  | n + 1 => quietN rs n + (if (rs.getD n []).length = 0 then 1 else 0)
theorem transF_top {xss : List (List Int)} {rs : List (List Flt)} {win : Int} (hx : ∀ x ∈ xss, x.length ≤ 1024 ∧ ∀ y ∈ x, (Lit.int .u8 y).wf = true) (hl : xss.length ≤ 1000000) {k n : Nat} {s : Snd} {r : Rcv} {ds : List Dlv} (h : TopS xss win s r ds) (hg : GoodT xss rs k n s r)
    (hq : r.next < xss.length → (quietN rs n : Int) * win ≤ r.next) :
    (transF xss rs k n s r ds).1 = wantTs xss (transF xss rs k n s r ds).1.length ∧ (transF xss rs k n s r ds).1.length ≤ xss.length ∧ (transF xss rs k n s r ds).2 ≤ n + k ∧ ((transF xss rs k n s r ds).1.length < xss.length → (quietN rs (n + k) : Int) * win ≤ ((transF xss rs k n s r ds).1.length : Int)) := by
  induction k generalizing n s r ds with
  | zero =>
    refine ⟨h.rcv.got, Nat.le_trans h.rcv.le h.snd.le, by simp [transF], fun hlt => ?_⟩
    simp only [transF] at hlt ⊢
    have := h.rcv.next
    rw [← this]
    exact hq (by omega)
  | succ k ih =>
    unfold transF
    split
    · rename_i hlt
      obtain ⟨g1, g2⟩ := hg hlt
      obtain ⟨h1, h2⟩ := h.round hx hl g1
      have hn := roundF_next xss s r (rs.getD n [])
      have hq1 := hq hlt
      have := ih h1 g2 (fun hlt2 => by
        unfold quietN
        split
        · rename_i h0
          have h3 := h2 (List.eq_nil_of_length_eq_zero h0)
          have e : (((quietN rs n + 1 : Nat) : Int)) * win = (quietN rs n : Int) * win + win := by rw [Int.natCast_add, Int.add_mul]; simp
          rw [e]
          omega
        · simp only [Nat.add_zero]; omega)
      rw [show n + (k + 1) = n + 1 + k by omega]
      exact this
    · rename_i hlt
      refine ⟨h.rcv.got, Nat.le_trans h.rcv.le h.snd.le, by simp only; omega, fun hlt2 => ?_⟩
      have := h.rcv.next
      simp only at hlt2
      omega
theorem topS0 (xss : List (List Int)) {win : Int} (h : ¬ BadS 0 win) : TopS xss win (snd0 0 win) (rcv0 0 win 0) [] :=
  ⟨sndT0 xss h, ⟨rcv0_ok (by unfold BadS at h; unfold BadR; omega), rfl, by simp, rfl, by simp [rcv0], rfl, rfl⟩, rfl, rfl⟩
/-- The law of TopTransfer. -/
theorem transR_top {xss : List (List Int)} {rs : List (List Flt)} {win : Int} (hx : ∀ x ∈ xss, x.length ≤ 1024 ∧ ∀ y ∈ x, (Lit.int .u8 y).wf = true) (hl : xss.length ≤ 1000000) (hw : ¬ BadS 0 win) (hg : GoodT xss rs 64 0 (snd0 0 win) (rcv0 0 win 0)) :
    ∃ (l n : Nat), transR xss win rs = (wantTs xss l, n, 0) ∧ l ≤ xss.length ∧ n ≤ 64 ∧ (l < xss.length → (quietN rs 64 : Int) * win ≤ l) := by
  obtain ⟨h1, h2, h3, h4⟩ := transF_top (n := 0) hx hl (topS0 xss hw) hg (fun _ => by simp [quietN, rcv0])
  refine ⟨_, (transF xss rs 64 0 (snd0 0 win) (rcv0 0 win 0) []).2, ?_, h2, by omega, by simpa using h4⟩
  unfold transR
  rw [if_neg]
  · rw [← h1]
  · unfold BadS at hw
    rintro (h | h | ⟨x, hx', h⟩)
    · omega
    · omega
    · have := (hx x hx').1; omega
end Go.Proofs.Ytekhmfliaojabaa
namespace Go.Proofs.Ytekhmfliaojabaa
open Go.RowKit

theorem lists_byte {w : World} {A : Option Addr} {n : Nat} {xss : List (List Int)} (h : Lists .u8 w A n xss) : ∀ x ∈ xss, ∀ y ∈ x, (Lit.int .u8 y).wf = true := by
  intro x hx
  obtain ⟨vs, hv, _, _⟩ := h.lv
  obtain ⟨j, hj⟩ := List.getElem?_of_mem hx
  have hjv : j < vs.length := by rw [hv.1]; exact (List.getElem?_eq_some_iff.1 hj).1
  obtain ⟨_, _, _, _, hI, _⟩ := hv.2 j _ x (List.getElem?_eq_getElem hjv) hj
  exact hI.2.1
end Go.Proofs.Ytekhmfliaojabaa
