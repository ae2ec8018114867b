/- Lemmas of the proof that follows (TopTransfer, part 8): walks of functions by contract, and plain lemmas. Conditions: none. -/
import Derived.Test.YtekhmfliaojabaaTopTransferG
namespace Go.Proofs.Ytekhmfliaojabaa
open Go.RowKit

theorem shift_inse {α : Type} (xs : List α) (z v : α) {n i : Nat} (hl : xs.length = n) (hi : i ≤ n) : ((xs ++ [z]).take (i + 1) ++ ((((xs ++ [z]).drop i).take (n + 1 - (i + 1))) ++ (xs ++ [z]).drop (i + 1 + (n + 1 - i)))).set i v = inse xs i v := by
  have e1 : (xs ++ [z]).drop (i + 1 + (n + 1 - i)) = [] := List.drop_eq_nil_of_le (by simp [hl]; omega)
  have e2 : ((xs ++ [z]).drop i).take (n + 1 - (i + 1)) = xs.drop i := by
    rw [List.drop_append_of_le_length (by omega), List.take_append_of_le_length (by rw [List.length_drop]; omega), List.take_of_length_le (by rw [List.length_drop]; omega)]
  rw [e1, e2, List.append_nil]
  have e3 : ((xs ++ [z]).take (i + 1)).length = i + 1 := by rw [List.length_take]; simp [hl]; omega
  unfold inse
  rw [List.set_append_left _ _ (by omega)]
  have e4 : ((xs ++ [z]).take (i + 1)).set i v = xs.take i ++ [v] := by
    rw [List.take_add_one, List.take_append_of_le_length (by omega)]
    have e5 : (xs.take i).length = i := by rw [List.length_take]; omega
    have hi' : i < (xs ++ [z]).length := by simp [hl]; omega
    rw [List.getElem?_eq_getElem hi', List.set_append_right _ _ (by omega), e5, Nat.sub_self]
    rfl
  rw [e4]; simp

set_option maxRecDepth 100000 in
set_option maxHeartbeats 2000000 in
theorem insert_r2 (A1 : Option Addr) (m c1 z l : Nat) (w : World) (hn : m ≤ 1000001) (hi : l ≤ m) (hl : Hid (l = z + 1)) (a : Act) (Q : Exit → Act → World → Prop) (hsize : 17 ≤ a.tmps.size)
    (s0 : a.tmps[0]? = some (.slice A1 m c1))
    (s1 : a.tmps[1]? = some (.int .i64 (z : Int)))
    (hend : ∀ (xv0 xv1 xv2 xv3 xv4 xv5 xv6 : Value) (W : World), (xv0 = .slice A1 m c1) → (xv1 = .int .i64 (z : Int)) → (xv2 = .int .i64 ((z : Int) + 1)) → (xv3 = .slice (cutA A1 c1 l 1) (m - l) (c1 - l)) → (xv4 = .slice A1 m c1) → (xv5 = .int .i64 (z : Int)) → (xv6 = .slice (cutA A1 c1 z 1) (m - z) (c1 - z)) → Ext w W → wpList Try.prog (rops Try.f87 2).toArray Q ((rops Try.f87 2).drop 7) (((((((a.put (some 10) xv0).put (some 11) xv1).put (some 12) xv2).put (some 13) xv3).put (some 14) xv4).put (some 15) xv5).put (some 16) xv6) W) :
    (Code.region 2 (rops Try.f87 2).toArray true).wp Try.prog Q a w := by
  have hmono : ∀ (W W' : World) (j : Nat) (u : Value), Ext W W' → (fun (i : Nat) (v : Value) (W : World) => match i with
    | 0 => v = .slice A1 m c1
    | 1 => v = .int .i64 (z : Int)
    | 2 => v = .int .i64 ((z : Int) + 1)
    | 3 => v = .slice (cutA A1 c1 l 1) (m - l) (c1 - l)
    | 4 => v = .slice A1 m c1
    | 5 => v = .int .i64 (z : Int)
    | 6 => v = .slice (cutA A1 c1 z 1) (m - z) (c1 - z)
    | _ => True) j u W → (fun (i : Nat) (v : Value) (W : World) => match i with
    | 0 => v = .slice A1 m c1
    | 1 => v = .int .i64 (z : Int)
    | 2 => v = .int .i64 ((z : Int) + 1)
    | 3 => v = .slice (cutA A1 c1 l 1) (m - l) (c1 - l)
    | 4 => v = .slice A1 m c1
    | 5 => v = .int .i64 (z : Int)
    | 6 => v = .slice (cutA A1 c1 z 1) (m - z) (c1 - z)
    | _ => True) j u W' := by
    intro W W' j u hX h
    match j, h with
    | 0, h => exact h
    | 1, h => exact h
    | 2, h => exact h
    | 3, h => exact h
    | 4, h => exact h
    | 5, h => exact h
    | 6, h => exact h
    | _ + 7, h => exact h
  have hsz : ∀ d, some d ∈ ([some 10, some 11, some 12, some 13, some 14, some 15, some 16] : List (Option Tmp)) → d < a.tmps.size := slots_lt (by decide) hsize
  refine wp_region_j 7 [some 10, some 11, some 12, some 13, some 14, some 15, some 16] [[], [], [1], [0, 2], [], [], [4, 5]] [[], [], [], [], [], [], []] (fun (i : Nat) (v : Value) (W : World) => match i with
    | 0 => v = .slice A1 m c1
    | 1 => v = .int .i64 (z : Int)
    | 2 => v = .int .i64 ((z : Int) + 1)
    | 3 => v = .slice (cutA A1 c1 l 1) (m - l) (c1 - l)
    | 4 => v = .slice A1 m c1
    | 5 => v = .int .i64 (z : Int)
    | 6 => v = .slice (cutA A1 c1 z 1) (m - z) (c1 - z)
    | _ => True) (fun _ W => Ext w W) (by kernel_rfl) (by kernel_rfl) hsz (fun _ _ _ _ h => h) ((Ext.refl w).drew) ?_ ?_
  · clear hend
    simp only [rops, Try.f87, regOf, Option.bind_some, Nat.reduceBEq, if_true, if_false, Bool.false_eq_true, Option.getD_some]
    simp only [List.take_succ_cons, List.take_zero]
    refine ⟨?_, ?_, ?_, ?_, ?_, ?_, ?_, trivial⟩
    · intro done us W hJ hdep haft hnot b hb hb' K hK Q'
      have e0 := (hb' 0 (by simp)).trans s0
      clear hb hb'
      go_simp
      exact hK _ _ rfl (fun _ _ _ h => h) hJ
    · intro done us W hJ hdep haft hnot b hb hb' K hK Q'
      have e1 := (hb' 1 (by simp)).trans s1
      clear hb hb'
      go_simp
      exact hK _ _ rfl (fun _ _ _ h => h) hJ
    · intro done us W hJ hdep haft hnot b hb hb' K hK Q'
      simp only [List.getD_cons_succ, List.getD_cons_zero, List.mem_cons, List.not_mem_nil, or_false, forall_eq_or_imp, forall_eq] at hdep
      have e11 := hb 1 11 rfl
      have d1 := hdep
      rw [d1.1] at e11
      clear hb hb' hdep d1
      have qw : IntKind.i64.wrap ((z : Int) + 1) = (z : Int) + 1 := IntWalk.i64_in _ (by have := hl.out; omega)
      go_simp
      exact hK _ _ rfl (fun _ _ _ h => h) hJ
    · intro done us W hJ hdep haft hnot b hb hb' K hK Q'
      simp only [List.getD_cons_succ, List.getD_cons_zero, List.mem_cons, List.not_mem_nil, or_false, forall_eq_or_imp, forall_eq] at hdep
      have e10 := hb 0 10 rfl
      have e12 := hb 2 12 rfl
      have d0 := hdep.1
      have d2 := hdep.2
      rw [d0.1] at e10
      rw [d2.1] at e12
      clear hb hb' hdep d0 d2
      have q := run_cutL (P := Try.prog) (w := W) elL A1 m c1 .i64 l ((z : Int) + 1) (by have := hl.out; omega) (by have := hl.out; omega)
      go_simp
      exact hK _ _ rfl (fun _ _ _ h => h) hJ
    · intro done us W hJ hdep haft hnot b hb hb' K hK Q'
      have e0 := (hb' 0 (by simp)).trans s0
      clear hb hb'
      go_simp
      exact hK _ _ rfl (fun _ _ _ h => h) hJ
    · intro done us W hJ hdep haft hnot b hb hb' K hK Q'
      have e1 := (hb' 1 (by simp)).trans s1
      clear hb hb'
      go_simp
      exact hK _ _ rfl (fun _ _ _ h => h) hJ
    · intro done us W hJ hdep haft hnot b hb hb' K hK Q'
      simp only [List.getD_cons_succ, List.getD_cons_zero, List.mem_cons, List.not_mem_nil, or_false, forall_eq_or_imp, forall_eq] at hdep
      have e14 := hb 4 14 rfl
      have e15 := hb 5 15 rfl
      have d4 := hdep.1
      have d5 := hdep.2
      rw [d4.1] at e14
      rw [d5.1] at e15
      clear hb hb' hdep d4 d5
      have q := run_cutL (P := Try.prog) (w := W) elL A1 m c1 .i64 z ((z : Int)) (by have := hl.out; omega) (by have := hl.out; omega)
      go_simp
      exact hK _ _ rfl (fun _ _ _ h => h) hJ
  · intro us W hV hJ
    exact hend (us 0) (us 1) (us 2) (us 3) (us 4) (us 5) (us 6) W (hV 0 (by omega)) (hV 1 (by omega)) (hV 2 (by omega)) (hV 3 (by omega)) (hV 4 (by omega)) (hV 5 (by omega)) (hV 6 (by omega)) hJ

theorem cut_at {w : World} {e : TypeId} {base n c l : Nat} {A : Option Addr} {vs : List Value} (h : w.ownsRow base e 1 (.slice A n c) n vs) (hl : l ≤ n) : At w (cutA A c l 1) (vs.drop l) := by
  unfold cutA
  refine (At.of_own h).drop l fun hlt b off hA => ?_
  have h1 := h.1
  have h2 := (own_cap h).1
  rw [if_neg (by omega), hA]
  simp [Addr.add_lit]

set_option maxRecDepth 100000 in
set_option maxHeartbeats 2000000 in
theorem insert_any (base : Nat) (A : Option Addr) (n c i : Nat) (k : Int) (hk : k = i) (Ax : Option Addr) (nx cx : Nat) (vs : List Value) (w : World) (hown : w.ownsRow base 22 1 (.slice A n c) n vs) (hbase : base ≤ w.heap.size) (h1 : ∀ v ∈ vs, v.oneCell' = true) (hn : n ≤ 1000000) (hi : i ≤ n) :
    Calls Try.prog 87 #[.slice A n c, .int .i64 k, .slice Ax nx cx] w fun e w' => ∃ A' c', e = .returned (.slice A' (n + 1) c') ∧ w'.ownsRow base 22 1 (.slice A' (n + 1) c') (n + 1) (inse vs i (.slice Ax nx cx)) ∧ w.grownBy w' (Value.slice A n c).ownBlock := by
  subst hk
  have H1 := Lib.hid h1
  have HO := Lib.hid hown
  clear h1 hown
  go_enter Try.func87, Try.ntmps87
  go_wp2_with (at_builtin; refine wpList_app _ elL rfl _ _ rfl base (.slice A n c) _ _ rfl (HO.out.alloc _) _ 1 1 [.slice none 0 0] rfl rfl (At.new' _ [_] _ rfl) (by simp [Value.oneCell']) (by omega) (by unfold maxLen; omega) (by simp; omega) ?_; intro v1 w1 hown1 hgr1 hdj1)
  obtain ⟨A1, m, c1, hm, rfl⟩ := own_slice' hown1
  rw [← hm] at hown1
  obtain ⟨g, rfl, hg1, hg2⟩ := own_block hown1 (by omega)
  have HG1 := Lib.hid hgr1
  have HD1 := Lib.hid hdj1
  have HO1 := Lib.hid hown1
  have HM := Lib.hid hm
  clear hgr1 hdj1 hown1
  obtain ⟨l, hl⟩ : ∃ l, l = i + 1 := ⟨_, rfl⟩
  have HL : Hid (l = i + 1) := hl
  have hlm : l ≤ m := by omega
  have him : i < m := by omega
  clear hl hm
  refine insert_r2 (some ⟨g, 0, none⟩) m c1 i l w1 (by have := HM.out; omega) hlm HL _ _ (by simp) rfl rfl ?_
  rintro xv0 xv1 xv2 xv3 xv4 xv5 xv6 W rfl rfl rfl rfl rfl rfl rfl hXW
  simp only [rops, Try.f87, regOf, Option.bind_some, Nat.reduceBEq, if_true, if_false, Bool.false_eq_true, Option.getD_some, List.drop_succ_cons, List.drop_zero]
  simp only [Act.put, List.setIfInBounds_toArray, List.set_cons_succ, List.set_cons_zero]
  have HXW := Lib.hid hXW
  have HOW := Lib.hid (World.ownsRow.ext' HO1.out hXW)
  clear hXW
  skip
  refine wpList_shift _ elL rfl _ _ rfl base (some ⟨g, 0, none⟩) m c1 _ HOW.out l hlm (cutA (some ⟨g, 0, none⟩) c1 l 1) rfl rfl (cutA (some ⟨g, 0, none⟩) c1 i 1) (m - i) (c1 - i) _ rfl (by have := HOW.out.1; rw [List.length_drop]; omega) (cut_at HOW.out (by omega)) (fun u hu => by rcases List.mem_append.1 (List.mem_of_mem_drop hu) with hu | hu; exact H1.out u hu; simp at hu; subst hu; rfl) ?_
  intro w2 r hown2 hgr2 hr; have hcell : ∃ u, w2.cell? ⟨g, i, none⟩ = some u := ⟨_, (hown2.cellAt i (by omega)).trans (List.getElem?_eq_getElem (by have := hown2.1; omega))⟩; obtain ⟨u, hu⟩ := hcell; have hfr := hown2.frozenAt i; have HO2 := Lib.hid hown2; have HG2 := Lib.hid hgr2; clear hown2 hgr2
  go_wp2
  go_ret
  have hst := HO2.out.stored i (.slice Ax nx cx)
  have hsh := shift_inse vs (.slice none 0 0) (.slice Ax nx cx) (n := n) (i := i) (by have := HO.out.1; omega) hi
  rw [HL.out, HM.out] at hst
  rw [hsh] at hst
  refine ⟨some ⟨g, 0, none⟩, c1, by rw [HM.out]; rfl, hst.1, ?_⟩
  have g1 : w.grownBy w1 (Value.slice A n c).ownBlock := (World.grownBy_alloc w _ _).andThen HG1.out fun j hj => .inr hj
  have g2 : w.grownBy W (Value.slice A n c).ownBlock := g1.andThen (HXW.out.row none) fun j hj => by simp at hj
  have hb : ∀ j, some g = some j → w.heap.size ≤ j ∨ (Value.slice A n c).ownBlock = some j := by
    intro j hj
    rcases HD1.out with h | h
    · exact .inr (h.symm.trans hj)
    · left
      have h3 : (Value.slice (some ⟨g, 0, none⟩) m c1).ownBlock = some g := rfl
      rw [h3] at h
      rw [hj] at h
      injection h with h
      rw [h]; simp
  exact (g2.andThen HG2.out hb).andThen hst.2 hb

set_option maxRecDepth 100000 in
set_option maxHeartbeats 2000000 in
theorem spoil_r3 (gf : Nat) (A : Option Addr) (n c z l : Nat) (num : Int) (w : World) (f1 : w.cell? ⟨gf, 1, none⟩ = some (.int .i64 (z : Int))) (f2 : w.cell? ⟨gf, 2, none⟩ = some (.int .i64 num)) (hn : n ≤ 1000000) (hnc : n ≤ c) (hi : l ≤ n) (hl : Hid (l = z + 1)) (hz : z < n) (a : Act) (Q : Exit → Act → World → Prop) (hsize : 20 ≤ a.tmps.size)
    (s0 : a.tmps[0]? = some (.slice A n c))
    (s3 : a.tmps[3]? = some (.pointer (some ⟨gf, 0, none⟩)))
    (hend : ∀ (xv0 xv1 xv2 xv3 xv4 xv5 xv6 xv7 xv8 : Value) (W : World), (xv0 = .slice A n c) → (xv1 = .pointer (some ⟨gf, 1, none⟩)) → (xv2 = .int .i64 (z : Int)) → (xv3 = .slice A z c) → (xv4 = .slice A n c) → (xv5 = .pointer (some ⟨gf, 1, none⟩)) → (xv6 = .int .i64 (z : Int)) → (xv7 = .int .i64 ((z : Int) + 1)) → (xv8 = .slice (cutA A c l 1) (n - l) (c - l)) → Ext w W → wpList Try.prog (rops Try.f70 3).toArray Q ((rops Try.f70 3).drop 9) (((((((((a.put (some 11) xv0).put (some 12) xv1).put (some 13) xv2).put (some 14) xv3).put (some 15) xv4).put (some 16) xv5).put (some 17) xv6).put (some 18) xv7).put (some 19) xv8) W) :
    (Code.region 3 (rops Try.f70 3).toArray true).wp Try.prog Q a w := by
  have hmono : ∀ (W W' : World) (j : Nat) (u : Value), Ext W W' → (fun (i : Nat) (v : Value) (W : World) => match i with
    | 0 => v = .slice A n c
    | 1 => v = .pointer (some ⟨gf, 1, none⟩)
    | 2 => v = .int .i64 (z : Int)
    | 3 => v = .slice A z c
    | 4 => v = .slice A n c
    | 5 => v = .pointer (some ⟨gf, 1, none⟩)
    | 6 => v = .int .i64 (z : Int)
    | 7 => v = .int .i64 ((z : Int) + 1)
    | 8 => v = .slice (cutA A c l 1) (n - l) (c - l)
    | _ => True) j u W → (fun (i : Nat) (v : Value) (W : World) => match i with
    | 0 => v = .slice A n c
    | 1 => v = .pointer (some ⟨gf, 1, none⟩)
    | 2 => v = .int .i64 (z : Int)
    | 3 => v = .slice A z c
    | 4 => v = .slice A n c
    | 5 => v = .pointer (some ⟨gf, 1, none⟩)
    | 6 => v = .int .i64 (z : Int)
    | 7 => v = .int .i64 ((z : Int) + 1)
    | 8 => v = .slice (cutA A c l 1) (n - l) (c - l)
    | _ => True) j u W' := by
    intro W W' j u hX h
    match j, h with
    | 0, h => exact h
    | 1, h => exact h
    | 2, h => exact h
    | 3, h => exact h
    | 4, h => exact h
    | 5, h => exact h
    | 6, h => exact h
    | 7, h => exact h
    | 8, h => exact h
    | _ + 9, h => exact h
  have hsz : ∀ d, some d ∈ ([some 11, some 12, some 13, some 14, some 15, some 16, some 17, some 18, some 19] : List (Option Tmp)) → d < a.tmps.size := slots_lt (by decide) hsize
  refine wp_region_j 9 [some 11, some 12, some 13, some 14, some 15, some 16, some 17, some 18, some 19] [[], [], [1], [0, 2], [], [], [5], [6], [4, 7]] [[], [], [], [], [], [], [], [], []] (fun (i : Nat) (v : Value) (W : World) => match i with
    | 0 => v = .slice A n c
    | 1 => v = .pointer (some ⟨gf, 1, none⟩)
    | 2 => v = .int .i64 (z : Int)
    | 3 => v = .slice A z c
    | 4 => v = .slice A n c
    | 5 => v = .pointer (some ⟨gf, 1, none⟩)
    | 6 => v = .int .i64 (z : Int)
    | 7 => v = .int .i64 ((z : Int) + 1)
    | 8 => v = .slice (cutA A c l 1) (n - l) (c - l)
    | _ => True) (fun _ W => Ext w W) (by kernel_rfl) (by kernel_rfl) hsz (fun _ _ _ _ h => h) ((Ext.refl w).drew) ?_ ?_
  · clear hend
    simp only [rops, Try.f70, regOf, Option.bind_some, Nat.reduceBEq, if_true, if_false, Bool.false_eq_true, Option.getD_some]
    simp only [List.take_succ_cons, List.take_zero]
    refine ⟨?_, ?_, ?_, ?_, ?_, ?_, ?_, ?_, ?_, trivial⟩
    · intro done us W hJ hdep haft hnot b hb hb' K hK Q'
      have e0 := (hb' 0 (by simp)).trans s0
      clear hb hb'
      go_simp
      exact hK _ _ rfl (fun _ _ _ h => h) hJ
    · intro done us W hJ hdep haft hnot b hb hb' K hK Q'
      have e3 := (hb' 3 (by simp)).trans s3
      clear hb hb'
      go_simp
      exact hK _ _ rfl (fun _ _ _ h => h) hJ
    · intro done us W hJ hdep haft hnot b hb hb' K hK Q'
      simp only [List.getD_cons_succ, List.getD_cons_zero, List.mem_cons, List.not_mem_nil, or_false, forall_eq_or_imp, forall_eq] at hdep
      have e12 := hb 1 12 rfl
      have d1 := hdep
      rw [d1.1] at e12
      clear hb hb' hdep d1
      have q := Ext.cell hJ f1
      go_simp
      exact hK _ _ rfl (fun _ _ _ h => h) hJ
    · intro done us W hJ hdep haft hnot b hb hb' K hK Q'
      simp only [List.getD_cons_succ, List.getD_cons_zero, List.mem_cons, List.not_mem_nil, or_false, forall_eq_or_imp, forall_eq] at hdep
      have e11 := hb 0 11 rfl
      have e13 := hb 2 13 rfl
      have d0 := hdep.1
      have d2 := hdep.2
      rw [d0.1] at e11
      rw [d2.1] at e13
      clear hb hb' hdep d0 d2
      have q := run_cutH (P := Try.prog) (w := W) elL A n c .i64 z (by omega)
      go_simp
      exact hK _ _ rfl (fun _ _ _ h => h) hJ
    · intro done us W hJ hdep haft hnot b hb hb' K hK Q'
      have e0 := (hb' 0 (by simp)).trans s0
      clear hb hb'
      go_simp
      exact hK _ _ rfl (fun _ _ _ h => h) hJ
    · intro done us W hJ hdep haft hnot b hb hb' K hK Q'
      have e3 := (hb' 3 (by simp)).trans s3
      clear hb hb'
      go_simp
      exact hK _ _ rfl (fun _ _ _ h => h) hJ
    · intro done us W hJ hdep haft hnot b hb hb' K hK Q'
      simp only [List.getD_cons_succ, List.getD_cons_zero, List.mem_cons, List.not_mem_nil, or_false, forall_eq_or_imp, forall_eq] at hdep
      have e16 := hb 5 16 rfl
      have d5 := hdep
      rw [d5.1] at e16
      clear hb hb' hdep d5
      have q := Ext.cell hJ f1
      go_simp
      exact hK _ _ rfl (fun _ _ _ h => h) hJ
    · intro done us W hJ hdep haft hnot b hb hb' K hK Q'
      simp only [List.getD_cons_succ, List.getD_cons_zero, List.mem_cons, List.not_mem_nil, or_false, forall_eq_or_imp, forall_eq] at hdep
      have e17 := hb 6 17 rfl
      have d6 := hdep
      rw [d6.1] at e17
      clear hb hb' hdep d6
      have qw : IntKind.i64.wrap ((z : Int) + 1) = (z : Int) + 1 := IntWalk.i64_in _ (by have := hl.out; omega)
      go_simp
      exact hK _ _ rfl (fun _ _ _ h => h) hJ
    · intro done us W hJ hdep haft hnot b hb hb' K hK Q'
      simp only [List.getD_cons_succ, List.getD_cons_zero, List.mem_cons, List.not_mem_nil, or_false, forall_eq_or_imp, forall_eq] at hdep
      have e15 := hb 4 15 rfl
      have e18 := hb 7 18 rfl
      have d4 := hdep.1
      have d7 := hdep.2
      rw [d4.1] at e15
      rw [d7.1] at e18
      clear hb hb' hdep d4 d7
      have q := run_cutL (P := Try.prog) (w := W) elL A n c .i64 l ((z : Int) + 1) (by have := hl.out; omega) (by have := hl.out; omega)
      go_simp
      exact hK _ _ rfl (fun _ _ _ h => h) hJ
  · intro us W hV hJ
    exact hend (us 0) (us 1) (us 2) (us 3) (us 4) (us 5) (us 6) (us 7) (us 8) W (hV 0 (by omega)) (hV 1 (by omega)) (hV 2 (by omega)) (hV 3 (by omega)) (hV 4 (by omega)) (hV 5 (by omega)) (hV 6 (by omega)) (hV 7 (by omega)) (hV 8 (by omega)) hJ
set_option maxRecDepth 100000 in
set_option maxHeartbeats 2000000 in
theorem spoil_r9 (gf : Nat) (A : Option Addr) (n c z l : Nat) (num : Int) (w : World) (f1 : w.cell? ⟨gf, 1, none⟩ = some (.int .i64 (z : Int))) (f2 : w.cell? ⟨gf, 2, none⟩ = some (.int .i64 num)) (hn : n ≤ 1000000) (hnc : n ≤ c) (hi : l ≤ n) (hl : Hid (l = z + 1)) (hz : z < n) (a : Act) (Q : Exit → Act → World → Prop) (hsize : 52 ≤ a.tmps.size)
    (s0 : a.tmps[0]? = some (.slice A n c))
    (s3 : a.tmps[3]? = some (.pointer (some ⟨gf, 0, none⟩)))
    (hend : ∀ (xv0 xv1 xv2 xv3 xv4 xv5 xv6 xv7 xv8 : Value) (W : World), (xv0 = .slice A n c) → (xv1 = .pointer (some ⟨gf, 1, none⟩)) → (xv2 = .int .i64 (z : Int)) → (xv3 = .slice A z c) → (xv4 = .slice A n c) → (xv5 = .pointer (some ⟨gf, 1, none⟩)) → (xv6 = .int .i64 (z : Int)) → (xv7 = .int .i64 ((z : Int) + 1)) → (xv8 = .slice (cutA A c l 1) (n - l) (c - l)) → Ext w W → wpList Try.prog (rops Try.f70 9).toArray Q ((rops Try.f70 9).drop 9) (((((((((a.put (some 43) xv0).put (some 44) xv1).put (some 45) xv2).put (some 46) xv3).put (some 47) xv4).put (some 48) xv5).put (some 49) xv6).put (some 50) xv7).put (some 51) xv8) W) :
    (Code.region 9 (rops Try.f70 9).toArray true).wp Try.prog Q a w := by
  have hmono : ∀ (W W' : World) (j : Nat) (u : Value), Ext W W' → (fun (i : Nat) (v : Value) (W : World) => match i with
    | 0 => v = .slice A n c
    | 1 => v = .pointer (some ⟨gf, 1, none⟩)
    | 2 => v = .int .i64 (z : Int)
    | 3 => v = .slice A z c
    | 4 => v = .slice A n c
    | 5 => v = .pointer (some ⟨gf, 1, none⟩)
    | 6 => v = .int .i64 (z : Int)
    | 7 => v = .int .i64 ((z : Int) + 1)
    | 8 => v = .slice (cutA A c l 1) (n - l) (c - l)
    | _ => True) j u W → (fun (i : Nat) (v : Value) (W : World) => match i with
    | 0 => v = .slice A n c
    | 1 => v = .pointer (some ⟨gf, 1, none⟩)
    | 2 => v = .int .i64 (z : Int)
    | 3 => v = .slice A z c
    | 4 => v = .slice A n c
    | 5 => v = .pointer (some ⟨gf, 1, none⟩)
    | 6 => v = .int .i64 (z : Int)
    | 7 => v = .int .i64 ((z : Int) + 1)
    | 8 => v = .slice (cutA A c l 1) (n - l) (c - l)
    | _ => True) j u W' := by
    intro W W' j u hX h
    match j, h with
    | 0, h => exact h
    | 1, h => exact h
    | 2, h => exact h
    | 3, h => exact h
    | 4, h => exact h
    | 5, h => exact h
    | 6, h => exact h
    | 7, h => exact h
    | 8, h => exact h
    | _ + 9, h => exact h
  have hsz : ∀ d, some d ∈ ([some 43, some 44, some 45, some 46, some 47, some 48, some 49, some 50, some 51] : List (Option Tmp)) → d < a.tmps.size := slots_lt (by decide) hsize
  refine wp_region_j 9 [some 43, some 44, some 45, some 46, some 47, some 48, some 49, some 50, some 51] [[], [], [1], [0, 2], [], [], [5], [6], [4, 7]] [[], [], [], [], [], [], [], [], []] (fun (i : Nat) (v : Value) (W : World) => match i with
    | 0 => v = .slice A n c
    | 1 => v = .pointer (some ⟨gf, 1, none⟩)
    | 2 => v = .int .i64 (z : Int)
    | 3 => v = .slice A z c
    | 4 => v = .slice A n c
    | 5 => v = .pointer (some ⟨gf, 1, none⟩)
    | 6 => v = .int .i64 (z : Int)
    | 7 => v = .int .i64 ((z : Int) + 1)
    | 8 => v = .slice (cutA A c l 1) (n - l) (c - l)
    | _ => True) (fun _ W => Ext w W) (by kernel_rfl) (by kernel_rfl) hsz (fun _ _ _ _ h => h) ((Ext.refl w).drew) ?_ ?_
  · clear hend
    simp only [rops, Try.f70, regOf, Option.bind_some, Nat.reduceBEq, if_true, if_false, Bool.false_eq_true, Option.getD_some]
    simp only [List.take_succ_cons, List.take_zero]
    refine ⟨?_, ?_, ?_, ?_, ?_, ?_, ?_, ?_, ?_, trivial⟩
    · intro done us W hJ hdep haft hnot b hb hb' K hK Q'
      have e0 := (hb' 0 (by simp)).trans s0
      clear hb hb'
      go_simp
      exact hK _ _ rfl (fun _ _ _ h => h) hJ
    · intro done us W hJ hdep haft hnot b hb hb' K hK Q'
      have e3 := (hb' 3 (by simp)).trans s3
      clear hb hb'
      go_simp
      exact hK _ _ rfl (fun _ _ _ h => h) hJ
    · intro done us W hJ hdep haft hnot b hb hb' K hK Q'
      simp only [List.getD_cons_succ, List.getD_cons_zero, List.mem_cons, List.not_mem_nil, or_false, forall_eq_or_imp, forall_eq] at hdep
      have e44 := hb 1 44 rfl
      have d1 := hdep
      rw [d1.1] at e44
      clear hb hb' hdep d1
      have q := Ext.cell hJ f1
      go_simp
      exact hK _ _ rfl (fun _ _ _ h => h) hJ
    · intro done us W hJ hdep haft hnot b hb hb' K hK Q'
      simp only [List.getD_cons_succ, List.getD_cons_zero, List.mem_cons, List.not_mem_nil, or_false, forall_eq_or_imp, forall_eq] at hdep
      have e43 := hb 0 43 rfl
      have e45 := hb 2 45 rfl
      have d0 := hdep.1
      have d2 := hdep.2
      rw [d0.1] at e43
      rw [d2.1] at e45
      clear hb hb' hdep d0 d2
      have q := run_cutH (P := Try.prog) (w := W) elL A n c .i64 z (by omega)
      go_simp
      exact hK _ _ rfl (fun _ _ _ h => h) hJ
    · intro done us W hJ hdep haft hnot b hb hb' K hK Q'
      have e0 := (hb' 0 (by simp)).trans s0
      clear hb hb'
      go_simp
      exact hK _ _ rfl (fun _ _ _ h => h) hJ
    · intro done us W hJ hdep haft hnot b hb hb' K hK Q'
      have e3 := (hb' 3 (by simp)).trans s3
      clear hb hb'
      go_simp
      exact hK _ _ rfl (fun _ _ _ h => h) hJ
    · intro done us W hJ hdep haft hnot b hb hb' K hK Q'
      simp only [List.getD_cons_succ, List.getD_cons_zero, List.mem_cons, List.not_mem_nil, or_false, forall_eq_or_imp, forall_eq] at hdep
      have e48 := hb 5 48 rfl
      have d5 := hdep
      rw [d5.1] at e48
      clear hb hb' hdep d5
      have q := Ext.cell hJ f1
      go_simp
      exact hK _ _ rfl (fun _ _ _ h => h) hJ
    · intro done us W hJ hdep haft hnot b hb hb' K hK Q'
      simp only [List.getD_cons_succ, List.getD_cons_zero, List.mem_cons, List.not_mem_nil, or_false, forall_eq_or_imp, forall_eq] at hdep
      have e49 := hb 6 49 rfl
      have d6 := hdep
      rw [d6.1] at e49
      clear hb hb' hdep d6
      have qw : IntKind.i64.wrap ((z : Int) + 1) = (z : Int) + 1 := IntWalk.i64_in _ (by have := hl.out; omega)
      go_simp
      exact hK _ _ rfl (fun _ _ _ h => h) hJ
    · intro done us W hJ hdep haft hnot b hb hb' K hK Q'
      simp only [List.getD_cons_succ, List.getD_cons_zero, List.mem_cons, List.not_mem_nil, or_false, forall_eq_or_imp, forall_eq] at hdep
      have e47 := hb 4 47 rfl
      have e50 := hb 7 50 rfl
      have d4 := hdep.1
      have d7 := hdep.2
      rw [d4.1] at e47
      rw [d7.1] at e50
      clear hb hb' hdep d4 d7
      have q := run_cutL (P := Try.prog) (w := W) elL A n c .i64 l ((z : Int) + 1) (by have := hl.out; omega) (by have := hl.out; omega)
      go_simp
      exact hK _ _ rfl (fun _ _ _ h => h) hJ
  · intro us W hV hJ
    exact hend (us 0) (us 1) (us 2) (us 3) (us 4) (us 5) (us 6) (us 7) (us 8) W (hV 0 (by omega)) (hV 1 (by omega)) (hV 2 (by omega)) (hV 3 (by omega)) (hV 4 (by omega)) (hV 5 (by omega)) (hV 6 (by omega)) (hV 7 (by omega)) (hV 8 (by omega)) hJ
set_option maxRecDepth 100000 in
set_option maxHeartbeats 2000000 in
theorem spoil_r15 (gf gl n c z : Nat) (num : Int) (A5 : Option Addr) (n5 c5 : Nat) (w : World) (f1 : w.cell? ⟨gf, 1, none⟩ = some (.int .i64 (z : Int))) (f2 : w.cell? ⟨gf, 2, none⟩ = some (.int .i64 num)) (hc : w.cell? ⟨gl, z, none⟩ = some (.slice A5 n5 c5)) (hz : z < n) (hn : n ≤ 1000000) (h5 : n5 ≤ 1000000) (hc5 : n5 ≤ c5) (hnum : -9223372036854775808 ≤ num ∧ num ≤ 9223372036854775807) (a : Act) (Q : Exit → Act → World → Prop) (hsize : 118 ≤ a.tmps.size)
    (s0 : a.tmps[0]? = some (.slice (some ⟨gl, 0, none⟩) n c))
    (s3 : a.tmps[3]? = some (.pointer (some ⟨gf, 0, none⟩)))
    (hend : ∀ (xv0 xv1 xv2 xv3 xv4 xv5 xv6 xv7 xv8 xv9 xv10 xv11 xv12 xv13 xv14 xv15 xv16 xv17 xv18 xv19 : Value) (W : World), (xv0 = .slice (some ⟨gl, 0, none⟩) n c) → (xv1 = .pointer (some ⟨gf, 1, none⟩)) → (xv2 = .int .i64 (z : Int)) → (xv3 = .slice (some ⟨gl, 0, none⟩) n c) → (xv4 = .pointer (some ⟨gf, 1, none⟩)) → (xv5 = .int .i64 (z : Int)) → (xv6 = .pointer (some ⟨gl, z, none⟩)) → (xv7 = .slice A5 n5 c5) → (xv8 = .pointer (some ⟨gf, 2, none⟩)) → (xv9 = .int .i64 num) → (xv10 = .int .i64 (max num 0)) → (xv11 = .slice (some ⟨gl, 0, none⟩) n c) → (xv12 = .pointer (some ⟨gf, 1, none⟩)) → (xv13 = .int .i64 (z : Int)) → (xv14 = .pointer (some ⟨gl, z, none⟩)) → (xv15 = .slice A5 n5 c5) → (xv16 = .int .i64 (n5 : Int)) → (xv17 = .int .i64 (held num n5 : Nat)) → (xv18 = .slice A5 (held num n5) c5) → (xv19 = .pointer (some ⟨gl, z, none⟩)) → Ext w W → wpList Try.prog (rops Try.f70 15).toArray Q ((rops Try.f70 15).drop 20) ((((((((((((((((((((a.put (some 98) xv0).put (some 99) xv1).put (some 100) xv2).put (some 101) xv3).put (some 102) xv4).put (some 103) xv5).put (some 104) xv6).put (some 105) xv7).put (some 106) xv8).put (some 107) xv9).put (some 108) xv10).put (some 109) xv11).put (some 110) xv12).put (some 111) xv13).put (some 112) xv14).put (some 113) xv15).put (some 114) xv16).put (some 115) xv17).put (some 116) xv18).put (some 117) xv19) W) :
    (Code.region 15 (rops Try.f70 15).toArray true).wp Try.prog Q a w := by
  have hmono : ∀ (W W' : World) (j : Nat) (u : Value), Ext W W' → (fun (i : Nat) (v : Value) (W : World) => match i with
    | 0 => v = .slice (some ⟨gl, 0, none⟩) n c
    | 1 => v = .pointer (some ⟨gf, 1, none⟩)
    | 2 => v = .int .i64 (z : Int)
    | 3 => v = .slice (some ⟨gl, 0, none⟩) n c
    | 4 => v = .pointer (some ⟨gf, 1, none⟩)
    | 5 => v = .int .i64 (z : Int)
    | 6 => v = .pointer (some ⟨gl, z, none⟩)
    | 7 => v = .slice A5 n5 c5
    | 8 => v = .pointer (some ⟨gf, 2, none⟩)
    | 9 => v = .int .i64 num
    | 10 => v = .int .i64 (max num 0)
    | 11 => v = .slice (some ⟨gl, 0, none⟩) n c
    | 12 => v = .pointer (some ⟨gf, 1, none⟩)
    | 13 => v = .int .i64 (z : Int)
    | 14 => v = .pointer (some ⟨gl, z, none⟩)
    | 15 => v = .slice A5 n5 c5
    | 16 => v = .int .i64 (n5 : Int)
    | 17 => v = .int .i64 (held num n5 : Nat)
    | 18 => v = .slice A5 (held num n5) c5
    | 19 => v = .pointer (some ⟨gl, z, none⟩)
    | _ => True) j u W → (fun (i : Nat) (v : Value) (W : World) => match i with
    | 0 => v = .slice (some ⟨gl, 0, none⟩) n c
    | 1 => v = .pointer (some ⟨gf, 1, none⟩)
    | 2 => v = .int .i64 (z : Int)
    | 3 => v = .slice (some ⟨gl, 0, none⟩) n c
    | 4 => v = .pointer (some ⟨gf, 1, none⟩)
    | 5 => v = .int .i64 (z : Int)
    | 6 => v = .pointer (some ⟨gl, z, none⟩)
    | 7 => v = .slice A5 n5 c5
    | 8 => v = .pointer (some ⟨gf, 2, none⟩)
    | 9 => v = .int .i64 num
    | 10 => v = .int .i64 (max num 0)
    | 11 => v = .slice (some ⟨gl, 0, none⟩) n c
    | 12 => v = .pointer (some ⟨gf, 1, none⟩)
    | 13 => v = .int .i64 (z : Int)
    | 14 => v = .pointer (some ⟨gl, z, none⟩)
    | 15 => v = .slice A5 n5 c5
    | 16 => v = .int .i64 (n5 : Int)
    | 17 => v = .int .i64 (held num n5 : Nat)
    | 18 => v = .slice A5 (held num n5) c5
    | 19 => v = .pointer (some ⟨gl, z, none⟩)
    | _ => True) j u W' := by
    intro W W' j u hX h
    match j, h with
    | 0, h => exact h
    | 1, h => exact h
    | 2, h => exact h
    | 3, h => exact h
    | 4, h => exact h
    | 5, h => exact h
    | 6, h => exact h
    | 7, h => exact h
    | 8, h => exact h
    | 9, h => exact h
    | 10, h => exact h
    | 11, h => exact h
    | 12, h => exact h
    | 13, h => exact h
    | 14, h => exact h
    | 15, h => exact h
    | 16, h => exact h
    | 17, h => exact h
    | 18, h => exact h
    | 19, h => exact h
    | _ + 20, h => exact h
  have hsz : ∀ d, some d ∈ ([some 98, some 99, some 100, some 101, some 102, some 103, some 104, some 105, some 106, some 107, some 108, some 109, some 110, some 111, some 112, some 113, some 114, some 115, some 116, some 117] : List (Option Tmp)) → d < a.tmps.size := slots_lt (by decide) hsize
  refine wp_region_j 20 [some 98, some 99, some 100, some 101, some 102, some 103, some 104, some 105, some 106, some 107, some 108, some 109, some 110, some 111, some 112, some 113, some 114, some 115, some 116, some 117] [[], [], [1], [], [], [4], [3, 5], [6], [], [8], [9], [], [], [12], [11, 13], [14], [15], [10, 16], [7, 17], [0, 2]] [[], [], [], [], [], [], [], [], [], [], [], [], [], [], [], [], [], [], [], []] (fun (i : Nat) (v : Value) (W : World) => match i with
    | 0 => v = .slice (some ⟨gl, 0, none⟩) n c
    | 1 => v = .pointer (some ⟨gf, 1, none⟩)
    | 2 => v = .int .i64 (z : Int)
    | 3 => v = .slice (some ⟨gl, 0, none⟩) n c
    | 4 => v = .pointer (some ⟨gf, 1, none⟩)
    | 5 => v = .int .i64 (z : Int)
    | 6 => v = .pointer (some ⟨gl, z, none⟩)
    | 7 => v = .slice A5 n5 c5
    | 8 => v = .pointer (some ⟨gf, 2, none⟩)
    | 9 => v = .int .i64 num
    | 10 => v = .int .i64 (max num 0)
    | 11 => v = .slice (some ⟨gl, 0, none⟩) n c
    | 12 => v = .pointer (some ⟨gf, 1, none⟩)
    | 13 => v = .int .i64 (z : Int)
    | 14 => v = .pointer (some ⟨gl, z, none⟩)
    | 15 => v = .slice A5 n5 c5
    | 16 => v = .int .i64 (n5 : Int)
    | 17 => v = .int .i64 (held num n5 : Nat)
    | 18 => v = .slice A5 (held num n5) c5
    | 19 => v = .pointer (some ⟨gl, z, none⟩)
    | _ => True) (fun _ W => Ext w W) (by kernel_rfl) (by kernel_rfl) hsz (fun _ _ _ _ h => h) ((Ext.refl w).drew) ?_ ?_
  · clear hend
    simp only [rops, Try.f70, regOf, Option.bind_some, Nat.reduceBEq, if_true, if_false, Bool.false_eq_true, Option.getD_some]
    simp only [List.take_succ_cons, List.take_zero]
    refine ⟨?_, ?_, ?_, ?_, ?_, ?_, ?_, ?_, ?_, ?_, ?_, ?_, ?_, ?_, ?_, ?_, ?_, ?_, ?_, ?_, trivial⟩
    · intro done us W hJ hdep haft hnot b hb hb' K hK Q'
      have e0 := (hb' 0 (by simp)).trans s0
      clear hb hb'
      go_simp
      exact hK _ _ rfl (fun _ _ _ h => h) hJ
    · intro done us W hJ hdep haft hnot b hb hb' K hK Q'
      have e3 := (hb' 3 (by simp)).trans s3
      clear hb hb'
      go_simp
      exact hK _ _ rfl (fun _ _ _ h => h) hJ
    · intro done us W hJ hdep haft hnot b hb hb' K hK Q'
      simp only [List.getD_cons_succ, List.getD_cons_zero, List.mem_cons, List.not_mem_nil, or_false, forall_eq_or_imp, forall_eq] at hdep
      have e99 := hb 1 99 rfl
      have d1 := hdep
      rw [d1.1] at e99
      clear hb hb' hdep d1
      have q := Ext.cell hJ f1
      go_simp
      exact hK _ _ rfl (fun _ _ _ h => h) hJ
    · intro done us W hJ hdep haft hnot b hb hb' K hK Q'
      have e0 := (hb' 0 (by simp)).trans s0
      clear hb hb'
      go_simp
      exact hK _ _ rfl (fun _ _ _ h => h) hJ
    · intro done us W hJ hdep haft hnot b hb hb' K hK Q'
      have e3 := (hb' 3 (by simp)).trans s3
      clear hb hb'
      go_simp
      exact hK _ _ rfl (fun _ _ _ h => h) hJ
    · intro done us W hJ hdep haft hnot b hb hb' K hK Q'
      simp only [List.getD_cons_succ, List.getD_cons_zero, List.mem_cons, List.not_mem_nil, or_false, forall_eq_or_imp, forall_eq] at hdep
      have e102 := hb 4 102 rfl
      have d4 := hdep
      rw [d4.1] at e102
      clear hb hb' hdep d4
      have q := Ext.cell hJ f1
      go_simp
      exact hK _ _ rfl (fun _ _ _ h => h) hJ
    · intro done us W hJ hdep haft hnot b hb hb' K hK Q'
      simp only [List.getD_cons_succ, List.getD_cons_zero, List.mem_cons, List.not_mem_nil, or_false, forall_eq_or_imp, forall_eq] at hdep
      have e101 := hb 3 101 rfl
      have e103 := hb 5 103 rfl
      have d3 := hdep.1
      have d5 := hdep.2
      rw [d3.1] at e101
      rw [d5.1] at e103
      clear hb hb' hdep d3 d5
      go_simp
      exact hK _ _ rfl (fun _ _ _ h => h) hJ
    · intro done us W hJ hdep haft hnot b hb hb' K hK Q'
      simp only [List.getD_cons_succ, List.getD_cons_zero, List.mem_cons, List.not_mem_nil, or_false, forall_eq_or_imp, forall_eq] at hdep
      have e104 := hb 6 104 rfl
      have d6 := hdep
      rw [d6.1] at e104
      clear hb hb' hdep d6
      have q := Ext.cell hJ hc
      go_simp
      exact hK _ _ rfl (fun _ _ _ h => h) hJ
    · intro done us W hJ hdep haft hnot b hb hb' K hK Q'
      have e3 := (hb' 3 (by simp)).trans s3
      clear hb hb'
      go_simp
      exact hK _ _ rfl (fun _ _ _ h => h) hJ
    · intro done us W hJ hdep haft hnot b hb hb' K hK Q'
      simp only [List.getD_cons_succ, List.getD_cons_zero, List.mem_cons, List.not_mem_nil, or_false, forall_eq_or_imp, forall_eq] at hdep
      have e106 := hb 8 106 rfl
      have d8 := hdep
      rw [d8.1] at e106
      clear hb hb' hdep d8
      have q := Ext.cell hJ f2
      go_simp
      exact hK _ _ rfl (fun _ _ _ h => h) hJ
    · intro done us W hJ hdep haft hnot b hb hb' K hK Q'
      simp only [List.getD_cons_succ, List.getD_cons_zero, List.mem_cons, List.not_mem_nil, or_false, forall_eq_or_imp, forall_eq] at hdep
      have e107 := hb 9 107 rfl
      have d9 := hdep
      rw [d9.1] at e107
      clear hb hb' hdep d9
      go_simp
      exact hK _ _ (by first | rfl | (congr 1; omega) | (congr 1; split <;> omega)) (fun _ _ _ h => h) hJ
    · intro done us W hJ hdep haft hnot b hb hb' K hK Q'
      have e0 := (hb' 0 (by simp)).trans s0
      clear hb hb'
      go_simp
      exact hK _ _ rfl (fun _ _ _ h => h) hJ
    · intro done us W hJ hdep haft hnot b hb hb' K hK Q'
      have e3 := (hb' 3 (by simp)).trans s3
      clear hb hb'
      go_simp
      exact hK _ _ rfl (fun _ _ _ h => h) hJ
    · intro done us W hJ hdep haft hnot b hb hb' K hK Q'
      simp only [List.getD_cons_succ, List.getD_cons_zero, List.mem_cons, List.not_mem_nil, or_false, forall_eq_or_imp, forall_eq] at hdep
      have e110 := hb 12 110 rfl
      have d12 := hdep
      rw [d12.1] at e110
      clear hb hb' hdep d12
      have q := Ext.cell hJ f1
      go_simp
      exact hK _ _ rfl (fun _ _ _ h => h) hJ
    · intro done us W hJ hdep haft hnot b hb hb' K hK Q'
      simp only [List.getD_cons_succ, List.getD_cons_zero, List.mem_cons, List.not_mem_nil, or_false, forall_eq_or_imp, forall_eq] at hdep
      have e109 := hb 11 109 rfl
      have e111 := hb 13 111 rfl
      have d11 := hdep.1
      have d13 := hdep.2
      rw [d11.1] at e109
      rw [d13.1] at e111
      clear hb hb' hdep d11 d13
      go_simp
      exact hK _ _ rfl (fun _ _ _ h => h) hJ
    · intro done us W hJ hdep haft hnot b hb hb' K hK Q'
      simp only [List.getD_cons_succ, List.getD_cons_zero, List.mem_cons, List.not_mem_nil, or_false, forall_eq_or_imp, forall_eq] at hdep
      have e112 := hb 14 112 rfl
      have d14 := hdep
      rw [d14.1] at e112
      clear hb hb' hdep d14
      have q := Ext.cell hJ hc
      go_simp
      exact hK _ _ rfl (fun _ _ _ h => h) hJ
    · intro done us W hJ hdep haft hnot b hb hb' K hK Q'
      simp only [List.getD_cons_succ, List.getD_cons_zero, List.mem_cons, List.not_mem_nil, or_false, forall_eq_or_imp, forall_eq] at hdep
      have e113 := hb 15 113 rfl
      have d15 := hdep
      rw [d15.1] at e113
      clear hb hb' hdep d15
      go_simp
      exact hK _ _ rfl (fun _ _ _ h => h) hJ
    · intro done us W hJ hdep haft hnot b hb hb' K hK Q'
      simp only [List.getD_cons_succ, List.getD_cons_zero, List.mem_cons, List.not_mem_nil, or_false, forall_eq_or_imp, forall_eq] at hdep
      have e108 := hb 10 108 rfl
      have e114 := hb 16 114 rfl
      have d10 := hdep.1
      have d16 := hdep.2
      rw [d10.1] at e108
      rw [d16.1] at e114
      clear hb hb' hdep d10 d16
      have q := Lib.hid (held_eq num n5)
      go_simp
      exact hK _ _ (by have q := q.out; congr 1; split <;> omega) (fun _ _ _ h => h) hJ
    · intro done us W hJ hdep haft hnot b hb hb' K hK Q'
      simp only [List.getD_cons_succ, List.getD_cons_zero, List.mem_cons, List.not_mem_nil, or_false, forall_eq_or_imp, forall_eq] at hdep
      have e105 := hb 7 105 rfl
      have e115 := hb 17 115 rfl
      have d7 := hdep.1
      have d17 := hdep.2
      rw [d7.1] at e105
      rw [d17.1] at e115
      clear hb hb' hdep d7 d17
      have q := run_cutH (P := Try.prog) (w := W) (t := 22) elB A5 n5 c5 .i64 (held num n5) (by have := held_le num n5; omega)
      go_simp
      exact hK _ _ rfl (fun _ _ _ h => h) hJ
    · intro done us W hJ hdep haft hnot b hb hb' K hK Q'
      simp only [List.getD_cons_succ, List.getD_cons_zero, List.mem_cons, List.not_mem_nil, or_false, forall_eq_or_imp, forall_eq] at hdep
      have e98 := hb 0 98 rfl
      have e100 := hb 2 100 rfl
      have d0 := hdep.1
      have d2 := hdep.2
      rw [d0.1] at e98
      rw [d2.1] at e100
      clear hb hb' hdep d0 d2
      go_simp
      exact hK _ _ rfl (fun _ _ _ h => h) hJ
  · intro us W hV hJ
    exact hend (us 0) (us 1) (us 2) (us 3) (us 4) (us 5) (us 6) (us 7) (us 8) (us 9) (us 10) (us 11) (us 12) (us 13) (us 14) (us 15) (us 16) (us 17) (us 18) (us 19) W (hV 0 (by omega)) (hV 1 (by omega)) (hV 2 (by omega)) (hV 3 (by omega)) (hV 4 (by omega)) (hV 5 (by omega)) (hV 6 (by omega)) (hV 7 (by omega)) (hV 8 (by omega)) (hV 9 (by omega)) (hV 10 (by omega)) (hV 11 (by omega)) (hV 12 (by omega)) (hV 13 (by omega)) (hV 14 (by omega)) (hV 15 (by omega)) (hV 16 (by omega)) (hV 17 (by omega)) (hV 18 (by omega)) (hV 19 (by omega)) hJ
set_option maxRecDepth 100000 in
set_option maxHeartbeats 2000000 in
theorem spoil_r13 (gf gl n c z n5 c5 gy q q8 r : Nat) (y p2 zz : Int) (w : World) (f1 : w.cell? ⟨gf, 1, none⟩ = some (.int .i64 (z : Int))) (f2 : w.cell? ⟨gf, 2, none⟩ = some (.int .i64 (q : Int))) (hc : w.cell? ⟨gl, z, none⟩ = some (.slice (some ⟨gy, 0, none⟩) n5 c5)) (hz : z < n) (hn : n ≤ 1000000) (h5 : n5 ≤ 1000000) (hc5 : n5 ≤ c5) (hy : w.cell? ⟨gy, q8, none⟩ = some (.int .u8 y)) (hb : 0 ≤ y ∧ y ≤ 255) (hq : q8 < n5) (hq8 : Hid (q / 8 = q8)) (hr8 : Hid (q % 8 = r)) (hp2 : Hid (((2 ^ r : Nat) : Int) = p2)) (hzz : Hid (bits .xor .u8 y p2 = zz)) (a : Act) (Q : Exit → Act → World → Prop) (hsize : 96 ≤ a.tmps.size)
    (s0 : a.tmps[0]? = some (.slice (some ⟨gl, 0, none⟩) n c))
    (s3 : a.tmps[3]? = some (.pointer (some ⟨gf, 0, none⟩)))
    (hend : ∀ (xv0 xv1 xv2 xv3 xv4 xv5 xv6 xv7 xv8 xv9 xv10 xv11 xv12 xv13 xv14 xv15 xv16 : Value) (W : World), (xv0 = .slice (some ⟨gl, 0, none⟩) n c) → (xv1 = .pointer (some ⟨gf, 1, none⟩)) → (xv2 = .int .i64 (z : Int)) → (xv3 = .pointer (some ⟨gl, z, none⟩)) → (xv4 = .slice (some ⟨gy, 0, none⟩) n5 c5) → (xv5 = .pointer (some ⟨gf, 2, none⟩)) → (xv6 = .int .i64 (q : Int)) → (xv7 = .int .i64 (q8 : Int)) → (xv8 = .pointer (some ⟨gy, q8, none⟩)) → (xv9 = .int .u8 y) → (xv10 = .pointer (some ⟨gf, 2, none⟩)) → (xv11 = .int .i64 (q : Int)) → (xv12 = .int .i64 (r : Int)) → (xv13 = .int .u64 (r : Int)) → (xv14 = .int .u8 p2) → (xv15 = .int .u8 zz) → (xv16 = .pointer (some ⟨gy, q8, none⟩)) → Ext w W → wpList Try.prog (rops Try.f70 13).toArray Q ((rops Try.f70 13).drop 17) (((((((((((((((((a.put (some 79) xv0).put (some 80) xv1).put (some 81) xv2).put (some 82) xv3).put (some 83) xv4).put (some 84) xv5).put (some 85) xv6).put (some 86) xv7).put (some 87) xv8).put (some 88) xv9).put (some 89) xv10).put (some 90) xv11).put (some 91) xv12).put (some 92) xv13).put (some 93) xv14).put (some 94) xv15).put (some 95) xv16) W) :
    (Code.region 13 (rops Try.f70 13).toArray true).wp Try.prog Q a w := by
  have hmono : ∀ (W W' : World) (j : Nat) (u : Value), Ext W W' → (fun (i : Nat) (v : Value) (W : World) => match i with
    | 0 => v = .slice (some ⟨gl, 0, none⟩) n c
    | 1 => v = .pointer (some ⟨gf, 1, none⟩)
    | 2 => v = .int .i64 (z : Int)
    | 3 => v = .pointer (some ⟨gl, z, none⟩)
    | 4 => v = .slice (some ⟨gy, 0, none⟩) n5 c5
    | 5 => v = .pointer (some ⟨gf, 2, none⟩)
    | 6 => v = .int .i64 (q : Int)
    | 7 => v = .int .i64 (q8 : Int)
    | 8 => v = .pointer (some ⟨gy, q8, none⟩)
    | 9 => v = .int .u8 y
    | 10 => v = .pointer (some ⟨gf, 2, none⟩)
    | 11 => v = .int .i64 (q : Int)
    | 12 => v = .int .i64 (r : Int)
    | 13 => v = .int .u64 (r : Int)
    | 14 => v = .int .u8 p2
    | 15 => v = .int .u8 zz
    | 16 => v = .pointer (some ⟨gy, q8, none⟩)
    | _ => True) j u W → (fun (i : Nat) (v : Value) (W : World) => match i with
    | 0 => v = .slice (some ⟨gl, 0, none⟩) n c
    | 1 => v = .pointer (some ⟨gf, 1, none⟩)
    | 2 => v = .int .i64 (z : Int)
    | 3 => v = .pointer (some ⟨gl, z, none⟩)
    | 4 => v = .slice (some ⟨gy, 0, none⟩) n5 c5
    | 5 => v = .pointer (some ⟨gf, 2, none⟩)
    | 6 => v = .int .i64 (q : Int)
    | 7 => v = .int .i64 (q8 : Int)
    | 8 => v = .pointer (some ⟨gy, q8, none⟩)
    | 9 => v = .int .u8 y
    | 10 => v = .pointer (some ⟨gf, 2, none⟩)
    | 11 => v = .int .i64 (q : Int)
    | 12 => v = .int .i64 (r : Int)
    | 13 => v = .int .u64 (r : Int)
    | 14 => v = .int .u8 p2
    | 15 => v = .int .u8 zz
    | 16 => v = .pointer (some ⟨gy, q8, none⟩)
    | _ => True) j u W' := by
    intro W W' j u hX h
    match j, h with
    | 0, h => exact h
    | 1, h => exact h
    | 2, h => exact h
    | 3, h => exact h
    | 4, h => exact h
    | 5, h => exact h
    | 6, h => exact h
    | 7, h => exact h
    | 8, h => exact h
    | 9, h => exact h
    | 10, h => exact h
    | 11, h => exact h
    | 12, h => exact h
    | 13, h => exact h
    | 14, h => exact h
    | 15, h => exact h
    | 16, h => exact h
    | _ + 17, h => exact h
  have hsz : ∀ d, some d ∈ ([some 79, some 80, some 81, some 82, some 83, some 84, some 85, some 86, some 87, some 88, some 89, some 90, some 91, some 92, some 93, some 94, some 95] : List (Option Tmp)) → d < a.tmps.size := slots_lt (by decide) hsize
  refine wp_region_j 17 [some 79, some 80, some 81, some 82, some 83, some 84, some 85, some 86, some 87, some 88, some 89, some 90, some 91, some 92, some 93, some 94, some 95] [[], [], [1], [0, 2], [3], [], [5], [6], [4, 7], [8], [], [10], [11], [12], [13], [9, 14], [4, 7]] [[], [], [], [], [], [], [], [], [], [], [], [], [], [], [], [], []] (fun (i : Nat) (v : Value) (W : World) => match i with
    | 0 => v = .slice (some ⟨gl, 0, none⟩) n c
    | 1 => v = .pointer (some ⟨gf, 1, none⟩)
    | 2 => v = .int .i64 (z : Int)
    | 3 => v = .pointer (some ⟨gl, z, none⟩)
    | 4 => v = .slice (some ⟨gy, 0, none⟩) n5 c5
    | 5 => v = .pointer (some ⟨gf, 2, none⟩)
    | 6 => v = .int .i64 (q : Int)
    | 7 => v = .int .i64 (q8 : Int)
    | 8 => v = .pointer (some ⟨gy, q8, none⟩)
    | 9 => v = .int .u8 y
    | 10 => v = .pointer (some ⟨gf, 2, none⟩)
    | 11 => v = .int .i64 (q : Int)
    | 12 => v = .int .i64 (r : Int)
    | 13 => v = .int .u64 (r : Int)
    | 14 => v = .int .u8 p2
    | 15 => v = .int .u8 zz
    | 16 => v = .pointer (some ⟨gy, q8, none⟩)
    | _ => True) (fun _ W => Ext w W) (by kernel_rfl) (by kernel_rfl) hsz (fun _ _ _ _ h => h) ((Ext.refl w).drew) ?_ ?_
  · clear hend
    simp only [rops, Try.f70, regOf, Option.bind_some, Nat.reduceBEq, if_true, if_false, Bool.false_eq_true, Option.getD_some]
    simp only [List.take_succ_cons, List.take_zero]
    refine ⟨?_, ?_, ?_, ?_, ?_, ?_, ?_, ?_, ?_, ?_, ?_, ?_, ?_, ?_, ?_, ?_, ?_, trivial⟩
    · intro done us W hJ hdep haft hnot b hb hb' K hK Q'
      have e0 := (hb' 0 (by simp)).trans s0
      clear hb hb'
      go_simp
      exact hK _ _ rfl (fun _ _ _ h => h) hJ
    · intro done us W hJ hdep haft hnot b hb hb' K hK Q'
      have e3 := (hb' 3 (by simp)).trans s3
      clear hb hb'
      go_simp
      exact hK _ _ rfl (fun _ _ _ h => h) hJ
    · intro done us W hJ hdep haft hnot b hb hb' K hK Q'
      simp only [List.getD_cons_succ, List.getD_cons_zero, List.mem_cons, List.not_mem_nil, or_false, forall_eq_or_imp, forall_eq] at hdep
      have e80 := hb 1 80 rfl
      have d1 := hdep
      rw [d1.1] at e80
      clear hb hb' hdep d1
      have q := Ext.cell hJ f1
      go_simp
      exact hK _ _ rfl (fun _ _ _ h => h) hJ
    · intro done us W hJ hdep haft hnot b hb hb' K hK Q'
      simp only [List.getD_cons_succ, List.getD_cons_zero, List.mem_cons, List.not_mem_nil, or_false, forall_eq_or_imp, forall_eq] at hdep
      have e79 := hb 0 79 rfl
      have e81 := hb 2 81 rfl
      have d0 := hdep.1
      have d2 := hdep.2
      rw [d0.1] at e79
      rw [d2.1] at e81
      clear hb hb' hdep d0 d2
      go_simp
      exact hK _ _ rfl (fun _ _ _ h => h) hJ
    · intro done us W hJ hdep haft hnot b hb hb' K hK Q'
      simp only [List.getD_cons_succ, List.getD_cons_zero, List.mem_cons, List.not_mem_nil, or_false, forall_eq_or_imp, forall_eq] at hdep
      have e82 := hb 3 82 rfl
      have d3 := hdep
      rw [d3.1] at e82
      clear hb hb' hdep d3
      have q := Ext.cell hJ hc
      go_simp
      exact hK _ _ rfl (fun _ _ _ h => h) hJ
    · intro done us W hJ hdep haft hnot b hb hb' K hK Q'
      have e3 := (hb' 3 (by simp)).trans s3
      clear hb hb'
      go_simp
      exact hK _ _ rfl (fun _ _ _ h => h) hJ
    · intro done us W hJ hdep haft hnot b hb hb' K hK Q'
      simp only [List.getD_cons_succ, List.getD_cons_zero, List.mem_cons, List.not_mem_nil, or_false, forall_eq_or_imp, forall_eq] at hdep
      have e84 := hb 5 84 rfl
      have d5 := hdep
      rw [d5.1] at e84
      clear hb hb' hdep d5
      have q := Ext.cell hJ f2
      go_simp
      exact hK _ _ rfl (fun _ _ _ h => h) hJ
    · intro done us W hJ hdep haft hnot b hb hb' K hK Q'
      simp only [List.getD_cons_succ, List.getD_cons_zero, List.mem_cons, List.not_mem_nil, or_false, forall_eq_or_imp, forall_eq] at hdep
      have e85 := hb 6 85 rfl
      have d6 := hdep
      rw [d6.1] at e85
      clear hb hb' hdep d6
      have qw : IntKind.i64.wrap ((q : Int) / 8) = (q : Int) / 8 := IntWalk.i64_in _ (by have := hq8.out; have := hr8.out; omega)
      go_simp
      exact hK _ _ (by have := hq8.out; have := hr8.out; congr 1; omega) (fun _ _ _ h => h) hJ
    · intro done us W hJ hdep haft hnot b hb hb' K hK Q'
      simp only [List.getD_cons_succ, List.getD_cons_zero, List.mem_cons, List.not_mem_nil, or_false, forall_eq_or_imp, forall_eq] at hdep
      have e83 := hb 4 83 rfl
      have e86 := hb 7 86 rfl
      have d4 := hdep.1
      have d7 := hdep.2
      rw [d4.1] at e83
      rw [d7.1] at e86
      clear hb hb' hdep d4 d7
      go_simp
      exact hK _ _ rfl (fun _ _ _ h => h) hJ
    · intro done us W hJ hdep haft hnot b hb hb' K hK Q'
      simp only [List.getD_cons_succ, List.getD_cons_zero, List.mem_cons, List.not_mem_nil, or_false, forall_eq_or_imp, forall_eq] at hdep
      have e87 := hb 8 87 rfl
      have d8 := hdep
      rw [d8.1] at e87
      clear hb hb' hdep d8
      have q := Ext.cell hJ hy
      go_simp
      exact hK _ _ rfl (fun _ _ _ h => h) hJ
    · intro done us W hJ hdep haft hnot b hb hb' K hK Q'
      have e3 := (hb' 3 (by simp)).trans s3
      clear hb hb'
      go_simp
      exact hK _ _ rfl (fun _ _ _ h => h) hJ
    · intro done us W hJ hdep haft hnot b hb hb' K hK Q'
      simp only [List.getD_cons_succ, List.getD_cons_zero, List.mem_cons, List.not_mem_nil, or_false, forall_eq_or_imp, forall_eq] at hdep
      have e89 := hb 10 89 rfl
      have d10 := hdep
      rw [d10.1] at e89
      clear hb hb' hdep d10
      have q := Ext.cell hJ f2
      go_simp
      exact hK _ _ rfl (fun _ _ _ h => h) hJ
    · intro done us W hJ hdep haft hnot b hb hb' K hK Q'
      simp only [List.getD_cons_succ, List.getD_cons_zero, List.mem_cons, List.not_mem_nil, or_false, forall_eq_or_imp, forall_eq] at hdep
      have e90 := hb 11 90 rfl
      have d11 := hdep
      rw [d11.1] at e90
      clear hb hb' hdep d11
      have ht : (q : Int).tmod 8 = (q : Int) % 8 := Int.tmod_eq_emod_of_nonneg (by omega)
      have qw : IntKind.i64.wrap ((q : Int) % 8) = (q : Int) % 8 := IntWalk.i64_in _ (by have := hq8.out; have := hr8.out; omega)
      go_simp
      exact hK _ _ (by have := hq8.out; have := hr8.out; congr 1; omega) (fun _ _ _ h => h) hJ
    · intro done us W hJ hdep haft hnot b hb hb' K hK Q'
      simp only [List.getD_cons_succ, List.getD_cons_zero, List.mem_cons, List.not_mem_nil, or_false, forall_eq_or_imp, forall_eq] at hdep
      have e91 := hb 12 91 rfl
      have d12 := hdep
      rw [d12.1] at e91
      clear hb hb' hdep d12
      have hq9 : r < 8 := by have := hr8.out; omega
      have qw : IntKind.u64.wrap (r : Int) = (r : Int) := IntWalk.u64_in _ (by omega)
      go_simp
      exact hK _ _ rfl (fun _ _ _ h => h) hJ
    · intro done us W hJ hdep haft hnot b hb hb' K hK Q'
      simp only [List.getD_cons_succ, List.getD_cons_zero, List.mem_cons, List.not_mem_nil, or_false, forall_eq_or_imp, forall_eq] at hdep
      have e92 := hb 13 92 rfl
      have d13 := hdep
      rw [d13.1] at e92
      clear hb hb' hdep d13
      have hq9 : r < 8 := by have := hr8.out; omega
      have hr : r = 0 ∨ r = 1 ∨ r = 2 ∨ r = 3 ∨ r = 4 ∨ r = 5 ∨ r = 6 ∨ r = 7 := by omega
      rcases hr with rfl | rfl | rfl | rfl | rfl | rfl | rfl | rfl
      all_goals
        go_simp
        exact hK _ _ (by rw [← hp2.out]; rfl) (fun _ _ _ h => h) hJ
    · intro done us W hJ hdep haft hnot b hb hb' K hK Q'
      simp only [List.getD_cons_succ, List.getD_cons_zero, List.mem_cons, List.not_mem_nil, or_false, forall_eq_or_imp, forall_eq] at hdep
      have e88 := hb 9 88 rfl
      have e93 := hb 14 93 rfl
      have d9 := hdep.1
      have d14 := hdep.2
      rw [d9.1] at e88
      rw [d14.1] at e93
      clear hb hb' hdep d9 d14
      go_simp
      exact hK _ _ (congrArg (Value.int IntKind.u8) hzz.out) (fun _ _ _ h => h) hJ
    · intro done us W hJ hdep haft hnot b hb hb' K hK Q'
      simp only [List.getD_cons_succ, List.getD_cons_zero, List.mem_cons, List.not_mem_nil, or_false, forall_eq_or_imp, forall_eq] at hdep
      have e83 := hb 4 83 rfl
      have e86 := hb 7 86 rfl
      have d4 := hdep.1
      have d7 := hdep.2
      rw [d4.1] at e83
      rw [d7.1] at e86
      clear hb hb' hdep d4 d7
      go_simp
      exact hK _ _ rfl (fun _ _ _ h => h) hJ
  · intro us W hV hJ
    exact hend (us 0) (us 1) (us 2) (us 3) (us 4) (us 5) (us 6) (us 7) (us 8) (us 9) (us 10) (us 11) (us 12) (us 13) (us 14) (us 15) (us 16) W (hV 0 (by omega)) (hV 1 (by omega)) (hV 2 (by omega)) (hV 3 (by omega)) (hV 4 (by omega)) (hV 5 (by omega)) (hV 6 (by omega)) (hV 7 (by omega)) (hV 8 (by omega)) (hV 9 (by omega)) (hV 10 (by omega)) (hV 11 (by omega)) (hV 12 (by omega)) (hV 13 (by omega)) (hV 14 (by omega)) (hV 15 (by omega)) (hV 16 (by omega)) hJ
set_option maxRecDepth 100000 in
set_option maxHeartbeats 2000000 in
theorem spoil_r12n (gf gl n c z : Nat) (num : Int) (A5 : Option Addr) (n5 c5 : Nat) (w : World) (f1 : w.cell? ⟨gf, 1, none⟩ = some (.int .i64 (z : Int))) (f2 : w.cell? ⟨gf, 2, none⟩ = some (.int .i64 num)) (hc : w.cell? ⟨gl, z, none⟩ = some (.slice A5 n5 c5)) (hz : z < n) (hn : n ≤ 1000000) (h5 : n5 ≤ 1000000) (hneg : num < 0) (a : Act) (Q : Exit → Act → World → Prop) (hsize : 79 ≤ a.tmps.size)
    (s0 : a.tmps[0]? = some (.slice (some ⟨gl, 0, none⟩) n c))
    (s3 : a.tmps[3]? = some (.pointer (some ⟨gf, 0, none⟩)))
    (hend : ∀ (xv0 xv1 xv2 xv3 xv4 xv5 xv6 xv7 xv8 xv9 xv10 xv11 xv12 xv13 xv14 : Value) (W : World), (xv0 = .pointer (some ⟨gf, 2, none⟩)) → (xv1 = .int .i64 num) → (xv2 = .bool false) → (xv3 = .bool false) → (xv4 = undef) → (xv5 = undef) → (xv6 = undef) → (xv7 = undef) → (xv8 = undef) → (xv9 = undef) → (xv10 = undef) → (xv11 = undef) → (xv12 = undef) → (xv13 = undef) → (xv14 = .bool false) → Ext w W → wpList Try.prog (rops Try.f70 12).toArray Q ((rops Try.f70 12).drop 15) (((((((((((((((a.put (some 64) xv0).put (some 65) xv1).put (some 66) xv2).put (some 67) xv3).put (some 68) xv4).put (some 69) xv5).put (some 70) xv6).put (some 71) xv7).put (some 72) xv8).put (some 73) xv9).put (some 74) xv10).put (some 75) xv11).put (some 76) xv12).put (some 77) xv13).put (some 78) xv14) W) :
    (Code.region 12 (rops Try.f70 12).toArray true).wp Try.prog Q a w := by
  have hmono : ∀ (W W' : World) (j : Nat) (u : Value), Ext W W' → (fun (i : Nat) (v : Value) (W : World) => match i with
    | 0 => v = .pointer (some ⟨gf, 2, none⟩)
    | 1 => v = .int .i64 num
    | 2 => v = .bool false
    | 3 => v = .bool false
    | 4 => v = undef
    | 5 => v = undef
    | 6 => v = undef
    | 7 => v = undef
    | 8 => v = undef
    | 9 => v = undef
    | 10 => v = undef
    | 11 => v = undef
    | 12 => v = undef
    | 13 => v = undef
    | 14 => v = .bool false
    | _ => True) j u W → (fun (i : Nat) (v : Value) (W : World) => match i with
    | 0 => v = .pointer (some ⟨gf, 2, none⟩)
    | 1 => v = .int .i64 num
    | 2 => v = .bool false
    | 3 => v = .bool false
    | 4 => v = undef
    | 5 => v = undef
    | 6 => v = undef
    | 7 => v = undef
    | 8 => v = undef
    | 9 => v = undef
    | 10 => v = undef
    | 11 => v = undef
    | 12 => v = undef
    | 13 => v = undef
    | 14 => v = .bool false
    | _ => True) j u W' := by
    intro W W' j u hX h
    match j, h with
    | 0, h => exact h
    | 1, h => exact h
    | 2, h => exact h
    | 3, h => exact h
    | 4, h => exact h
    | 5, h => exact h
    | 6, h => exact h
    | 7, h => exact h
    | 8, h => exact h
    | 9, h => exact h
    | 10, h => exact h
    | 11, h => exact h
    | 12, h => exact h
    | 13, h => exact h
    | 14, h => exact h
    | _ + 15, h => exact h
  have hsz : ∀ d, some d ∈ ([some 64, some 65, some 66, some 67, some 68, some 69, some 70, some 71, some 72, some 73, some 74, some 75, some 76, some 77, some 78] : List (Option Tmp)) → d < a.tmps.size := slots_lt (by decide) hsize
  refine wp_region_j 15 [some 64, some 65, some 66, some 67, some 68, some 69, some 70, some 71, some 72, some 73, some 74, some 75, some 76, some 77, some 78] [[], [0], [1], [2], [3], [3, 4], [3, 5], [3], [3], [3, 8], [3, 7, 9], [3, 10], [3, 11], [3, 6, 12], [3, 13]] [[], [], [], [], [], [], [], [], [], [], [], [], [], [], []] (fun (i : Nat) (v : Value) (W : World) => match i with
    | 0 => v = .pointer (some ⟨gf, 2, none⟩)
    | 1 => v = .int .i64 num
    | 2 => v = .bool false
    | 3 => v = .bool false
    | 4 => v = undef
    | 5 => v = undef
    | 6 => v = undef
    | 7 => v = undef
    | 8 => v = undef
    | 9 => v = undef
    | 10 => v = undef
    | 11 => v = undef
    | 12 => v = undef
    | 13 => v = undef
    | 14 => v = .bool false
    | _ => True) (fun _ W => Ext w W) (by kernel_rfl) (by kernel_rfl) hsz (fun _ _ _ _ h => h) ((Ext.refl w).drew) ?_ ?_
  · clear hend
    simp only [rops, Try.f70, regOf, Option.bind_some, Nat.reduceBEq, if_true, if_false, Bool.false_eq_true, Option.getD_some]
    simp only [List.take_succ_cons, List.take_zero]
    refine ⟨?_, ?_, ?_, ?_, ?_, ?_, ?_, ?_, ?_, ?_, ?_, ?_, ?_, ?_, ?_, trivial⟩
    · intro done us W hJ hdep haft hnot b hb hb' K hK Q'
      have e3 := (hb' 3 (by simp)).trans s3
      clear hb hb'
      go_simp
      exact hK _ _ rfl (fun _ _ _ h => h) hJ
    · intro done us W hJ hdep haft hnot b hb hb' K hK Q'
      simp only [List.getD_cons_succ, List.getD_cons_zero, List.mem_cons, List.not_mem_nil, or_false, forall_eq_or_imp, forall_eq] at hdep
      have e64 := hb 0 64 rfl
      have d0 := hdep
      rw [d0.1] at e64
      clear hb hb' hdep d0
      have q := Ext.cell hJ f2
      go_simp
      exact hK _ _ rfl (fun _ _ _ h => h) hJ
    · intro done us W hJ hdep haft hnot b hb hb' K hK Q'
      simp only [List.getD_cons_succ, List.getD_cons_zero, List.mem_cons, List.not_mem_nil, or_false, forall_eq_or_imp, forall_eq] at hdep
      have e65 := hb 1 65 rfl
      have d1 := hdep
      rw [d1.1] at e65
      clear hb hb' hdep d1
      have hz0 : ¬ (0 ≤ num) := by omega
      go_simp
      exact hK _ _ (by first | rfl | (congr 1; simpa using hz0)) (fun _ _ _ h => h) hJ
    · intro done us W hJ hdep haft hnot b hb hb' K hK Q'
      simp only [List.getD_cons_succ, List.getD_cons_zero, List.mem_cons, List.not_mem_nil, or_false, forall_eq_or_imp, forall_eq] at hdep
      have e66 := hb 2 66 rfl
      have d2 := hdep
      rw [d2.1] at e66
      clear hb hb' hdep d2
      go_simp
      exact hK _ _ rfl (fun _ _ _ h => h) hJ
    · intro done us W hJ hdep haft hnot b hb hb' K hK Q'
      simp only [List.getD_cons_succ, List.getD_cons_zero, List.mem_cons, List.not_mem_nil, or_false, forall_eq_or_imp, forall_eq] at hdep
      have e3 := (hb' 3 (by simp)).trans s3
      have e67 := hb 3 67 rfl
      have d3 := hdep
      rw [d3.1] at e67
      clear hb hb' hdep d3
      go_simp
      exact hK _ _ rfl (fun _ _ _ h => h) hJ
    · intro done us W hJ hdep haft hnot b hb hb' K hK Q'
      simp only [List.getD_cons_succ, List.getD_cons_zero, List.mem_cons, List.not_mem_nil, or_false, forall_eq_or_imp, forall_eq] at hdep
      have e67 := hb 3 67 rfl
      have e68 := hb 4 68 rfl
      have d3 := hdep.1
      have d4 := hdep.2
      rw [d3.1] at e67
      rw [d4.1] at e68
      clear hb hb' hdep d3 d4
      go_simp
      exact hK _ _ rfl (fun _ _ _ h => h) hJ
    · intro done us W hJ hdep haft hnot b hb hb' K hK Q'
      simp only [List.getD_cons_succ, List.getD_cons_zero, List.mem_cons, List.not_mem_nil, or_false, forall_eq_or_imp, forall_eq] at hdep
      have e67 := hb 3 67 rfl
      have e69 := hb 5 69 rfl
      have d3 := hdep.1
      have d5 := hdep.2
      rw [d3.1] at e67
      rw [d5.1] at e69
      clear hb hb' hdep d3 d5
      go_simp
      exact hK _ _ rfl (fun _ _ _ h => h) hJ
    · intro done us W hJ hdep haft hnot b hb hb' K hK Q'
      simp only [List.getD_cons_succ, List.getD_cons_zero, List.mem_cons, List.not_mem_nil, or_false, forall_eq_or_imp, forall_eq] at hdep
      have e0 := (hb' 0 (by simp)).trans s0
      have e67 := hb 3 67 rfl
      have d3 := hdep
      rw [d3.1] at e67
      clear hb hb' hdep d3
      go_simp
      exact hK _ _ rfl (fun _ _ _ h => h) hJ
    · intro done us W hJ hdep haft hnot b hb hb' K hK Q'
      simp only [List.getD_cons_succ, List.getD_cons_zero, List.mem_cons, List.not_mem_nil, or_false, forall_eq_or_imp, forall_eq] at hdep
      have e3 := (hb' 3 (by simp)).trans s3
      have e67 := hb 3 67 rfl
      have d3 := hdep
      rw [d3.1] at e67
      clear hb hb' hdep d3
      go_simp
      exact hK _ _ rfl (fun _ _ _ h => h) hJ
    · intro done us W hJ hdep haft hnot b hb hb' K hK Q'
      simp only [List.getD_cons_succ, List.getD_cons_zero, List.mem_cons, List.not_mem_nil, or_false, forall_eq_or_imp, forall_eq] at hdep
      have e67 := hb 3 67 rfl
      have e72 := hb 8 72 rfl
      have d3 := hdep.1
      have d8 := hdep.2
      rw [d3.1] at e67
      rw [d8.1] at e72
      clear hb hb' hdep d3 d8
      go_simp
      exact hK _ _ rfl (fun _ _ _ h => h) hJ
    · intro done us W hJ hdep haft hnot b hb hb' K hK Q'
      simp only [List.getD_cons_succ, List.getD_cons_zero, List.mem_cons, List.not_mem_nil, or_false, forall_eq_or_imp, forall_eq] at hdep
      have e67 := hb 3 67 rfl
      have e71 := hb 7 71 rfl
      have e73 := hb 9 73 rfl
      have d3 := hdep.1
      have d7 := hdep.2.1
      have d9 := hdep.2.2
      rw [d3.1] at e67
      rw [d7.1] at e71
      rw [d9.1] at e73
      clear hb hb' hdep d3 d7 d9
      go_simp
      exact hK _ _ rfl (fun _ _ _ h => h) hJ
    · intro done us W hJ hdep haft hnot b hb hb' K hK Q'
      simp only [List.getD_cons_succ, List.getD_cons_zero, List.mem_cons, List.not_mem_nil, or_false, forall_eq_or_imp, forall_eq] at hdep
      have e67 := hb 3 67 rfl
      have e74 := hb 10 74 rfl
      have d3 := hdep.1
      have d10 := hdep.2
      rw [d3.1] at e67
      rw [d10.1] at e74
      clear hb hb' hdep d3 d10
      go_simp
      exact hK _ _ rfl (fun _ _ _ h => h) hJ
    · intro done us W hJ hdep haft hnot b hb hb' K hK Q'
      simp only [List.getD_cons_succ, List.getD_cons_zero, List.mem_cons, List.not_mem_nil, or_false, forall_eq_or_imp, forall_eq] at hdep
      have e67 := hb 3 67 rfl
      have e75 := hb 11 75 rfl
      have d3 := hdep.1
      have d11 := hdep.2
      rw [d3.1] at e67
      rw [d11.1] at e75
      clear hb hb' hdep d3 d11
      go_simp
      exact hK _ _ rfl (fun _ _ _ h => h) hJ
    · intro done us W hJ hdep haft hnot b hb hb' K hK Q'
      simp only [List.getD_cons_succ, List.getD_cons_zero, List.mem_cons, List.not_mem_nil, or_false, forall_eq_or_imp, forall_eq] at hdep
      have e67 := hb 3 67 rfl
      have e70 := hb 6 70 rfl
      have e76 := hb 12 76 rfl
      have d3 := hdep.1
      have d6 := hdep.2.1
      have d12 := hdep.2.2
      rw [d3.1] at e67
      rw [d6.1] at e70
      rw [d12.1] at e76
      clear hb hb' hdep d3 d6 d12
      go_simp
      exact hK _ _ rfl (fun _ _ _ h => h) hJ
    · intro done us W hJ hdep haft hnot b hb hb' K hK Q'
      simp only [List.getD_cons_succ, List.getD_cons_zero, List.mem_cons, List.not_mem_nil, or_false, forall_eq_or_imp, forall_eq] at hdep
      have e67 := hb 3 67 rfl
      have e77 := hb 13 77 rfl
      have d3 := hdep.1
      have d13 := hdep.2
      rw [d3.1] at e67
      rw [d13.1] at e77
      clear hb hb' hdep d3 d13
      go_simp
      exact hK _ _ rfl (fun _ _ _ h => h) hJ
  · intro us W hV hJ
    exact hend (us 0) (us 1) (us 2) (us 3) (us 4) (us 5) (us 6) (us 7) (us 8) (us 9) (us 10) (us 11) (us 12) (us 13) (us 14) W (hV 0 (by omega)) (hV 1 (by omega)) (hV 2 (by omega)) (hV 3 (by omega)) (hV 4 (by omega)) (hV 5 (by omega)) (hV 6 (by omega)) (hV 7 (by omega)) (hV 8 (by omega)) (hV 9 (by omega)) (hV 10 (by omega)) (hV 11 (by omega)) (hV 12 (by omega)) (hV 13 (by omega)) (hV 14 (by omega)) hJ
set_option maxRecDepth 100000 in
set_option maxHeartbeats 2000000 in
theorem spoil_r12y (gf gl n c z : Nat) (q : Nat) (A5 : Option Addr) (n5 c5 : Nat) (w : World) (f1 : w.cell? ⟨gf, 1, none⟩ = some (.int .i64 (z : Int))) (f2 : w.cell? ⟨gf, 2, none⟩ = some (.int .i64 (q : Int))) (hc : w.cell? ⟨gl, z, none⟩ = some (.slice A5 n5 c5)) (hz : z < n) (hn : n ≤ 1000000) (h5 : n5 ≤ 1000000) (hq : (q : Int) / 8 < (n5 : Int)) (hqm : (q : Int) ≤ 9223372036854775807) (a : Act) (Q : Exit → Act → World → Prop) (hsize : 79 ≤ a.tmps.size)
    (s0 : a.tmps[0]? = some (.slice (some ⟨gl, 0, none⟩) n c))
    (s3 : a.tmps[3]? = some (.pointer (some ⟨gf, 0, none⟩)))
    (hend : ∀ (xv0 xv1 xv2 xv3 xv4 xv5 xv6 xv7 xv8 xv9 xv10 xv11 xv12 xv13 xv14 : Value) (W : World), (xv0 = .pointer (some ⟨gf, 2, none⟩)) → (xv1 = .int .i64 (q : Int)) → (xv2 = .bool true) → (xv3 = .bool true) → (xv4 = .pointer (some ⟨gf, 2, none⟩)) → (xv5 = .int .i64 (q : Int)) → (xv6 = .int .i64 ((q : Int) / 8)) → (xv7 = .slice (some ⟨gl, 0, none⟩) n c) → (xv8 = .pointer (some ⟨gf, 1, none⟩)) → (xv9 = .int .i64 (z : Int)) → (xv10 = .pointer (some ⟨gl, z, none⟩)) → (xv11 = .slice A5 n5 c5) → (xv12 = .int .i64 (n5 : Int)) → (xv13 = .bool true) → (xv14 = .bool true) → Ext w W → wpList Try.prog (rops Try.f70 12).toArray Q ((rops Try.f70 12).drop 15) (((((((((((((((a.put (some 64) xv0).put (some 65) xv1).put (some 66) xv2).put (some 67) xv3).put (some 68) xv4).put (some 69) xv5).put (some 70) xv6).put (some 71) xv7).put (some 72) xv8).put (some 73) xv9).put (some 74) xv10).put (some 75) xv11).put (some 76) xv12).put (some 77) xv13).put (some 78) xv14) W) :
    (Code.region 12 (rops Try.f70 12).toArray true).wp Try.prog Q a w := by
  have hmono : ∀ (W W' : World) (j : Nat) (u : Value), Ext W W' → (fun (i : Nat) (v : Value) (W : World) => match i with
    | 0 => v = .pointer (some ⟨gf, 2, none⟩)
    | 1 => v = .int .i64 (q : Int)
    | 2 => v = .bool true
    | 3 => v = .bool true
    | 4 => v = .pointer (some ⟨gf, 2, none⟩)
    | 5 => v = .int .i64 (q : Int)
    | 6 => v = .int .i64 ((q : Int) / 8)
    | 7 => v = .slice (some ⟨gl, 0, none⟩) n c
    | 8 => v = .pointer (some ⟨gf, 1, none⟩)
    | 9 => v = .int .i64 (z : Int)
    | 10 => v = .pointer (some ⟨gl, z, none⟩)
    | 11 => v = .slice A5 n5 c5
    | 12 => v = .int .i64 (n5 : Int)
    | 13 => v = .bool true
    | 14 => v = .bool true
    | _ => True) j u W → (fun (i : Nat) (v : Value) (W : World) => match i with
    | 0 => v = .pointer (some ⟨gf, 2, none⟩)
    | 1 => v = .int .i64 (q : Int)
    | 2 => v = .bool true
    | 3 => v = .bool true
    | 4 => v = .pointer (some ⟨gf, 2, none⟩)
    | 5 => v = .int .i64 (q : Int)
    | 6 => v = .int .i64 ((q : Int) / 8)
    | 7 => v = .slice (some ⟨gl, 0, none⟩) n c
    | 8 => v = .pointer (some ⟨gf, 1, none⟩)
    | 9 => v = .int .i64 (z : Int)
    | 10 => v = .pointer (some ⟨gl, z, none⟩)
    | 11 => v = .slice A5 n5 c5
    | 12 => v = .int .i64 (n5 : Int)
    | 13 => v = .bool true
    | 14 => v = .bool true
    | _ => True) j u W' := by
    intro W W' j u hX h
    match j, h with
    | 0, h => exact h
    | 1, h => exact h
    | 2, h => exact h
    | 3, h => exact h
    | 4, h => exact h
    | 5, h => exact h
    | 6, h => exact h
    | 7, h => exact h
    | 8, h => exact h
    | 9, h => exact h
    | 10, h => exact h
    | 11, h => exact h
    | 12, h => exact h
    | 13, h => exact h
    | 14, h => exact h
    | _ + 15, h => exact h
  have hsz : ∀ d, some d ∈ ([some 64, some 65, some 66, some 67, some 68, some 69, some 70, some 71, some 72, some 73, some 74, some 75, some 76, some 77, some 78] : List (Option Tmp)) → d < a.tmps.size := slots_lt (by decide) hsize
  refine wp_region_j 15 [some 64, some 65, some 66, some 67, some 68, some 69, some 70, some 71, some 72, some 73, some 74, some 75, some 76, some 77, some 78] [[], [0], [1], [2], [3], [3, 4], [3, 5], [3], [3], [3, 8], [3, 7, 9], [3, 10], [3, 11], [3, 6, 12], [3, 13]] [[], [], [], [], [], [], [], [], [], [], [], [], [], [], []] (fun (i : Nat) (v : Value) (W : World) => match i with
    | 0 => v = .pointer (some ⟨gf, 2, none⟩)
    | 1 => v = .int .i64 (q : Int)
    | 2 => v = .bool true
    | 3 => v = .bool true
    | 4 => v = .pointer (some ⟨gf, 2, none⟩)
    | 5 => v = .int .i64 (q : Int)
    | 6 => v = .int .i64 ((q : Int) / 8)
    | 7 => v = .slice (some ⟨gl, 0, none⟩) n c
    | 8 => v = .pointer (some ⟨gf, 1, none⟩)
    | 9 => v = .int .i64 (z : Int)
    | 10 => v = .pointer (some ⟨gl, z, none⟩)
    | 11 => v = .slice A5 n5 c5
    | 12 => v = .int .i64 (n5 : Int)
    | 13 => v = .bool true
    | 14 => v = .bool true
    | _ => True) (fun _ W => Ext w W) (by kernel_rfl) (by kernel_rfl) hsz (fun _ _ _ _ h => h) ((Ext.refl w).drew) ?_ ?_
  · clear hend
    simp only [rops, Try.f70, regOf, Option.bind_some, Nat.reduceBEq, if_true, if_false, Bool.false_eq_true, Option.getD_some]
    simp only [List.take_succ_cons, List.take_zero]
    refine ⟨?_, ?_, ?_, ?_, ?_, ?_, ?_, ?_, ?_, ?_, ?_, ?_, ?_, ?_, ?_, trivial⟩
    · intro done us W hJ hdep haft hnot b hb hb' K hK Q'
      have e3 := (hb' 3 (by simp)).trans s3
      clear hb hb'
      go_simp
      exact hK _ _ rfl (fun _ _ _ h => h) hJ
    · intro done us W hJ hdep haft hnot b hb hb' K hK Q'
      simp only [List.getD_cons_succ, List.getD_cons_zero, List.mem_cons, List.not_mem_nil, or_false, forall_eq_or_imp, forall_eq] at hdep
      have e64 := hb 0 64 rfl
      have d0 := hdep
      rw [d0.1] at e64
      clear hb hb' hdep d0
      have q := Ext.cell hJ f2
      go_simp
      exact hK _ _ rfl (fun _ _ _ h => h) hJ
    · intro done us W hJ hdep haft hnot b hb hb' K hK Q'
      simp only [List.getD_cons_succ, List.getD_cons_zero, List.mem_cons, List.not_mem_nil, or_false, forall_eq_or_imp, forall_eq] at hdep
      have e65 := hb 1 65 rfl
      have d1 := hdep
      rw [d1.1] at e65
      clear hb hb' hdep d1
      have hz0 : 0 ≤ (q : Int) := by omega
      go_simp
      exact hK _ _ (by first | rfl | (congr 1; exact decide_eq_true hz0)) (fun _ _ _ h => h) hJ
    · intro done us W hJ hdep haft hnot b hb hb' K hK Q'
      simp only [List.getD_cons_succ, List.getD_cons_zero, List.mem_cons, List.not_mem_nil, or_false, forall_eq_or_imp, forall_eq] at hdep
      have e66 := hb 2 66 rfl
      have d2 := hdep
      rw [d2.1] at e66
      clear hb hb' hdep d2
      go_simp
      exact hK _ _ rfl (fun _ _ _ h => h) hJ
    · intro done us W hJ hdep haft hnot b hb hb' K hK Q'
      simp only [List.getD_cons_succ, List.getD_cons_zero, List.mem_cons, List.not_mem_nil, or_false, forall_eq_or_imp, forall_eq] at hdep
      have e3 := (hb' 3 (by simp)).trans s3
      have e67 := hb 3 67 rfl
      have d3 := hdep
      rw [d3.1] at e67
      clear hb hb' hdep d3
      go_simp
      exact hK _ _ rfl (fun _ _ _ h => h) hJ
    · intro done us W hJ hdep haft hnot b hb hb' K hK Q'
      simp only [List.getD_cons_succ, List.getD_cons_zero, List.mem_cons, List.not_mem_nil, or_false, forall_eq_or_imp, forall_eq] at hdep
      have e67 := hb 3 67 rfl
      have e68 := hb 4 68 rfl
      have d3 := hdep.1
      have d4 := hdep.2
      rw [d3.1] at e67
      rw [d4.1] at e68
      clear hb hb' hdep d3 d4
      have q := Ext.cell hJ f2
      go_simp
      exact hK _ _ rfl (fun _ _ _ h => h) hJ
    · intro done us W hJ hdep haft hnot b hb hb' K hK Q'
      simp only [List.getD_cons_succ, List.getD_cons_zero, List.mem_cons, List.not_mem_nil, or_false, forall_eq_or_imp, forall_eq] at hdep
      have e67 := hb 3 67 rfl
      have e69 := hb 5 69 rfl
      have d3 := hdep.1
      have d5 := hdep.2
      rw [d3.1] at e67
      rw [d5.1] at e69
      clear hb hb' hdep d3 d5
      have qw : IntKind.i64.wrap ((q : Int) / 8) = (q : Int) / 8 := IntWalk.i64_in _ (by omega)
      go_simp
      exact hK _ _ rfl (fun _ _ _ h => h) hJ
    · intro done us W hJ hdep haft hnot b hb hb' K hK Q'
      simp only [List.getD_cons_succ, List.getD_cons_zero, List.mem_cons, List.not_mem_nil, or_false, forall_eq_or_imp, forall_eq] at hdep
      have e0 := (hb' 0 (by simp)).trans s0
      have e67 := hb 3 67 rfl
      have d3 := hdep
      rw [d3.1] at e67
      clear hb hb' hdep d3
      go_simp
      exact hK _ _ rfl (fun _ _ _ h => h) hJ
    · intro done us W hJ hdep haft hnot b hb hb' K hK Q'
      simp only [List.getD_cons_succ, List.getD_cons_zero, List.mem_cons, List.not_mem_nil, or_false, forall_eq_or_imp, forall_eq] at hdep
      have e3 := (hb' 3 (by simp)).trans s3
      have e67 := hb 3 67 rfl
      have d3 := hdep
      rw [d3.1] at e67
      clear hb hb' hdep d3
      go_simp
      exact hK _ _ rfl (fun _ _ _ h => h) hJ
    · intro done us W hJ hdep haft hnot b hb hb' K hK Q'
      simp only [List.getD_cons_succ, List.getD_cons_zero, List.mem_cons, List.not_mem_nil, or_false, forall_eq_or_imp, forall_eq] at hdep
      have e67 := hb 3 67 rfl
      have e72 := hb 8 72 rfl
      have d3 := hdep.1
      have d8 := hdep.2
      rw [d3.1] at e67
      rw [d8.1] at e72
      clear hb hb' hdep d3 d8
      have q := Ext.cell hJ f1
      go_simp
      exact hK _ _ rfl (fun _ _ _ h => h) hJ
    · intro done us W hJ hdep haft hnot b hb hb' K hK Q'
      simp only [List.getD_cons_succ, List.getD_cons_zero, List.mem_cons, List.not_mem_nil, or_false, forall_eq_or_imp, forall_eq] at hdep
      have e67 := hb 3 67 rfl
      have e71 := hb 7 71 rfl
      have e73 := hb 9 73 rfl
      have d3 := hdep.1
      have d7 := hdep.2.1
      have d9 := hdep.2.2
      rw [d3.1] at e67
      rw [d7.1] at e71
      rw [d9.1] at e73
      clear hb hb' hdep d3 d7 d9
      go_simp
      exact hK _ _ rfl (fun _ _ _ h => h) hJ
    · intro done us W hJ hdep haft hnot b hb hb' K hK Q'
      simp only [List.getD_cons_succ, List.getD_cons_zero, List.mem_cons, List.not_mem_nil, or_false, forall_eq_or_imp, forall_eq] at hdep
      have e67 := hb 3 67 rfl
      have e74 := hb 10 74 rfl
      have d3 := hdep.1
      have d10 := hdep.2
      rw [d3.1] at e67
      rw [d10.1] at e74
      clear hb hb' hdep d3 d10
      have q := Ext.cell hJ hc
      go_simp
      exact hK _ _ rfl (fun _ _ _ h => h) hJ
    · intro done us W hJ hdep haft hnot b hb hb' K hK Q'
      simp only [List.getD_cons_succ, List.getD_cons_zero, List.mem_cons, List.not_mem_nil, or_false, forall_eq_or_imp, forall_eq] at hdep
      have e67 := hb 3 67 rfl
      have e75 := hb 11 75 rfl
      have d3 := hdep.1
      have d11 := hdep.2
      rw [d3.1] at e67
      rw [d11.1] at e75
      clear hb hb' hdep d3 d11
      go_simp
      exact hK _ _ rfl (fun _ _ _ h => h) hJ
    · intro done us W hJ hdep haft hnot b hb hb' K hK Q'
      simp only [List.getD_cons_succ, List.getD_cons_zero, List.mem_cons, List.not_mem_nil, or_false, forall_eq_or_imp, forall_eq] at hdep
      have e67 := hb 3 67 rfl
      have e70 := hb 6 70 rfl
      have e76 := hb 12 76 rfl
      have d3 := hdep.1
      have d6 := hdep.2.1
      have d12 := hdep.2.2
      rw [d3.1] at e67
      rw [d6.1] at e70
      rw [d12.1] at e76
      clear hb hb' hdep d3 d6 d12
      go_simp
      exact hK _ _ (by first | rfl | (congr 1; exact decide_eq_true hq)) (fun _ _ _ h => h) hJ
    · intro done us W hJ hdep haft hnot b hb hb' K hK Q'
      simp only [List.getD_cons_succ, List.getD_cons_zero, List.mem_cons, List.not_mem_nil, or_false, forall_eq_or_imp, forall_eq] at hdep
      have e67 := hb 3 67 rfl
      have e77 := hb 13 77 rfl
      have d3 := hdep.1
      have d13 := hdep.2
      rw [d3.1] at e67
      rw [d13.1] at e77
      clear hb hb' hdep d3 d13
      go_simp
      exact hK _ _ rfl (fun _ _ _ h => h) hJ
  · intro us W hV hJ
    exact hend (us 0) (us 1) (us 2) (us 3) (us 4) (us 5) (us 6) (us 7) (us 8) (us 9) (us 10) (us 11) (us 12) (us 13) (us 14) W (hV 0 (by omega)) (hV 1 (by omega)) (hV 2 (by omega)) (hV 3 (by omega)) (hV 4 (by omega)) (hV 5 (by omega)) (hV 6 (by omega)) (hV 7 (by omega)) (hV 8 (by omega)) (hV 9 (by omega)) (hV 10 (by omega)) (hV 11 (by omega)) (hV 12 (by omega)) (hV 13 (by omega)) (hV 14 (by omega)) hJ
set_option maxRecDepth 100000 in
set_option maxHeartbeats 2000000 in
theorem spoil_r12f (gf gl n c z : Nat) (q : Nat) (A5 : Option Addr) (n5 c5 : Nat) (w : World) (f1 : w.cell? ⟨gf, 1, none⟩ = some (.int .i64 (z : Int))) (f2 : w.cell? ⟨gf, 2, none⟩ = some (.int .i64 (q : Int))) (hc : w.cell? ⟨gl, z, none⟩ = some (.slice A5 n5 c5)) (hz : z < n) (hn : n ≤ 1000000) (h5 : n5 ≤ 1000000) (hq : ¬ ((q : Int) / 8 < (n5 : Int))) (hqm : (q : Int) ≤ 9223372036854775807) (a : Act) (Q : Exit → Act → World → Prop) (hsize : 79 ≤ a.tmps.size)
    (s0 : a.tmps[0]? = some (.slice (some ⟨gl, 0, none⟩) n c))
    (s3 : a.tmps[3]? = some (.pointer (some ⟨gf, 0, none⟩)))
    (hend : ∀ (xv0 xv1 xv2 xv3 xv4 xv5 xv6 xv7 xv8 xv9 xv10 xv11 xv12 xv13 xv14 : Value) (W : World), (xv0 = .pointer (some ⟨gf, 2, none⟩)) → (xv1 = .int .i64 (q : Int)) → (xv2 = .bool true) → (xv3 = .bool true) → (xv4 = .pointer (some ⟨gf, 2, none⟩)) → (xv5 = .int .i64 (q : Int)) → (xv6 = .int .i64 ((q : Int) / 8)) → (xv7 = .slice (some ⟨gl, 0, none⟩) n c) → (xv8 = .pointer (some ⟨gf, 1, none⟩)) → (xv9 = .int .i64 (z : Int)) → (xv10 = .pointer (some ⟨gl, z, none⟩)) → (xv11 = .slice A5 n5 c5) → (xv12 = .int .i64 (n5 : Int)) → (xv13 = .bool false) → (xv14 = .bool false) → Ext w W → wpList Try.prog (rops Try.f70 12).toArray Q ((rops Try.f70 12).drop 15) (((((((((((((((a.put (some 64) xv0).put (some 65) xv1).put (some 66) xv2).put (some 67) xv3).put (some 68) xv4).put (some 69) xv5).put (some 70) xv6).put (some 71) xv7).put (some 72) xv8).put (some 73) xv9).put (some 74) xv10).put (some 75) xv11).put (some 76) xv12).put (some 77) xv13).put (some 78) xv14) W) :
    (Code.region 12 (rops Try.f70 12).toArray true).wp Try.prog Q a w := by
  have hmono : ∀ (W W' : World) (j : Nat) (u : Value), Ext W W' → (fun (i : Nat) (v : Value) (W : World) => match i with
    | 0 => v = .pointer (some ⟨gf, 2, none⟩)
    | 1 => v = .int .i64 (q : Int)
    | 2 => v = .bool true
    | 3 => v = .bool true
    | 4 => v = .pointer (some ⟨gf, 2, none⟩)
    | 5 => v = .int .i64 (q : Int)
    | 6 => v = .int .i64 ((q : Int) / 8)
    | 7 => v = .slice (some ⟨gl, 0, none⟩) n c
    | 8 => v = .pointer (some ⟨gf, 1, none⟩)
    | 9 => v = .int .i64 (z : Int)
    | 10 => v = .pointer (some ⟨gl, z, none⟩)
    | 11 => v = .slice A5 n5 c5
    | 12 => v = .int .i64 (n5 : Int)
    | 13 => v = .bool false
    | 14 => v = .bool false
    | _ => True) j u W → (fun (i : Nat) (v : Value) (W : World) => match i with
    | 0 => v = .pointer (some ⟨gf, 2, none⟩)
    | 1 => v = .int .i64 (q : Int)
    | 2 => v = .bool true
    | 3 => v = .bool true
    | 4 => v = .pointer (some ⟨gf, 2, none⟩)
    | 5 => v = .int .i64 (q : Int)
    | 6 => v = .int .i64 ((q : Int) / 8)
    | 7 => v = .slice (some ⟨gl, 0, none⟩) n c
    | 8 => v = .pointer (some ⟨gf, 1, none⟩)
    | 9 => v = .int .i64 (z : Int)
    | 10 => v = .pointer (some ⟨gl, z, none⟩)
    | 11 => v = .slice A5 n5 c5
    | 12 => v = .int .i64 (n5 : Int)
    | 13 => v = .bool false
    | 14 => v = .bool false
    | _ => True) j u W' := by
    intro W W' j u hX h
    match j, h with
    | 0, h => exact h
    | 1, h => exact h
    | 2, h => exact h
    | 3, h => exact h
    | 4, h => exact h
    | 5, h => exact h
    | 6, h => exact h
    | 7, h => exact h
    | 8, h => exact h
    | 9, h => exact h
    | 10, h => exact h
    | 11, h => exact h
    | 12, h => exact h
    | 13, h => exact h
    | 14, h => exact h
    | _ + 15, h => exact h
  have hsz : ∀ d, some d ∈ ([some 64, some 65, some 66, some 67, some 68, some 69, some 70, some 71, some 72, some 73, some 74, some 75, some 76, some 77, some 78] : List (Option Tmp)) → d < a.tmps.size := slots_lt (by decide) hsize
  refine wp_region_j 15 [some 64, some 65, some 66, some 67, some 68, some 69, some 70, some 71, some 72, some 73, some 74, some 75, some 76, some 77, some 78] [[], [0], [1], [2], [3], [3, 4], [3, 5], [3], [3], [3, 8], [3, 7, 9], [3, 10], [3, 11], [3, 6, 12], [3, 13]] [[], [], [], [], [], [], [], [], [], [], [], [], [], [], []] (fun (i : Nat) (v : Value) (W : World) => match i with
    | 0 => v = .pointer (some ⟨gf, 2, none⟩)
    | 1 => v = .int .i64 (q : Int)
    | 2 => v = .bool true
    | 3 => v = .bool true
    | 4 => v = .pointer (some ⟨gf, 2, none⟩)
    | 5 => v = .int .i64 (q : Int)
    | 6 => v = .int .i64 ((q : Int) / 8)
    | 7 => v = .slice (some ⟨gl, 0, none⟩) n c
    | 8 => v = .pointer (some ⟨gf, 1, none⟩)
    | 9 => v = .int .i64 (z : Int)
    | 10 => v = .pointer (some ⟨gl, z, none⟩)
    | 11 => v = .slice A5 n5 c5
    | 12 => v = .int .i64 (n5 : Int)
    | 13 => v = .bool false
    | 14 => v = .bool false
    | _ => True) (fun _ W => Ext w W) (by kernel_rfl) (by kernel_rfl) hsz (fun _ _ _ _ h => h) ((Ext.refl w).drew) ?_ ?_
  · clear hend
    simp only [rops, Try.f70, regOf, Option.bind_some, Nat.reduceBEq, if_true, if_false, Bool.false_eq_true, Option.getD_some]
    simp only [List.take_succ_cons, List.take_zero]
    refine ⟨?_, ?_, ?_, ?_, ?_, ?_, ?_, ?_, ?_, ?_, ?_, ?_, ?_, ?_, ?_, trivial⟩
    · intro done us W hJ hdep haft hnot b hb hb' K hK Q'
      have e3 := (hb' 3 (by simp)).trans s3
      clear hb hb'
      go_simp
      exact hK _ _ rfl (fun _ _ _ h => h) hJ
    · intro done us W hJ hdep haft hnot b hb hb' K hK Q'
      simp only [List.getD_cons_succ, List.getD_cons_zero, List.mem_cons, List.not_mem_nil, or_false, forall_eq_or_imp, forall_eq] at hdep
      have e64 := hb 0 64 rfl
      have d0 := hdep
      rw [d0.1] at e64
      clear hb hb' hdep d0
      have q := Ext.cell hJ f2
      go_simp
      exact hK _ _ rfl (fun _ _ _ h => h) hJ
    · intro done us W hJ hdep haft hnot b hb hb' K hK Q'
      simp only [List.getD_cons_succ, List.getD_cons_zero, List.mem_cons, List.not_mem_nil, or_false, forall_eq_or_imp, forall_eq] at hdep
      have e65 := hb 1 65 rfl
      have d1 := hdep
      rw [d1.1] at e65
      clear hb hb' hdep d1
      have hz0 : 0 ≤ (q : Int) := by omega
      go_simp
      exact hK _ _ (by first | rfl | (congr 1; exact decide_eq_true hz0)) (fun _ _ _ h => h) hJ
    · intro done us W hJ hdep haft hnot b hb hb' K hK Q'
      simp only [List.getD_cons_succ, List.getD_cons_zero, List.mem_cons, List.not_mem_nil, or_false, forall_eq_or_imp, forall_eq] at hdep
      have e66 := hb 2 66 rfl
      have d2 := hdep
      rw [d2.1] at e66
      clear hb hb' hdep d2
      go_simp
      exact hK _ _ rfl (fun _ _ _ h => h) hJ
    · intro done us W hJ hdep haft hnot b hb hb' K hK Q'
      simp only [List.getD_cons_succ, List.getD_cons_zero, List.mem_cons, List.not_mem_nil, or_false, forall_eq_or_imp, forall_eq] at hdep
      have e3 := (hb' 3 (by simp)).trans s3
      have e67 := hb 3 67 rfl
      have d3 := hdep
      rw [d3.1] at e67
      clear hb hb' hdep d3
      go_simp
      exact hK _ _ rfl (fun _ _ _ h => h) hJ
    · intro done us W hJ hdep haft hnot b hb hb' K hK Q'
      simp only [List.getD_cons_succ, List.getD_cons_zero, List.mem_cons, List.not_mem_nil, or_false, forall_eq_or_imp, forall_eq] at hdep
      have e67 := hb 3 67 rfl
      have e68 := hb 4 68 rfl
      have d3 := hdep.1
      have d4 := hdep.2
      rw [d3.1] at e67
      rw [d4.1] at e68
      clear hb hb' hdep d3 d4
      have q := Ext.cell hJ f2
      go_simp
      exact hK _ _ rfl (fun _ _ _ h => h) hJ
    · intro done us W hJ hdep haft hnot b hb hb' K hK Q'
      simp only [List.getD_cons_succ, List.getD_cons_zero, List.mem_cons, List.not_mem_nil, or_false, forall_eq_or_imp, forall_eq] at hdep
      have e67 := hb 3 67 rfl
      have e69 := hb 5 69 rfl
      have d3 := hdep.1
      have d5 := hdep.2
      rw [d3.1] at e67
      rw [d5.1] at e69
      clear hb hb' hdep d3 d5
      have qw : IntKind.i64.wrap ((q : Int) / 8) = (q : Int) / 8 := IntWalk.i64_in _ (by omega)
      go_simp
      exact hK _ _ rfl (fun _ _ _ h => h) hJ
    · intro done us W hJ hdep haft hnot b hb hb' K hK Q'
      simp only [List.getD_cons_succ, List.getD_cons_zero, List.mem_cons, List.not_mem_nil, or_false, forall_eq_or_imp, forall_eq] at hdep
      have e0 := (hb' 0 (by simp)).trans s0
      have e67 := hb 3 67 rfl
      have d3 := hdep
      rw [d3.1] at e67
      clear hb hb' hdep d3
      go_simp
      exact hK _ _ rfl (fun _ _ _ h => h) hJ
    · intro done us W hJ hdep haft hnot b hb hb' K hK Q'
      simp only [List.getD_cons_succ, List.getD_cons_zero, List.mem_cons, List.not_mem_nil, or_false, forall_eq_or_imp, forall_eq] at hdep
      have e3 := (hb' 3 (by simp)).trans s3
      have e67 := hb 3 67 rfl
      have d3 := hdep
      rw [d3.1] at e67
      clear hb hb' hdep d3
      go_simp
      exact hK _ _ rfl (fun _ _ _ h => h) hJ
    · intro done us W hJ hdep haft hnot b hb hb' K hK Q'
      simp only [List.getD_cons_succ, List.getD_cons_zero, List.mem_cons, List.not_mem_nil, or_false, forall_eq_or_imp, forall_eq] at hdep
      have e67 := hb 3 67 rfl
      have e72 := hb 8 72 rfl
      have d3 := hdep.1
      have d8 := hdep.2
      rw [d3.1] at e67
      rw [d8.1] at e72
      clear hb hb' hdep d3 d8
      have q := Ext.cell hJ f1
      go_simp
      exact hK _ _ rfl (fun _ _ _ h => h) hJ
    · intro done us W hJ hdep haft hnot b hb hb' K hK Q'
      simp only [List.getD_cons_succ, List.getD_cons_zero, List.mem_cons, List.not_mem_nil, or_false, forall_eq_or_imp, forall_eq] at hdep
      have e67 := hb 3 67 rfl
      have e71 := hb 7 71 rfl
      have e73 := hb 9 73 rfl
      have d3 := hdep.1
      have d7 := hdep.2.1
      have d9 := hdep.2.2
      rw [d3.1] at e67
      rw [d7.1] at e71
      rw [d9.1] at e73
      clear hb hb' hdep d3 d7 d9
      go_simp
      exact hK _ _ rfl (fun _ _ _ h => h) hJ
    · intro done us W hJ hdep haft hnot b hb hb' K hK Q'
      simp only [List.getD_cons_succ, List.getD_cons_zero, List.mem_cons, List.not_mem_nil, or_false, forall_eq_or_imp, forall_eq] at hdep
      have e67 := hb 3 67 rfl
      have e74 := hb 10 74 rfl
      have d3 := hdep.1
      have d10 := hdep.2
      rw [d3.1] at e67
      rw [d10.1] at e74
      clear hb hb' hdep d3 d10
      have q := Ext.cell hJ hc
      go_simp
      exact hK _ _ rfl (fun _ _ _ h => h) hJ
    · intro done us W hJ hdep haft hnot b hb hb' K hK Q'
      simp only [List.getD_cons_succ, List.getD_cons_zero, List.mem_cons, List.not_mem_nil, or_false, forall_eq_or_imp, forall_eq] at hdep
      have e67 := hb 3 67 rfl
      have e75 := hb 11 75 rfl
      have d3 := hdep.1
      have d11 := hdep.2
      rw [d3.1] at e67
      rw [d11.1] at e75
      clear hb hb' hdep d3 d11
      go_simp
      exact hK _ _ rfl (fun _ _ _ h => h) hJ
    · intro done us W hJ hdep haft hnot b hb hb' K hK Q'
      simp only [List.getD_cons_succ, List.getD_cons_zero, List.mem_cons, List.not_mem_nil, or_false, forall_eq_or_imp, forall_eq] at hdep
      have e67 := hb 3 67 rfl
      have e70 := hb 6 70 rfl
      have e76 := hb 12 76 rfl
      have d3 := hdep.1
      have d6 := hdep.2.1
      have d12 := hdep.2.2
      rw [d3.1] at e67
      rw [d6.1] at e70
      rw [d12.1] at e76
      clear hb hb' hdep d3 d6 d12
      go_simp
      exact hK _ _ (by first | rfl | (congr 1; exact decide_eq_false hq)) (fun _ _ _ h => h) hJ
    · intro done us W hJ hdep haft hnot b hb hb' K hK Q'
      simp only [List.getD_cons_succ, List.getD_cons_zero, List.mem_cons, List.not_mem_nil, or_false, forall_eq_or_imp, forall_eq] at hdep
      have e67 := hb 3 67 rfl
      have e77 := hb 13 77 rfl
      have d3 := hdep.1
      have d13 := hdep.2
      rw [d3.1] at e67
      rw [d13.1] at e77
      clear hb hb' hdep d3 d13
      go_simp
      exact hK _ _ rfl (fun _ _ _ h => h) hJ
  · intro us W hV hJ
    exact hend (us 0) (us 1) (us 2) (us 3) (us 4) (us 5) (us 6) (us 7) (us 8) (us 9) (us 10) (us 11) (us 12) (us 13) (us 14) W (hV 0 (by omega)) (hV 1 (by omega)) (hV 2 (by omega)) (hV 3 (by omega)) (hV 4 (by omega)) (hV 5 (by omega)) (hV 6 (by omega)) (hV 7 (by omega)) (hV 8 (by omega)) (hV 9 (by omega)) (hV 10 (by omega)) (hV 11 (by omega)) (hV 12 (by omega)) (hV 13 (by omega)) (hV 14 (by omega)) hJ
end Go.Proofs.Ytekhmfliaojabaa
