/- Plain: an encoding in which one byte was changed is refused, or read as a frame with a body of another length. -/
import Derived.Test.YtekhmfliaojabaaPackF
namespace Go.Proofs.Ytekhmfliaojabaa
open Go.RowKit

/-- What a reading without an error says of the bytes. -/
theorem unp_good {xs : List Int} (h : (unp xs).2.2 = 0) : szN xs ≤ 1024 ∧ 12 + szN xs ≤ xs.length ∧ bigN ((xs.drop (8 + szN xs)).take 4) = crc (xs.take (8 + szN xs)) ∧ (unp xs).1.body = (xs.take (8 + szN xs)).drop 8 := by
  by_cases h0 : xs.length = 0
  · rw [unp_none h0] at h; simp at h
  by_cases h1 : xs.getD 0 0 = 165
  · by_cases h2 : xs.length < 8
    · rw [unp_short h0 h1 h2] at h; simp at h
    · by_cases h3 : 1024 < szN xs
      · rw [unp_long h1 (by omega) h3] at h; simp at h
      · by_cases h4 : xs.length < 12 + szN xs
        · rw [unp_cut h1 (by omega) (by omega) h4] at h; simp at h
        · by_cases h5 : bigN ((xs.drop (8 + szN xs)).take 4) = crc (xs.take (8 + szN xs))
          · rw [unp_ok h1 (by omega) (by omega) h5]
            exact ⟨by omega, by omega, h5, rfl⟩
          · rw [unp_sum h1 (by omega) (by omega) h5] at h; simp at h
  · rw [unp_mark h0 h1] at h; simp at h

theorem set_split {xs : List Int} {i : Nat} {x : Int} (h : i < xs.length) : ∃ ps y bs, xs = ps ++ y :: bs ∧ ps.length = i ∧ xs[i]? = some y ∧ xs.set i x = ps ++ x :: bs := by
  refine ⟨xs.take i, xs[i], xs.drop (i + 1), ?_, by rw [List.length_take]; omega, List.getElem?_eq_getElem h, ?_⟩
  · rw [← List.drop_eq_getElem_cons h, List.take_append_drop]
  · rw [List.set_eq_take_append_cons_drop, if_pos h]

theorem damaged {f : Fr} (hok : FrOk f) (hb : ∀ x ∈ f.body, 0 ≤ x ∧ x ≤ 255) {i : Nat} {x y : Int} (hx : 0 ≤ x ∧ x ≤ 255) (hy : (pck f)[i]? = some y) (hne : y ≠ x) :
    (unp ((pck f).set i x)).2.2 ≠ 0 ∨ (unp ((pck f).set i x)).1.body.length ≠ f.body.length := by
  have hi : i < (pck f).length := (List.getElem?_eq_some_iff.1 hy).1
  rw [pck_len] at hi
  by_cases h : (unp ((pck f).set i x)).2.2 = 0
  · right
    intro hl
    obtain ⟨h1, h2, h3, h4⟩ := unp_good h
    have hlen : ((pck f).set i x).length = 12 + f.body.length := by rw [List.length_set, pck_len]
    have hs : szN ((pck f).set i x) = f.body.length := by
      rw [h4, List.length_drop, List.length_take, hlen] at hl
      omega
    rw [hs] at h3
    have hhl := heads_len f
    by_cases hc : i < 8 + f.body.length
    · have e1 : (pck f).set i x = (heads f).set i x ++ big4 (crc (heads f)) := by
        unfold pck; rw [List.set_append_left _ _ (by omega)]
      rw [e1, List.take_left' (by rw [List.length_set]; exact hhl), List.drop_left' (by rw [List.length_set]; exact hhl)] at h3
      have e2 : (big4 (crc (heads f))).take 4 = big4 (crc (heads f)) := by simp [big4]
      rw [e2, big4_bigN (crc_range _).1 (crc_range _).2] at h3
      obtain ⟨ps, y', bs, hsp, _, hy', hset⟩ := set_split (xs := heads f) (x := x) (show i < (heads f).length by omega)
      have hyy : y' = y := by
        unfold pck at hy
        rw [List.getElem?_append_left (by omega), hy'] at hy
        exact Option.some.inj hy
      subst hyy
      have hbb := heads_byte hok hb y' (List.mem_of_getElem? hy')
      rw [hset] at h3
      have h5 := crc_changed (xs := ps) (zs := bs) hbb.1 hbb.2 hx.1 hx.2 hne
      rw [← hsp] at h5
      exact h5 h3
    · obtain ⟨j, rfl⟩ : ∃ j, i = 8 + f.body.length + j := ⟨i - (8 + f.body.length), by omega⟩
      have hj : j < 4 := by omega
      have e1 : (pck f).set (8 + f.body.length + j) x = heads f ++ (big4 (crc (heads f))).set j x := by
        unfold pck; rw [List.set_append_right _ _ (by omega)]; congr 2; omega
      have hyj : (big4 (crc (heads f)))[j]? = some y := by
        unfold pck at hy
        rw [List.getElem?_append_right (by omega)] at hy
        rw [← hy]; congr 1; omega
      rw [e1, List.take_left' hhl, List.drop_left' hhl] at h3
      have hr := crc_range (heads f)
      generalize crc (heads f) = c at *
      match j, hj with
      | 0, _ => simp only [big4, List.set_cons_zero, List.take_succ_cons, List.take_zero, bigN_four] at h3; simp [big4] at hyj; omega
      | 1, _ => simp only [big4, List.set_cons_zero, List.set_cons_succ, List.take_succ_cons, List.take_zero, bigN_four] at h3; simp [big4] at hyj; omega
      | 2, _ => simp only [big4, List.set_cons_zero, List.set_cons_succ, List.take_succ_cons, List.take_zero, bigN_four] at h3; simp [big4] at hyj; omega
      | 3, _ => simp only [big4, List.set_cons_zero, List.set_cons_succ, List.take_succ_cons, List.take_zero, bigN_four] at h3; simp [big4] at hyj; omega
  · exact .inl h
end Go.Proofs.Ytekhmfliaojabaa
