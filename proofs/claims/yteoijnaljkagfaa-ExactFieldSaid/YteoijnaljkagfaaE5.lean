/- Walks: Turn of package exact (program). -/
import Derived.Test.YteoijnaljkagfaaE4
namespace Go.Proofs.Yteoijnaljkagfaa
open Go.RowKit

theorem okPs3 (a b c : Int × Int) : okPs [a, b, c] = true ↔ okP a = true ∧ okP b = true ∧ okP c = true := by simp [okPs]
theorem pts3 {w : World} {g : Nat} {t : TypeId} {a1 a2 b1 b2 c1 c2 : Int} (h : Blk w g t #[.int .i64 a1, .int .i64 a2, .int .i64 b1, .int .i64 b2, .int .i64 c1, .int .i64 c2]) : Pts w g [(a1, a2), (b1, b2), (c1, c2)] := by
  intro j p hp
  rcases j with _ | _ | _ | j
  · obtain rfl : (a1, a2) = p := by simpa using hp
    exact ⟨h.cell 0, h.cell 1⟩
  · obtain rfl : (b1, b2) = p := by simpa using hp
    exact ⟨h.cell 2, h.cell 3⟩
  · obtain rfl : (c1, c2) = p := by simpa using hp
    exact ⟨h.cell 4, h.cell 5⟩
  · simp at hp

/-- What Turn returns. -/
def turnI (a b c : Int × Int) : Int := bif okPs [a, b, c] then sgI (crossI a b c) else 0
def turnE (a b c : Int × Int) : Int := bif okPs [a, b, c] then 0 else 11

set_option maxHeartbeats 1000000 in
theorem turn_any (a1 a2 b1 b2 c1 c2 : Int) (w : World) :
    Calls Try.prog 18 #[.agg #[.int .i64 a1, .int .i64 a2], .agg #[.int .i64 b1, .int .i64 b2], .agg #[.int .i64 c1, .int .i64 c2]] w fun e w' => e = .returned (.tuple #[.int .i64 (turnI (a1, a2) (b1, b2) (c1, c2)), .int .i64 (turnE (a1, a2) (b1, b2) (c1, c2))]) ∧ Ext w w' := by
  obtain ⟨r, hr⟩ : ∃ r, turnI (a1, a2) (b1, b2) (c1, c2) = r := ⟨_, rfl⟩
  obtain ⟨er, her⟩ : ∃ r, turnE (a1, a2) (b1, b2) (c1, c2) = r := ⟨_, rfl⟩
  rw [hr, her]
  have HR := Lib.hid hr
  have HE := Lib.hid her
  clear hr her
  go_enter Try.func18, Try.ntmps18
  go_wp2_with fail
  have hXw : Ext w ((((w.alloc (.cells #[.int .i64 a1, .int .i64 a2] 23)).alloc (.cells #[.int .i64 b1, .int .i64 b2] 23)).alloc (.cells #[.int .i64 c1, .int .i64 c2] 23)).alloc (.cells #[.int .i64 a1, .int .i64 a2, .int .i64 b1, .int .i64 b2, .int .i64 c1, .int .i64 c2] 23)) := ((((Ext.refl w).alloc _).alloc _).alloc _).alloc _
  have k1 := (((Blk.new w 23 #[.int .i64 a1, .int .i64 a2]).alloc (.cells #[.int .i64 b1, .int .i64 b2] 23)).alloc (.cells #[.int .i64 c1, .int .i64 c2] 23)).alloc (.cells #[.int .i64 a1, .int .i64 a2, .int .i64 b1, .int .i64 b2, .int .i64 c1, .int .i64 c2] 23)
  have k2 := ((Blk.new (w.alloc (.cells #[.int .i64 a1, .int .i64 a2] 23)) 23 #[.int .i64 b1, .int .i64 b2]).alloc (.cells #[.int .i64 c1, .int .i64 c2] 23)).alloc (.cells #[.int .i64 a1, .int .i64 a2, .int .i64 b1, .int .i64 b2, .int .i64 c1, .int .i64 c2] 23)
  have k3 := (Blk.new ((w.alloc (.cells #[.int .i64 a1, .int .i64 a2] 23)).alloc (.cells #[.int .i64 b1, .int .i64 b2] 23)) 23 #[.int .i64 c1, .int .i64 c2]).alloc (.cells #[.int .i64 a1, .int .i64 a2, .int .i64 b1, .int .i64 b2, .int .i64 c1, .int .i64 c2] 23)
  have k4 := Blk.new (((w.alloc (.cells #[.int .i64 a1, .int .i64 a2] 23)).alloc (.cells #[.int .i64 b1, .int .i64 b2] 23)).alloc (.cells #[.int .i64 c1, .int .i64 c2] 23)) 23 #[.int .i64 a1, .int .i64 a2, .int .i64 b1, .int .i64 b2, .int .i64 c1, .int .i64 c2]
  have es : ∀ (W : World) (o : Obj), (W.alloc o).heap.size = W.heap.size + 1 := fun W o => by simp
  simp only [es] at k2 k3 k4
  clear es
  generalize ((((w.alloc (.cells #[.int .i64 a1, .int .i64 a2] 23)).alloc (.cells #[.int .i64 b1, .int .i64 b2] 23)).alloc (.cells #[.int .i64 c1, .int .i64 c2] 23)).alloc (.cells #[.int .i64 a1, .int .i64 a2, .int .i64 b1, .int .i64 b2, .int .i64 c1, .int .i64 c2] 23)) = w1 at hXw k1 k2 k3 k4 ⊢
  have HXw := Lib.hid hXw
  have HP := Lib.hid (pts3 k4)
  have K1 := Lib.hid k1
  have K2 := Lib.hid k2
  have K3 := Lib.hid k3
  clear k1 k2 k3 k4 hXw
  refine (inside_any _ 3 _ _ rfl (by omega) HP.out).mono ?_
  rintro e w2 ⟨rfl, hX2⟩
  have x1 := (K1.out.ext hX2).cell 0
  have x2 := (K1.out.ext hX2).cell 1
  have x3 := (K2.out.ext hX2).cell 0
  have x4 := (K2.out.ext hX2).cell 1
  have x5 := (K3.out.ext hX2).cell 0
  have x6 := (K3.out.ext hX2).cell 1
  simp only [List.getElem?_toArray, List.getElem?_cons_zero, List.getElem?_cons_succ] at x1 x2 x3 x4 x5 x6
  have HX2 := Lib.hid (HXw.out.trans hX2)
  clear hX2
  rcases hb : okPs [(a1, a2), (b1, b2), (c1, c2)] with _ | _
  · have hr := HR.out
    have he := HE.out
    simp only [turnI, turnE, hb, cond_false] at hr he
    have H1 := Lib.hid hr
    have H2 := Lib.hid he
    clear hr he hb
    go_wp2
    go_ret2
    exact ⟨by rw [← H1.out, ← H2.out]; rfl, HX2.out⟩
  · have hr := HR.out
    have he := HE.out
    simp only [turnI, turnE, hb, cond_true] at hr he
    have H1 := Lib.hid hr
    have H2 := Lib.hid he
    obtain ⟨o1, o2, o3⟩ := (okPs3 _ _ _).1 hb
    have O1 := Lib.hid o1
    have O2 := Lib.hid o2
    have O3 := Lib.hid o3
    clear hr he hb o1 o2 o3
    go_wp2_with fail
    refine (cross_any a1 a2 b1 b2 c1 c2 _ O1.out O2.out O3.out).mono ?_
    rintro e w3 ⟨rfl, hX3⟩
    have HX3 := Lib.hid (HX2.out.trans hX3)
    clear hX3
    go_wp2_with fail
    refine (isign_any _ _).mono ?_
    rintro e w4 ⟨rfl, rfl⟩
    rw [H1.out]
    go_wp2
    go_ret2
    exact ⟨by rw [← H2.out]; rfl, HX3.out⟩
end Go.Proofs.Yteoijnaljkagfaa
