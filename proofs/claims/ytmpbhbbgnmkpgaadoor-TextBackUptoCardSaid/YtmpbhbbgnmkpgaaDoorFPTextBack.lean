/- The pure statement of TextBack. -/
import Derived.Test.YtmpbhbbgnmkpgaaDoorFPshown02
import Derived.Test.YtmpbhbbgnmkpgaaDoorFinterchangelaw02TextBack
namespace Go.Proofs.YtmpbhbbgnmkpgaaDoor.F
open Go.RowKit Go.Proofs.YtmpbhbbgnmkpgaaDoorW.PrintWords Go.Proofs.YtmpbhbbgnmkpgaaDoorW.PrintLast Go.Proofs.YtmpbhbbgnmkpgaaDoorW.PrintMore
set_option linter.unusedVariables false
set_option linter.unusedSimpArgs false
theorem textBack_j1 {k : Nat} (hk : 13 ≤ k) (t : ByteArray) (hz : t.size ≤ 1048576) : interchangelaw02_TextBack.j1 k t true false = some true := by
  obtain ⟨k, rfl⟩ : ∃ j, k = j + 1 := ⟨k - 1, by omega⟩
  have hs := ltake_size 1 t
  have hl := lay_size 1 (ltakeR 1 t).1
  simp only [interchangelaw02_TextBack.j1]
  rw [if_neg (by decide), tshort_k (by omega) t (by omega), Option.bind_some, short_k (by omega) _ (by omega), Option.bind_some, if_pos trivial]
  by_cases e : (ltakeR 1 t).2.2 = 0
  · obtain ⟨h1, h2⟩ := take_lay e
    rw [if_pos e, if_pos h1, if_pos (by omega), h2]
    simp
  · rw [if_neg e]
theorem textBack_j0 {k : Nat} (hk : 14 ≤ k) (s m t : ByteArray) (h1 : s.size ≤ 1048576) (h2 : m.size ≤ 1048576) (h3 : t.size ≤ 1048576) : interchangelaw02_TextBack.j0 k s m t true = some true := by
  obtain ⟨k, rfl⟩ : ∃ j, k = j + 1 := ⟨k - 1, by omega⟩
  have hl := lay_size 4 s
  simp only [interchangelaw02_TextBack.j0]
  rw [long_k (by omega) s (by omega), Option.bind_some, if_pos (by omega), tlong_k (by omega) _ (by rw [size_append]; omega), Option.bind_some, lay_take m (long_zero (by omega))]
  simp only
  rw [if_pos trivial, if_pos trivial]
  exact textBack_j1 (by omega) t h3
theorem textBack_pure (b0 b1 b2 : ByteArray) (g0 : b0.size ≤ maxLen) (g1 : b1.size ≤ maxLen) (g2 : b2.size ≤ maxLen) (hb : (fun a => a.size + 1) b0 + (fun a => a.size + 1) b1 + (fun a => a.size + 1) b2 ≤ 1048576) : ∃ k, interchangelaw02_TextBack.f k b0 b1 b2 = some true := by
  have hz : b0.size + 1 + (b1.size + 1) + (b2.size + 1) ≤ 1048576 := hb
  obtain ⟨k, hk⟩ : ∃ k : Nat, 100 ≤ k := ⟨100, Nat.le_refl _⟩
  refine ⟨k, ?_⟩
  unfold interchangelaw02_TextBack.f
  have hl := lay_size 1 b0
  rw [shown_k (by omega), Option.bind_some, short_k (by omega) b0 (by omega), Option.bind_some]
  have hj := textBack_j0 (k := k) (by omega) b0 b1 b2 (by omega) (by omega) (by omega)
  by_cases e : (layR 1 b0).2 = 0
  · rw [if_pos e, if_pos (by omega), tshort_k (by omega) _ (by rw [size_append]; omega), Option.bind_some, lay_take b1 e]
    simp only
    rw [if_pos trivial, if_pos trivial, if_pos trivial, hj]
  · rw [if_neg e, hj]
end Go.Proofs.YtmpbhbbgnmkpgaaDoor.F
