/- The pure statement of TextTwo. -/
import Derived.Test.YtmpbhbbgnmkpgaaDoorFPshown02
import Derived.Test.YtmpbhbbgnmkpgaaDoorFinterchangelaw02TextTwo
namespace Go.Proofs.YtmpbhbbgnmkpgaaDoor.F
open Go.RowKit Go.Proofs.YtmpbhbbgnmkpgaaDoorW.PrintWords Go.Proofs.YtmpbhbbgnmkpgaaDoorW.PrintLast Go.Proofs.YtmpbhbbgnmkpgaaDoorW.PrintMore
set_option linter.unusedVariables false
set_option linter.unusedSimpArgs false

theorem textTwo_pure (b0 b1 : ByteArray) (g0 : b0.size ≤ maxLen) (g1 : b1.size ≤ maxLen) (hb : (fun a => a.size + 1) b0 + (fun a => a.size + 1) b1 ≤ 1048576) : ∃ k, interchangelaw02_TextTwo.f k b0 b1 = some true := by
  have hz : b0.size + 1 + (b1.size + 1) ≤ 1048576 := hb
  obtain ⟨k, hk⟩ : ∃ k : Nat, 100 ≤ k := ⟨100, Nat.le_refl _⟩
  refine ⟨k, ?_⟩
  unfold interchangelaw02_TextTwo.f
  have s0 := lay_size 1 b0
  have s1 := lay_size 4 b1
  rw [shown_k (by omega), Option.bind_some, short_k (by omega) b0 (by omega), Option.bind_some, long_k (by omega) b1 (by omega), Option.bind_some]
  by_cases e : (layR 1 b0).2 = 0
  · have t1 := lay_take (layR 4 b1).1 e
    have t2 := lay_take (n := 4) (s := b1) ⟨#[]⟩ (long_zero (by omega))
    rw [app_empty] at t2
    rw [if_pos e, if_pos (by omega), tshort_k (by omega) _ (by rw [size_append]; omega), Option.bind_some]
    generalize ltakeR 1 ((layR 1 b0).1 ++ (layR 4 b1).1) = T at t1 ⊢
    obtain ⟨e1, e2, e3⟩ := tup3 t1
    clear t1
    rw [e2, tlong_k (by omega) _ (by omega), Option.bind_some]
    generalize ltakeR 4 (layR 4 b1).1 = V at t2 ⊢
    obtain ⟨f1, f2, f3⟩ := tup3 t2
    clear t2
    have hf : (V.2.1.toList == ([] : List UInt8)) = true := by rw [f2, toList_data]; rfl
    rw [if_pos rfl, if_pos e3, if_pos f3, e1, if_pos rfl, f1, if_pos rfl, hf]
  · rw [if_neg e]
end Go.Proofs.YtmpbhbbgnmkpgaaDoor.F
