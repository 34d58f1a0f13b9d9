/- The pure statement of FramePieces. -/
import Derived.Test.YtdalcbhnnfabhaaDoorFPsplit
import Derived.Test.YtdalcbhnnfabhaaDoorFPshown04
import Derived.Test.YtdalcbhnnfabhaaDoorFinterchangelaw04FramePieces
namespace Go.Proofs.YtdalcbhnnfabhaaDoor.F
open Go.RowKit Go.Proofs.YtdalcbhnnfabhaaDoorW.PrintWords Go.Proofs.YtdalcbhnnfabhaaDoorW.PrintLast Go.Proofs.YtdalcbhnnfabhaaDoorW.PrintMore
set_option linter.unusedVariables false
set_option linter.unusedSimpArgs false
theorem framePieces_pure (b0 : ByteArray) (b1 b2 : Int) (g0 : b0.size ≤ maxLen) (g1 : (Lit.int .i64 b1).wf = true) (g2 : (Lit.int .i64 b2).wf = true) (hb : (fun a => a.size + 1) b0 + (fun _ => 1) b1 + (fun _ => 1) b2 ≤ 1048576) :
    ∃ k, interchangelaw04_FramePieces.f k b0 b1 b2 = some true := by
  have hz : b0.size + 1 + 1 + 1 ≤ 1048576 := hb
  refine ⟨2200000, ?_⟩
  unfold interchangelaw04_FramePieces.f
  rw [shown_k (by decide), Option.bind_some]
  by_cases h0 : b1 < 0
  · rw [if_pos h0]; rfl
  rw [if_neg h0]
  by_cases h1 : b1 > (b0.size : Int)
  · rw [decide_eq_true h1]; rfl
  rw [decide_eq_false h1]
  obtain ⟨c, rfl⟩ : ∃ c : Nat, b1 = c := ⟨b1.toNat, by omega⟩
  have hp : b0.extract 0 c = toBA (b0.data.toList.take c) := extract_take _ _
  have ht : b0.extract c b0.size = toBA (b0.data.toList.drop c) := extract_drop _ _
  have sp : (toBA (b0.data.toList.take c)).size = c := by rw [toBA_size, List.length_take, size_list]; omega
  have st : (toBA (b0.data.toList.drop c)).size = b0.size - c := by rw [toBA_size, List.length_drop, size_list]
  have hall : toBA ((toBA (b0.data.toList.take c)).data.toList ++ b0.data.toList.drop c) = b0 := by rw [toBA_list, List.take_append_drop]; exact (toBA_of b0).symm
  obtain ⟨s1, s2, s3, s4⟩ := split_two (mostN b2) (most_lo b2) (b0.data.toList.drop c) _ (toBA (b0.data.toList.take c)) (Nat.le_refl _)
  rw [hall] at s1 s2
  show interchangelaw04_FramePieces.j0 (2199999 + 1) b0 (c : Int) b2 true false = some true
  simp only [interchangelaw04_FramePieces.j0, Bool.false_eq_true, if_false]
  rw [if_pos (by omega), if_pos (by omega), Int.toNat_natCast, hp, ht, fsplit_f _ (by omega), Option.bind_some, fsplit_f b0 (by omega), Option.bind_some]
  generalize hA : splitR (mostN b2) (toBA (b0.data.toList.take c)) = A at *
  by_cases e : A.2.2 = 0
  · have hcat : A.2.1 ++ toBA (b0.data.toList.drop c) = toBA (A.2.1.data.toList ++ b0.data.toList.drop c) := by
      conv => lhs; rw [toBA_of A.2.1]
      rw [toBA_append]
    have hcs : (toBA (A.2.1.data.toList ++ b0.data.toList.drop c)).size ≤ 1048576 := by rw [toBA_size, List.length_append, size_list, List.length_drop, size_list]; omega
    rw [if_pos e, if_pos (by omega), hcat, fsplit_f _ (by omega), Option.bind_some, Option.bind_some, s1 e]
    obtain ⟨_, _, _, s5⟩ := split_two (mostN b2) (most_lo b2) [] _ (toBA (A.2.1.data.toList ++ b0.data.toList.drop c)) (Nat.le_refl _)
    generalize splitR (mostN b2) (toBA (A.2.1.data.toList ++ b0.data.toList.drop c)) = C at *
    simp only [List.nil_append, List.length_nil]
    rw [if_pos (by omega), Option.bind_some, if_pos (by omega), same_k _ (by rw [List.length_append]; omega) (by rw [List.length_append]; omega), Option.bind_some]
    simp
  · rw [if_neg e, s2 e]
    simp
end Go.Proofs.YtdalcbhnnfabhaaDoor.F
