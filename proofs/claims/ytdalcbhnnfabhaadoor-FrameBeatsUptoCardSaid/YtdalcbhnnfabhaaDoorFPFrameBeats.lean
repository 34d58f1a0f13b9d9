/- The pure statement of FrameBeats. -/
import Derived.Test.YtdalcbhnnfabhaaDoorFPsplit
import Derived.Test.YtdalcbhnnfabhaaDoorFPshown04
import Derived.Test.YtdalcbhnnfabhaaDoorFinterchangelaw04FrameBeats
namespace Go.Proofs.YtdalcbhnnfabhaaDoor.F
open Go.RowKit Go.Proofs.YtdalcbhnnfabhaaDoorW.PrintWords Go.Proofs.YtdalcbhnnfabhaaDoorW.PrintLast Go.Proofs.YtdalcbhnnfabhaaDoorW.PrintMore
set_option linter.unusedVariables false
set_option linter.unusedSimpArgs false
def beat : Fr := ⟨8, 0, ⟨#[]⟩⟩
theorem beats_loop (l : List Fr) (hl : l.length < 1048577) (d : Nat) : ∀ (k i : Nat), i + d = l.length → d < k → interchangelaw04_FrameBeats.l0 k true l (beat :: l) (i : Int) = some true := by
  induction d with
  | zero =>
    intro k i h hk
    obtain ⟨k, rfl⟩ : ∃ j, k = j + 1 := ⟨k - 1, by omega⟩
    simp only [interchangelaw04_FrameBeats.l0]
    rw [if_neg (by omega), if_pos trivial, if_pos (by simp only [List.length_cons]; omega)]
    have e : rd_T29 (beat :: l) 0 = beat := rfl
    rw [e]
    decide +kernel
  | succ d ih =>
    intro k i h hk
    obtain ⟨k, rfl⟩ : ∃ j, k = j + 1 := ⟨k - 1, by omega⟩
    have hi : i < l.length := by omega
    have e : rd_T29 (beat :: l) ((i + 1 : Nat) : Int) = l[i] := by rw [rd_get _ _ (by simp only [List.length_cons]; omega)]; rfl
    simp only [interchangelaw04_FrameBeats.l0]
    rw [w_succ (by omega), if_pos (by omega), if_pos (by omega), if_pos (by simp only [List.length_cons]; omega), if_pos (by omega), e, rd_get l i hi]
    simp only [BEq.rfl, Bool.not_true, Bool.or_self, Bool.false_eq_true, if_false]
    exact ih k (i + 1) (by omega) (by omega)
theorem frameBeats_pure (b0 : ByteArray) (b1 : Int) (g0 : b0.size ≤ maxLen) (g1 : (Lit.int .i64 b1).wf = true) (hb : (fun a => a.size + 1) b0 + (fun _ => 1) b1 ≤ 1048576) : ∃ k, interchangelaw04_FrameBeats.f k b0 b1 = some true := by
  have hz : b0.size + 1 + 1 ≤ 1048576 := hb
  refine ⟨2200000, ?_⟩
  unfold interchangelaw04_FrameBeats.f
  have hr : frR beat = true := by decide
  have hbt : bytesR 8 0 ⟨#[]⟩ = (toBA (frB beat), 0) := by
    unfold bytesR
    rw [if_pos (show rightB 8 0 ⟨#[]⟩ = true by decide)]; rfl
  have lo := most_lo b1
  have hs := split_cons (M := mostN b1) (x := beat) hr (by have : beat.f2.size = 0 := rfl; omega) b0.data.toList
  rw [← toBA_of b0] at hs
  have sb : (toBA (frB beat)).size = 8 := by rw [toBA_size, frB_length]; rfl
  obtain ⟨_, _, _, s4⟩ := split_two (mostN b1) lo [] _ b0 (Nat.le_refl _)
  rw [shown_k (by decide), Option.bind_some, bytes_k (by decide), hbt, Option.bind_some, fsplit_f b0 (by omega), Option.bind_some, sb, if_pos (by omega), append_toBA, fsplit_f _ (by rw [toBA_size, List.length_append, frB_length, size_list]; show 0 + 8 + _ ≤ _; omega), hs, Option.bind_some]
  generalize splitR (mostN b1) b0 = A at *
  simp only [if_true, List.length_cons]
  rw [w_succ (by omega), if_pos rfl, show (A.2.1.toList != A.2.1.toList) = false by simp]
  show interchangelaw04_FrameBeats.j0 (2199999 + 1) true A.1 (beat :: A.1) false = some true
  simp only [interchangelaw04_FrameBeats.j0, Bool.false_eq_true, if_false]
  exact beats_loop A.1 (by omega) A.1.length 2199999 0 (by omega) (by omega)
end Go.Proofs.YtdalcbhnnfabhaaDoor.F
