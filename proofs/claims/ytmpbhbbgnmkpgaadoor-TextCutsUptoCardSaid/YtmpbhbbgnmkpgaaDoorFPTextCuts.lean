/- The pure statement of TextCuts. -/
import Derived.Test.YtmpbhbbgnmkpgaaDoorFPshown02
import Derived.Test.YtmpbhbbgnmkpgaaDoorFPcut
import Derived.Test.YtmpbhbbgnmkpgaaDoorFinterchangelaw02TextCuts
namespace Go.Proofs.YtmpbhbbgnmkpgaaDoor.F
open Go.RowKit Go.Proofs.YtmpbhbbgnmkpgaaDoorW.PrintWords Go.Proofs.YtmpbhbbgnmkpgaaDoorW.PrintLast Go.Proofs.YtmpbhbbgnmkpgaaDoorW.PrintMore
set_option linter.unusedVariables false
set_option linter.unusedSimpArgs false
theorem cuts_loop (s : ByteArray) (m : Nat) (l : List ByteArray) (hj : joinL l = s.data.toList) (h1 : ∀ p ∈ l, p.size ≤ m ∧ p.size ≠ 0) (h2 : l.length ≤ s.size) (h3 : ∀ (i : Nat) (h : i < l.length), i + 1 < l.length → l[i].size = m) (hs : s.size ≤ 4611686018427387) (d : Nat) :
    ∀ (k i : Nat), i + d = l.length → d < k → interchangelaw02_TextCuts.l0 k s (m : Int) true l (toBA (joinL (l.take i))) (i : Int) = some true := by
  induction d with
  | zero =>
    intro k i h hk
    obtain ⟨k, rfl⟩ : ∃ j, k = j + 1 := ⟨k - 1, by omega⟩
    simp only [interchangelaw02_TextCuts.l0]
    rw [if_neg (by omega), if_pos trivial, List.take_of_length_le (by omega), hj, toList_data, toBA_list, toList_data]
    simp
  | succ d ih =>
    intro k i h hk
    obtain ⟨k, rfl⟩ : ∃ j, k = j + 1 := ⟨k - 1, by omega⟩
    have hi : i < l.length := by omega
    obtain ⟨p1, p2⟩ := h1 _ (List.getElem_mem hi)
    have ht : l.take (i + 1) = l.take i ++ [l[i]] := List.take_succ_eq_append_getElem hi
    have hlen := joinL_take l (i + 1)
    rw [hj, size_list] at hlen
    have hcat : toBA (joinL (l.take i)) ++ l[i] = toBA (joinL (l.take (i + 1))) := by
      rw [ht, joinL_append]
      conv => lhs; rw [toBA_of l[i]]
      rw [toBA_append]
      simp [joinL]
    have hsz : (toBA (joinL (l.take i))).size + l[i].size ≤ 9223372036854775807 := by
      rw [← size_append, hcat, toBA_size]; omega
    have hn := ih k (i + 1) (by omega) (by omega)
    simp only [interchangelaw02_TextCuts.l0]
    rw [if_pos (by omega), if_pos (by omega), rdS_get l i hi, if_neg (by omega), if_neg (by omega), w_succ (by omega)]
    by_cases hl : i + 1 < l.length
    · have := h3 i hi hl
      rw [if_pos (by omega), if_pos (by omega), if_pos hsz, hcat, hn]
    · rw [if_neg (by omega), if_pos hsz, hcat, hn]
theorem textCuts_pure (b0 : ByteArray) (b1 : Int) (g0 : b0.size ≤ maxLen) (g1 : (Lit.int .i64 b1).wf = true) (hb : (fun a => a.size + 1) b0 + (fun _ => 1) b1 ≤ 1048576) : ∃ k, interchangelaw02_TextCuts.f k b0 b1 = some true := by
  have hz : b0.size + 1 + 1 ≤ 1048576 := hb
  have hn := (i64_bounds g1).2
  obtain ⟨k, hk⟩ : ∃ k : Nat, 2000000 ≤ k := ⟨2000000, Nat.le_refl _⟩
  obtain ⟨k', rfl⟩ : ∃ j, k = j + 1 := ⟨k - 1, by omega⟩
  refine ⟨k' + 1, ?_⟩
  unfold interchangelaw02_TextCuts.f
  rw [shown_k (by omega), Option.bind_some, cut_f b0 b1 (by omega) hn, Option.bind_some]
  obtain ⟨c1, c2, c3, c4⟩ := cut_all (cutM_pos b1) b0.size b0 (Nat.le_refl _)
  have L := cuts_loop b0 (cutM b1) _ c1 c2 c3 c4 (by omega) (cutR (cutM b1) b0).length k' 0 (by omega) (by omega)
  by_cases h : b1 < 1
  · have e : cutM b1 = 1 := by unfold cutM; rw [if_pos h]
    rw [if_pos h]
    simp only [interchangelaw02_TextCuts.j0]
    rw [e] at L ⊢
    exact L
  · have e : ((cutM b1 : Nat) : Int) = b1 := by unfold cutM; rw [if_neg h]; omega
    rw [if_neg h]
    simp only [interchangelaw02_TextCuts.j0]
    rw [e] at L
    exact L
end Go.Proofs.YtmpbhbbgnmkpgaaDoor.F
