/- The pure statement of FrameRows. -/
import Derived.Test.YtdalcbhnnfabhaaDoorFPsplit
import Derived.Test.YtdalcbhnnfabhaaDoorFPrefFrame
import Derived.Test.YtdalcbhnnfabhaaDoorFPshown04
import Derived.Test.YtdalcbhnnfabhaaDoorFHels
import Derived.Test.YtdalcbhnnfabhaaDoorFinterchangelaw04FrameRows
namespace Go.Proofs.YtdalcbhnnfabhaaDoor.F
open Go.RowKit Go.Proofs.YtdalcbhnnfabhaaDoorW.PrintWords Go.Proofs.YtdalcbhnnfabhaaDoorW.PrintLast Go.Proofs.YtdalcbhnnfabhaaDoorW.PrintMore
set_option linter.unusedVariables false
set_option linter.unusedSimpArgs false
def allB (l : List Fr) : List UInt8 := (l.map frB).flatten
def fsum (l : List Fr) : Nat := (l.map fun x => x.f2.size + 8).sum
theorem allB_length (l : List Fr) : (allB l).length = fsum l := by
  induction l with
  | nil => rfl
  | cons x l ih => simp only [allB, fsum, List.map_cons, List.flatten_cons, List.length_append, frB_length, List.sum_cons] at ih ⊢; omega
theorem fsum_small : ∀ (l : List Fr), (∀ x ∈ l, x.f2.size ≤ 4000) → fsum l ≤ 4008 * l.length
  | [], _ => Nat.le_refl _
  | x :: l, h => by
    have ih := fsum_small l fun y hy => h y (List.mem_cons_of_mem _ hy)
    have hx := h x List.mem_cons_self
    simp only [fsum, List.map_cons, List.sum_cons, List.length_cons] at ih ⊢
    omega
theorem split_all (M : Nat) : ∀ (l : List Fr), (∀ x ∈ l, frR x = true ∧ x.f2.size + 8 ≤ M) → splitR M (toBA (allB l)) = (l, toBA [], 0) := by
  intro l
  induction l with
  | nil => intro _; exact split_nil M
  | cons x l ih =>
    intro h
    have hx := h x (List.mem_cons_self)
    have he : allB (x :: l) = frB x ++ allB l := rfl
    rw [he, split_cons hx.1 hx.2, ih (fun y hy => h y (List.mem_cons_of_mem _ hy))]
theorem allB_snoc (l : List Fr) (x : Fr) : allB (l ++ [x]) = allB l ++ frB x := by simp [allB]
theorem all_loop (l : List Fr) (hl : fsum l < 4611686018427387904) (hr : ∀ x ∈ l, frR x = true) (d : Nat) : ∀ (k i : Nat), i + d = l.length → d + 13 ≤ k → interchangeref04_All.l0 k l (toBA (allB (l.take i))) (i : Int) = some (toBA (allB l)) := by
  have hlen : l.length ≤ fsum l := by
    clear hr hl
    induction l with
    | nil => exact Nat.le_refl _
    | cons x l ih => simp only [fsum, List.map_cons, List.sum_cons, List.length_cons] at ih ⊢; omega
  induction d with
  | zero =>
    intro k i h hk
    obtain ⟨k, rfl⟩ : ∃ j, k = j + 1 := ⟨k - 1, by omega⟩
    simp only [interchangeref04_All.l0]
    rw [if_neg (by omega), List.take_of_length_le (by omega)]
  | succ d ih =>
    intro k i h hk
    obtain ⟨k, rfl⟩ : ∃ j, k = j + 1 := ⟨k - 1, by omega⟩
    have hi : i < l.length := by omega
    simp only [interchangeref04_All.l0]
    rw [if_pos (by omega), if_pos (by omega), rd_get l i hi, rbytes_k (by omega), Option.bind_some, w_succ (by omega)]
    have hB : bytesR l[i].f0 l[i].f1 l[i].f2 = (toBA (frB l[i]), 0) := by
      unfold bytesR; rw [if_pos (show rightB l[i].f0 l[i].f1 l[i].f2 = true from hr _ (List.getElem_mem hi))]; rfl
    have ht : l.take (i + 1) = l.take i ++ [l[i]] := List.take_succ_eq_append_getElem hi
    rw [hB]
    simp only
    rw [toBA_append, ← allB_snoc, ← ht, if_pos, ih k (i + 1) (by omega) (by omega)]
    rw [toBA_size, toBA_size, ← List.length_append, ← allB_snoc, ← ht, allB_length]
    have : ∀ (l : List Fr) (i : Nat), fsum (l.take i) ≤ fsum l := by
      intro l
      induction l with
      | nil => intro i; simp [fsum]
      | cons x l ih =>
        intro i
        cases i with
        | zero => simp [fsum]
        | succ i => have := ih i; simp only [fsum, List.take_succ_cons, List.map_cons, List.sum_cons] at this ⊢; omega
    have := this l (i + 1)
    omega
theorem rows_loop (l : List Fr) (hlen : l.length ≤ 4398046511104) (d : Nat) : ∀ (k i : Nat), i + d = l.length → d + l.length + 100 ≤ k → (∀ x ∈ l.take i, frR x = true ∧ x.f2.size ≤ 4000) → interchangelaw04_FrameRows.l0 k l true (i : Int) = some true := by
  induction d with
  | zero =>
    intro k i h hk hr
    obtain ⟨k, rfl⟩ : ∃ j, k = j + 1 := ⟨k - 1, by omega⟩
    rw [List.take_of_length_le (by omega)] at hr
    simp only [interchangelaw04_FrameRows.l0]
    have hl := fsum_small l fun x hx => (hr x hx).2
    have ha : interchangeref04_All.f k l = some (toBA (allB l)) := all_loop l (by omega) (fun x hx => (hr x hx).1) l.length k 0 (by omega) (by omega)
    have hs := split_all 4096 l (fun x hx => ⟨(hr x hx).1, by have := (hr x hx).2; omega⟩)
    have m4 : mostN 4096 = 4096 := by decide
    rw [if_neg (by omega), ha, Option.bind_some, fsplit_big _ _ (by rw [toBA_size, allB_length]; omega) (by rw [m4, hs]; exact hlen), m4, hs, Option.bind_some]
    simp only
    rw [same_k l (by omega) (by omega), Option.bind_some, if_pos rfl, if_pos trivial, if_pos (toBA_toList _)]
    rfl
  | succ d ih =>
    intro k i h hk hr
    obtain ⟨k, rfl⟩ : ∃ j, k = j + 1 := ⟨k - 1, by omega⟩
    have hi : i < l.length := by omega
    simp only [interchangelaw04_FrameRows.l0]
    rw [if_pos (by omega), if_pos (by omega), rd_get l i hi, right_k (by omega), Option.bind_some, w_succ (by omega)]
    by_cases h1 : rightB l[i].f0 l[i].f1 l[i].f2 = true
    · rw [if_pos h1]
      by_cases h2 : (l[i].f2.size : Int) > 4000
      · rw [if_pos h2]
      · rw [if_neg h2]
        refine ih k (i + 1) (by omega) (by omega) ?_
        intro x hx
        rw [List.take_succ_eq_append_getElem hi, List.mem_append, List.mem_singleton] at hx
        rcases hx with hx | rfl
        · exact hr x hx
        · exact ⟨h1, by omega⟩
    · rw [if_neg h1]
theorem frameRows_pure (b0 : List Fr) (g0 : b0.length ≤ maxLen ∧ ∀ x ∈ b0, good_29 x) (z0 : b0.length * Tryd.prog.bytesOf 29 ≤ 140737488351232 ∧ ∀ x ∈ b0, sized_29 x) : ∃ k, interchangelaw04_FrameRows.f k b0 = some true := by
  have hb : Tryd.prog.bytesOf 29 = 32 := by kernel_rfl
  have hz := z0.1
  rw [hb] at hz
  obtain ⟨k, hk⟩ : ∃ k : Nat, b0.length + b0.length + 200 ≤ k := ⟨_, Nat.le_refl _⟩
  refine ⟨k, ?_⟩
  unfold interchangelaw04_FrameRows.f
  rw [shown_k (by omega), Option.bind_some]
  exact rows_loop b0 (by omega) b0.length k 0 (by omega) (by omega) (fun x hx => by simp at hx)
end Go.Proofs.YtdalcbhnnfabhaaDoor.F
