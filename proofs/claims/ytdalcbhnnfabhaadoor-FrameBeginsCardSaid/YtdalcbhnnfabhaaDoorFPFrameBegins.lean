/- The pure statement of FrameBegins. -/
import Derived.Test.YtdalcbhnnfabhaaDoorFPframe
import Derived.Test.YtdalcbhnnfabhaaDoorFPshown04
import Derived.Test.YtdalcbhnnfabhaaDoorFinterchangelaw04FrameBegins
namespace Go.Proofs.YtdalcbhnnfabhaaDoor.F
open Go.RowKit Go.Proofs.YtdalcbhnnfabhaaDoorW.PrintWords Go.Proofs.YtdalcbhnnfabhaaDoorW.PrintLast Go.Proofs.YtdalcbhnnfabhaaDoorW.PrintMore
set_option linter.unusedVariables false
set_option linter.unusedSimpArgs false
/-- How a side begins. -/
def headL : List UInt8 := [65, 77, 81, 80, 0, 0, 9, 1]
theorem prefix_f (s t : ByteArray) : strings_HasPrefix.f s t = some (decide (t.data.toList <+: s.data.toList)) := by
  unfold strings_HasPrefix.f stringslite_HasPrefix.f
  by_cases h : t.size ≤ s.size
  · rw [if_pos (by omega), if_pos (by omega), if_pos (by omega), Option.bind_some, Int.toNat_natCast, toList_data, toList_data, extract_take, toBA_list]
    congr 1
    rw [Bool.eq_iff_iff, beq_iff_eq, decide_eq_true_iff, List.prefix_iff_eq_take, size_list]
    exact eq_comm
  · rw [if_neg (by omega), Option.bind_some]
    congr 1
    symm
    rw [decide_eq_false_iff_not]
    intro hp
    have := hp.length_le
    rw [size_list, size_list] at this
    exact h this
def beginCode (l : List UInt8) : Int := if headL <+: l then 0 else if l <+: headL then 2 else 3
def beginRest (l : List UInt8) : ByteArray := if headL <+: l then toBA (l.drop 8) else ⟨#[]⟩
theorem begins_f (s : ByteArray) : frame_Begins.f s = some (beginRest s.data.toList, beginCode s.data.toList) := by
  unfold frame_Begins.f
  have hh : frame_Header.f = some (toBA headL) := rfl
  rw [hh, Option.bind_some, prefix_f, Option.bind_some, toBA_list]
  unfold beginCode beginRest
  by_cases h : headL <+: s.data.toList
  · have hl := h.length_le
    rw [size_list] at hl
    have e8 : (toBA headL).size = 8 := rfl
    have e8' : headL.length = 8 := rfl
    rw [decide_eq_true h, if_pos rfl, e8, if_pos (by decide), if_pos (by omega), if_pos h, if_pos h, Int.toNat_natCast, extract_drop]
  · rw [decide_eq_false h, if_neg (by decide), prefix_f, Option.bind_some, toBA_list, if_neg h, if_neg h]
    by_cases h2 : s.data.toList <+: headL
    · rw [decide_eq_true h2, if_pos rfl, if_pos h2]
    · rw [decide_eq_false h2, if_neg (by decide), if_neg h2]
theorem pre_take {a b : List UInt8} (h : a.take a.length = b.take a.length) : a <+: b := by
  rw [List.take_length] at h
  rw [List.prefix_iff_eq_take]; exact h
theorem not_pre {a b : List UInt8} {i : Nat} (ha : i < a.length) (hb : i < b.length) (h : a[i] ≠ b[i]) : ¬ a <+: b := by
  intro hp
  exact h (hp.getElem ha)
theorem begins_loop (s : ByteArray) (hz : s.size ≤ 140737488351232) (d : Nat) : ∀ (k i : Nat), i + d = 8 → d < k → i ≤ s.size → s.data.toList.take i = headL.take i →
    interchangelaw04_FrameBegins.l0 k s true (toBA headL) (beginCode s.data.toList) (i : Int) = some true := by
  have e8 : (toBA headL).size = 8 := rfl
  have e8' : headL.length = 8 := rfl
  have sl := size_list s
  induction d with
  | zero =>
    intro k i hi hk hs ht
    obtain ⟨k, rfl⟩ : ∃ j, k = j + 1 := ⟨k - 1, by omega⟩
    obtain rfl : i = 8 := by omega
    have hp : headL <+: s.data.toList := pre_take (by rw [e8', ← ht])
    have hc : beginCode s.data.toList = 0 := by unfold beginCode; rw [if_pos hp]
    simp only [interchangelaw04_FrameBegins.l0, e8, hc]
    by_cases h : s.size = 8
    · rw [h, if_neg (by omega), if_pos trivial, if_pos (by decide), if_pos rfl]; rfl
    · rw [if_pos (by omega), if_neg (by omega), if_pos trivial, if_pos (by decide), if_neg (by omega)]; rfl
  | succ d ih =>
    intro k i hi hk hs ht
    obtain ⟨k, rfl⟩ : ∃ j, k = j + 1 := ⟨k - 1, by omega⟩
    simp only [interchangelaw04_FrameBegins.l0, e8]
    by_cases hlt : i < s.size
    · rw [if_pos (by omega), if_pos (by omega), if_pos (by omega), bt_get s i hlt, bt_get (toBA headL) i (by rw [e8]; omega)]
      by_cases hb : s.data.toList[i]'(by omega) = headL[i]'(by omega)
      · rw [if_pos (by simp only [toBA_list, hb]), w_succ (by omega)]
        refine ih k (i + 1) (by omega) (by omega) (by omega) ?_
        rw [List.take_succ_eq_append_getElem (by omega), List.take_succ_eq_append_getElem (by omega), ht, hb]
      · rw [if_neg (by
          simp only [toBA_list]
          intro hh
          exact hb (UInt8.toNat_inj.1 (Int.ofNat.inj hh))), if_pos trivial]
        have hc : beginCode s.data.toList = 3 := by
          unfold beginCode
          rw [if_neg (not_pre (by omega) (by omega) (fun hh => hb hh.symm)), if_neg (not_pre (by omega) (by omega) hb)]
        rw [hc, if_pos (by decide), if_neg (by omega)]; rfl
    · obtain rfl : i = s.size := by omega
      have hp : s.data.toList <+: headL := pre_take (by rw [sl, ht])
      have hn : ¬ headL <+: s.data.toList := by
        intro hh
        have := hh.length_le
        omega
      have hc : beginCode s.data.toList = 2 := by unfold beginCode; rw [if_neg hn, if_pos hp]
      rw [if_neg (by omega), if_pos trivial, hc, if_pos (by decide), if_pos rfl]
      rw [show decide ((s.size : Int) < ((8 : Nat) : Int)) = true from decide_eq_true (by omega)]
      rfl
theorem frameBegins_pure (b0 b1 : ByteArray) (g0 : b0.size ≤ maxLen) (g1 : b1.size ≤ maxLen) (z0 : b0.size ≤ 140737488351232) (z1 : b1.size ≤ 140737488351232) : ∃ k, interchangelaw04_FrameBegins.f k b0 b1 = some true := by
  refine ⟨20, ?_⟩
  unfold interchangelaw04_FrameBegins.f
  have hh : frame_Header.f = some (toBA headL) := rfl
  have e8 : (toBA headL).size = 8 := rfl
  have hp : headL <+: (toBA headL ++ b1).data.toList := by rw [append_data, toBA_list]; exact List.prefix_append _ _
  have hd : (toBA headL ++ b1).data.toList.drop 8 = b1.data.toList := by rw [append_data, toBA_list]; rfl
  rw [shown_k (by decide), Option.bind_some, hh, Option.bind_some, e8, if_pos (by omega), begins_f, Option.bind_some]
  unfold beginRest
  rw [show beginCode (toBA headL ++ b1).data.toList = 0 by unfold beginCode; rw [if_pos hp], if_pos hp, hd]
  simp only [if_true]
  rw [← toBA_of b1, if_pos rfl]
  simp only [interchangelaw04_FrameBegins.j0, begins_f, Option.bind_some]
  rw [show ((((8 : Nat) : Int)) != 8) = false from rfl, if_neg (by decide)]
  exact begins_loop b0 z0 8 19 0 rfl (by decide) (by omega) rfl
end Go.Proofs.YtdalcbhnnfabhaaDoor.F
