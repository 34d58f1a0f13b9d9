/- The pure statement of DialAgrees. -/
import Derived.Test.YtoldelpmmlpgjaaDoorFPdial
import Derived.Test.YtoldelpmmlpgjaaDoorFPzeros
import Derived.Test.YtoldelpmmlpgjaaDoorFinterchangelaw11DialAgrees
namespace Go.Proofs.YtoldelpmmlpgjaaDoor.F
open Go.RowKit Go.Proofs.YtoldelpmmlpgjaaDoorW.PrintWords Go.Proofs.YtoldelpmmlpgjaaDoorW.PrintLast Go.Proofs.YtoldelpmmlpgjaaDoorW.PrintMore
set_option linter.unusedVariables false
set_option linter.unusedSimpArgs false
/-! ### the reference's Agree -/
theorem rright_f (a b c : Int) : interchangeref10_Right.f a b c = some (rightT a b c) := by
  have hi := right_iff a b c
  unfold interchangeref10_Right.f
  by_cases h : 1 ≤ a ∧ a ≤ 65535 ∧ 4096 ≤ b ∧ b ≤ 131072 ∧ 0 ≤ c ∧ c ≤ 65535
  · rw [hi.2 h, if_pos (by omega), if_pos (by omega), if_pos (by omega), if_pos (by omega), if_pos (by omega), decide_eq_true (by omega)]
  · have hf : rightT a b c = false := by
      cases e : rightT a b c with
      | true => exact absurd (hi.1 e) h
      | false => rfl
    rw [hf]
    by_cases h1 : a ≥ 1
    · rw [if_pos h1]
      by_cases h2 : a ≤ 65535
      · rw [if_pos h2]
        by_cases h3 : b ≥ 4096
        · rw [if_pos h3]
          by_cases h4 : b ≤ 131072
          · rw [if_pos h4]
            by_cases h5 : c ≥ 0
            · rw [if_pos h5, decide_eq_false (by omega)]
            · rw [if_neg h5]
          · rw [if_neg h4]
        · rw [if_neg h3]
      · rw [if_neg h2]
    · rw [if_neg h1]
theorem rlesser_f (a b : Int) (h : 0 ≤ b) : interchangeref11_lesser.f a b = some (lesserI a b) := by
  unfold interchangeref11_lesser.f lesserI
  by_cases h0 : b = 0
  · rw [if_neg (by omega), if_pos h0]
  · rw [if_pos (by omega), if_neg h0]
    by_cases h1 : b < a
    · rw [if_pos h1, if_pos h1]
    · rw [if_neg h1, if_neg h1]
theorem ragree_j1 {k : Nat} (hk : 1 ≤ k) (m0 m1 m2 t0 t1 t2 : Int) (h0 : 0 ≤ t0) (h1 : 0 ≤ t1) (b : Bool) (hb : b = decide (0 < t1 ∧ t1 < 4096)) :
    interchangeref11_Agree.j1 k b m0 m1 m2 t0 t1 t2 = some (if 0 < t1 ∧ t1 < 4096 then (0, 0, 0, 16) else (lesserI m0 t0, lesserI m1 t1, (if t2 < m2 then t2 else m2), 0)) := by
  obtain ⟨k, rfl⟩ : ∃ j, k = j + 1 := ⟨k - 1, by omega⟩
  subst hb
  simp only [interchangeref11_Agree.j1]
  by_cases h : 0 < t1 ∧ t1 < 4096
  · rw [decide_eq_true h, if_pos rfl, if_pos h]
  · rw [decide_eq_false h, if_neg (by decide), if_neg h, rlesser_f _ _ h0, Option.bind_some, rlesser_f _ _ h1, Option.bind_some]
    by_cases h2 : t2 < m2
    · rw [if_pos h2, if_pos h2]
    · rw [if_neg h2, if_neg h2]
theorem ragree_j0 {k : Nat} (hk : 2 ≤ k) (m0 m1 m2 t0 t1 t2 : Int) (h0 : 0 ≤ t0) (h1 : 0 ≤ t1) : interchangeref11_Agree.j0 k false m0 m1 m2 t0 t1 t2 = some (if 0 < t1 ∧ t1 < 4096 then (0, 0, 0, 16) else (lesserI m0 t0, lesserI m1 t1, (if t2 < m2 then t2 else m2), 0)) := by
  obtain ⟨k, rfl⟩ : ∃ j, k = j + 1 := ⟨k - 1, by omega⟩
  simp only [interchangeref11_Agree.j0]
  rw [if_neg (by decide)]
  by_cases h : t1 ≥ 1
  · rw [if_pos h, ragree_j1 (by omega) _ _ _ _ _ _ h0 h1 _ (decide_eq_decide.2 (by omega))]
  · rw [if_neg h, ragree_j1 (by omega) _ _ _ _ _ _ h0 h1 _ (decide_eq_false (by omega)).symm]
theorem ragree_j0t {k : Nat} (hk : 1 ≤ k) (m0 m1 m2 t0 t1 t2 : Int) : interchangeref11_Agree.j0 k true m0 m1 m2 t0 t1 t2 = some (0, 0, 0, 1) := by
  obtain ⟨k, rfl⟩ : ∃ j, k = j + 1 := ⟨k - 1, by omega⟩
  simp only [interchangeref11_Agree.j0]
  rw [if_pos trivial]
theorem ragree_k {k : Nat} (hk : 3 ≤ k) (m0 m1 m2 t0 t1 t2 : Int) : interchangeref11_Agree.f k m0 m1 m2 t0 t1 t2 = some (agreeR m0 m1 m2 t0 t1 t2) := by
  unfold interchangeref11_Agree.f agreeR
  rw [rright_f, Option.bind_some]
  by_cases hr : rightT m0 m1 m2 = true
  · rw [if_pos hr]
    by_cases h0 : t0 < 0
    · rw [if_pos h0, ragree_j0t (by omega), if_neg (by omega)]
    · rw [if_neg h0]
      by_cases h1 : t1 < 0
      · rw [if_pos h1, ragree_j0t (by omega), if_neg (by omega)]
      · rw [if_neg h1]
        by_cases h2 : t2 < 0
        · rw [decide_eq_true h2, ragree_j0t (by omega), if_neg (by omega)]
        · rw [decide_eq_false h2, ragree_j0 (by omega) _ _ _ _ _ _ (by omega) (by omega), if_pos (show rightT m0 m1 m2 = true ∧ 0 ≤ t0 ∧ 0 ≤ t1 ∧ 0 ≤ t2 from ⟨hr, by omega, by omega, by omega⟩)]
  · rw [if_neg hr, ragree_j0t (by omega), if_neg (fun h => hr h.1)]
/-! ### Begin -/
theorem zero_loop (s : ByteArray) (hs : s.size ≤ 140737488351232) (d : Nat) : ∀ (k i : Nat), i + d = s.size → d < k → interchangeref11_zero.l0 k s (i : Int) = some (decide ((0 : UInt8) ∈ s.data.toList.drop i)) := by
  induction d with
  | zero =>
    intro k i h hk
    obtain ⟨k, rfl⟩ : ∃ j, k = j + 1 := ⟨k - 1, by omega⟩
    simp only [interchangeref11_zero.l0]
    rw [if_neg (by omega), List.drop_of_length_le (by rw [size_list]; omega)]
    rfl
  | succ d ih =>
    intro k i h hk
    obtain ⟨k, rfl⟩ : ∃ j, k = j + 1 := ⟨k - 1, by omega⟩
    have hd : s.data.toList.drop i = s.data.toList[i]'(by rw [size_list]; omega) :: s.data.toList.drop (i + 1) := List.drop_eq_getElem_cons (by rw [size_list]; omega)
    simp only [interchangeref11_zero.l0]
    rw [if_pos (by omega), if_pos (by omega), bt_get s i (by omega), w_succ (by omega), ih k (i + 1) (by omega) (by omega), hd]
    generalize hc : s.data.toList[i]'(by rw [size_list]; omega) = c
    by_cases z : c = 0
    · subst z
      rw [if_pos (show (((0 : UInt8).toNat : Nat) : Int) = 0 from rfl), decide_eq_true List.mem_cons_self]
    · have hz : ¬ (c.toNat : Int) = 0 := by
        intro e; apply z; rw [← UInt8.toNat_inj]; show _ = 0; omega
      rw [if_neg hz]
      refine congrArg some (decide_eq_decide.2 ?_)
      simp only [List.mem_cons]
      exact ⟨fun h => .inr h, fun h => h.elim (fun e => absurd e.symm z) id⟩
theorem zero_k {k : Nat} (s : ByteArray) (hs : s.size ≤ 140737488351232) (hk : s.size < k) : interchangeref11_zero.f k s = some (decide ((0 : UInt8) ∈ s.data.toList)) := by
  unfold interchangeref11_zero.f
  exact zero_loop s hs s.size k 0 (by omega) hk
theorem dcontains_f (s : ByteArray) : strings_Contains.f s (⟨#[0]⟩ : ByteArray) = some (decide ((0 : UInt8) ∈ s.data.toList)) := by
  unfold strings_Contains.f strings_Index.f
  have hidx : stringslite_Index.f s (⟨#[0]⟩ : ByteArray) = some (Lib.indexByte s.data.toList 0) := rfl
  rw [hidx, Option.bind_some, Option.bind_some]
  refine congrArg some (decide_eq_decide.2 ?_)
  have hg := Lib.indexByte_ge s.data.toList 0
  have hn := ib_none 0 s.data.toList
  constructor
  · intro h
    by_cases m : (0 : UInt8) ∈ s.data.toList
    · exact m
    · have := hn.2 m; omega
  · intro h
    by_cases m : Lib.indexByte s.data.toList 0 = -1
    · exact absurd h (hn.1 m)
    · omega
theorem begins_same {k : Nat} (m0 m1 m2 : Int) (u w h : ByteArray) (hu : u.size ≤ 140737488351232) (hw : w.size ≤ 140737488351232) (hk : 140737488351232 < k) : ∃ X, dial_Begin.f m0 m1 m2 u w h = some X ∧ interchangeref11_Begin.f k m0 m1 m2 u w h = some X := by
  unfold dial_Begin.f interchangeref11_Begin.f serve_Right.f
  rw [rright_f, Option.bind_some, Option.bind_some, zero_k u hu (by omega), Option.bind_some, zero_k w hw (by omega), Option.bind_some, dcontains_f, Option.bind_some]
  rw [append_data]
  simp only [List.mem_append]
  by_cases hr : rightT m0 m1 m2 = true
  · rw [hr]
    by_cases zu : (0 : UInt8) ∈ u.data.toList
    · refine ⟨_, ?_, by rw [decide_eq_true zu]; simp only [if_true]; rfl⟩
      rw [if_pos rfl, decide_eq_true (.inl zu)]
      split
      · rfl
      · rw [if_pos (by omega), if_pos rfl]
    · by_cases zw : (0 : UInt8) ∈ w.data.toList
      · refine ⟨_, ?_, by rw [decide_eq_false zu, decide_eq_true zw]; simp only [if_true, Bool.false_eq_true, if_false]; rfl⟩
        rw [if_pos rfl, decide_eq_true (.inr zw)]
        split
        · rfl
        · rw [if_pos (by omega), if_pos rfl]
      · rw [decide_eq_false zu, decide_eq_false zw, decide_eq_false (fun hh : _ ∨ _ => hh.elim zu zw)]
        simp only [if_true, Bool.false_eq_true, if_false]
        by_cases hl : (h.size : Int) > 255
        · rw [if_pos hl, if_pos hl]; exact ⟨_, rfl, rfl⟩
        · rw [if_neg hl, if_neg hl, if_pos (show u.size + w.size ≤ 9223372036854775807 by omega)]; exact ⟨_, rfl, rfl⟩
  · rw [Bool.not_eq_true] at hr
    rw [hr]
    refine ⟨(0, 0, 0, 0, (⟨#[]⟩ : ByteArray), (⟨#[]⟩ : ByteArray), (⟨#[]⟩ : ByteArray), 1), rfl, ?_⟩
    by_cases zu : (0 : UInt8) ∈ u.data.toList
    · rw [decide_eq_true zu]; rfl
    · rw [decide_eq_false zu]; rfl
/-! ### the reference's Offers -/
theorem roffers_loop (s w : ByteArray) (hs : s.size ≤ 140737488351232) (d : Nat) : ∀ (k i j : Nat), i + d = s.size → j ≤ i → 2 * d + 4 ≤ k → (32 : UInt8) ∉ (s.data.toList.drop j).take (i - j) →
    interchangeref11_Offers.l0 k s w (j : Int) (i : Int) = some (offL (s.data.toList.drop j) w.data.toList) := by
  have wnil : w.toList = ([] : List UInt8) ↔ w.data.toList = [] := by rw [toList_data]
  induction d with
  | zero =>
    intro k i j h hj hk hc
    obtain ⟨k, rfl⟩ : ∃ q, k = q + 1 + 1 + 1 := ⟨k - 3, by omega⟩
    obtain rfl : i = s.size := by omega
    have hall : (s.data.toList.drop j).take (s.size - j) = s.data.toList.drop j := List.take_of_length_le (by rw [List.length_drop, size_list]; omega)
    rw [hall] at hc
    simp only [interchangeref11_Offers.l0, interchangeref11_Offers.j1]
    rw [if_pos (by omega), if_pos trivial, if_pos trivial, w_succ (by omega)]
    have hsp : offL (s.data.toList.drop j) w.data.toList = (decide (w.data.toList ≠ []) && decide (w.data.toList = s.data.toList.drop j)) := by
      unfold offL; rw [sp_none _ hc]; simp only [List.mem_singleton]
    have hx : s.extract j s.size = toBA (s.data.toList.drop j) := extract_drop _ _
    by_cases hw : w.data.toList = []
    · rw [if_pos (wnil.2 hw), if_neg (by omega), hsp, decide_eq_false (show ¬ w.data.toList ≠ [] from fun hn => hn hw), Bool.false_and]
    · rw [if_neg (fun hn => hw (wnil.1 hn)), if_pos (by omega), if_pos (by omega), if_pos (by omega), Int.toNat_natCast, Int.toNat_natCast, hx, toList_data, toList_data, toBA_list, hsp, decide_eq_true hw, Bool.true_and]
      by_cases he : s.data.toList.drop j = w.data.toList
      · rw [if_pos he, decide_eq_true he.symm]
      · rw [if_neg he, if_neg (by omega), decide_eq_false (fun hn => he hn.symm)]
  | succ d ih =>
    intro k i j h hj hk hc
    obtain ⟨k, rfl⟩ : ∃ q, k = q + 1 + 1 := ⟨k - 2, by omega⟩
    have hi : i < s.size := by omega
    simp only [interchangeref11_Offers.l0, interchangeref11_Offers.j1]
    rw [if_pos (by omega), if_neg (by omega), if_pos (by omega), if_pos (by omega), bt_get s i hi, w_succ (by omega)]
    have htk : (s.data.toList.drop j).take (i + 1 - j) = (s.data.toList.drop j).take (i - j) ++ [s.data.toList[i]'(by rw [size_list]; exact hi)] := by
      rw [show i + 1 - j = (i - j) + 1 by omega, List.take_succ_eq_append_getElem (by rw [List.length_drop, size_list]; omega)]
      congr 2
      rw [List.getElem_drop]
      congr 1
      omega
    have hsplit : s.data.toList.drop j = (s.data.toList.drop j).take (i - j) ++ s.data.toList[i]'(by rw [size_list]; exact hi) :: s.data.toList.drop (i + 1) := by
      have e : (s.data.toList.drop j).drop (i - j) = s.data.toList.drop i := by rw [List.drop_drop]; congr 1; omega
      have hd : s.data.toList.drop i = s.data.toList[i]'(by rw [size_list]; exact hi) :: s.data.toList.drop (i + 1) := List.drop_eq_getElem_cons (by rw [size_list]; exact hi)
      rw [← hd, ← e, List.take_append_drop]
    by_cases z : s.data.toList[i]'(by rw [size_list]; exact hi) = 32
    · have hz : (((s.data.toList[i]'(by rw [size_list]; exact hi)).toNat : Int) == 32) = true := by rw [z]; rfl
      have hn := ih k (i + 1) (i + 1) (by omega) (Nat.le_refl _) (by omega) (by simp)
      rw [z] at hsplit
      have hsp : offL (s.data.toList.drop j) w.data.toList = (decide (w.data.toList ≠ []) && (decide (w.data.toList = (s.data.toList.drop j).take (i - j)) || decide (w.data.toList ∈ sp (s.data.toList.drop (i + 1))))) := by
        unfold offL
        conv => lhs; rw [hsplit, sp_app, sp_none _ hc]
        congr 1
        rw [Bool.eq_iff_iff]
        simp
      have hx : s.extract j i = toBA ((s.data.toList.drop j).take (i - j)) := eq_of_list (by rw [Lib.extract_data, toBA_list])
      rw [if_pos hz]
      by_cases hw : w.data.toList = []
      · rw [if_pos (wnil.2 hw), hn, hsp]
        unfold offL
        rw [decide_eq_false (show ¬ w.data.toList ≠ [] from fun hn => hn hw), Bool.false_and, Bool.false_and]
      · rw [if_neg (fun hn => hw (wnil.1 hn)), if_pos (by omega), if_pos (by omega), if_pos (by omega), Int.toNat_natCast, Int.toNat_natCast, hx, toList_data, toList_data, toBA_list, hsp, decide_eq_true hw, Bool.true_and]
        by_cases he : (s.data.toList.drop j).take (i - j) = w.data.toList
        · rw [if_pos he, decide_eq_true he.symm, Bool.true_or]
        · rw [if_neg he, hn, decide_eq_false (fun hn => he hn.symm), Bool.false_or]
          unfold offL
          rw [decide_eq_true hw, Bool.true_and]
    · have hz : (((s.data.toList[i]'(by rw [size_list]; exact hi)).toNat : Int) == 32) = false := by
        rw [beq_eq_false_iff_ne]
        intro e; apply z; rw [← UInt8.toNat_inj]; show _ = 32; omega
      rw [hz, if_neg (by decide)]
      refine ih k (i + 1) j (by omega) (by omega) (by omega) ?_
      rw [htk, List.mem_append, not_or]
      exact ⟨hc, fun hm => z (List.mem_singleton.1 hm).symm⟩
theorem roffers_k {k : Nat} (s w : ByteArray) (hs : s.size ≤ 140737488351232) (hk : 2 * s.size + 4 ≤ k) : interchangeref11_Offers.f k s w = some (offL s.data.toList w.data.toList) := by
  unfold interchangeref11_Offers.f
  exact roffers_loop s w hs s.size k 0 0 (by omega) (Nat.le_refl _) hk (by simp)
theorem dialAgrees_pure (b0 : (Int × Int × Int) × (Int × Int × Int) × ByteArray × ByteArray × ByteArray)
    {G : Prop} (g0 : G) (z0 : (True ∧ True ∧ True) ∧ (True ∧ True ∧ True) ∧ b0.2.2.1.size ≤ 140737488351232 ∧ b0.2.2.2.1.size ≤ 140737488351232 ∧ b0.2.2.2.2.size ≤ 140737488351232) : ∃ k, interchangelaw11_DialAgrees.f k b0.1.1 b0.1.2.1 b0.1.2.2 b0.2.1.1 b0.2.1.2.1 b0.2.1.2.2 b0.2.2.1 b0.2.2.2.1 b0.2.2.2.2 = some true := by
  obtain ⟨⟨m0, m1, m2⟩, ⟨t0, t1, t2⟩, u, w, h⟩ := b0
  obtain ⟨_, _, zu, zw, zh⟩ := z0
  dsimp only at zu zw zh
  clear g0
  simp only
  obtain ⟨k, hk⟩ : ∃ k : Nat, 1000000000000000 ≤ k := ⟨1000000000000000, Nat.le_refl _⟩
  refine ⟨k, ?_⟩
  obtain ⟨X, x1, x2⟩ := begins_same (k := k) m0 m1 m2 u w h (by omega) (by omega) (by omega)
  unfold interchangelaw11_DialAgrees.f
  rw [shown_k (by omega), Option.bind_some, agree_k (by omega), Option.bind_some, ragree_k (by omega), Option.bind_some, x1, Option.bind_some, x2, Option.bind_some, offers_f u w (by omega), roffers_k u w (by omega) (by omega)]
  generalize agreeR m0 m1 m2 t0 t1 t2 = A
  simp
end Go.Proofs.YtoldelpmmlpgjaaDoor.F
