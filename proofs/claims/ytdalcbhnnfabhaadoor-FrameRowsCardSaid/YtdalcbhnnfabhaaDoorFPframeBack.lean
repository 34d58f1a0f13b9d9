/- A frame that was laid is taken, what is taken is laid as it was; bytes that a first piece ends. -/
import Derived.Test.YtdalcbhnnfabhaaDoorFPframeTake
namespace Go.Proofs.YtdalcbhnnfabhaaDoor.F
open Go.RowKit Go.Proofs.YtdalcbhnnfabhaaDoorW.PrintWords Go.Proofs.YtdalcbhnnfabhaaDoorW.PrintLast Go.Proofs.YtdalcbhnnfabhaaDoorW.PrintMore
set_option linter.unusedVariables false
set_option linter.unusedSimpArgs false

theorem be_one (b : UInt8) : be 1 b.toNat = [b] := by
  have := be_beNum [b]
  simpa [beNum] using this
theorem beNum_one (b : UInt8) : beNum [b] = b.toNat := by simp [beNum]
theorem split_at (l : List UInt8) (n : Nat) (h : 7 + n < l.length) :
    l = [l.headD 1] ++ (l.drop 1).take 2 ++ (l.drop 3).take 4 ++ (l.drop 7).take n ++ [(l.drop (7 + n)).headD 0] ++ l.drop (8 + n) := by
  have e1 : l = [l.headD 1] ++ l.drop 1 := by
    cases l with
    | nil => simp at h
    | cons b r => rfl
  have e2 : l.drop 1 = (l.drop 1).take 2 ++ l.drop 3 := by
    conv => lhs; rw [← List.take_append_drop 2 (l.drop 1), List.drop_drop]
  have e3 : l.drop 3 = (l.drop 3).take 4 ++ l.drop 7 := by
    conv => lhs; rw [← List.take_append_drop 4 (l.drop 3), List.drop_drop]
  have e4 : l.drop 7 = (l.drop 7).take n ++ l.drop (7 + n) := by
    conv => lhs; rw [← List.take_append_drop n (l.drop 7), List.drop_drop]
  have e5 : l.drop (7 + n) = [(l.drop (7 + n)).headD 0] ++ l.drop (8 + n) := by
    rw [headD_drop l _ h]
    conv => lhs; rw [List.drop_eq_getElem_cons h]
    rw [show 7 + n + 1 = 8 + n by omega]
    rfl
  conv => lhs; rw [e1, e2, e3, e4, e5]
  simp only [List.append_assoc]
theorem take_ok {M : Nat} {l : List UInt8} (h : (takeL M l).2.2.2.2 = 0) :
    rightB (takeL M l).1 (takeL M l).2.1 (takeL M l).2.2.1 = true ∧ bytesL (takeL M l).1 (takeL M l).2.1 (takeL M l).2.2.1 ++ (takeL M l).2.2.2.1.data.toList = l ∧ (takeL M l).2.2.1.size + 8 ≤ M := by
  unfold takeL at h ⊢
  split at h
  · exact absurd h (by decide)
  split at h
  · exact absurd h (by decide)
  split at h
  · exact absurd h (by decide)
  split at h
  · exact absurd h (by decide)
  split at h
  rotate_left
  · exact absurd h (by decide)
  rename_i h1 h2 h3 h4 h5
  rw [if_neg h1, if_neg h2, if_neg h3, if_neg h4, if_pos h5]
  simp only []
  have hs := split_at l (beNum ((l.drop 3).take 4)) (by omega)
  generalize hN : beNum ((l.drop 3).take 4) = n at *
  have hl : ((l.drop 7).take n).length = n := by rw [List.length_take, List.length_drop]; omega
  refine ⟨h5.2, ?_, ?_⟩
  · have e1 : be 1 (((l.headD 1).toNat : Int)).toNat = [l.headD 1] := by rw [Int.toNat_natCast, be_one]
    have e2 : be 2 (((beNum ((l.drop 1).take 2) : Nat) : Int)).toNat = (l.drop 1).take 2 := by
      have := be_beNum ((l.drop 1).take 2)
      rw [show ((l.drop 1).take 2).length = 2 by rw [List.length_take, List.length_drop]; omega] at this
      rw [Int.toNat_natCast, this]
    have e3 : be 4 (toBA ((l.drop 7).take n)).size = (l.drop 3).take 4 := by
      have := be_beNum ((l.drop 3).take 4)
      rw [show ((l.drop 3).take 4).length = 4 by rw [List.length_take, List.length_drop]; omega, hN] at this
      rw [toBA_size, hl, this]
    rw [bytesL, e1, e2, e3, toBA_list, toBA_list]
    rw [h5.1] at hs
    exact hs.symm
  · rw [toBA_size, hl]; omega
theorem take_bytes {M : Nat} {ty ch : Int} {d : ByteArray} (hr : rightB ty ch d = true) (hM : d.size + 8 ≤ M) (t : List UInt8) : takeL M (bytesL ty ch d ++ t) = (ty, ch, d, toBA t, 0) := by
  have hs := right_size hr
  obtain ⟨c0, c1⟩ := right_chan hr
  have ht := kind_cases (right_kind hr)
  have t0 : 0 ≤ ty ∧ ty < 256 := by omega
  have s1 := be_length 1 ty.toNat
  have s2 := be_length 2 ch.toNat
  have s4 := be_length 4 d.size
  have b1 := beNum_be 1 ty.toNat (by omega)
  have b2 := beNum_be 2 ch.toNat (by omega)
  have b4 := beNum_be 4 d.size (by omega)
  have sd := size_list d
  have hd : toBA d.data.toList = d := (toBA_of d).symm
  unfold bytesL
  generalize be 1 ty.toNat = l1 at *
  generalize be 2 ch.toNat = l2 at *
  generalize be 4 d.size = l4 at *
  obtain ⟨x, rfl⟩ : ∃ x, l1 = [x] := List.length_eq_one_iff.1 s1
  rw [beNum_one] at b1
  have q1 : ((([x] ++ l2 ++ l4 ++ d.data.toList ++ [206] ++ t).headD 1).toNat : Int) = ty := by
    show (x.toNat : Int) = ty
    omega
  have hlen : ([x] ++ l2 ++ l4 ++ d.data.toList ++ [206] ++ t).length = d.size + 8 + t.length := by
    simp only [List.length_append, List.length_cons, List.length_nil, s2, s4, sd]; omega
  have q2 : ((([x] ++ l2 ++ l4 ++ d.data.toList ++ [206] ++ t).drop 1).take 2) = l2 := by
    simp only [List.append_assoc, List.cons_append, List.nil_append, List.drop_succ_cons, List.drop_zero]
    rw [List.take_append_of_le_length (by omega), List.take_of_length_le (by omega)]
  have q4 : ((([x] ++ l2 ++ l4 ++ d.data.toList ++ [206] ++ t).drop 3).take 4) = l4 := by
    simp only [List.append_assoc, List.cons_append, List.nil_append, List.drop_succ_cons]
    rw [List.drop_append_of_le_length (by omega), List.drop_of_length_le (by omega), List.nil_append, List.take_append_of_le_length (by omega), List.take_of_length_le (by omega)]
  have q7 : ([x] ++ l2 ++ l4 ++ d.data.toList ++ [206] ++ t).drop 7 = d.data.toList ++ ([206] ++ t) := by
    have : ([x] ++ l2 ++ l4 ++ d.data.toList ++ [206] ++ t) = ([x] ++ l2 ++ l4) ++ (d.data.toList ++ ([206] ++ t)) := by simp only [List.append_assoc]
    rw [this, List.drop_append_of_le_length (by simp only [List.length_append, List.length_cons, List.length_nil]; omega), List.drop_of_length_le (by simp only [List.length_append, List.length_cons, List.length_nil]; omega), List.nil_append]
  have qn : ([x] ++ l2 ++ l4 ++ d.data.toList ++ [206] ++ t).drop (7 + d.size) = [206] ++ t := by
    rw [← List.drop_drop, q7, List.drop_append_of_le_length (by omega), List.drop_of_length_le (by omega), List.nil_append]
  have q8 : ([x] ++ l2 ++ l4 ++ d.data.toList ++ [206] ++ t).drop (8 + d.size) = t := by
    rw [show 8 + d.size = (7 + d.size) + 1 by omega, ← List.drop_drop, qn]
    rfl
  have ec : ((ch.toNat : Nat) : Int) = ch := by omega
  unfold takeL
  rw [q1, q2, q4, b4, b2, hlen, q7, qn, q8, ec, List.take_append_of_le_length (by omega), List.take_of_length_le (by omega), hd, right_kind hr, if_neg (by decide), if_neg (by omega), if_neg (by omega), if_neg (by omega), if_pos ⟨rfl, hr⟩]
theorem take_bad {M : Nat} {l : List UInt8} (hM : 4096 ≤ M) (h : (takeL M l).2.2.2.2 ≠ 0) : takeL M l = errF ∨ takeL M l = errM ∧ l.length < M := by
  unfold takeL at h ⊢
  split
  · exact .inl rfl
  split
  · exact .inr ⟨rfl, by omega⟩
  split
  · exact .inl rfl
  split
  · exact .inr ⟨rfl, by omega⟩
  split
  · rename_i h1 h2 h3 h4 h5
    rw [if_neg h1, if_neg h2, if_neg h3, if_neg h4, if_pos h5] at h
    exact absurd rfl h
  · exact .inl rfl
end Go.Proofs.YtdalcbhnnfabhaaDoor.F
