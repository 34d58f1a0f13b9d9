/- The pure statement of NumBitsBack. -/
import Derived.Test.YtpcfpeejbhkbdaaDoorFPtakeBits
import Derived.Test.YtpcfpeejbhkbdaaDoorFPbitsput
import Derived.Test.YtpcfpeejbhkbdaaDoorFPrefBools
import Derived.Test.YtpcfpeejbhkbdaaDoorFinterchangelaw01NumBitsBack
namespace Go.Proofs.YtpcfpeejbhkbdaaDoor.F
open Go.RowKit Go.Proofs.YtpcfpeejbhkbdaaDoorW.PrintWords Go.Proofs.YtpcfpeejbhkbdaaDoorW.PrintLast Go.Proofs.YtpcfpeejbhkbdaaDoorW.PrintMore
set_option linter.unusedVariables false
set_option linter.unusedSimpArgs false
theorem bt_toBA (a : List UInt8) (i : Nat) (h : i < a.length) : (bt (toBA a) (i : Int)).toNat = (a[i]).toNat := by
  rw [bt_get (toBA a) i (by rw [toBA_size]; exact h)]
  rfl
theorem bitAt_bits (l : List Bool) (more : ByteArray) (i : Nat) (h : i < 8 * ((l.length + 7) / 8)) : bitAt (bitsR l ++ more) i = l.getD i false := by
  have e : bitsR l ++ more = toBA (((List.range ((l.length + 7) / 8)).map fun g => UInt8.ofNat (byteAll l g)) ++ more.data.toList) := by
    unfold bitsR
    rw [← toBA_append, ← toBA_of]
  have hg : i / 8 < (l.length + 7) / 8 := by omega
  unfold bitAt
  rw [e, bt_toBA _ _ (by simp; omega), List.getElem_append_left (by simp; omega)]
  have hb : byteAll l (i / 8) < 256 := psum_lt _ 8
  have e2 : (((List.range ((l.length + 7) / 8)).map fun g => UInt8.ofNat (byteAll l g))[i / 8]'(by simp; omega)).toNat = byteAll l (i / 8) := by
    simp
    omega
  rw [e2]
  have h8 : i % 8 < 8 := Nat.mod_lt _ (by decide)
  have := psum_bit (fun j => l.getD (8 * (i / 8) + j) false) 8 (i % 8) h8
  have h3 : 8 * (i / 8) + i % 8 = i := by omega
  rw [h3] at this
  exact this
theorem takeBits_put (l : List Bool) (more : ByteArray) (hl : l.length ≤ 64) : takeBitsR (bitsR l ++ more) (l.length : Int) = (l, more, 0) := by
  have hs : (bitsR l ++ more).size = (l.length + 7) / 8 + more.size := by rw [size_append, bitsR_size]
  unfold takeBitsR
  rw [if_neg (by omega)]
  simp only [Int.toNat_natCast]
  rw [if_neg (by omega)]
  obtain ⟨l', h⟩ := scan_ok (bitsR l ++ more) l.length (8 * ((l.length + 7) / 8)) 0 [] (fun j h1 _ h3 => by
    rw [bitAt_bits l more j (by omega), List.getD_eq_getElem?_getD, List.getElem?_eq_none h1]; rfl)
  have hlen := scan_length _ _ _ _ _ _ h (by simp)
  obtain ⟨_, h2, _⟩ := scan_some _ _ _ _ _ _ h (by simp)
  have hll : l' = l := by
    apply List.ext_getElem?
    intro j
    rcases Nat.lt_or_ge j l.length with hj | hj
    · rw [h2 j (by omega) (by omega) hj, bitAt_bits l more j (by omega), List.getD_eq_getElem?_getD, List.getElem?_eq_getElem hj]; rfl
    · rw [List.getElem?_eq_none (by omega), List.getElem?_eq_none hj]
  rw [h, hll]
  have : (bitsR l ++ more).extract ((l.length + 7) / 8) (bitsR l ++ more).size = more := by
    rw [extract_drop, append_data]
    have h1 : (bitsR l).data.toList.length = (l.length + 7) / 8 := by rw [size_list, bitsR_size]
    rw [List.drop_append_of_le_length (by omega), List.drop_of_length_le (by omega), List.nil_append, ← toBA_of]
  rw [this]
theorem byte_bits : ∀ x : Fin 256, psum (fun j => x.val / 2 ^ j % 2 == 1) 8 = x.val := by decide +kernel
theorem put_takeBits (s : ByteArray) (n : Int) (h : (takeBitsR s n).2.2 = 0) : bitsR (takeBitsR s n).1 ++ (takeBitsR s n).2.1 = s ∧ ((takeBitsR s n).1.length : Int) = n ∧ (takeBitsR s n).1.length ≤ 64 ∧ (takeBitsR s n).2.1.size ≤ s.size := by
  unfold takeBitsR at h ⊢
  split at h
  · simp at h
  · rename_i hn
    split at h
    · simp at h
    · rename_i hs
      obtain ⟨m, rfl⟩ := Int.eq_ofNat_of_zero_le (show 0 ≤ n by omega)
      simp only [Int.toNat_natCast] at h hs ⊢
      rw [if_neg hn, if_neg hs]
      cases hsc : scan s m (8 * ((m + 7) / 8)) 0 [] with
      | none => rw [hsc] at h; simp at h
      | some l =>
        simp only
        have hlen := scan_length _ _ _ _ _ _ hsc (by simp)
        obtain ⟨_, h2, h3⟩ := scan_some _ _ _ _ _ _ hsc (by simp)
        have hl : l.length = m := by omega
        refine ⟨?_, by omega, by omega, ?_⟩
        · have hb : bitsR l = toBA (s.data.toList.take ((m + 7) / 8)) := by
            unfold bitsR
            rw [hl]
            congr 1
            apply List.ext_getElem?
            intro g
            rcases Nat.lt_or_ge g ((m + 7) / 8) with hg | hg
            · rw [List.getElem?_map, List.getElem?_range hg, List.getElem?_take_of_lt hg]
              have hgs : g < s.data.toList.length := by rw [size_list]; omega
              rw [List.getElem?_eq_getElem hgs]
              have hbt : (bt s ((g : Nat) : Int)).toNat = (s.data.toList[g]).toNat := by rw [bt_get s g (by rw [size_list] at hgs; exact hgs)]; rfl
              have hx := (s.data.toList[g]).toNat_lt
              have e : byteAll l g = (s.data.toList[g]).toNat := by
                have hf := byte_bits ⟨(s.data.toList[g]).toNat, hx⟩
                simp only at hf
                rw [← hf]
                unfold byteAll
                refine psum_congr fun j hj => ?_
                have hba : bitAt s (8 * g + j) = ((s.data.toList[g]).toNat / 2 ^ j % 2 == 1) := by
                  unfold bitAt
                  have h1 : (8 * g + j) / 8 = g := by omega
                  have h2 : (8 * g + j) % 8 = j := by omega
                  rw [h1, h2, hbt]
                rw [← hba]
                rcases Nat.lt_or_ge (8 * g + j) m with hin | hin
                · rw [List.getD_eq_getElem?_getD, h2 _ (by omega) (by omega) hin]; rfl
                · rw [List.getD_eq_getElem?_getD, List.getElem?_eq_none (by omega), h3 _ (by omega) (by omega) hin]; rfl
              simp [e]
            · rw [List.getElem?_eq_none (by simp; omega), List.getElem?_eq_none (by rw [List.length_take]; omega)]
          rw [hb, extract_drop, toBA_append, List.take_append_drop, ← toBA_of]
        · rw [extract_drop, toBA_size, List.length_drop, size_list]; omega
theorem takeBitsR_len2 (s : ByteArray) (n : Int) : (takeBitsR s n).1.length ≤ 64 := by
  unfold takeBitsR
  split
  · simp
  · split
    · simp
    · split
      · simp
      · rename_i l h
        have := scan_length s n.toNat _ 0 [] l h (by simp)
        simp only
        omega
theorem numBitsBack_pure (b0 : List Bool × ByteArray × ByteArray × Int) (g0 : (b0.1.length ≤ maxLen ∧ ∀ x ∈ b0.1, True) ∧ b0.2.1.size ≤ maxLen ∧ b0.2.2.1.size ≤ maxLen ∧ (Lit.int .i64 b0.2.2.2).wf = true) (z0 : (b0.1.length * Tryd.prog.bytesOf 4 ≤ 140737488351232 ∧ ∀ x ∈ b0.1, True) ∧ b0.2.1.size ≤ 140737488351232 ∧ b0.2.2.1.size ≤ 140737488351232 ∧ True) :
    ∃ k, interchangelaw01_NumBitsBack.f k b0.1 b0.2.1 b0.2.2.1 b0.2.2.2 = some true := by
  obtain ⟨l, more, s, n⟩ := b0
  obtain ⟨_, _, _, g3⟩ := g0
  obtain ⟨⟨z1, _⟩, z2, z3, _⟩ := z0
  simp only at g3 z1 z2 z3 ⊢
  have hB : Tryd.prog.bytesOf 4 = 1 := by kernel_rfl
  rw [hB] at z1
  obtain ⟨n0, n1⟩ := i64_bounds g3
  have hj : ∀ k, 141 ≤ k → interchangelaw01_NumBitsBack.j0 k s n true false = some true := by
    intro k hk
    obtain ⟨k, rfl⟩ : ∃ m, k = m + 1 := ⟨k - 1, by omega⟩
    simp only [interchangelaw01_NumBitsBack.j0]
    rw [if_neg (by simp), takeBits_k (by omega) s n n0 n1]
    simp only [Option.bind_some, if_true]
    by_cases e : (takeBitsR s n).2.2 = 0
    · obtain ⟨p1, p2, p3, p4⟩ := put_takeBits s n e
      rw [if_pos e, bits_at _ (by omega)]
      simp only [Option.bind_some]
      rw [if_pos (by rw [bitsR_size]; omega), p1, if_pos rfl, p2]
      simp
    · rw [if_neg e]
  have ht := takeBitsR_len2 (bitsR l ++ more) (l.length : Int)
  have hbs := bitsR_size l
  refine ⟨150, ?_⟩
  unfold interchangelaw01_NumBitsBack.f interchangelaw01_shown.f
  simp only [Option.bind_some]
  rw [bits_at l (by omega)]
  simp only [Option.bind_some]
  rw [if_pos (by omega), takeBits_k (by omega) _ _ (by omega) (by omega)]
  simp only [Option.bind_some]
  rw [bools_k _ _ (by omega) (by omega)]
  simp only [Option.bind_some]
  by_cases hl : (l.length : Int) ≤ 64
  · rw [if_pos hl, takeBits_put l more (by omega), if_pos rfl, if_pos (by simp)]
    have : (more.toList != more.toList) = false := by simp
    rw [this]
    exact hj 150 (by omega)
  · rw [if_neg hl]
    exact hj 150 (by omega)
end Go.Proofs.YtpcfpeejbhkbdaaDoor.F
