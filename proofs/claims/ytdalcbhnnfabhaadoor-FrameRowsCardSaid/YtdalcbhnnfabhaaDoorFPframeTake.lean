/- What frame.Take computes; a frame that was laid is taken, what is taken is laid as it was. -/
import Derived.Test.YtdalcbhnnfabhaaDoorFPframe
import Derived.Test.YtdalcbhnnfabhaaDoorFframeTake
namespace Go.Proofs.YtdalcbhnnfabhaaDoor.F
open Go.RowKit Go.Proofs.YtdalcbhnnfabhaaDoorW.PrintWords Go.Proofs.YtdalcbhnnfabhaaDoorW.PrintLast Go.Proofs.YtdalcbhnnfabhaaDoorW.PrintMore
set_option linter.unusedVariables false
set_option linter.unusedSimpArgs false

abbrev Took := Int × Int × ByteArray × ByteArray × Int
def errF : Took := (0, 0, ⟨#[]⟩, ⟨#[]⟩, 6)
def errM : Took := (0, 0, ⟨#[]⟩, ⟨#[]⟩, 2)
/-- The most bytes of a frame. -/
def mostN (m : Int) : Nat := if m < 4096 then 4096 else if 131072 < m then 131072 else m.toNat
theorem most_lo (m : Int) : 4096 ≤ mostN m := by unfold mostN; split; · omega
                                                 split <;> omega
theorem most_hi (m : Int) : mostN m ≤ 131072 := by unfold mostN; split; · omega
                                                   split <;> omega
theorem most_eq (m : Int) : mn (mx m 4096) 131072 = (mostN m : Int) := by
  unfold mn mx mostN
  by_cases h : m < 4096
  · rw [if_pos h, if_pos h]; rfl
  · rw [if_neg h, if_neg h]
    split <;> omega
/-- One frame out of bytes, of which none may have more than M. -/
def takeL (M : Nat) (l : List UInt8) : Took :=
  if kindB ((l.headD 1).toNat : Int) = false then errF
  else if l.length < 7 then errM
  else if M < 8 + beNum ((l.drop 3).take 4) then errF
  else if l.length ≤ 7 + beNum ((l.drop 3).take 4) then errM
  else if (l.drop (7 + beNum ((l.drop 3).take 4))).headD 0 = 206 ∧ rightB ((l.headD 1).toNat : Int) (beNum ((l.drop 1).take 2) : Nat) (toBA ((l.drop 7).take (beNum ((l.drop 3).take 4)))) = true then
    (((l.headD 1).toNat : Int), ((beNum ((l.drop 1).take 2) : Nat) : Int), toBA ((l.drop 7).take (beNum ((l.drop 3).take 4))), toBA (l.drop (8 + beNum ((l.drop 3).take 4))), 0)
  else errF
theorem be_small (l : List UInt8) (n : Nat) (h : n ≤ 4) : beNum (l.take n) < 4294967296 := by
  have h1 := beNum_lt (l.take n)
  have h2 : (l.take n).length ≤ 4 := Nat.le_trans (List.length_take_le _ _) h
  exact Nat.lt_of_lt_of_le h1 (Nat.pow_le_pow_right (by decide) h2)
theorem two_small (l : List UInt8) : beNum (l.take 2) < 65536 := by
  have h1 := beNum_lt (l.take 2)
  have h2 : (l.take 2).length ≤ 2 := List.length_take_le _ _
  exact Nat.lt_of_lt_of_le h1 (Nat.le_trans (Nat.pow_le_pow_right (by decide) h2) (by decide))
theorem head_at (s : ByteArray) (h : 0 < s.size) : bt s 0 = ((s.data.toList.headD 1).toNat : Int) := by
  have := bt_get s 0 h
  have e : ((0 : Nat) : Int) = 0 := rfl
  rw [e] at this
  rw [this]
  have hl : 0 < s.data.toList.length := by rw [size_list]; exact h
  have all : ∀ (l : List UInt8) (hl : 0 < l.length), (l[0].toNat : Int) = ((l.headD 1).toNat : Int) := by
    intro l hl
    cases l with
    | nil => simp at hl
    | cons b r => rfl
  exact all _ hl
theorem takeR_two {s : ByteArray} {n : Nat} (hn : isW (n : Int)) (h : n ≤ s.size) : takeR s n = (((beNum (s.data.toList.take n) : Nat) : Int), toBA (s.data.toList.drop n), 0) := by
  unfold takeR
  rw [if_pos hn, if_neg (by omega), Int.toNat_natCast, extract_drop]
theorem byte_lt (b : UInt8) : (b.toNat : Int) < 256 := by have := b.toNat_lt; omega
theorem headD_drop (l : List UInt8) (i : Nat) (h : i < l.length) : (l.drop i).headD 0 = l[i] := by
  rw [List.drop_eq_getElem_cons h]; rfl
set_option maxHeartbeats 1000000 in
theorem takej_k {k : Nat} (hk : 13 ≤ k) (s : ByteArray) (hz : s.size ≤ 4611686018427387904) (m : Int) : frame_Take.j0 k s (mostN m : Int) (!kindB ((s.data.toList.headD 1).toNat : Int)) = some (takeL (mostN m) s.data.toList) := by
  obtain ⟨k, rfl⟩ : ∃ j, k = j + 1 := ⟨k - 1, by omega⟩
  have lo := most_lo m
  have hi := most_hi m
  generalize mostN m = M at lo hi
  unfold takeL
  simp only [frame_Take.j0]
  by_cases hkd : kindB ((s.data.toList.headD 1).toNat : Int) = false
  · rw [if_pos hkd, hkd]; rfl
  rw [if_neg hkd]
  have hkd' := Bool.not_eq_false _ ▸ hkd
  rw [show kindB ((s.data.toList.headD 1).toNat : Int) = true from by simpa using hkd, Bool.not_true, if_neg (by decide), size_list]
  by_cases h7 : s.size < 7
  · rw [if_pos (by omega), if_pos h7]; rfl
  rw [if_neg (by omega), if_neg h7, if_pos (by omega), extract_drop, take_k (by omega), Option.bind_some]
  have e2 := takeR_two (s := toBA (s.data.toList.drop 1)) (n := 2) (by decide) (by rw [toBA_size, List.length_drop, size_list]; omega)
  rw [show (((2 : Nat)) : Int) = 2 from rfl, toBA_list, List.drop_drop] at e2
  rw [e2]
  simp only []
  rw [take_k (by omega), Option.bind_some]
  have e4 := takeR_two (s := toBA (s.data.toList.drop 3)) (n := 4) (by decide) (by rw [toBA_size, List.length_drop, size_list]; omega)
  rw [show (((4 : Nat)) : Int) = 4 from rfl, toBA_list, List.drop_drop] at e4
  rw [e4]
  simp only []
  have hn := be_small (s.data.toList.drop 3) 4 (by decide)
  generalize hN : beNum ((s.data.toList.drop 3).take 4) = n at hn
  have hc := two_small (s.data.toList.drop 1)
  generalize hC : beNum ((s.data.toList.drop 1).take 2) = c at hc
  have hw1 : IntKind.u64.wrap (wrap64 ((M : Int) - 8)) = (M : Int) - 8 := by rw [wrap64_of (by omega) (by omega), wrapU (by omega) (by omega)]
  rw [hw1]
  by_cases hM : M < 8 + n
  · rw [if_pos (by omega), if_pos hM]; rfl
  rw [if_neg (by omega), if_neg hM]
  have hs : (toBA (s.data.toList.drop (3 + 4))).size = s.size - 7 := by rw [toBA_size, List.length_drop, size_list]
  rw [hs]
  by_cases hl : s.size ≤ 7 + n
  · rw [if_pos, if_pos hl]
    · rfl
    · rw [wrapU (by omega) (by omega)]; omega
  rw [if_neg hl, if_neg (by rw [wrapU (by omega) (by omega)]; omega), if_pos (by omega), if_pos (by omega), if_pos (by omega), if_pos (by omega), head_at s (by omega)]
  have hb : (bt (toBA (s.data.toList.drop (3 + 4))) (n : Int) = 206) ↔ (s.data.toList.drop (7 + n)).headD 0 = 206 := by
    rw [bt_get _ n (by rw [hs]; omega), headD_drop _ _ (by rw [size_list]; omega)]
    simp only [toBA_list, List.getElem_drop]
    rw [← UInt8.toNat_inj]
    have e206 : (206 : UInt8).toNat = 206 := rfl
    simp only [show 3 + 4 + n = 7 + n by omega, e206]
    omega
  have hwb := byte_lt (s.data.toList.headD 1)
  have hw1' : wrap64 (((s.data.toList.headD 1).toNat : Nat) : Int) = (((s.data.toList.headD 1).toNat : Nat) : Int) := wrap64_of (by omega) (by omega)
  have hw2 : wrap64 ((c : Nat) : Int) = ((c : Nat) : Int) := wrap64_of (by omega) (by omega)
  have hd : (toBA (s.data.toList.drop (3 + 4))).extract 0 ((n : Int)).toNat = toBA ((s.data.toList.drop 7).take n) := by rw [extract_take, toBA_list, Int.toNat_natCast]
  have hw3 : IntKind.u64.wrap ((n : Int) + 1) = ((n + 1 : Nat) : Int) := by rw [wrapU (by omega) (by omega)]; omega
  have he : (toBA (s.data.toList.drop (3 + 4))).extract (n + 1) (s.size - 7) = toBA (s.data.toList.drop (8 + n)) := by
    rw [← hs, extract_drop, toBA_list, List.drop_drop]
    congr 2; omega
  rw [hw1', hw2, hd, hw3, Int.toNat_natCast, he, right_k (by omega), Option.bind_some]
  by_cases h206 : (s.data.toList.drop (7 + n)).headD 0 = 206
  · rw [if_pos (hb.2 h206)]
    by_cases hr : rightB ((s.data.toList.headD 1).toNat : Int) (c : Int) (toBA ((s.data.toList.drop 7).take n)) = true
    · rw [if_pos hr, if_pos (by omega), if_pos (by omega), if_pos ⟨h206, hr⟩]
    · rw [if_neg hr, if_neg (fun h => hr h.2)]; rfl
  · rw [if_neg (fun h => h206 (hb.1 h)), if_neg (fun h => h206 h.1)]; rfl
theorem ftake_k {k : Nat} (hk : 13 ≤ k) (s : ByteArray) (hz : s.size ≤ 4611686018427387904) (m : Int) : frame_Take.f k s m = some (takeL (mostN m) s.data.toList) := by
  unfold frame_Take.f
  rw [most_eq]
  have hj := takej_k hk s hz m
  by_cases h0 : s.toList = ([] : List UInt8)
  · rw [if_pos h0]
    have e : s.data.toList = [] := by rw [← toList_data]; exact h0
    rw [e] at hj ⊢
    exact hj
  · rw [if_neg h0]
    have hp : 0 < s.size := by
      have : ¬ s.size = 0 := fun h => h0 ((nil_size s).2 h)
      omega
    rw [if_pos (by omega), head_at s hp]
    have hwb := byte_lt (s.data.toList.headD 1)
    rw [wrap64_of (x := (((s.data.toList.headD 1).toNat : Nat) : Int)) (by omega) (by omega), frame_kind.f, Option.bind_some]
    exact hj
end Go.Proofs.YtdalcbhnnfabhaaDoor.F
