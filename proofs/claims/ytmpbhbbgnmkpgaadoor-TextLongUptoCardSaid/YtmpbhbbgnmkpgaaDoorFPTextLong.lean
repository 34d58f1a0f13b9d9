/- The pure statement of TextLong. -/
import Derived.Test.YtmpbhbbgnmkpgaaDoorFPshown02
import Derived.Test.YtmpbhbbgnmkpgaaDoorFinterchangelaw02TextLong
namespace Go.Proofs.YtmpbhbbgnmkpgaaDoor.F
open Go.RowKit Go.Proofs.YtmpbhbbgnmkpgaaDoorW.PrintWords Go.Proofs.YtmpbhbbgnmkpgaaDoorW.PrintLast Go.Proofs.YtmpbhbbgnmkpgaaDoorW.PrintMore
set_option linter.unusedVariables false
set_option linter.unusedSimpArgs false
theorem long_taken {t : ByteArray} (h : (ltakeR 4 t).2.2 = 0) (hz : t.size ≤ 1048576) : (ltakeR 4 t).1.size + (ltakeR 4 t).2.1.size + 4 = t.size := by
  obtain ⟨h1, h2⟩ := take_lay h
  have hs := ltake_size 4 t
  have := congrArg ByteArray.size h2
  rw [size_append, long_size (by omega)] at this
  omega
theorem textLong_pure (b0 b1 : ByteArray) (g0 : b0.size ≤ maxLen) (g1 : b1.size ≤ maxLen) (hb : (fun a => a.size + 1) b0 + (fun a => a.size + 1) b1 ≤ 1048576) : ∃ k, interchangelaw02_TextLong.f k b0 b1 = some true := by
  have hz : b0.size + 1 + (b1.size + 1) ≤ 1048576 := hb
  obtain ⟨k, hk⟩ : ∃ k : Nat, 100 ≤ k := ⟨100, Nat.le_refl _⟩
  refine ⟨k, ?_⟩
  unfold interchangelaw02_TextLong.f
  have hl := long_ok (s := b0) (by omega)
  have hlz := long_zero (s := b0) (by omega)
  have hls := long_size (s := b0) (by omega)
  have hi := short_iff b0
  have w1 : wrap64 ((b0.size : Int) + 1) = ((b0.size + 1 : Nat) : Int) := by rw [wrap64_of (by omega) (by omega)]; omega
  have w4 : wrap64 ((b0.size : Int) + 4) = ((b0.size + 4 : Nat) : Int) := by rw [wrap64_of (by omega) (by omega)]; omega
  have hx : (((layR 1 b0).2 == 0) != decide ((b0.size : Int) ≤ 255)) = false := by
    by_cases e : b0.size ≤ 255
    · rw [hi.2 e, decide_eq_true (show (b0.size : Int) ≤ 255 by omega)]; rfl
    · have ne : ¬ (layR 1 b0).2 = 0 := fun h => e (hi.1 h)
      rw [decide_eq_false (show ¬ (b0.size : Int) ≤ 255 by omega), beq_eq_false_iff_ne.2 ne]; rfl
  have hs := ltake_size 4 b1
  have hend : (text_TakeLong.f k b1).bind (fun bt => if (true : Bool) = true then (if bt.2.2 = 0 then some ((wrap64 ((wrap64 ((bt.1.size : Int) + (bt.2.1.size : Int))) + 4)) == (b1.size : Int)) else some true) else some false) = some true := by
    rw [tlong_k (by omega) b1 (by omega), Option.bind_some, if_pos rfl]
    by_cases e : (ltakeR 4 b1).2.2 = 0
    · have := long_taken e (by omega)
      rw [if_pos e, wrap64_of (x := ((ltakeR 4 b1).1.size : Int) + ((ltakeR 4 b1).2.1.size : Int)) (by omega) (by omega), wrap64_of (by omega) (by omega)]
      refine congrArg some ?_
      rw [beq_iff_eq]; omega
    · rw [if_neg e]
  rw [shown_k (by omega), Option.bind_some, short_k (by omega) b0 (by omega), Option.bind_some, long_k (by omega) b0 (by omega), Option.bind_some, hx, if_neg (by decide), hlz, w1, w4, hls]
  by_cases e : (layR 1 b0).2 = 0
  · rw [if_pos e, short_size (hi.1 e), if_pos rfl, if_pos rfl, if_pos rfl, hend]
  · rw [if_neg e, if_pos rfl, if_pos rfl, hend]
end Go.Proofs.YtmpbhbbgnmkpgaaDoor.F
