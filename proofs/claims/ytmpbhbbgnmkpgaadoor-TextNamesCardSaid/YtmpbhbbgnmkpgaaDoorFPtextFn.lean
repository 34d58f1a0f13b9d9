/- What text.Short, Long, TakeShort, TakeLong compute. -/
import Derived.Test.YtmpbhbbgnmkpgaaDoorFPtext
import Derived.Test.YtmpbhbbgnmkpgaaDoorFPnumPut
import Derived.Test.YtmpbhbbgnmkpgaaDoorFPnumTake
import Derived.Test.YtmpbhbbgnmkpgaaDoorFHtextlay
import Derived.Test.YtmpbhbbgnmkpgaaDoorFHtexttake
namespace Go.Proofs.YtmpbhbbgnmkpgaaDoor.F
open Go.RowKit Go.Proofs.YtmpbhbbgnmkpgaaDoorW.PrintWords Go.Proofs.YtmpbhbbgnmkpgaaDoorW.PrintLast Go.Proofs.YtmpbhbbgnmkpgaaDoorW.PrintMore
set_option linter.unusedVariables false
set_option linter.unusedSimpArgs false

theorem tlay_k {k : Nat} (hk : 12 ≤ k) (n : Int) (s : ByteArray) (hz : s.size ≤ 4611686018427387904) : text_kind_lay.f k n s = some (layR n s) := by
  unfold text_kind_lay.f layR
  rw [wrapU (by omega) (by omega), put_k hk n _ (by omega) (by omega), Option.bind_some]
  by_cases e : (putR n s.size).2 = 0
  · have := put_size n s.size
    rw [if_pos e, if_pos e, if_pos (by omega)]
  · rw [if_neg e, if_neg e]
theorem ttake_k {k : Nat} (hk : 12 ≤ k) (n : Int) (s : ByteArray) (hz : s.size ≤ 4611686018427387904) : text_kind_take.f k n s = some (ltakeR n s) := by
  unfold text_kind_take.f ltakeR
  rw [take_k hk, Option.bind_some]
  by_cases e : (takeR s n).2.2 = 0
  · have hr := take_rest s n
    have hb := (take_bound s n).1
    rw [if_pos e, if_pos e]
    unfold num_Skip.f
    rw [wrapU (by omega) (by omega)]
    by_cases l : (takeR s n).1 ≤ ((takeR s n).2.1.size : Int)
    · rw [if_neg (by omega), if_pos (by omega), if_pos l, Option.bind_some, if_pos l]
    · rw [if_pos (by omega), if_neg l]; rfl
  · rw [if_neg e, if_neg e]
theorem short_k {k : Nat} (hk : 12 ≤ k) (s : ByteArray) (hz : s.size ≤ 4611686018427387904) : text_Short.f k s = some (layR 1 s) := tlay_k hk 1 s hz
theorem long_k {k : Nat} (hk : 12 ≤ k) (s : ByteArray) (hz : s.size ≤ 4611686018427387904) : text_Long.f k s = some (layR 4 s) := tlay_k hk 4 s hz
theorem tshort_k {k : Nat} (hk : 12 ≤ k) (s : ByteArray) (hz : s.size ≤ 4611686018427387904) : text_TakeShort.f k s = some (ltakeR 1 s) := ttake_k hk 1 s hz
theorem tlong_k {k : Nat} (hk : 12 ≤ k) (s : ByteArray) (hz : s.size ≤ 4611686018427387904) : text_TakeLong.f k s = some (ltakeR 4 s) := ttake_k hk 4 s hz
end Go.Proofs.YtmpbhbbgnmkpgaaDoor.F
