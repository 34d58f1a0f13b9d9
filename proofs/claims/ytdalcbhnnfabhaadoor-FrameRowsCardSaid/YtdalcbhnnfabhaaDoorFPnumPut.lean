/- What num.Put computes. -/
import Derived.Test.YtdalcbhnnfabhaaDoorFPcore
import Derived.Test.YtdalcbhnnfabhaaDoorFnumPut
namespace Go.Proofs.YtdalcbhnnfabhaaDoor.F
open Go.RowKit Go.Proofs.YtdalcbhnnfabhaaDoorW.PrintWords Go.Proofs.YtdalcbhnnfabhaaDoorW.PrintLast Go.Proofs.YtdalcbhnnfabhaaDoorW.PrintMore
set_option linter.unusedVariables false
set_option linter.unusedSimpArgs false

set_option maxHeartbeats 1000000 in
theorem put_at (a0 a1 : Int) (h0 : 0 ≤ a1) (h1 : a1 < 18446744073709551616) : num_Put.f 12 a0 a1 = some (putR a0 a1) := by
  unfold num_Put.f putR
  rw [width_isW]
  simp only [Option.bind_some]
  by_cases hw : isW a0
  · simp only [hw, decide_true, if_true]
    have w : ∀ x : Int, -100 ≤ x → x ≤ 100 → wrap64 x = x := fun x _ _ => wrap64_of (by omega) (by omega)
    obtain ⟨v, rfl⟩ := Int.eq_ofNat_of_zero_le h0
    rcases hw with rfl | rfl | rfl | rfl
    all_goals simp [num_Put.j0, num_Put.l0, shr, w, be, toBA, strOfNums, show IntKind.u64.bits = 64 from rfl]
    all_goals try simp only [Nat.div_div_eq_div_mul, Nat.reduceMul]
    all_goals have e0 : ((v : Int) % 256).toNat = v % 256 := by omega
    all_goals have e1 : ((v : Int) / 256 % 256).toNat = v / 256 % 256 := by omega
    all_goals have e2 : ((v : Int) / 65536 % 256).toNat = v / 65536 % 256 := by omega
    all_goals have e3 : ((v : Int) / 16777216 % 256).toNat = v / 16777216 % 256 := by omega
    all_goals have e4 : ((v : Int) / 4294967296 % 256).toNat = v / 4294967296 % 256 := by omega
    all_goals have e5 : ((v : Int) / 1099511627776 % 256).toNat = v / 1099511627776 % 256 := by omega
    all_goals have e6 : ((v : Int) / 281474976710656 % 256).toNat = v / 281474976710656 % 256 := by omega
    all_goals have e7 : ((v : Int) / 72057594037927936 % 256).toNat = v / 72057594037927936 % 256 := by omega
    all_goals try simp only [e0, e1, e2, e3, e4, e5, e6, e7]
    · by_cases hv : (v : Int) < 256
      · rw [if_pos hv, if_pos (by omega)]
      · rw [if_neg hv, if_neg (by omega)]
    · by_cases hv : (v : Int) < 65536
      · rw [if_pos hv, if_pos (by omega)]
      · rw [if_neg hv, if_neg (by omega)]
    · by_cases hv : (v : Int) < 4294967296
      · rw [if_pos hv, if_pos (by omega)]
      · rw [if_neg hv, if_neg (by omega)]
    · rw [if_pos h1]
  · simp [hw]
theorem put_ev (a0 a1 : Int) (h0 : 0 ≤ a1) (h1 : a1 < 18446744073709551616) : Ev (fun k => num_Put.f k a0 a1) (putR a0 a1) := Ev.of (num_Put.mono a0 a1) (put_at a0 a1 h0 h1)
theorem put_k {k : Nat} (hk : 12 ≤ k) (a0 a1 : Int) (h0 : 0 ≤ a1) (h1 : a1 < 18446744073709551616) : num_Put.f k a0 a1 = some (putR a0 a1) := at_rounds (num_Put.mono a0 a1) hk (put_at a0 a1 h0 h1)
end Go.Proofs.YtdalcbhnnfabhaaDoor.F
