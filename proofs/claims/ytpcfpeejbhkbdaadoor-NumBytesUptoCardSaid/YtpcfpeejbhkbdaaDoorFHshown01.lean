/- The examples at the head of the first layer's statements: they hold. -/
import Derived.Test.YtpcfpeejbhkbdaaDoorFnumPut
import Derived.Test.YtpcfpeejbhkbdaaDoorFHbits
namespace Go.Proofs.YtpcfpeejbhkbdaaDoor.F
open Go.RowKit Go.Proofs.YtpcfpeejbhkbdaaDoorW.PrintWords Go.Proofs.YtpcfpeejbhkbdaaDoorW.PrintLast Go.Proofs.YtpcfpeejbhkbdaaDoorW.PrintMore
set_option linter.unusedVariables false
set_option linter.unusedSimpArgs false

def interchangelaw01_shown.f : Option Bool := some true

theorem shown_put : num_Put.f 12 2 258 = some (⟨#[1, 2]⟩, 0) := by
  have w16 : wrap64 16 = 16 := by unfold wrap64; omega
  have w8 : wrap64 8 = 8 := by unfold wrap64; omega
  have w1 : wrap64 1 = 1 := by unfold wrap64; omega
  have w0 : wrap64 0 = 0 := by unfold wrap64; omega
  have w2 : wrap64 2 = 2 := by unfold wrap64; omega
  simp [num_Put.f, num_Put.j0, num_Put.l0, num_width.f, shr, w16, w8, w1, w0, w2, strOfNums, show IntKind.u64.bits = 64 from rfl]

theorem shown_bits : num_Bits.f [true, false, true] = some ⟨#[5]⟩ := by
  have h : bitsUpto [true, false, true] 3 = [5] := by decide +kernel
  unfold num_Bits.f
  rw [if_pos (by simp)]
  show some (strOfNums (bitsUpto [true, false, true] 3)) = _
  rw [h]
  rfl

set_option maxHeartbeats 1000000 in
theorem interchangelaw01_shown.calls (r : Bool) (w : World) (hg : Laid w) (h : interchangelaw01_shown.f = some r) :
    Calls Tryd.prog 11 #[] w fun e w' => e = .returned (.bool r) ∧ Below w.heap.size w w' := by
  obtain rfl := Option.some.inj h
  have HG := Aside0.mk hg
  clear hg h
  go_enter Tryd.func11, Tryd.ntmps11
  go_wp2_with fail
  refine (num_Put.calls 12 2 258 ⟨#[1, 2]⟩ 0 _ HG.out shown_put).mono ?_
  rintro e w1 ⟨rfl, hb⟩
  have HB := Aside0.mk hb
  clear hb
  go_wp2_with fail
  refine (num_Bits.calls (some ⟨w1.heap.size, 0, none⟩) 3 [true, false, true] ⟨#[5]⟩ _ ?hr (by simp) shown_bits).mono ?_
  case hr =>
    refine Kd.C_of_reads (enc := Value.bool) (d := false) (h1 := fun _ => rfl) ⟨rfl, by simp, fun _ => ⟨_, rfl, fun j hj => ?_⟩⟩
    rw [add_plain]
    match j, hj with
    | 0, _ => simp
    | 1, _ => simp
    | 2, _ => simp
  rintro e w2 ⟨rfl, hb⟩
  go_wp2
  go_ret
  exact ⟨rfl, below_then (below_alloc HB.out _) (by have := HB.out.size; simp; omega) hb⟩
end Go.Proofs.YtpcfpeejbhkbdaaDoor.F
