/- The place of one byte in a text: the contract of stringslite.Index at a text of one byte. -/
import Derived.Test.YtmpbhbbgnmkpgaaDoorFbase
import Derived.Lib.Bytealg
namespace Go.Proofs.YtmpbhbbgnmkpgaaDoor.F
open Go.RowKit Go.Proofs.YtmpbhbbgnmkpgaaDoorW.PrintWords Go.Proofs.YtmpbhbbgnmkpgaaDoorW.PrintLast Go.Proofs.YtmpbhbbgnmkpgaaDoorW.PrintMore
set_option linter.unusedVariables false
set_option linter.unusedSimpArgs false

def stringslite_Index.f (s sub : ByteArray) : Option Int := if sub.size = 1 then some (Lib.indexByte s.data.toList (sub.data.toList.headD 0)) else none
theorem stringslite_IndexByte_calls (s : ByteArray) (c : Int) (w : World) :
    Calls Tryd.prog 46 #[.string s, .int .u8 c] w fun e w' => e = .returned (.int .i64 (Lib.indexByte s.data.toList c.toNat.toUInt8)) ∧ w' = w := by
  go_enter Tryd.func46, Tryd.ntmps46
  go_wp2
  rw [run_callFunc_extern Tryd.func51 (by kernel_rfl) (by kernel_rfl) (by kernel_rfl) (e := Extern.BytealgIndexByte.indexByte) (by kernel_rfl), Lib.run_indexByteString]
  simp only [Result.andThen]
  rw [Oper.upon_value]
  go_wp2
  go_ret
  exact ⟨rfl, rfl⟩
theorem stringslite_Index.calls (s sub : ByteArray) (r : Int) (w : World) (h : stringslite_Index.f s sub = some r) :
    Calls Tryd.prog 44 #[.string s, .string sub] w fun e w' => e = .returned (.int .i64 r) ∧ Drawn0 w w' := by
  unfold stringslite_Index.f at h
  split at h
  rotate_left
  · cases h
  rename_i h1
  have hb : ∃ b : UInt8, sub = ⟨#[b]⟩ := by
    obtain ⟨⟨l⟩⟩ := sub
    match l, h1 with
    | [b], _ => exact ⟨b, rfl⟩
  obtain ⟨b, rfl⟩ := hb
  clear h1
  have hr : Lib.indexByte s.data.toList b = r := Option.some.inj h
  clear h
  by_cases hs : s = ⟨#[b]⟩
  · subst hs
    have hr0 : r = 0 := by rw [← hr]; simp [Lib.indexByte]
    subst hr0
    clear hr
    have hq : ([b] == (⟨#[b]⟩ : ByteArray).toList) = true := by simp [ByteArray.toList_eq]
    go_enter Tryd.func44, Tryd.ntmps44
    go_wp2
    go_ret
    exact ⟨rfl, Drawn0.refl _⟩
  have hq : ([b] == s.toList) = false := by
    rw [beq_eq_false_iff_ne]
    intro h
    apply hs
    obtain ⟨⟨l⟩⟩ := s
    simp [ByteArray.toList_eq] at h
    rw [← h]
  have hx : Lib.indexByte s.data.toList ((⟨#[b]⟩ : ByteArray)[0]'(by decide : 0 < 1)) = r := hr
  have HX := Aside0.mk hx
  clear hr hx hs
  go_enter Tryd.func44, Tryd.ntmps44
  go_wp2_with (go_at_call 46; refine (stringslite_IndexByte_calls _ _ _).mono ?_; rintro e w' ⟨rfl, rfl⟩)
  go_ret
  exact ⟨congrArg (fun x => Ending.returned (Value.int .i64 x)) HX.out, Drawn0.refl _⟩
end Go.Proofs.YtmpbhbbgnmkpgaaDoor.F
