/- Whether a text is a name: the contract of text.Name, a loop that calls a closure. -/
import Derived.Test.YtmpbhbbgnmkpgaaDoorFtextName1
namespace Go.Proofs.YtmpbhbbgnmkpgaaDoor.F
open Go.RowKit Go.Proofs.YtmpbhbbgnmkpgaaDoorW.PrintWords Go.Proofs.YtmpbhbbgnmkpgaaDoorW.PrintLast Go.Proofs.YtmpbhbbgnmkpgaaDoorW.PrintMore
set_option linter.unusedVariables false
set_option linter.unusedSimpArgs false

def mayC (b : UInt8) : Bool := (decide (97 ≤ b.toNat) && decide (b.toNat ≤ 122)) || (decide (65 ≤ b.toNat) && decide (b.toNat ≤ 90)) || (decide (48 ≤ b.toNat) && decide (b.toNat ≤ 57)) || decide (b.toNat = 45) || decide (b.toNat = 95) || decide (b.toNat = 46) || decide (b.toNat = 58)
def nameB (s : ByteArray) : Bool := s.data.toList.all mayC && decide (s.size ≤ 127)
def text_Name.f (a0 : ByteArray) : Option Bool := if a0.size ≤ 4611686018427387904 then some (nameB a0) else none
theorem may_f (b : UInt8) : text_Name_1.f (b.toNat : Int) = some (mayC b) := by
  have h : ∀ n : Fin 256, text_Name_1.f (n.val : Int) = some (mayC (UInt8.ofNat n.val)) := by decide +kernel
  have := h ⟨b.toNat, b.toNat_lt⟩
  simpa using this
theorem take_all (l : List UInt8) (k : Nat) (h : k < l.length) (ha : (l.take k).all mayC = true) : (l.take (k + 1)).all mayC = mayC l[k] := by
  rw [List.take_succ_eq_append_getElem h, List.all_append, ha]; simp
set_option maxHeartbeats 2000000 in
set_option maxRecDepth 100000 in
theorem text_Name.calls (a0 : ByteArray) (r : Bool) (w : World) (h : text_Name.f a0 = some r) :
    Calls Tryd.prog 13 #[.string a0] w fun e w' => e = .returned (.bool r) ∧ Drawn0 w w' := by
  unfold text_Name.f at h
  split at h
  rotate_left
  · cases h
  rename_i hz
  have HH := Aside0.mk (Option.some.inj h)
  clear h
  have hsl : a0.data.toList.length = a0.size := Array.length_toList
  have HL := Aside0.mk hsl
  clear hsl
  go_enter Tryd.func13, Tryd.ntmps13
  go_wp2
  go_loopw [7] (fun v wr => ∃ k : Nat, v = .int .i64 k ∧ Aside0 (k ≤ a0.size) ∧ Aside0 ((a0.data.toList.take k).all mayC = true) ∧ Drawn0 w wr) (fun v _ => a0.size - (intOf v).toNat)
  case atStart => exact ⟨0, rfl, ⟨Nat.zero_le _⟩, ⟨rfl⟩, Drawn0.refl _⟩
  case round =>
    obtain ⟨k, rfl, hk, ha, ⟨m1, rfl⟩⟩ := hrel
    by_cases hlt : k < a0.size
    · have hm := may_f a0[k]
      have hta := Aside0.mk (take_all a0.data.toList k (by rw [HL.out]; exact hlt) ha.out)
      have hge : a0.data.toList[k]'(by rw [HL.out]; exact hlt) = a0[k] := rfl
      generalize hb : mayC a0[k] = b at hm
      have HB := Aside0.mk hb
      have HG := Aside0.mk hge
      have HM := Aside0.mk hm
      clear hb hge hm
      cases b with
      | true =>
        go_wp2_with (go_at_call 30; refine (text_Name_1.calls _ true _ HM.out).mono ?_; rintro e w' ⟨rfl, ⟨nd, rfl⟩⟩)
        go_roundw
        case measure => simp [intOf]; omega
        case rel => exact ⟨k + 1, by go_num, ⟨hlt⟩, ⟨by rw [hta.out, HG.out, HB.out]⟩, by repeat (first | exact Drawn0.refl _ | apply Drawn0.step)⟩
      | false =>
        have hr : r = false := by
          rw [← HH.out]
          unfold nameB
          have : a0.data.toList.all mayC = false := by
            rw [List.all_eq_false]
            exact ⟨a0.data.toList[k]'(by rw [HL.out]; exact hlt), List.getElem_mem _, by rw [HG.out, HB.out]; simp⟩
          rw [this]; rfl
        subst hr
        go_wp2_with (go_at_call 30; refine (text_Name_1.calls _ false _ HM.out).mono ?_; rintro e w' ⟨rfl, ⟨nd, rfl⟩⟩)
        go_ret
        exact ⟨rfl, by repeat (first | exact Drawn0.refl _ | apply Drawn0.step)⟩
    · obtain rfl : k = a0.size := by have := hk.out; omega
      have hall : a0.data.toList.all mayC = true := by
        have := ha.out
        rwa [← HL.out, List.take_length] at this
      have hr : r = decide (((a0.size : Nat) : Int) ≤ 127) := by
        rw [← HH.out]
        unfold nameB
        rw [hall, Bool.true_and]
        exact decide_eq_decide.2 (by omega)
      subst hr
      clear hall
      go_wp2
      go_ret
      exact ⟨by first | rfl | simp, by repeat (first | exact Drawn0.refl _ | apply Drawn0.step)⟩
end Go.Proofs.YtmpbhbbgnmkpgaaDoor.F
