/- text.Short, text.Long: the contracts over the method that lays a text. -/
import Derived.Test.YtmpbhbbgnmkpgaaDoorFtextkindlay
namespace Go.Proofs.YtmpbhbbgnmkpgaaDoor.F
open Go.RowKit Go.Proofs.YtmpbhbbgnmkpgaaDoorW.PrintWords Go.Proofs.YtmpbhbbgnmkpgaaDoorW.PrintLast Go.Proofs.YtmpbhbbgnmkpgaaDoorW.PrintMore
set_option linter.unusedVariables false
set_option linter.unusedSimpArgs false

def text_Short.f (k : Nat) (a0 : ByteArray) : Option (ByteArray × Int) := text_kind_lay.f k 1 a0
def text_Long.f (k : Nat) (a0 : ByteArray) : Option (ByteArray × Int) := text_kind_lay.f k 4 a0
theorem text_Short.mono (a0 : ByteArray) (k : Nat) : LeO (text_Short.f k a0) (text_Short.f (k + 1) a0) := text_kind_lay.mono 1 a0 k
theorem text_Long.mono (a0 : ByteArray) (k : Nat) : LeO (text_Long.f k a0) (text_Long.f (k + 1) a0) := text_kind_lay.mono 4 a0 k
theorem text_Short.calls (k : Nat) (a0 : ByteArray) (r1 : ByteArray) (r2 : Int) (w : World) (hg : Laid w) (h : text_Short.f k a0 = some (r1, r2)) :
    Calls Tryd.prog 19 #[.string a0] w fun e w' => e = .returned (.tuple #[.string r1, .int .i64 r2]) ∧ Below w.heap.size w w' := by
  have HG := Aside0.mk hg
  have HH := Aside0.mk h
  clear hg h
  have hmf : ∀ (fn : Fn) (first cap : Array Value) (w : World), (Instr.makeFunc fn first cap).run Tryd.prog w = .ok (.func fn first cap) w := fun _ _ _ _ => rfl
  go_enter Tryd.func19, Tryd.ntmps19
  go_wp2_with (go_at_call 32; refine (text_kind_lay.calls k 1 a0 r1 r2 _ HG.out HH.out).mono ?_; rintro e w' ⟨rfl, hb⟩)
  go_ret2
  exact ⟨rfl, hb⟩
theorem text_Long.calls (k : Nat) (a0 : ByteArray) (r1 : ByteArray) (r2 : Int) (w : World) (hg : Laid w) (h : text_Long.f k a0 = some (r1, r2)) :
    Calls Tryd.prog 20 #[.string a0] w fun e w' => e = .returned (.tuple #[.string r1, .int .i64 r2]) ∧ Below w.heap.size w w' := by
  have HG := Aside0.mk hg
  have HH := Aside0.mk h
  clear hg h
  have hmf : ∀ (fn : Fn) (first cap : Array Value) (w : World), (Instr.makeFunc fn first cap).run Tryd.prog w = .ok (.func fn first cap) w := fun _ _ _ _ => rfl
  go_enter Tryd.func20, Tryd.ntmps20
  go_wp2_with (go_at_call 32; refine (text_kind_lay.calls k 4 a0 r1 r2 _ HG.out HH.out).mono ?_; rintro e w' ⟨rfl, hb⟩)
  go_ret2
  exact ⟨rfl, hb⟩
end Go.Proofs.YtmpbhbbgnmkpgaaDoor.F
