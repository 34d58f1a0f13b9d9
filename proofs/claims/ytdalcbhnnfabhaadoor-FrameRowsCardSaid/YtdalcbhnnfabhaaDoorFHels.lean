/- What a reading gives of an element that is a struct. (Printed by this session's program pf.py.) -/
import Derived.Test.YtdalcbhnnfabhaaDoorFHopen
namespace Go.Proofs.YtdalcbhnnfabhaaDoor.F
open Go.RowKit Go.Proofs.YtdalcbhnnfabhaaDoorW.PrintWords Go.Proofs.YtdalcbhnnfabhaaDoorW.PrintLast
set_option linter.unusedVariables false

/-! elements of type 29 -/
def good_29 (a : S29) : Prop := (Lit.int .i64 a.f0).wf = true ∧ (Lit.int .i64 a.f1).wf = true ∧ a.f2.size ≤ maxLen
def sized_29 (a : S29) : Prop := True ∧ True ∧ a.f2.size ≤ 140737488351232
def bulk_29 (a : S29) : Nat := (fun _ => 1) a.f0 + (fun _ => 1) a.f1 + (fun a => a.size + 1) a.f2
theorem opened_29 : Opened 29 k29.K good_29 sized_29 bulk_29 :=
  Opened.iso (opened_struct3 (n0 := 1) (n1 := 1) (n2 := 1) Tryd.underlying29 (by kernel_rfl) (by kernel_rfl) rfl (opened_int (k := .i64) Tryd.underlying3) (by kernel_rfl) rfl (opened_int (k := .i64) Tryd.underlying3) (by kernel_rfl) rfl (opened_string Tryd.underlying9)) (fun a => S29.mk a.1 a.2.1 a.2.2) (by rintro W a cs ⟨c0, c1, c2, e, r0, r1, r2⟩; exact ⟨c0, _, e, r0, c1, _, rfl, r1, r2⟩) (fun a h => h) (fun a h => h) (fun a => Nat.le_refl _)
end Go.Proofs.YtdalcbhnnfabhaaDoor.F
