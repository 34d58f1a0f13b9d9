/- Texts of this session for the law TableTakes, one behind the other: interchangelaw03TableTakes, Hopen, Hlaid, Ppre, Pref03, Pshal, Pshown03, interchangelaw03TableParts, PTableParts. -/
import Derived.Test.YthdkmohelampbaaDoorRows
import Derived.SizedLaws
import Derived.ProofKit
import Derived.OpenShut
import Derived.Deep.Slices
import Derived.Lib.LaidTab
import Derived.Deep.DeepHandedRow
import Derived.Test.YthdkmohelampbaaDoorBTableTakesa
import Derived.Test.YthdkmohelampbaaDoorBTableTakesb
import Derived.Test.YthdkmohelampbaaDoorBTableTakesc
namespace Go.Proofs.YthdkmohelampbaaDoor.F
open Go.RowKit Go.Proofs.YthdkmohelampbaaDoorW.PrintWords Go.Proofs.YthdkmohelampbaaDoorW.PrintLast Go.Proofs.YthdkmohelampbaaDoorW.PrintMore
attribute [local go_sem] max2_int min2_int max_two min_two max_three min_three max_four min_four
set_option linter.unusedVariables false
set_option linter.unusedSimpArgs false

/-! ### interchangelaw03_TableTakes: function 8 -/
def interchangelaw03_TableTakes.f (k : Nat) (a0 : ByteArray) (a1 : ByteArray) : Option (Bool) := (interchangelaw03_shown.f).bind fun t260 => ((table_Take.f a0).bind fun bt261 => ((interchangeref03_Take.f k a0).bind fun bt264 => ((table_Value.f a0).bind fun bt267 => ((interchangeref03_Value.f a0).bind fun bt270 => ((table_Keys.f a0).bind fun bt273 => ((interchangeref03_Keys.f k a0).bind fun bt277 => ((table_Deep.f a0).bind fun bt281 => ((interchangeref03_Deep.f k a0).bind fun bt283 => ((table_Find.f a0 a1).bind fun bt285 => ((interchangeref03_Find.f k a0 a1).bind fun bt287 => ((interchangeref02_Strings.f k bt273.1 bt277.1).bind fun t289 => (if t260 = true then (if bt261.1.toList = bt264.1.toList then (if bt261.2.1.toList = bt264.2.1.toList then (if bt261.2.2 = bt264.2.2 then (if bt267.1.toList = bt270.1.toList then (if bt267.2.1.toList = bt270.2.1.toList then (if bt267.2.2 = bt270.2.2 then (if t289 = true then (if bt273.2 = bt277.2 then (if bt281.1 = bt283.1 then (if bt281.2 = bt283.2 then (if bt285.1.toList = bt287.1.toList then (some (bt285.2 == bt287.2)) else (some false)) else (some false)) else (some false)) else (some false)) else (some false)) else (some false)) else (some false)) else (some false)) else (some false)) else (some false)) else (some false)) else (some false)))))))))))))
theorem interchangelaw03_TableTakes.mono : ∀ a0 a1 k, LeO (interchangelaw03_TableTakes.f k a0 a1) (interchangelaw03_TableTakes.f (k + 1) a0 a1) := by
  intro a0 a1 k
  unfold interchangelaw03_TableTakes.f
  repeat' first
      | (with_reducible exact interchangeref02_Strings.mono _ _ _)
      | (with_reducible exact interchangeref03_Deep.mono _ _)
      | (with_reducible exact interchangeref03_Find.mono _ _ _)
      | (with_reducible exact interchangeref03_Keys.mono _ _)
      | (with_reducible exact interchangeref03_Take.mono _ _)
      | (with_reducible exact LeO.refl _)
      | (with_reducible exact LeO.none _)
      | (with_reducible refine LeO.ite ?_ ?_)
      | (with_reducible refine LeO.bind ?_ (fun _ => ?_))
      | exact interchangeref02_Strings.mono _ _ _
      | exact interchangeref03_Deep.mono _ _
      | exact interchangeref03_Find.mono _ _ _
      | exact interchangeref03_Keys.mono _ _
      | exact interchangeref03_Take.mono _ _
      | exact LeO.none _
      | refine LeO.ite ?_ ?_
      | refine LeO.bind ?_ (fun _ => ?_)
set_option maxHeartbeats 8000000 in
set_option maxRecDepth 100000 in
theorem interchangelaw03_TableTakes.calls (k : Nat) (a0 : ByteArray) (a1 : ByteArray) (w : World) (hg : Laid w) (h : interchangelaw03_TableTakes.f k a0 a1 = some true) :
    Calls Tryd.prog 8 #[.string a0, .string a1] w fun e w' => e = .returned (.bool true) ∧ Below w.heap.size w w' := by
  have HG := Aside0.mk hg
  clear hg
  have HB := Aside0.mk (Below.refl w.heap.size w)
  have H : ((interchangelaw03_shown.f).bind fun t260 => ((table_Take.f a0).bind fun bt261 => ((interchangeref03_Take.f k a0).bind fun bt264 => ((table_Value.f a0).bind fun bt267 => ((interchangeref03_Value.f a0).bind fun bt270 => ((table_Keys.f a0).bind fun bt273 => ((interchangeref03_Keys.f k a0).bind fun bt277 => ((table_Deep.f a0).bind fun bt281 => ((interchangeref03_Deep.f k a0).bind fun bt283 => ((table_Find.f a0 a1).bind fun bt285 => ((interchangeref03_Find.f k a0 a1).bind fun bt287 => ((interchangeref02_Strings.f k bt273.1 bt277.1).bind fun t289 => (if t260 = true then (if bt261.1.toList = bt264.1.toList then (if bt261.2.1.toList = bt264.2.1.toList then (if bt261.2.2 = bt264.2.2 then (if bt267.1.toList = bt270.1.toList then (if bt267.2.1.toList = bt270.2.1.toList then (if bt267.2.2 = bt270.2.2 then (if t289 = true then (if bt273.2 = bt277.2 then (if bt281.1 = bt283.1 then (if bt281.2 = bt283.2 then (if bt285.1.toList = bt287.1.toList then (some (bt285.2 == bt287.2)) else (some false)) else (some false)) else (some false)) else (some false)) else (some false)) else (some false)) else (some false)) else (some false)) else (some false)) else (some false)) else (some false)) else (some false)))))))))))))) = some true := h
  clear h
  replace H := Option.bind_eq_some_iff.mp H
  obtain ⟨t260, A30, H⟩ := H
  replace H : ((table_Take.f a0).bind fun bt261 => ((interchangeref03_Take.f k a0).bind fun bt264 => ((table_Value.f a0).bind fun bt267 => ((interchangeref03_Value.f a0).bind fun bt270 => ((table_Keys.f a0).bind fun bt273 => ((interchangeref03_Keys.f k a0).bind fun bt277 => ((table_Deep.f a0).bind fun bt281 => ((interchangeref03_Deep.f k a0).bind fun bt283 => ((table_Find.f a0 a1).bind fun bt285 => ((interchangeref03_Find.f k a0 a1).bind fun bt287 => ((interchangeref02_Strings.f k bt273.1 bt277.1).bind fun t289 => (if t260 = true then (if bt261.1.toList = bt264.1.toList then (if bt261.2.1.toList = bt264.2.1.toList then (if bt261.2.2 = bt264.2.2 then (if bt267.1.toList = bt270.1.toList then (if bt267.2.1.toList = bt270.2.1.toList then (if bt267.2.2 = bt270.2.2 then (if t289 = true then (if bt273.2 = bt277.2 then (if bt281.1 = bt283.1 then (if bt281.2 = bt283.2 then (if bt285.1.toList = bt287.1.toList then (some (bt285.2 == bt287.2)) else (some false)) else (some false)) else (some false)) else (some false)) else (some false)) else (some false)) else (some false)) else (some false)) else (some false)) else (some false)) else (some false)) else (some false))))))))))))) = some true := H
  have A3 := Aside0.mk A30
  clear A30
  replace H := Option.bind_eq_some_iff.mp H
  obtain ⟨⟨t261, t262, t263⟩, A40, H⟩ := H
  replace H : ((interchangeref03_Take.f k a0).bind fun bt264 => ((table_Value.f a0).bind fun bt267 => ((interchangeref03_Value.f a0).bind fun bt270 => ((table_Keys.f a0).bind fun bt273 => ((interchangeref03_Keys.f k a0).bind fun bt277 => ((table_Deep.f a0).bind fun bt281 => ((interchangeref03_Deep.f k a0).bind fun bt283 => ((table_Find.f a0 a1).bind fun bt285 => ((interchangeref03_Find.f k a0 a1).bind fun bt287 => ((interchangeref02_Strings.f k bt273.1 bt277.1).bind fun t289 => (if t260 = true then (if t261.toList = bt264.1.toList then (if t262.toList = bt264.2.1.toList then (if t263 = bt264.2.2 then (if bt267.1.toList = bt270.1.toList then (if bt267.2.1.toList = bt270.2.1.toList then (if bt267.2.2 = bt270.2.2 then (if t289 = true then (if bt273.2 = bt277.2 then (if bt281.1 = bt283.1 then (if bt281.2 = bt283.2 then (if bt285.1.toList = bt287.1.toList then (some (bt285.2 == bt287.2)) else (some false)) else (some false)) else (some false)) else (some false)) else (some false)) else (some false)) else (some false)) else (some false)) else (some false)) else (some false)) else (some false)) else (some false)))))))))))) = some true := H
  have A4 := Aside0.mk A40
  clear A40
  replace H := Option.bind_eq_some_iff.mp H
  obtain ⟨⟨t264, t265, t266⟩, A50, H⟩ := H
  replace H : ((table_Value.f a0).bind fun bt267 => ((interchangeref03_Value.f a0).bind fun bt270 => ((table_Keys.f a0).bind fun bt273 => ((interchangeref03_Keys.f k a0).bind fun bt277 => ((table_Deep.f a0).bind fun bt281 => ((interchangeref03_Deep.f k a0).bind fun bt283 => ((table_Find.f a0 a1).bind fun bt285 => ((interchangeref03_Find.f k a0 a1).bind fun bt287 => ((interchangeref02_Strings.f k bt273.1 bt277.1).bind fun t289 => (if t260 = true then (if t261.toList = t264.toList then (if t262.toList = t265.toList then (if t263 = t266 then (if bt267.1.toList = bt270.1.toList then (if bt267.2.1.toList = bt270.2.1.toList then (if bt267.2.2 = bt270.2.2 then (if t289 = true then (if bt273.2 = bt277.2 then (if bt281.1 = bt283.1 then (if bt281.2 = bt283.2 then (if bt285.1.toList = bt287.1.toList then (some (bt285.2 == bt287.2)) else (some false)) else (some false)) else (some false)) else (some false)) else (some false)) else (some false)) else (some false)) else (some false)) else (some false)) else (some false)) else (some false)) else (some false))))))))))) = some true := H
  have A5 := Aside0.mk A50
  clear A50
  replace H := Option.bind_eq_some_iff.mp H
  obtain ⟨⟨t267, t268, t269⟩, A60, H⟩ := H
  replace H : ((interchangeref03_Value.f a0).bind fun bt270 => ((table_Keys.f a0).bind fun bt273 => ((interchangeref03_Keys.f k a0).bind fun bt277 => ((table_Deep.f a0).bind fun bt281 => ((interchangeref03_Deep.f k a0).bind fun bt283 => ((table_Find.f a0 a1).bind fun bt285 => ((interchangeref03_Find.f k a0 a1).bind fun bt287 => ((interchangeref02_Strings.f k bt273.1 bt277.1).bind fun t289 => (if t260 = true then (if t261.toList = t264.toList then (if t262.toList = t265.toList then (if t263 = t266 then (if t267.toList = bt270.1.toList then (if t268.toList = bt270.2.1.toList then (if t269 = bt270.2.2 then (if t289 = true then (if bt273.2 = bt277.2 then (if bt281.1 = bt283.1 then (if bt281.2 = bt283.2 then (if bt285.1.toList = bt287.1.toList then (some (bt285.2 == bt287.2)) else (some false)) else (some false)) else (some false)) else (some false)) else (some false)) else (some false)) else (some false)) else (some false)) else (some false)) else (some false)) else (some false)) else (some false)))))))))) = some true := H
  have A6 := Aside0.mk A60
  clear A60
  replace H := Option.bind_eq_some_iff.mp H
  obtain ⟨⟨t270, t271, t272⟩, A70, H⟩ := H
  replace H : ((table_Keys.f a0).bind fun bt273 => ((interchangeref03_Keys.f k a0).bind fun bt277 => ((table_Deep.f a0).bind fun bt281 => ((interchangeref03_Deep.f k a0).bind fun bt283 => ((table_Find.f a0 a1).bind fun bt285 => ((interchangeref03_Find.f k a0 a1).bind fun bt287 => ((interchangeref02_Strings.f k bt273.1 bt277.1).bind fun t289 => (if t260 = true then (if t261.toList = t264.toList then (if t262.toList = t265.toList then (if t263 = t266 then (if t267.toList = t270.toList then (if t268.toList = t271.toList then (if t269 = t272 then (if t289 = true then (if bt273.2 = bt277.2 then (if bt281.1 = bt283.1 then (if bt281.2 = bt283.2 then (if bt285.1.toList = bt287.1.toList then (some (bt285.2 == bt287.2)) else (some false)) else (some false)) else (some false)) else (some false)) else (some false)) else (some false)) else (some false)) else (some false)) else (some false)) else (some false)) else (some false)) else (some false))))))))) = some true := H
  have A7 := Aside0.mk A70
  clear A70
  replace H := Option.bind_eq_some_iff.mp H
  obtain ⟨⟨t273, t274⟩, A80, H⟩ := H
  replace H : ((interchangeref03_Keys.f k a0).bind fun bt277 => ((table_Deep.f a0).bind fun bt281 => ((interchangeref03_Deep.f k a0).bind fun bt283 => ((table_Find.f a0 a1).bind fun bt285 => ((interchangeref03_Find.f k a0 a1).bind fun bt287 => ((interchangeref02_Strings.f k t273 bt277.1).bind fun t289 => (if t260 = true then (if t261.toList = t264.toList then (if t262.toList = t265.toList then (if t263 = t266 then (if t267.toList = t270.toList then (if t268.toList = t271.toList then (if t269 = t272 then (if t289 = true then (if t274 = bt277.2 then (if bt281.1 = bt283.1 then (if bt281.2 = bt283.2 then (if bt285.1.toList = bt287.1.toList then (some (bt285.2 == bt287.2)) else (some false)) else (some false)) else (some false)) else (some false)) else (some false)) else (some false)) else (some false)) else (some false)) else (some false)) else (some false)) else (some false)) else (some false)))))))) = some true := H
  have A8 := Aside0.mk A80
  clear A80
  replace H := Option.bind_eq_some_iff.mp H
  obtain ⟨⟨t277, t278⟩, A90, H⟩ := H
  replace H : ((table_Deep.f a0).bind fun bt281 => ((interchangeref03_Deep.f k a0).bind fun bt283 => ((table_Find.f a0 a1).bind fun bt285 => ((interchangeref03_Find.f k a0 a1).bind fun bt287 => ((interchangeref02_Strings.f k t273 t277).bind fun t289 => (if t260 = true then (if t261.toList = t264.toList then (if t262.toList = t265.toList then (if t263 = t266 then (if t267.toList = t270.toList then (if t268.toList = t271.toList then (if t269 = t272 then (if t289 = true then (if t274 = t278 then (if bt281.1 = bt283.1 then (if bt281.2 = bt283.2 then (if bt285.1.toList = bt287.1.toList then (some (bt285.2 == bt287.2)) else (some false)) else (some false)) else (some false)) else (some false)) else (some false)) else (some false)) else (some false)) else (some false)) else (some false)) else (some false)) else (some false)) else (some false))))))) = some true := H
  have A9 := Aside0.mk A90
  clear A90
  replace H := Option.bind_eq_some_iff.mp H
  obtain ⟨⟨t281, t282⟩, A100, H⟩ := H
  replace H : ((interchangeref03_Deep.f k a0).bind fun bt283 => ((table_Find.f a0 a1).bind fun bt285 => ((interchangeref03_Find.f k a0 a1).bind fun bt287 => ((interchangeref02_Strings.f k t273 t277).bind fun t289 => (if t260 = true then (if t261.toList = t264.toList then (if t262.toList = t265.toList then (if t263 = t266 then (if t267.toList = t270.toList then (if t268.toList = t271.toList then (if t269 = t272 then (if t289 = true then (if t274 = t278 then (if t281 = bt283.1 then (if t282 = bt283.2 then (if bt285.1.toList = bt287.1.toList then (some (bt285.2 == bt287.2)) else (some false)) else (some false)) else (some false)) else (some false)) else (some false)) else (some false)) else (some false)) else (some false)) else (some false)) else (some false)) else (some false)) else (some false)))))) = some true := H
  have A10 := Aside0.mk A100
  clear A100
  replace H := Option.bind_eq_some_iff.mp H
  obtain ⟨⟨t283, t284⟩, A110, H⟩ := H
  replace H : ((table_Find.f a0 a1).bind fun bt285 => ((interchangeref03_Find.f k a0 a1).bind fun bt287 => ((interchangeref02_Strings.f k t273 t277).bind fun t289 => (if t260 = true then (if t261.toList = t264.toList then (if t262.toList = t265.toList then (if t263 = t266 then (if t267.toList = t270.toList then (if t268.toList = t271.toList then (if t269 = t272 then (if t289 = true then (if t274 = t278 then (if t281 = t283 then (if t282 = t284 then (if bt285.1.toList = bt287.1.toList then (some (bt285.2 == bt287.2)) else (some false)) else (some false)) else (some false)) else (some false)) else (some false)) else (some false)) else (some false)) else (some false)) else (some false)) else (some false)) else (some false)) else (some false))))) = some true := H
  have A11 := Aside0.mk A110
  clear A110
  replace H := Option.bind_eq_some_iff.mp H
  obtain ⟨⟨t285, t286⟩, A120, H⟩ := H
  replace H : ((interchangeref03_Find.f k a0 a1).bind fun bt287 => ((interchangeref02_Strings.f k t273 t277).bind fun t289 => (if t260 = true then (if t261.toList = t264.toList then (if t262.toList = t265.toList then (if t263 = t266 then (if t267.toList = t270.toList then (if t268.toList = t271.toList then (if t269 = t272 then (if t289 = true then (if t274 = t278 then (if t281 = t283 then (if t282 = t284 then (if t285.toList = bt287.1.toList then (some (t286 == bt287.2)) else (some false)) else (some false)) else (some false)) else (some false)) else (some false)) else (some false)) else (some false)) else (some false)) else (some false)) else (some false)) else (some false)) else (some false)))) = some true := H
  have A12 := Aside0.mk A120
  clear A120
  replace H := Option.bind_eq_some_iff.mp H
  obtain ⟨⟨t287, t288⟩, A130, H⟩ := H
  replace H : ((interchangeref02_Strings.f k t273 t277).bind fun t289 => (if t260 = true then (if t261.toList = t264.toList then (if t262.toList = t265.toList then (if t263 = t266 then (if t267.toList = t270.toList then (if t268.toList = t271.toList then (if t269 = t272 then (if t289 = true then (if t274 = t278 then (if t281 = t283 then (if t282 = t284 then (if t285.toList = t287.toList then (some (t286 == t288)) else (some false)) else (some false)) else (some false)) else (some false)) else (some false)) else (some false)) else (some false)) else (some false)) else (some false)) else (some false)) else (some false)) else (some false))) = some true := H
  have A13 := Aside0.mk A130
  clear A130
  replace H := Option.bind_eq_some_iff.mp H
  obtain ⟨t289, A140, H⟩ := H
  replace H : (if t260 = true then (if t261.toList = t264.toList then (if t262.toList = t265.toList then (if t263 = t266 then (if t267.toList = t270.toList then (if t268.toList = t271.toList then (if t269 = t272 then (if t289 = true then (if t274 = t278 then (if t281 = t283 then (if t282 = t284 then (if t285.toList = t287.toList then (some (t286 == t288)) else (some false)) else (some false)) else (some false)) else (some false)) else (some false)) else (some false)) else (some false)) else (some false)) else (some false)) else (some false)) else (some false)) else (some false)) = some true := H
  have A14 := Aside0.mk A140
  clear A140
  by_cases c15 : t260 = true
  · subst c15
    have H1 : (if t261.toList = t264.toList then (if t262.toList = t265.toList then (if t263 = t266 then (if t267.toList = t270.toList then (if t268.toList = t271.toList then (if t269 = t272 then (if t289 = true then (if t274 = t278 then (if t281 = t283 then (if t282 = t284 then (if t285.toList = t287.toList then (some (t286 == t288)) else (some false)) else (some false)) else (some false)) else (some false)) else (some false)) else (some false)) else (some false)) else (some false)) else (some false)) else (some false)) else (some false)) = some true := by rw [if_pos rfl] at H; first | done | exact H
    clear H
    have H := H1
    clear H1
    by_cases c16 : t261.toList = t264.toList
    · rw [if_pos c16] at H
      have c16b0 : (t261.toList == t264.toList) = true := beq_iff_eq.mpr c16
      have c16b1 : (t261.toList != t264.toList) = false := bne_eq_false_iff_eq.mpr c16
      clear c16
      by_cases c17 : t262.toList = t265.toList
      · rw [if_pos c17] at H
        have c17b0 : (t262.toList == t265.toList) = true := beq_iff_eq.mpr c17
        have c17b1 : (t262.toList != t265.toList) = false := bne_eq_false_iff_eq.mpr c17
        clear c17
        by_cases c18 : t263 = t266
        · rw [if_pos c18] at H
          have c18b0 : (t263 == t266) = true := beq_iff_eq.mpr c18
          have c18b1 : (t263 != t266) = false := bne_eq_false_iff_eq.mpr c18
          clear c18
          by_cases c19 : t267.toList = t270.toList
          · rw [if_pos c19] at H
            have c19b0 : (t267.toList == t270.toList) = true := beq_iff_eq.mpr c19
            have c19b1 : (t267.toList != t270.toList) = false := bne_eq_false_iff_eq.mpr c19
            clear c19
            by_cases c20 : t268.toList = t271.toList
            · rw [if_pos c20] at H
              have c20b0 : (t268.toList == t271.toList) = true := beq_iff_eq.mpr c20
              have c20b1 : (t268.toList != t271.toList) = false := bne_eq_false_iff_eq.mpr c20
              clear c20
              by_cases c21 : t269 = t272
              · rw [if_pos c21] at H
                have c21b0 : (t269 == t272) = true := beq_iff_eq.mpr c21
                have c21b1 : (t269 != t272) = false := bne_eq_false_iff_eq.mpr c21
                clear c21
                by_cases c22 : t289 = true
                · subst c22
                  have H1 : (if t274 = t278 then (if t281 = t283 then (if t282 = t284 then (if t285.toList = t287.toList then (some (t286 == t288)) else (some false)) else (some false)) else (some false)) else (some false)) = some true := by rw [if_pos rfl] at H; first | done | exact H
                  clear H
                  have H := H1
                  clear H1
                  by_cases c23 : t274 = t278
                  · rw [if_pos c23] at H
                    have c23b0 : (t274 == t278) = true := beq_iff_eq.mpr c23
                    have c23b1 : (t274 != t278) = false := bne_eq_false_iff_eq.mpr c23
                    clear c23
                    by_cases c24 : t281 = t283
                    · rw [if_pos c24] at H
                      have c24b0 : (t281 == t283) = true := beq_iff_eq.mpr c24
                      have c24b1 : (t281 != t283) = false := bne_eq_false_iff_eq.mpr c24
                      clear c24
                      by_cases c25 : t282 = t284
                      · rw [if_pos c25] at H
                        have c25b0 : (t282 == t284) = true := beq_iff_eq.mpr c25
                        have c25b1 : (t282 != t284) = false := bne_eq_false_iff_eq.mpr c25
                        clear c25
                        by_cases c26 : t285.toList = t287.toList
                        · rw [if_pos c26] at H
                          have c26b0 : (t285.toList == t287.toList) = true := beq_iff_eq.mpr c26
                          have c26b1 : (t285.toList != t287.toList) = false := bne_eq_false_iff_eq.mpr c26
                          clear c26
                          have HR_ := Aside0.mk (Option.some.inj H)
                          clear H
                          go_enter Tryd.func8, Tryd.ntmps8
                          go_wp2_with (first | ((with_reducible refine gate_callee (f := 10) rfl ?_); refine goesL_ (some 31) rfl rfl Tryd.func10 (by kernel_rfl) rfl #[] rfl (by (try simp only [List.map_toArray, List.map_cons, List.map_nil]); first | done | rfl | (simp only [List.length_drop, List.length_take]; rfl)) ?_; (with_reducible refine (interchangelaw03_shown.calls true _ ?lg A3.out).mono ?_); (case lg => exact (HG.out.below (by repeat (first | (with_reducible first | exact HB.out | apply below_alloc | apply pw_below_drewN | apply below_drew1) | exact HB.out)))); rintro e w27 ⟨rfl, hb⟩; refine ⟨_, rfl, ?_⟩; have n0_ := Aside0.mk (below_step (by repeat (first | (with_reducible first | exact HB.out | apply below_alloc | apply pw_below_drewN | apply below_drew1) | exact HB.out)) hb); clear HB; have HB := n0_; clear n0_; (try clear hb); (try clear hb2); (try clear hk); (try clear hi)) | ((with_reducible refine gate_callee (f := 11) rfl ?_); refine goesL_ (some 34) rfl rfl Tryd.func11 (by kernel_rfl) rfl #[.string a0] rfl (by (try simp only [List.map_toArray, List.map_cons, List.map_nil]); first | done | rfl | (simp only [List.length_drop, List.length_take]; rfl)) ?_; (with_reducible refine (table_Take.calls a0 t261 t262 t263 _ ?lg A4.out).mono ?_); (case lg => exact (HG.out.below (by repeat (first | (with_reducible first | exact HB.out | apply below_alloc | apply pw_below_drewN | apply below_drew1) | exact HB.out)))); rintro e w28 ⟨rfl, hb⟩; refine ⟨_, rfl, ?_⟩; have n0_ := Aside0.mk (below_step (by repeat (first | (with_reducible first | exact HB.out | apply below_alloc | apply pw_below_drewN | apply below_drew1) | exact HB.out)) hb); clear HB; have HB := n0_; clear n0_; (try clear hb); (try clear hb2); (try clear hk); (try clear hi)) | ((with_reducible refine gate_callee (f := 19) rfl ?_); refine goesL_ (some 40) rfl rfl Tryd.func19 (by kernel_rfl) rfl #[.string a0] rfl (by (try simp only [List.map_toArray, List.map_cons, List.map_nil]); first | done | rfl | (simp only [List.length_drop, List.length_take]; rfl)) ?_; (with_reducible refine (interchangeref03_Take.calls k a0 t264 t265 t266 _ A5.out).mono ?_); rintro e w' ⟨rfl, ⟨nd, rfl⟩⟩; refine ⟨_, rfl, ?_⟩) | ((with_reducible refine gate_callee (f := 15) rfl ?_); refine goesL_ (some 46) rfl rfl Tryd.func15 (by kernel_rfl) rfl #[.string a0] rfl (by (try simp only [List.map_toArray, List.map_cons, List.map_nil]); first | done | rfl | (simp only [List.length_drop, List.length_take]; rfl)) ?_; (with_reducible refine (table_Value.calls a0 t267 t268 t269 _ ?lg A6.out).mono ?_); (case lg => exact (HG.out.below (by repeat (first | (with_reducible first | exact HB.out | apply below_alloc | apply pw_below_drewN | apply below_drew1) | exact HB.out)))); rintro e w29 ⟨rfl, hb⟩; refine ⟨_, rfl, ?_⟩; have n0_ := Aside0.mk (below_step (by repeat (first | (with_reducible first | exact HB.out | apply below_alloc | apply pw_below_drewN | apply below_drew1) | exact HB.out)) hb); clear HB; have HB := n0_; clear n0_; (try clear hb); (try clear hb2); (try clear hk); (try clear hi)) | ((with_reducible refine gate_callee (f := 20) rfl ?_); refine goesL_ (some 52) rfl rfl Tryd.func20 (by kernel_rfl) rfl #[.string a0] rfl (by (try simp only [List.map_toArray, List.map_cons, List.map_nil]); first | done | rfl | (simp only [List.length_drop, List.length_take]; rfl)) ?_; (with_reducible refine (interchangeref03_Value.calls a0 t270 t271 t272 _ A7.out).mono ?_); rintro e w' ⟨rfl, ⟨nd, rfl⟩⟩; refine ⟨_, rfl, ?_⟩) | ((with_reducible refine gate_callee (f := 17) rfl ?_); refine goesL_ (some 58) rfl rfl Tryd.func17 (by kernel_rfl) rfl #[.string a0] rfl (by (try simp only [List.map_toArray, List.map_cons, List.map_nil]); first | done | rfl | (simp only [List.length_drop, List.length_take]; rfl)) ?_; (with_reducible refine (table_Keys.calls a0 t273 t274 _ ?lg A8.out).mono ?_); (case lg => exact (HG.out.below (by repeat (first | (with_reducible first | exact HB.out | apply below_alloc | apply pw_below_drewN | apply below_drew1) | exact HB.out)))); rintro e w30 ⟨v275, rfl, ho0, hb⟩; refine ⟨_, rfl, ?_⟩; have n0_ := Aside0.mk (Kd.R_lower ho0 (below_size (by repeat (first | (with_reducible first | exact HB.out | apply below_alloc | apply pw_below_drewN | apply below_drew1) | exact HB.out)))); have n1_ := Aside0.mk (below_step (by repeat (first | (with_reducible first | exact HB.out | apply below_alloc | apply pw_below_drewN | apply below_drew1) | exact HB.out)) hb); clear HB; have HO276 := n0_; have HB := n1_; clear n0_ n1_; (try clear hb); (try clear hb2); (try clear hk); (try clear hi); (try clear ho0)) | ((with_reducible refine gate_callee (f := 21) rfl ?_); refine goesL_ (some 63) rfl rfl Tryd.func21 (by kernel_rfl) rfl #[.string a0] rfl (by (try simp only [List.map_toArray, List.map_cons, List.map_nil]); first | done | rfl | (simp only [List.length_drop, List.length_take]; rfl)) ?_; (with_reducible refine (interchangeref03_Keys.calls k a0 t277 t278 _ A9.out).mono ?_); rintro e w31 ⟨v279, rfl, ho0, hb⟩; refine ⟨_, rfl, ?_⟩; have n0_ := Aside0.mk (Kd.R_elder' (by (with_reducible repeat (first | apply Kd.R_alloc | apply Kd.R_drewN | apply Kd.R_drew)); exact HO276.out) (Kd.R_base ho0) hb); have n1_ := Aside0.mk (Kd.R_lower (Kd.R_new' ho0 (Kd.R_lt (by (with_reducible repeat (first | apply Kd.R_alloc | apply Kd.R_drewN | apply Kd.R_drew)); exact HO276.out))) (below_size (by repeat (first | (with_reducible first | exact HB.out | apply below_alloc | apply pw_below_drewN | apply below_drew1) | exact HB.out)))); have n2_ := Aside0.mk (below_step (by repeat (first | (with_reducible first | exact HB.out | apply below_alloc | apply pw_below_drewN | apply below_drew1) | exact HB.out)) hb); clear HO276; clear HB; have HO276 := n0_; have HO280 := n1_; have HB := n2_; clear n0_ n1_ n2_; (try clear hb); (try clear hb2); (try clear hk); (try clear hi); (try clear ho0)) | ((with_reducible refine gate_callee (f := 14) rfl ?_); refine goesL_ (some 68) rfl rfl Tryd.func14 (by kernel_rfl) rfl #[.string a0] rfl (by (try simp only [List.map_toArray, List.map_cons, List.map_nil]); first | done | rfl | (simp only [List.length_drop, List.length_take]; rfl)) ?_; (with_reducible refine (table_Deep.calls a0 t281 t282 _ ?lg A10.out).mono ?_); (case lg => exact (HG.out.below (by repeat (first | (with_reducible first | exact HB.out | apply below_alloc | apply pw_below_drewN | apply below_drew1) | exact HB.out)))); rintro e w32 ⟨rfl, hb⟩; refine ⟨_, rfl, ?_⟩; have n0_ := Aside0.mk (Kd.R_below (by (with_reducible repeat (first | apply Kd.R_alloc | apply Kd.R_drewN | apply Kd.R_drew)); exact HO276.out) hb); have n1_ := Aside0.mk (Kd.R_below (by (with_reducible repeat (first | apply Kd.R_alloc | apply Kd.R_drewN | apply Kd.R_drew)); exact HO280.out) hb); have n2_ := Aside0.mk (below_step (by repeat (first | (with_reducible first | exact HB.out | apply below_alloc | apply pw_below_drewN | apply below_drew1) | exact HB.out)) hb); clear HO276; clear HO280; clear HB; have HO276 := n0_; have HO280 := n1_; have HB := n2_; clear n0_ n1_ n2_; (try clear hb); (try clear hb2); (try clear hk); (try clear hi)) | ((with_reducible refine gate_callee (f := 13) rfl ?_); refine goesL_ (some 73) rfl rfl Tryd.func13 (by kernel_rfl) rfl #[.string a0] rfl (by (try simp only [List.map_toArray, List.map_cons, List.map_nil]); first | done | rfl | (simp only [List.length_drop, List.length_take]; rfl)) ?_; (with_reducible refine (interchangeref03_Deep.calls k a0 t283 t284 _ A11.out).mono ?_); rintro e w' ⟨rfl, ⟨nd, rfl⟩⟩; refine ⟨_, rfl, ?_⟩) | ((with_reducible refine gate_callee (f := 16) rfl ?_); refine goesL_ (some 79) rfl rfl Tryd.func16 (by kernel_rfl) rfl #[.string a0, .string a1] rfl (by (try simp only [List.map_toArray, List.map_cons, List.map_nil]); first | done | rfl | (simp only [List.length_drop, List.length_take]; rfl)) ?_; (with_reducible refine (table_Find.calls a0 a1 t285 t286 _ ?lg A12.out).mono ?_); (case lg => exact (HG.out.below (by repeat (first | (with_reducible first | exact HB.out | apply below_alloc | apply pw_below_drewN | apply below_drew1) | exact HB.out)))); rintro e w33 ⟨rfl, hb⟩; refine ⟨_, rfl, ?_⟩; have n0_ := Aside0.mk (Kd.R_below (by (with_reducible repeat (first | apply Kd.R_alloc | apply Kd.R_drewN | apply Kd.R_drew)); exact HO276.out) hb); have n1_ := Aside0.mk (Kd.R_below (by (with_reducible repeat (first | apply Kd.R_alloc | apply Kd.R_drewN | apply Kd.R_drew)); exact HO280.out) hb); have n2_ := Aside0.mk (below_step (by repeat (first | (with_reducible first | exact HB.out | apply below_alloc | apply pw_below_drewN | apply below_drew1) | exact HB.out)) hb); clear HO276; clear HO280; clear HB; have HO276 := n0_; have HO280 := n1_; have HB := n2_; clear n0_ n1_ n2_; (try clear hb); (try clear hb2); (try clear hk); (try clear hi)) | ((with_reducible refine gate_callee (f := 22) rfl ?_); refine goesL_ (some 85) rfl rfl Tryd.func22 (by kernel_rfl) rfl #[.string a0, .string a1] rfl (by (try simp only [List.map_toArray, List.map_cons, List.map_nil]); first | done | rfl | (simp only [List.length_drop, List.length_take]; rfl)) ?_; (with_reducible refine (interchangeref03_Find.calls k a0 a1 t287 t288 _ A13.out).mono ?_); rintro e w34 ⟨rfl, hb⟩; refine ⟨_, rfl, ?_⟩; have n0_ := Aside0.mk (Kd.R_below (by (with_reducible repeat (first | apply Kd.R_alloc | apply Kd.R_drewN | apply Kd.R_drew)); exact HO276.out) hb); have n1_ := Aside0.mk (Kd.R_below (by (with_reducible repeat (first | apply Kd.R_alloc | apply Kd.R_drewN | apply Kd.R_drew)); exact HO280.out) hb); have n2_ := Aside0.mk (below_step (by repeat (first | (with_reducible first | exact HB.out | apply below_alloc | apply pw_below_drewN | apply below_drew1) | exact HB.out)) hb); clear HO276; clear HO280; clear HB; have HO276 := n0_; have HO280 := n1_; have HB := n2_; clear n0_ n1_ n2_; (try clear hb); (try clear hb2); (try clear hk); (try clear hi); obtain ⟨Ao35, co35, eo35⟩ := Kd.R_slice HO276.out; subst eo35; obtain ⟨Ao36, co36, eo36⟩ := Kd.R_slice HO280.out; subst eo36) | ((with_reducible refine gate_callee (f := 18) rfl ?_); refine goesL_ (some 90) rfl rfl Tryd.func18 (by kernel_rfl) rfl #[.slice Ao35 t273.length co35, .slice Ao36 t277.length co36] rfl (by (try simp only [List.map_toArray, List.map_cons, List.map_nil]); first | done | rfl | (simp only [List.length_drop, List.length_take]; rfl)) ?_; (with_reducible refine (interchangeref02_Strings.calls k _ _ t273 _ _ t277 true _ ?side1 ?side2 ?side3 ?side4 A14.out).mono ?_); (case side1 => repeat (first | exact (Kd.R_reads' HO276.out).2.2 | (with_reducible refine Kd.C_alloc ?_ _) | (with_reducible refine Kd.C_drewN ?_ _) | (with_reducible refine Kd.C_drew ?_))); (case side2 => exact (Kd.R_reads' HO276.out).2.1); (case side3 => repeat (first | exact (Kd.R_reads' HO280.out).2.2 | (with_reducible refine Kd.C_alloc ?_ _) | (with_reducible refine Kd.C_drewN ?_ _) | (with_reducible refine Kd.C_drew ?_))); (case side4 => exact (Kd.R_reads' HO280.out).2.1); rintro e w' ⟨rfl, ⟨nd, rfl⟩⟩; refine ⟨_, rfl, ?_⟩))
                          go_ret
                          exact ⟨by have HR0_ := HR_.out; first | exact congrArg (fun b_ => Ending.returned (Value.bool b_)) HR0_ | (simpa using HR0_) | rfl | (simp [errW_none, errW_some] <;> rfl) | (simp [*, errW_none, errW_some] <;> rfl), by repeat (first | (with_reducible first | exact HB.out | apply below_alloc | apply pw_below_drewN | apply below_drew1) | exact HB.out)⟩
                        · rw [if_neg c26] at H
                          have c26b0 : (t285.toList == t287.toList) = false := beq_eq_false_iff_ne.mpr c26
                          have c26b1 : (t285.toList != t287.toList) = true := bne_iff_ne.mpr c26
                          exact absurd H (by decide)
                      · rw [if_neg c25] at H
                        have c25b0 : (t282 == t284) = false := beq_eq_false_iff_ne.mpr c25
                        have c25b1 : (t282 != t284) = true := bne_iff_ne.mpr c25
                        exact absurd H (by decide)
                    · rw [if_neg c24] at H
                      have c24b0 : (t281 == t283) = false := beq_eq_false_iff_ne.mpr c24
                      have c24b1 : (t281 != t283) = true := bne_iff_ne.mpr c24
                      exact absurd H (by decide)
                  · rw [if_neg c23] at H
                    have c23b0 : (t274 == t278) = false := beq_eq_false_iff_ne.mpr c23
                    have c23b1 : (t274 != t278) = true := bne_iff_ne.mpr c23
                    exact absurd H (by decide)
                · replace c22 := Bool.eq_false_iff.mpr c22
                  subst c22
                  have H1 : (some false) = some true := by rw [if_neg (show ¬ (false = true) by decide)] at H; first | done | exact H
                  clear H
                  have H := H1
                  clear H1
                  exact absurd H (by decide)
              · rw [if_neg c21] at H
                have c21b0 : (t269 == t272) = false := beq_eq_false_iff_ne.mpr c21
                have c21b1 : (t269 != t272) = true := bne_iff_ne.mpr c21
                exact absurd H (by decide)
            · rw [if_neg c20] at H
              have c20b0 : (t268.toList == t271.toList) = false := beq_eq_false_iff_ne.mpr c20
              have c20b1 : (t268.toList != t271.toList) = true := bne_iff_ne.mpr c20
              exact absurd H (by decide)
          · rw [if_neg c19] at H
            have c19b0 : (t267.toList == t270.toList) = false := beq_eq_false_iff_ne.mpr c19
            have c19b1 : (t267.toList != t270.toList) = true := bne_iff_ne.mpr c19
            exact absurd H (by decide)
        · rw [if_neg c18] at H
          have c18b0 : (t263 == t266) = false := beq_eq_false_iff_ne.mpr c18
          have c18b1 : (t263 != t266) = true := bne_iff_ne.mpr c18
          exact absurd H (by decide)
      · rw [if_neg c17] at H
        have c17b0 : (t262.toList == t265.toList) = false := beq_eq_false_iff_ne.mpr c17
        have c17b1 : (t262.toList != t265.toList) = true := bne_iff_ne.mpr c17
        exact absurd H (by decide)
    · rw [if_neg c16] at H
      have c16b0 : (t261.toList == t264.toList) = false := beq_eq_false_iff_ne.mpr c16
      have c16b1 : (t261.toList != t264.toList) = true := bne_iff_ne.mpr c16
      exact absurd H (by decide)
  · replace c15 := Bool.eq_false_iff.mpr c15
    subst c15
    have H1 : (some false) = some true := by rw [if_neg (show ¬ (false = true) by decide)] at H; first | done | exact H
    clear H
    have H := H1
    clear H1
    exact absurd H (by decide)


end Go.Proofs.YthdkmohelampbaaDoor.F
namespace Go.Proofs.YthdkmohelampbaaDoor.F
open Go.RowKit Go.Proofs.YthdkmohelampbaaDoorW.PrintWords Go.Proofs.YthdkmohelampbaaDoorW.PrintLast Go.Proofs.YthdkmohelampbaaDoorW.PrintMore
set_option linter.unusedVariables false
set_option linter.unusedSimpArgs false

theorem drop_split {β : Type} (cs : List β) (o n : Nat) : cs.drop o = (cs.drop o).take n ++ cs.drop (o + n) := by
  rw [← List.drop_drop, List.take_append_drop]

structure Opened {α : Type} (t : TypeId) (R : World → α → List Value → Prop) (good sized : α → Prop) (bulk : α → Nat) : Prop where
  out : ∀ {H : Type} (enc : TypeId × Value → H) (W : World) (fuel : Nat) (cs : List Value) (y : DataW H × List MemPlace),
    DataW.trod enc Tryd.prog W 0 (fun _ => true) true fuel t cs = some y → ∃ a : α, R W a cs ∧ good a ∧ ((∀ n ∈ y.1.weights Tryd.prog t, n ≤ reachBytes) → sized a) ∧ bulk a ≤ Rows.uptoBulk y.1

theorem Opened.iso {α β : Type} {t : TypeId} {R : World → α → List Value → Prop} {g s : α → Prop} {b : α → Nat} (h : Opened t R g s b) (f : α → β) {R' : World → β → List Value → Prop} {g' s' : β → Prop} {b' : β → Nat}
    (hR : ∀ W a cs, R W a cs → R' W (f a) cs) (hg : ∀ a, g a → g' (f a)) (hs : ∀ a, s a → s' (f a)) (hb : ∀ a, b' (f a) ≤ b a) : Opened t R' g' s' b' := by
  constructor
  intro H enc W fuel cs y hy
  obtain ⟨a, r, k, z, u⟩ := h.out enc W fuel cs y hy
  exact ⟨f a, hR _ _ _ r, hg _ k, fun hw => hs _ (z hw), Nat.le_trans (hb a) u⟩

theorem opened_int {t : TypeId} {k : IntKind} (ht : Tryd.prog.underlying t = some (.int k)) : Opened t (Kd.int k).K (fun a => (Lit.int k a).wf = true) (fun _ => True) (fun _ => 1) := by
  constructor
  intro H enc W fuel cs y hy
  cases fuel with
  | zero => simp [DataW.trod] at hy
  | succ fuel =>
    unfold DataW.trod at hy
    rw [ht] at hy
    split at hy <;> simp_all
    obtain ⟨⟨rfl, h⟩, rfl⟩ := hy
    exact ⟨_, rfl, h, by simp [Rows.uptoBulk]⟩
theorem opened_bool {t : TypeId} (ht : Tryd.prog.underlying t = some .bool) : Opened t Kd.bool.K (fun _ => True) (fun _ => True) (fun _ => 1) := by
  constructor
  intro H enc W fuel cs y hy
  cases fuel with
  | zero => simp [DataW.trod] at hy
  | succ fuel =>
    unfold DataW.trod at hy
    rw [ht] at hy
    cases cs with
    | nil => simp at hy
    | cons v r =>
      cases r with
      | cons _ _ => cases v <;> simp at hy
      | nil =>
        cases v <;> simp at hy
        rename_i b
        subst hy
        exact ⟨b, rfl, trivial, fun _ => trivial, by simp [Rows.uptoBulk]⟩
theorem opened_string {t : TypeId} (ht : Tryd.prog.underlying t = some .string) : Opened t Kd.string.K (fun a => a.size ≤ maxLen) (fun a => a.size ≤ 140737488351232) (fun a => a.size + 1) := by
  constructor
  intro H enc W fuel cs y hy
  cases fuel with
  | zero => simp [DataW.trod] at hy
  | succ fuel =>
    unfold DataW.trod at hy
    rw [ht] at hy
    cases cs with
    | nil => simp at hy
    | cons v r =>
      cases r with
      | cons _ _ => cases v <;> simp at hy
      | nil =>
        cases v <;> simp at hy
        rename_i s
        obtain ⟨h, rfl⟩ := hy
        have e : s.data.toList.length = s.size := by simp
        refine ⟨s, rfl, h, ?_, ?_⟩
        · intro hw
          have := hw s.data.toList.length (by simp [DataW.weights])
          rw [e] at this
          exact Nat.le_trans this (by decide)
        · simp only [Rows.uptoBulk]; omega

/-- a value's shape, out of its one cell -/
theorem shape_int {t : TypeId} {k : IntKind} {W : World} {r : Reach} {b : Nat} {v : Value} {a : Int} (ht : Tryd.prog.underlying t = some (.int k)) (hv : Value.okWide Tryd.prog W r b t v) (h : (Kd.int k).K W a v.cells.toList) : v = .int k a := by
  obtain ⟨n, rfl⟩ := WideShapes.okWide_int ht hv
  have h' : [Value.int k n] = [Value.int k a] := h
  simpa using h'
theorem shape_bool {t : TypeId} {W : World} {r : Reach} {b : Nat} {v : Value} {a : Bool} (ht : Tryd.prog.underlying t = some .bool) (hv : Value.okWide Tryd.prog W r b t v) (h : Kd.bool.K W a v.cells.toList) : v = .bool a := by
  obtain ⟨n, rfl⟩ := WideShapes.okWide_bool ht hv
  have h' : [Value.bool n] = [Value.bool a] := h
  simpa using h'
theorem shape_string {t : TypeId} {W : World} {r : Reach} {b : Nat} {v : Value} {a : ByteArray} (ht : Tryd.prog.underlying t = some .string) (hv : Value.okWide Tryd.prog W r b t v) (h : Kd.string.K W a v.cells.toList) : v = .string a := by
  obtain ⟨n, rfl⟩ := WideShapes.okWide_string ht hv
  have h' : [Value.string n] = [Value.string a] := h
  simpa using h'
theorem shape_slice {α : Type} {t e : TypeId} {d : Kd α} {W : World} {r : Reach} {b : Nat} {v : Value} {l : List α} (ht : Tryd.prog.underlying t = some (.slice e)) (hv : Value.okWide Tryd.prog W r b t v) (h : (Kd.slice e d).K W l v.cells.toList) : ∃ A c, v = .slice A l.length c ∧ l.length ≤ c ∧ d.C W A l.length l := by
  obtain ⟨a, n, m, rfl⟩ := WideShapes.okWide_slice ht hv
  obtain ⟨A, c, h1, h2, h3⟩ := h
  have h' : [Value.slice a n m] = [Value.slice A l.length c] := h1
  exact ⟨A, c, by simpa using h', h2, h3⟩
theorem shape_struct {t : TypeId} {fs : Array Field} {W : World} {r : Reach} {b : Nat} {v : Value} {l : List Value} (ht : Tryd.prog.underlying t = some (.struct fs)) (hv : Value.okWide Tryd.prog W r b t v) (h : v.cells.toList = l) : v = .agg l.toArray := by
  obtain ⟨cs, rfl, _⟩ := WideShapes.okWide_struct ht hv
  have h' : cs.toList = l := h
  subst h'
  rfl
theorem laid_out : laidOutB Tryd.prog = true := by kernel_rfl
theorem own_knob : ownKnob Tryd.prog.godebug = none := by kernel_rfl

theorem exists_list {α : Type} {n : Nat} {p : Nat → α → Prop} (h : ∀ i, i < n → ∃ x, p i x) : ∃ l : List α, l.length = n ∧ ∀ i x, l[i]? = some x → p i x := by
  induction n with
  | zero => exact ⟨[], rfl, fun i x hx => by simp at hx⟩
  | succ n ih =>
    obtain ⟨l, hl, hp⟩ := ih (fun i hi => h i (by omega))
    obtain ⟨x, hx⟩ := h n (by omega)
    refine ⟨l ++ [x], by simp [hl], fun i y hy => ?_⟩
    rcases Nat.lt_trichotomy i l.length with hlt | heq | hgt
    · rw [List.getElem?_append_left hlt] at hy; exact hp i y hy
    · subst heq
      rw [List.getElem?_append_right (Nat.le_refl _)] at hy
      simp at hy
      subst hy
      rw [hl]; exact hx
    · rw [List.getElem?_append_right (by omega)] at hy
      have : i - l.length = (i - l.length - 1) + 1 := by omega
      rw [this] at hy
      simp at hy

theorem bulk_sum {α H : Type} (b : α → Nat) : ∀ (l : List α) (ds : List (DataW H)), l.length = ds.length → (∀ (i : Nat) (x : α) (d : DataW H), l[i]? = some x → ds[i]? = some d → b x ≤ Rows.uptoBulk d) → (l.map b).sum ≤ Rows.uptoBulkAll ds
  | [], [], _, _ => by simp [Rows.uptoBulkAll]
  | x :: l, d :: ds, h, hb => by
    have h1 := hb 0 x d rfl rfl
    have h2 := bulk_sum b l ds (by simpa using h) (fun i y e hy he => hb (i + 1) y e (by simpa using hy) (by simpa using he))
    simp only [List.map_cons, List.sum_cons, Rows.uptoBulkAll]
    omega
  | [], _ :: _, h, _ => by simp at h
  | _ :: _, [], h, _ => by simp at h

theorem weights_mem_all {H : Type} {P : Program} {e : TypeId} : ∀ {ds : List (DataW H)} {d : DataW H} {n : Nat}, d ∈ ds → n ∈ d.weights P e → n ∈ DataW.weightsAll P e ds
  | x :: ds, d, n, hd, hn => by
    simp only [DataW.weightsAll, List.mem_append]
    rcases List.mem_cons.1 hd with rfl | hd
    · exact .inl hn
    · exact .inr (weights_mem_all hd hn)
  | [], _, _, hd, _ => by simp at hd

theorem opened_slice {α : Type} {t e : TypeId} {d : Kd α} {g s : α → Prop} {b : α → Nat} (ht : Tryd.prog.underlying t = some (.slice e)) (hsz : Tryd.prog.cellsOf e = d.sz) (h : Opened e d.K g s b) :
    Opened t (Kd.slice e d).K (fun l => l.length ≤ maxLen ∧ ∀ x ∈ l, g x) (fun l => l.length * Tryd.prog.bytesOf e ≤ 140737488351232 ∧ ∀ x ∈ l, s x) (fun l => (l.map b).sum + 1) := by
  constructor
  intro H enc W fuel cs y hy
  rcases DataW.trod_slice ht hy with ⟨rfl, rfl⟩ | ⟨a, len, cap, elems, rest, n, rfl, rfl, rfl, hba, hl, hm, hlen, hel, _, _⟩
  · refine ⟨[], ⟨none, 0, rfl, Nat.le_refl _, rfl, by simp, fun h0 => absurd h0 (by simp)⟩, ⟨by simp, by simp⟩, fun _ => ⟨by simp, by simp⟩, by simp [Rows.uptoBulk]⟩
  · have hx : ∀ i, i < len → ∃ x : α, (∃ c y, W.cells? 0 (a.add (i * Tryd.prog.cellsOf e)) (Tryd.prog.cellsOf e) = some c ∧ elems[i]? = some y ∧ d.K W x c ∧ g x ∧ ((∀ n ∈ y.1.weights Tryd.prog e, n ≤ reachBytes) → s x) ∧ b x ≤ Rows.uptoBulk y.1) := by
      intro i hi
      have h1 := hel i hi
      have h2 : elems[i]? = some elems[i] := List.getElem?_eq_getElem (by omega)
      rw [h2] at h1
      obtain ⟨c, hc, hd⟩ := Option.bind_eq_some_iff.1 h1
      obtain ⟨x, r, k, z, u⟩ := h.out enc W n c _ hd
      exact ⟨x, c, _, hc, h2, r, k, z, u⟩
    obtain ⟨l, hll, hp⟩ := exists_list hx
    have hmem : ∀ x ∈ l, ∃ y, y ∈ elems ∧ g x ∧ ((∀ n ∈ y.1.weights Tryd.prog e, n ≤ reachBytes) → s x) := by
      intro x hx
      obtain ⟨i, hi⟩ := List.mem_iff_getElem?.1 hx
      obtain ⟨c, y, _, hy, _, k, z, _⟩ := hp i x hi
      exact ⟨y, List.mem_of_getElem? hy, k, z⟩
    refine ⟨l, ⟨some a, cap, by rw [hll], by omega, rfl, ?_, fun h0 => ⟨a, rfl, fun j p hj => ?_⟩⟩, ⟨by omega, fun x hx => ?_⟩, fun hw => ⟨?_, fun x hx => ?_⟩, ?_⟩
    · unfold maxLen at hm; omega
    · obtain ⟨c, y, hc, _, r, _⟩ := hp j p hj
      obtain ⟨_, hc1, hc2⟩ := World.cells?_some hc
      refine ⟨c, d.K_len r, r, fun i u hu => ?_⟩
      have := hc2 i (by have := (List.getElem?_eq_some_iff.1 hu).1; omega)
      rw [hu, hsz, Deep.add_add] at this
      exact this
    · obtain ⟨y, _, k, _⟩ := hmem x hx
      exact k
    · have := hw ((elems.length + rest.length) * Tryd.prog.bytesOf e) (by simp [DataW.weights, ht])
      have h2 : l.length * Tryd.prog.bytesOf e ≤ (elems.length + rest.length) * Tryd.prog.bytesOf e := Nat.mul_le_mul_right _ (by omega)
      exact Nat.le_trans (Nat.le_trans h2 this) (by decide)
    · obtain ⟨y, hy, _, z⟩ := hmem x hx
      exact z fun n hn => hw n (by
        simp only [DataW.weights, ht, List.mem_cons, List.mem_append]
        exact .inr (.inl (weights_mem_all (List.mem_map_of_mem hy) hn)))
    · have := bulk_sum b l (elems.map (·.1)) (by simp; omega) (fun i x dd hx hd => by
        obtain ⟨c, y, _, hy, _, _, _, u⟩ := hp i x hx
        rw [List.getElem?_map, hy] at hd
        simp at hd
        subst hd
        exact u)
      simp only [Rows.uptoBulk]
      omega

theorem cells_split1 {β : Type} {cs : List β} {n0 : Nat} (h : cs.length = n0) : cs = (cs.drop (0)).take n0 := by
  have q : (cs.drop (0)).take n0 = cs.drop (0) := List.take_of_length_le (by rw [List.length_drop]; omega)
  rw [q]
  rfl
theorem opened_struct1 {α0 : Type} {t : TypeId} {f0 : Field} {n0 : Nat}
    {R0 : World → α0 → List Value → Prop} {g0 s0 : α0 → Prop} {b0 : α0 → Nat}
    (hs : Tryd.prog.underlying t = some (.struct #[f0])) (hc : Tryd.prog.cellsOf t = n0)
    (hn0 : Tryd.prog.cellsOf f0.type = n0) (ho0 : f0.offset = 0) (h0 : Opened f0.type R0 g0 s0 b0)
    : Opened t (fun W (a : α0) cs => ∃ c0, cs = c0 ∧ R0 W a c0) (fun a => g0 a) (fun a => s0 a) (fun a => b0 a) := by
  constructor
  intro H enc W fuel cs y hy
  obtain ⟨xs, m, rfl, rfl, hl, hx, hf⟩ := DataW.trod_struct hs hy
  obtain ⟨x0, rfl⟩ : ∃ x0, xs = [x0] := by
    match xs, hx with
    | [x0], _ => exact ⟨x0, rfl⟩
  have e0 := hf 0 f0 rfl
  rw [hn0, ho0] at e0
  obtain ⟨a0, r0, k0, z0, u0⟩ := h0.out enc W m _ _ (e0.trans rfl)
  rw [hc] at hl
  refine ⟨a0, ⟨_, ?_, r0⟩, k0, fun hw => ?_, ?_⟩
  · exact cells_split1 hl
  · have hw' : ∀ n ∈ DataW.weightsEach Tryd.prog [f0.type] [x0.1], n ≤ reachBytes := fun n hn => hw n (by simp only [DataW.weights, hs]; exact hn)
    exact z0 fun n hn => hw' n (DataW.weights_mem_each (j := 0) rfl rfl n hn)
  · simp only [Rows.uptoBulk, Rows.uptoBulkAll, List.map]
    omega

theorem cells_split2 {β : Type} {cs : List β} {n0 n1 : Nat} (h : cs.length = n0 + n1) : cs = (cs.drop (0)).take n0 ++ ((cs.drop (n0)).take n1) := by
  have p0 := drop_split cs (0) n0
  rw [Nat.zero_add] at p0
  have q : (cs.drop (n0)).take n1 = cs.drop (n0) := List.take_of_length_le (by rw [List.length_drop]; omega)
  rw [q]
  rw [← p0]
  rfl
theorem opened_struct2 {α0 α1 : Type} {t : TypeId} {f0 f1 : Field} {n0 n1 : Nat}
    {R0 : World → α0 → List Value → Prop} {g0 s0 : α0 → Prop} {b0 : α0 → Nat}
    {R1 : World → α1 → List Value → Prop} {g1 s1 : α1 → Prop} {b1 : α1 → Nat}
    (hs : Tryd.prog.underlying t = some (.struct #[f0, f1])) (hc : Tryd.prog.cellsOf t = n0 + n1)
    (hn0 : Tryd.prog.cellsOf f0.type = n0) (ho0 : f0.offset = 0) (h0 : Opened f0.type R0 g0 s0 b0)
    (hn1 : Tryd.prog.cellsOf f1.type = n1) (ho1 : f1.offset = n0) (h1 : Opened f1.type R1 g1 s1 b1)
    : Opened t (fun W (a : α0 × α1) cs => ∃ c0 c1, cs = c0 ++ (c1) ∧ R0 W a.1 c0 ∧ R1 W a.2 c1) (fun a => g0 a.1 ∧ g1 a.2) (fun a => s0 a.1 ∧ s1 a.2) (fun a => b0 a.1 + b1 a.2) := by
  constructor
  intro H enc W fuel cs y hy
  obtain ⟨xs, m, rfl, rfl, hl, hx, hf⟩ := DataW.trod_struct hs hy
  obtain ⟨x0, x1, rfl⟩ : ∃ x0 x1, xs = [x0, x1] := by
    match xs, hx with
    | [x0, x1], _ => exact ⟨x0, x1, rfl⟩
  have e0 := hf 0 f0 rfl
  rw [hn0, ho0] at e0
  obtain ⟨a0, r0, k0, z0, u0⟩ := h0.out enc W m _ _ (e0.trans rfl)
  have e1 := hf 1 f1 rfl
  rw [hn1, ho1] at e1
  obtain ⟨a1, r1, k1, z1, u1⟩ := h1.out enc W m _ _ (e1.trans rfl)
  rw [hc] at hl
  refine ⟨(a0, a1), ⟨_, _, ?_, r0, r1⟩, ⟨k0, k1⟩, fun hw => ?_, ?_⟩
  · exact cells_split2 hl
  · have hw' : ∀ n ∈ DataW.weightsEach Tryd.prog [f0.type, f1.type] [x0.1, x1.1], n ≤ reachBytes := fun n hn => hw n (by simp only [DataW.weights, hs]; exact hn)
    exact ⟨z0 fun n hn => hw' n (DataW.weights_mem_each (j := 0) rfl rfl n hn), z1 fun n hn => hw' n (DataW.weights_mem_each (j := 1) rfl rfl n hn)⟩
  · simp only [Rows.uptoBulk, Rows.uptoBulkAll, List.map]
    omega

theorem cells_split3 {β : Type} {cs : List β} {n0 n1 n2 : Nat} (h : cs.length = n0 + n1 + n2) : cs = (cs.drop (0)).take n0 ++ ((cs.drop (n0)).take n1 ++ ((cs.drop (n0 + n1)).take n2)) := by
  have p0 := drop_split cs (0) n0
  rw [Nat.zero_add] at p0
  have p1 := drop_split cs (n0) n1
  have q : (cs.drop (n0 + n1)).take n2 = cs.drop (n0 + n1) := List.take_of_length_le (by rw [List.length_drop]; omega)
  rw [q]
  rw [← p1]
  rw [← p0]
  rfl
theorem opened_struct3 {α0 α1 α2 : Type} {t : TypeId} {f0 f1 f2 : Field} {n0 n1 n2 : Nat}
    {R0 : World → α0 → List Value → Prop} {g0 s0 : α0 → Prop} {b0 : α0 → Nat}
    {R1 : World → α1 → List Value → Prop} {g1 s1 : α1 → Prop} {b1 : α1 → Nat}
    {R2 : World → α2 → List Value → Prop} {g2 s2 : α2 → Prop} {b2 : α2 → Nat}
    (hs : Tryd.prog.underlying t = some (.struct #[f0, f1, f2])) (hc : Tryd.prog.cellsOf t = n0 + n1 + n2)
    (hn0 : Tryd.prog.cellsOf f0.type = n0) (ho0 : f0.offset = 0) (h0 : Opened f0.type R0 g0 s0 b0)
    (hn1 : Tryd.prog.cellsOf f1.type = n1) (ho1 : f1.offset = n0) (h1 : Opened f1.type R1 g1 s1 b1)
    (hn2 : Tryd.prog.cellsOf f2.type = n2) (ho2 : f2.offset = n0 + n1) (h2 : Opened f2.type R2 g2 s2 b2)
    : Opened t (fun W (a : α0 × α1 × α2) cs => ∃ c0 c1 c2, cs = c0 ++ (c1 ++ (c2)) ∧ R0 W a.1 c0 ∧ R1 W a.2.1 c1 ∧ R2 W a.2.2 c2) (fun a => g0 a.1 ∧ g1 a.2.1 ∧ g2 a.2.2) (fun a => s0 a.1 ∧ s1 a.2.1 ∧ s2 a.2.2) (fun a => b0 a.1 + b1 a.2.1 + b2 a.2.2) := by
  constructor
  intro H enc W fuel cs y hy
  obtain ⟨xs, m, rfl, rfl, hl, hx, hf⟩ := DataW.trod_struct hs hy
  obtain ⟨x0, x1, x2, rfl⟩ : ∃ x0 x1 x2, xs = [x0, x1, x2] := by
    match xs, hx with
    | [x0, x1, x2], _ => exact ⟨x0, x1, x2, rfl⟩
  have e0 := hf 0 f0 rfl
  rw [hn0, ho0] at e0
  obtain ⟨a0, r0, k0, z0, u0⟩ := h0.out enc W m _ _ (e0.trans rfl)
  have e1 := hf 1 f1 rfl
  rw [hn1, ho1] at e1
  obtain ⟨a1, r1, k1, z1, u1⟩ := h1.out enc W m _ _ (e1.trans rfl)
  have e2 := hf 2 f2 rfl
  rw [hn2, ho2] at e2
  obtain ⟨a2, r2, k2, z2, u2⟩ := h2.out enc W m _ _ (e2.trans rfl)
  rw [hc] at hl
  refine ⟨(a0, a1, a2), ⟨_, _, _, ?_, r0, r1, r2⟩, ⟨k0, k1, k2⟩, fun hw => ?_, ?_⟩
  · exact cells_split3 hl
  · have hw' : ∀ n ∈ DataW.weightsEach Tryd.prog [f0.type, f1.type, f2.type] [x0.1, x1.1, x2.1], n ≤ reachBytes := fun n hn => hw n (by simp only [DataW.weights, hs]; exact hn)
    exact ⟨z0 fun n hn => hw' n (DataW.weights_mem_each (j := 0) rfl rfl n hn), z1 fun n hn => hw' n (DataW.weights_mem_each (j := 1) rfl rfl n hn), z2 fun n hn => hw' n (DataW.weights_mem_each (j := 2) rfl rfl n hn)⟩
  · simp only [Rows.uptoBulk, Rows.uptoBulkAll, List.map]
    omega

theorem cells_split4 {β : Type} {cs : List β} {n0 n1 n2 n3 : Nat} (h : cs.length = n0 + n1 + n2 + n3) : cs = (cs.drop (0)).take n0 ++ ((cs.drop (n0)).take n1 ++ ((cs.drop (n0 + n1)).take n2 ++ ((cs.drop (n0 + n1 + n2)).take n3))) := by
  have p0 := drop_split cs (0) n0
  rw [Nat.zero_add] at p0
  have p1 := drop_split cs (n0) n1
  have p2 := drop_split cs (n0 + n1) n2
  have q : (cs.drop (n0 + n1 + n2)).take n3 = cs.drop (n0 + n1 + n2) := List.take_of_length_le (by rw [List.length_drop]; omega)
  rw [q]
  rw [← p2]
  rw [← p1]
  rw [← p0]
  rfl
theorem opened_struct4 {α0 α1 α2 α3 : Type} {t : TypeId} {f0 f1 f2 f3 : Field} {n0 n1 n2 n3 : Nat}
    {R0 : World → α0 → List Value → Prop} {g0 s0 : α0 → Prop} {b0 : α0 → Nat}
    {R1 : World → α1 → List Value → Prop} {g1 s1 : α1 → Prop} {b1 : α1 → Nat}
    {R2 : World → α2 → List Value → Prop} {g2 s2 : α2 → Prop} {b2 : α2 → Nat}
    {R3 : World → α3 → List Value → Prop} {g3 s3 : α3 → Prop} {b3 : α3 → Nat}
    (hs : Tryd.prog.underlying t = some (.struct #[f0, f1, f2, f3])) (hc : Tryd.prog.cellsOf t = n0 + n1 + n2 + n3)
    (hn0 : Tryd.prog.cellsOf f0.type = n0) (ho0 : f0.offset = 0) (h0 : Opened f0.type R0 g0 s0 b0)
    (hn1 : Tryd.prog.cellsOf f1.type = n1) (ho1 : f1.offset = n0) (h1 : Opened f1.type R1 g1 s1 b1)
    (hn2 : Tryd.prog.cellsOf f2.type = n2) (ho2 : f2.offset = n0 + n1) (h2 : Opened f2.type R2 g2 s2 b2)
    (hn3 : Tryd.prog.cellsOf f3.type = n3) (ho3 : f3.offset = n0 + n1 + n2) (h3 : Opened f3.type R3 g3 s3 b3)
    : Opened t (fun W (a : α0 × α1 × α2 × α3) cs => ∃ c0 c1 c2 c3, cs = c0 ++ (c1 ++ (c2 ++ (c3))) ∧ R0 W a.1 c0 ∧ R1 W a.2.1 c1 ∧ R2 W a.2.2.1 c2 ∧ R3 W a.2.2.2 c3) (fun a => g0 a.1 ∧ g1 a.2.1 ∧ g2 a.2.2.1 ∧ g3 a.2.2.2) (fun a => s0 a.1 ∧ s1 a.2.1 ∧ s2 a.2.2.1 ∧ s3 a.2.2.2) (fun a => b0 a.1 + b1 a.2.1 + b2 a.2.2.1 + b3 a.2.2.2) := by
  constructor
  intro H enc W fuel cs y hy
  obtain ⟨xs, m, rfl, rfl, hl, hx, hf⟩ := DataW.trod_struct hs hy
  obtain ⟨x0, x1, x2, x3, rfl⟩ : ∃ x0 x1 x2 x3, xs = [x0, x1, x2, x3] := by
    match xs, hx with
    | [x0, x1, x2, x3], _ => exact ⟨x0, x1, x2, x3, rfl⟩
  have e0 := hf 0 f0 rfl
  rw [hn0, ho0] at e0
  obtain ⟨a0, r0, k0, z0, u0⟩ := h0.out enc W m _ _ (e0.trans rfl)
  have e1 := hf 1 f1 rfl
  rw [hn1, ho1] at e1
  obtain ⟨a1, r1, k1, z1, u1⟩ := h1.out enc W m _ _ (e1.trans rfl)
  have e2 := hf 2 f2 rfl
  rw [hn2, ho2] at e2
  obtain ⟨a2, r2, k2, z2, u2⟩ := h2.out enc W m _ _ (e2.trans rfl)
  have e3 := hf 3 f3 rfl
  rw [hn3, ho3] at e3
  obtain ⟨a3, r3, k3, z3, u3⟩ := h3.out enc W m _ _ (e3.trans rfl)
  rw [hc] at hl
  refine ⟨(a0, a1, a2, a3), ⟨_, _, _, _, ?_, r0, r1, r2, r3⟩, ⟨k0, k1, k2, k3⟩, fun hw => ?_, ?_⟩
  · exact cells_split4 hl
  · have hw' : ∀ n ∈ DataW.weightsEach Tryd.prog [f0.type, f1.type, f2.type, f3.type] [x0.1, x1.1, x2.1, x3.1], n ≤ reachBytes := fun n hn => hw n (by simp only [DataW.weights, hs]; exact hn)
    exact ⟨z0 fun n hn => hw' n (DataW.weights_mem_each (j := 0) rfl rfl n hn), z1 fun n hn => hw' n (DataW.weights_mem_each (j := 1) rfl rfl n hn), z2 fun n hn => hw' n (DataW.weights_mem_each (j := 2) rfl rfl n hn), z3 fun n hn => hw' n (DataW.weights_mem_each (j := 3) rfl rfl n hn)⟩
  · simp only [Rows.uptoBulk, Rows.uptoBulkAll, List.map]
    omega

theorem cells_split5 {β : Type} {cs : List β} {n0 n1 n2 n3 n4 : Nat} (h : cs.length = n0 + n1 + n2 + n3 + n4) : cs = (cs.drop (0)).take n0 ++ ((cs.drop (n0)).take n1 ++ ((cs.drop (n0 + n1)).take n2 ++ ((cs.drop (n0 + n1 + n2)).take n3 ++ ((cs.drop (n0 + n1 + n2 + n3)).take n4)))) := by
  have p0 := drop_split cs (0) n0
  rw [Nat.zero_add] at p0
  have p1 := drop_split cs (n0) n1
  have p2 := drop_split cs (n0 + n1) n2
  have p3 := drop_split cs (n0 + n1 + n2) n3
  have q : (cs.drop (n0 + n1 + n2 + n3)).take n4 = cs.drop (n0 + n1 + n2 + n3) := List.take_of_length_le (by rw [List.length_drop]; omega)
  rw [q]
  rw [← p3]
  rw [← p2]
  rw [← p1]
  rw [← p0]
  rfl
theorem opened_struct5 {α0 α1 α2 α3 α4 : Type} {t : TypeId} {f0 f1 f2 f3 f4 : Field} {n0 n1 n2 n3 n4 : Nat}
    {R0 : World → α0 → List Value → Prop} {g0 s0 : α0 → Prop} {b0 : α0 → Nat}
    {R1 : World → α1 → List Value → Prop} {g1 s1 : α1 → Prop} {b1 : α1 → Nat}
    {R2 : World → α2 → List Value → Prop} {g2 s2 : α2 → Prop} {b2 : α2 → Nat}
    {R3 : World → α3 → List Value → Prop} {g3 s3 : α3 → Prop} {b3 : α3 → Nat}
    {R4 : World → α4 → List Value → Prop} {g4 s4 : α4 → Prop} {b4 : α4 → Nat}
    (hs : Tryd.prog.underlying t = some (.struct #[f0, f1, f2, f3, f4])) (hc : Tryd.prog.cellsOf t = n0 + n1 + n2 + n3 + n4)
    (hn0 : Tryd.prog.cellsOf f0.type = n0) (ho0 : f0.offset = 0) (h0 : Opened f0.type R0 g0 s0 b0)
    (hn1 : Tryd.prog.cellsOf f1.type = n1) (ho1 : f1.offset = n0) (h1 : Opened f1.type R1 g1 s1 b1)
    (hn2 : Tryd.prog.cellsOf f2.type = n2) (ho2 : f2.offset = n0 + n1) (h2 : Opened f2.type R2 g2 s2 b2)
    (hn3 : Tryd.prog.cellsOf f3.type = n3) (ho3 : f3.offset = n0 + n1 + n2) (h3 : Opened f3.type R3 g3 s3 b3)
    (hn4 : Tryd.prog.cellsOf f4.type = n4) (ho4 : f4.offset = n0 + n1 + n2 + n3) (h4 : Opened f4.type R4 g4 s4 b4)
    : Opened t (fun W (a : α0 × α1 × α2 × α3 × α4) cs => ∃ c0 c1 c2 c3 c4, cs = c0 ++ (c1 ++ (c2 ++ (c3 ++ (c4)))) ∧ R0 W a.1 c0 ∧ R1 W a.2.1 c1 ∧ R2 W a.2.2.1 c2 ∧ R3 W a.2.2.2.1 c3 ∧ R4 W a.2.2.2.2 c4) (fun a => g0 a.1 ∧ g1 a.2.1 ∧ g2 a.2.2.1 ∧ g3 a.2.2.2.1 ∧ g4 a.2.2.2.2) (fun a => s0 a.1 ∧ s1 a.2.1 ∧ s2 a.2.2.1 ∧ s3 a.2.2.2.1 ∧ s4 a.2.2.2.2) (fun a => b0 a.1 + b1 a.2.1 + b2 a.2.2.1 + b3 a.2.2.2.1 + b4 a.2.2.2.2) := by
  constructor
  intro H enc W fuel cs y hy
  obtain ⟨xs, m, rfl, rfl, hl, hx, hf⟩ := DataW.trod_struct hs hy
  obtain ⟨x0, x1, x2, x3, x4, rfl⟩ : ∃ x0 x1 x2 x3 x4, xs = [x0, x1, x2, x3, x4] := by
    match xs, hx with
    | [x0, x1, x2, x3, x4], _ => exact ⟨x0, x1, x2, x3, x4, rfl⟩
  have e0 := hf 0 f0 rfl
  rw [hn0, ho0] at e0
  obtain ⟨a0, r0, k0, z0, u0⟩ := h0.out enc W m _ _ (e0.trans rfl)
  have e1 := hf 1 f1 rfl
  rw [hn1, ho1] at e1
  obtain ⟨a1, r1, k1, z1, u1⟩ := h1.out enc W m _ _ (e1.trans rfl)
  have e2 := hf 2 f2 rfl
  rw [hn2, ho2] at e2
  obtain ⟨a2, r2, k2, z2, u2⟩ := h2.out enc W m _ _ (e2.trans rfl)
  have e3 := hf 3 f3 rfl
  rw [hn3, ho3] at e3
  obtain ⟨a3, r3, k3, z3, u3⟩ := h3.out enc W m _ _ (e3.trans rfl)
  have e4 := hf 4 f4 rfl
  rw [hn4, ho4] at e4
  obtain ⟨a4, r4, k4, z4, u4⟩ := h4.out enc W m _ _ (e4.trans rfl)
  rw [hc] at hl
  refine ⟨(a0, a1, a2, a3, a4), ⟨_, _, _, _, _, ?_, r0, r1, r2, r3, r4⟩, ⟨k0, k1, k2, k3, k4⟩, fun hw => ?_, ?_⟩
  · exact cells_split5 hl
  · have hw' : ∀ n ∈ DataW.weightsEach Tryd.prog [f0.type, f1.type, f2.type, f3.type, f4.type] [x0.1, x1.1, x2.1, x3.1, x4.1], n ≤ reachBytes := fun n hn => hw n (by simp only [DataW.weights, hs]; exact hn)
    exact ⟨z0 fun n hn => hw' n (DataW.weights_mem_each (j := 0) rfl rfl n hn), z1 fun n hn => hw' n (DataW.weights_mem_each (j := 1) rfl rfl n hn), z2 fun n hn => hw' n (DataW.weights_mem_each (j := 2) rfl rfl n hn), z3 fun n hn => hw' n (DataW.weights_mem_each (j := 3) rfl rfl n hn), z4 fun n hn => hw' n (DataW.weights_mem_each (j := 4) rfl rfl n hn)⟩
  · simp only [Rows.uptoBulk, Rows.uptoBulkAll, List.map]
    omega

theorem cells_split6 {β : Type} {cs : List β} {n0 n1 n2 n3 n4 n5 : Nat} (h : cs.length = n0 + n1 + n2 + n3 + n4 + n5) : cs = (cs.drop (0)).take n0 ++ ((cs.drop (n0)).take n1 ++ ((cs.drop (n0 + n1)).take n2 ++ ((cs.drop (n0 + n1 + n2)).take n3 ++ ((cs.drop (n0 + n1 + n2 + n3)).take n4 ++ ((cs.drop (n0 + n1 + n2 + n3 + n4)).take n5))))) := by
  have p0 := drop_split cs (0) n0
  rw [Nat.zero_add] at p0
  have p1 := drop_split cs (n0) n1
  have p2 := drop_split cs (n0 + n1) n2
  have p3 := drop_split cs (n0 + n1 + n2) n3
  have p4 := drop_split cs (n0 + n1 + n2 + n3) n4
  have q : (cs.drop (n0 + n1 + n2 + n3 + n4)).take n5 = cs.drop (n0 + n1 + n2 + n3 + n4) := List.take_of_length_le (by rw [List.length_drop]; omega)
  rw [q]
  rw [← p4]
  rw [← p3]
  rw [← p2]
  rw [← p1]
  rw [← p0]
  rfl
theorem opened_struct6 {α0 α1 α2 α3 α4 α5 : Type} {t : TypeId} {f0 f1 f2 f3 f4 f5 : Field} {n0 n1 n2 n3 n4 n5 : Nat}
    {R0 : World → α0 → List Value → Prop} {g0 s0 : α0 → Prop} {b0 : α0 → Nat}
    {R1 : World → α1 → List Value → Prop} {g1 s1 : α1 → Prop} {b1 : α1 → Nat}
    {R2 : World → α2 → List Value → Prop} {g2 s2 : α2 → Prop} {b2 : α2 → Nat}
    {R3 : World → α3 → List Value → Prop} {g3 s3 : α3 → Prop} {b3 : α3 → Nat}
    {R4 : World → α4 → List Value → Prop} {g4 s4 : α4 → Prop} {b4 : α4 → Nat}
    {R5 : World → α5 → List Value → Prop} {g5 s5 : α5 → Prop} {b5 : α5 → Nat}
    (hs : Tryd.prog.underlying t = some (.struct #[f0, f1, f2, f3, f4, f5])) (hc : Tryd.prog.cellsOf t = n0 + n1 + n2 + n3 + n4 + n5)
    (hn0 : Tryd.prog.cellsOf f0.type = n0) (ho0 : f0.offset = 0) (h0 : Opened f0.type R0 g0 s0 b0)
    (hn1 : Tryd.prog.cellsOf f1.type = n1) (ho1 : f1.offset = n0) (h1 : Opened f1.type R1 g1 s1 b1)
    (hn2 : Tryd.prog.cellsOf f2.type = n2) (ho2 : f2.offset = n0 + n1) (h2 : Opened f2.type R2 g2 s2 b2)
    (hn3 : Tryd.prog.cellsOf f3.type = n3) (ho3 : f3.offset = n0 + n1 + n2) (h3 : Opened f3.type R3 g3 s3 b3)
    (hn4 : Tryd.prog.cellsOf f4.type = n4) (ho4 : f4.offset = n0 + n1 + n2 + n3) (h4 : Opened f4.type R4 g4 s4 b4)
    (hn5 : Tryd.prog.cellsOf f5.type = n5) (ho5 : f5.offset = n0 + n1 + n2 + n3 + n4) (h5 : Opened f5.type R5 g5 s5 b5)
    : Opened t (fun W (a : α0 × α1 × α2 × α3 × α4 × α5) cs => ∃ c0 c1 c2 c3 c4 c5, cs = c0 ++ (c1 ++ (c2 ++ (c3 ++ (c4 ++ (c5))))) ∧ R0 W a.1 c0 ∧ R1 W a.2.1 c1 ∧ R2 W a.2.2.1 c2 ∧ R3 W a.2.2.2.1 c3 ∧ R4 W a.2.2.2.2.1 c4 ∧ R5 W a.2.2.2.2.2 c5) (fun a => g0 a.1 ∧ g1 a.2.1 ∧ g2 a.2.2.1 ∧ g3 a.2.2.2.1 ∧ g4 a.2.2.2.2.1 ∧ g5 a.2.2.2.2.2) (fun a => s0 a.1 ∧ s1 a.2.1 ∧ s2 a.2.2.1 ∧ s3 a.2.2.2.1 ∧ s4 a.2.2.2.2.1 ∧ s5 a.2.2.2.2.2) (fun a => b0 a.1 + b1 a.2.1 + b2 a.2.2.1 + b3 a.2.2.2.1 + b4 a.2.2.2.2.1 + b5 a.2.2.2.2.2) := by
  constructor
  intro H enc W fuel cs y hy
  obtain ⟨xs, m, rfl, rfl, hl, hx, hf⟩ := DataW.trod_struct hs hy
  obtain ⟨x0, x1, x2, x3, x4, x5, rfl⟩ : ∃ x0 x1 x2 x3 x4 x5, xs = [x0, x1, x2, x3, x4, x5] := by
    match xs, hx with
    | [x0, x1, x2, x3, x4, x5], _ => exact ⟨x0, x1, x2, x3, x4, x5, rfl⟩
  have e0 := hf 0 f0 rfl
  rw [hn0, ho0] at e0
  obtain ⟨a0, r0, k0, z0, u0⟩ := h0.out enc W m _ _ (e0.trans rfl)
  have e1 := hf 1 f1 rfl
  rw [hn1, ho1] at e1
  obtain ⟨a1, r1, k1, z1, u1⟩ := h1.out enc W m _ _ (e1.trans rfl)
  have e2 := hf 2 f2 rfl
  rw [hn2, ho2] at e2
  obtain ⟨a2, r2, k2, z2, u2⟩ := h2.out enc W m _ _ (e2.trans rfl)
  have e3 := hf 3 f3 rfl
  rw [hn3, ho3] at e3
  obtain ⟨a3, r3, k3, z3, u3⟩ := h3.out enc W m _ _ (e3.trans rfl)
  have e4 := hf 4 f4 rfl
  rw [hn4, ho4] at e4
  obtain ⟨a4, r4, k4, z4, u4⟩ := h4.out enc W m _ _ (e4.trans rfl)
  have e5 := hf 5 f5 rfl
  rw [hn5, ho5] at e5
  obtain ⟨a5, r5, k5, z5, u5⟩ := h5.out enc W m _ _ (e5.trans rfl)
  rw [hc] at hl
  refine ⟨(a0, a1, a2, a3, a4, a5), ⟨_, _, _, _, _, _, ?_, r0, r1, r2, r3, r4, r5⟩, ⟨k0, k1, k2, k3, k4, k5⟩, fun hw => ?_, ?_⟩
  · exact cells_split6 hl
  · have hw' : ∀ n ∈ DataW.weightsEach Tryd.prog [f0.type, f1.type, f2.type, f3.type, f4.type, f5.type] [x0.1, x1.1, x2.1, x3.1, x4.1, x5.1], n ≤ reachBytes := fun n hn => hw n (by simp only [DataW.weights, hs]; exact hn)
    exact ⟨z0 fun n hn => hw' n (DataW.weights_mem_each (j := 0) rfl rfl n hn), z1 fun n hn => hw' n (DataW.weights_mem_each (j := 1) rfl rfl n hn), z2 fun n hn => hw' n (DataW.weights_mem_each (j := 2) rfl rfl n hn), z3 fun n hn => hw' n (DataW.weights_mem_each (j := 3) rfl rfl n hn), z4 fun n hn => hw' n (DataW.weights_mem_each (j := 4) rfl rfl n hn), z5 fun n hn => hw' n (DataW.weights_mem_each (j := 5) rfl rfl n hn)⟩
  · simp only [Rows.uptoBulk, Rows.uptoBulkAll, List.map]
    omega

theorem cells_split7 {β : Type} {cs : List β} {n0 n1 n2 n3 n4 n5 n6 : Nat} (h : cs.length = n0 + n1 + n2 + n3 + n4 + n5 + n6) : cs = (cs.drop (0)).take n0 ++ ((cs.drop (n0)).take n1 ++ ((cs.drop (n0 + n1)).take n2 ++ ((cs.drop (n0 + n1 + n2)).take n3 ++ ((cs.drop (n0 + n1 + n2 + n3)).take n4 ++ ((cs.drop (n0 + n1 + n2 + n3 + n4)).take n5 ++ ((cs.drop (n0 + n1 + n2 + n3 + n4 + n5)).take n6)))))) := by
  have p0 := drop_split cs (0) n0
  rw [Nat.zero_add] at p0
  have p1 := drop_split cs (n0) n1
  have p2 := drop_split cs (n0 + n1) n2
  have p3 := drop_split cs (n0 + n1 + n2) n3
  have p4 := drop_split cs (n0 + n1 + n2 + n3) n4
  have p5 := drop_split cs (n0 + n1 + n2 + n3 + n4) n5
  have q : (cs.drop (n0 + n1 + n2 + n3 + n4 + n5)).take n6 = cs.drop (n0 + n1 + n2 + n3 + n4 + n5) := List.take_of_length_le (by rw [List.length_drop]; omega)
  rw [q]
  rw [← p5]
  rw [← p4]
  rw [← p3]
  rw [← p2]
  rw [← p1]
  rw [← p0]
  rfl
theorem opened_struct7 {α0 α1 α2 α3 α4 α5 α6 : Type} {t : TypeId} {f0 f1 f2 f3 f4 f5 f6 : Field} {n0 n1 n2 n3 n4 n5 n6 : Nat}
    {R0 : World → α0 → List Value → Prop} {g0 s0 : α0 → Prop} {b0 : α0 → Nat}
    {R1 : World → α1 → List Value → Prop} {g1 s1 : α1 → Prop} {b1 : α1 → Nat}
    {R2 : World → α2 → List Value → Prop} {g2 s2 : α2 → Prop} {b2 : α2 → Nat}
    {R3 : World → α3 → List Value → Prop} {g3 s3 : α3 → Prop} {b3 : α3 → Nat}
    {R4 : World → α4 → List Value → Prop} {g4 s4 : α4 → Prop} {b4 : α4 → Nat}
    {R5 : World → α5 → List Value → Prop} {g5 s5 : α5 → Prop} {b5 : α5 → Nat}
    {R6 : World → α6 → List Value → Prop} {g6 s6 : α6 → Prop} {b6 : α6 → Nat}
    (hs : Tryd.prog.underlying t = some (.struct #[f0, f1, f2, f3, f4, f5, f6])) (hc : Tryd.prog.cellsOf t = n0 + n1 + n2 + n3 + n4 + n5 + n6)
    (hn0 : Tryd.prog.cellsOf f0.type = n0) (ho0 : f0.offset = 0) (h0 : Opened f0.type R0 g0 s0 b0)
    (hn1 : Tryd.prog.cellsOf f1.type = n1) (ho1 : f1.offset = n0) (h1 : Opened f1.type R1 g1 s1 b1)
    (hn2 : Tryd.prog.cellsOf f2.type = n2) (ho2 : f2.offset = n0 + n1) (h2 : Opened f2.type R2 g2 s2 b2)
    (hn3 : Tryd.prog.cellsOf f3.type = n3) (ho3 : f3.offset = n0 + n1 + n2) (h3 : Opened f3.type R3 g3 s3 b3)
    (hn4 : Tryd.prog.cellsOf f4.type = n4) (ho4 : f4.offset = n0 + n1 + n2 + n3) (h4 : Opened f4.type R4 g4 s4 b4)
    (hn5 : Tryd.prog.cellsOf f5.type = n5) (ho5 : f5.offset = n0 + n1 + n2 + n3 + n4) (h5 : Opened f5.type R5 g5 s5 b5)
    (hn6 : Tryd.prog.cellsOf f6.type = n6) (ho6 : f6.offset = n0 + n1 + n2 + n3 + n4 + n5) (h6 : Opened f6.type R6 g6 s6 b6)
    : Opened t (fun W (a : α0 × α1 × α2 × α3 × α4 × α5 × α6) cs => ∃ c0 c1 c2 c3 c4 c5 c6, cs = c0 ++ (c1 ++ (c2 ++ (c3 ++ (c4 ++ (c5 ++ (c6)))))) ∧ R0 W a.1 c0 ∧ R1 W a.2.1 c1 ∧ R2 W a.2.2.1 c2 ∧ R3 W a.2.2.2.1 c3 ∧ R4 W a.2.2.2.2.1 c4 ∧ R5 W a.2.2.2.2.2.1 c5 ∧ R6 W a.2.2.2.2.2.2 c6) (fun a => g0 a.1 ∧ g1 a.2.1 ∧ g2 a.2.2.1 ∧ g3 a.2.2.2.1 ∧ g4 a.2.2.2.2.1 ∧ g5 a.2.2.2.2.2.1 ∧ g6 a.2.2.2.2.2.2) (fun a => s0 a.1 ∧ s1 a.2.1 ∧ s2 a.2.2.1 ∧ s3 a.2.2.2.1 ∧ s4 a.2.2.2.2.1 ∧ s5 a.2.2.2.2.2.1 ∧ s6 a.2.2.2.2.2.2) (fun a => b0 a.1 + b1 a.2.1 + b2 a.2.2.1 + b3 a.2.2.2.1 + b4 a.2.2.2.2.1 + b5 a.2.2.2.2.2.1 + b6 a.2.2.2.2.2.2) := by
  constructor
  intro H enc W fuel cs y hy
  obtain ⟨xs, m, rfl, rfl, hl, hx, hf⟩ := DataW.trod_struct hs hy
  obtain ⟨x0, x1, x2, x3, x4, x5, x6, rfl⟩ : ∃ x0 x1 x2 x3 x4 x5 x6, xs = [x0, x1, x2, x3, x4, x5, x6] := by
    match xs, hx with
    | [x0, x1, x2, x3, x4, x5, x6], _ => exact ⟨x0, x1, x2, x3, x4, x5, x6, rfl⟩
  have e0 := hf 0 f0 rfl
  rw [hn0, ho0] at e0
  obtain ⟨a0, r0, k0, z0, u0⟩ := h0.out enc W m _ _ (e0.trans rfl)
  have e1 := hf 1 f1 rfl
  rw [hn1, ho1] at e1
  obtain ⟨a1, r1, k1, z1, u1⟩ := h1.out enc W m _ _ (e1.trans rfl)
  have e2 := hf 2 f2 rfl
  rw [hn2, ho2] at e2
  obtain ⟨a2, r2, k2, z2, u2⟩ := h2.out enc W m _ _ (e2.trans rfl)
  have e3 := hf 3 f3 rfl
  rw [hn3, ho3] at e3
  obtain ⟨a3, r3, k3, z3, u3⟩ := h3.out enc W m _ _ (e3.trans rfl)
  have e4 := hf 4 f4 rfl
  rw [hn4, ho4] at e4
  obtain ⟨a4, r4, k4, z4, u4⟩ := h4.out enc W m _ _ (e4.trans rfl)
  have e5 := hf 5 f5 rfl
  rw [hn5, ho5] at e5
  obtain ⟨a5, r5, k5, z5, u5⟩ := h5.out enc W m _ _ (e5.trans rfl)
  have e6 := hf 6 f6 rfl
  rw [hn6, ho6] at e6
  obtain ⟨a6, r6, k6, z6, u6⟩ := h6.out enc W m _ _ (e6.trans rfl)
  rw [hc] at hl
  refine ⟨(a0, a1, a2, a3, a4, a5, a6), ⟨_, _, _, _, _, _, _, ?_, r0, r1, r2, r3, r4, r5, r6⟩, ⟨k0, k1, k2, k3, k4, k5, k6⟩, fun hw => ?_, ?_⟩
  · exact cells_split7 hl
  · have hw' : ∀ n ∈ DataW.weightsEach Tryd.prog [f0.type, f1.type, f2.type, f3.type, f4.type, f5.type, f6.type] [x0.1, x1.1, x2.1, x3.1, x4.1, x5.1, x6.1], n ≤ reachBytes := fun n hn => hw n (by simp only [DataW.weights, hs]; exact hn)
    exact ⟨z0 fun n hn => hw' n (DataW.weights_mem_each (j := 0) rfl rfl n hn), z1 fun n hn => hw' n (DataW.weights_mem_each (j := 1) rfl rfl n hn), z2 fun n hn => hw' n (DataW.weights_mem_each (j := 2) rfl rfl n hn), z3 fun n hn => hw' n (DataW.weights_mem_each (j := 3) rfl rfl n hn), z4 fun n hn => hw' n (DataW.weights_mem_each (j := 4) rfl rfl n hn), z5 fun n hn => hw' n (DataW.weights_mem_each (j := 5) rfl rfl n hn), z6 fun n hn => hw' n (DataW.weights_mem_each (j := 6) rfl rfl n hn)⟩
  · simp only [Rows.uptoBulk, Rows.uptoBulkAll, List.map]
    omega

theorem cells_split8 {β : Type} {cs : List β} {n0 n1 n2 n3 n4 n5 n6 n7 : Nat} (h : cs.length = n0 + n1 + n2 + n3 + n4 + n5 + n6 + n7) : cs = (cs.drop (0)).take n0 ++ ((cs.drop (n0)).take n1 ++ ((cs.drop (n0 + n1)).take n2 ++ ((cs.drop (n0 + n1 + n2)).take n3 ++ ((cs.drop (n0 + n1 + n2 + n3)).take n4 ++ ((cs.drop (n0 + n1 + n2 + n3 + n4)).take n5 ++ ((cs.drop (n0 + n1 + n2 + n3 + n4 + n5)).take n6 ++ ((cs.drop (n0 + n1 + n2 + n3 + n4 + n5 + n6)).take n7))))))) := by
  have p0 := drop_split cs (0) n0
  rw [Nat.zero_add] at p0
  have p1 := drop_split cs (n0) n1
  have p2 := drop_split cs (n0 + n1) n2
  have p3 := drop_split cs (n0 + n1 + n2) n3
  have p4 := drop_split cs (n0 + n1 + n2 + n3) n4
  have p5 := drop_split cs (n0 + n1 + n2 + n3 + n4) n5
  have p6 := drop_split cs (n0 + n1 + n2 + n3 + n4 + n5) n6
  have q : (cs.drop (n0 + n1 + n2 + n3 + n4 + n5 + n6)).take n7 = cs.drop (n0 + n1 + n2 + n3 + n4 + n5 + n6) := List.take_of_length_le (by rw [List.length_drop]; omega)
  rw [q]
  rw [← p6]
  rw [← p5]
  rw [← p4]
  rw [← p3]
  rw [← p2]
  rw [← p1]
  rw [← p0]
  rfl
theorem opened_struct8 {α0 α1 α2 α3 α4 α5 α6 α7 : Type} {t : TypeId} {f0 f1 f2 f3 f4 f5 f6 f7 : Field} {n0 n1 n2 n3 n4 n5 n6 n7 : Nat}
    {R0 : World → α0 → List Value → Prop} {g0 s0 : α0 → Prop} {b0 : α0 → Nat}
    {R1 : World → α1 → List Value → Prop} {g1 s1 : α1 → Prop} {b1 : α1 → Nat}
    {R2 : World → α2 → List Value → Prop} {g2 s2 : α2 → Prop} {b2 : α2 → Nat}
    {R3 : World → α3 → List Value → Prop} {g3 s3 : α3 → Prop} {b3 : α3 → Nat}
    {R4 : World → α4 → List Value → Prop} {g4 s4 : α4 → Prop} {b4 : α4 → Nat}
    {R5 : World → α5 → List Value → Prop} {g5 s5 : α5 → Prop} {b5 : α5 → Nat}
    {R6 : World → α6 → List Value → Prop} {g6 s6 : α6 → Prop} {b6 : α6 → Nat}
    {R7 : World → α7 → List Value → Prop} {g7 s7 : α7 → Prop} {b7 : α7 → Nat}
    (hs : Tryd.prog.underlying t = some (.struct #[f0, f1, f2, f3, f4, f5, f6, f7])) (hc : Tryd.prog.cellsOf t = n0 + n1 + n2 + n3 + n4 + n5 + n6 + n7)
    (hn0 : Tryd.prog.cellsOf f0.type = n0) (ho0 : f0.offset = 0) (h0 : Opened f0.type R0 g0 s0 b0)
    (hn1 : Tryd.prog.cellsOf f1.type = n1) (ho1 : f1.offset = n0) (h1 : Opened f1.type R1 g1 s1 b1)
    (hn2 : Tryd.prog.cellsOf f2.type = n2) (ho2 : f2.offset = n0 + n1) (h2 : Opened f2.type R2 g2 s2 b2)
    (hn3 : Tryd.prog.cellsOf f3.type = n3) (ho3 : f3.offset = n0 + n1 + n2) (h3 : Opened f3.type R3 g3 s3 b3)
    (hn4 : Tryd.prog.cellsOf f4.type = n4) (ho4 : f4.offset = n0 + n1 + n2 + n3) (h4 : Opened f4.type R4 g4 s4 b4)
    (hn5 : Tryd.prog.cellsOf f5.type = n5) (ho5 : f5.offset = n0 + n1 + n2 + n3 + n4) (h5 : Opened f5.type R5 g5 s5 b5)
    (hn6 : Tryd.prog.cellsOf f6.type = n6) (ho6 : f6.offset = n0 + n1 + n2 + n3 + n4 + n5) (h6 : Opened f6.type R6 g6 s6 b6)
    (hn7 : Tryd.prog.cellsOf f7.type = n7) (ho7 : f7.offset = n0 + n1 + n2 + n3 + n4 + n5 + n6) (h7 : Opened f7.type R7 g7 s7 b7)
    : Opened t (fun W (a : α0 × α1 × α2 × α3 × α4 × α5 × α6 × α7) cs => ∃ c0 c1 c2 c3 c4 c5 c6 c7, cs = c0 ++ (c1 ++ (c2 ++ (c3 ++ (c4 ++ (c5 ++ (c6 ++ (c7))))))) ∧ R0 W a.1 c0 ∧ R1 W a.2.1 c1 ∧ R2 W a.2.2.1 c2 ∧ R3 W a.2.2.2.1 c3 ∧ R4 W a.2.2.2.2.1 c4 ∧ R5 W a.2.2.2.2.2.1 c5 ∧ R6 W a.2.2.2.2.2.2.1 c6 ∧ R7 W a.2.2.2.2.2.2.2 c7) (fun a => g0 a.1 ∧ g1 a.2.1 ∧ g2 a.2.2.1 ∧ g3 a.2.2.2.1 ∧ g4 a.2.2.2.2.1 ∧ g5 a.2.2.2.2.2.1 ∧ g6 a.2.2.2.2.2.2.1 ∧ g7 a.2.2.2.2.2.2.2) (fun a => s0 a.1 ∧ s1 a.2.1 ∧ s2 a.2.2.1 ∧ s3 a.2.2.2.1 ∧ s4 a.2.2.2.2.1 ∧ s5 a.2.2.2.2.2.1 ∧ s6 a.2.2.2.2.2.2.1 ∧ s7 a.2.2.2.2.2.2.2) (fun a => b0 a.1 + b1 a.2.1 + b2 a.2.2.1 + b3 a.2.2.2.1 + b4 a.2.2.2.2.1 + b5 a.2.2.2.2.2.1 + b6 a.2.2.2.2.2.2.1 + b7 a.2.2.2.2.2.2.2) := by
  constructor
  intro H enc W fuel cs y hy
  obtain ⟨xs, m, rfl, rfl, hl, hx, hf⟩ := DataW.trod_struct hs hy
  obtain ⟨x0, x1, x2, x3, x4, x5, x6, x7, rfl⟩ : ∃ x0 x1 x2 x3 x4 x5 x6 x7, xs = [x0, x1, x2, x3, x4, x5, x6, x7] := by
    match xs, hx with
    | [x0, x1, x2, x3, x4, x5, x6, x7], _ => exact ⟨x0, x1, x2, x3, x4, x5, x6, x7, rfl⟩
  have e0 := hf 0 f0 rfl
  rw [hn0, ho0] at e0
  obtain ⟨a0, r0, k0, z0, u0⟩ := h0.out enc W m _ _ (e0.trans rfl)
  have e1 := hf 1 f1 rfl
  rw [hn1, ho1] at e1
  obtain ⟨a1, r1, k1, z1, u1⟩ := h1.out enc W m _ _ (e1.trans rfl)
  have e2 := hf 2 f2 rfl
  rw [hn2, ho2] at e2
  obtain ⟨a2, r2, k2, z2, u2⟩ := h2.out enc W m _ _ (e2.trans rfl)
  have e3 := hf 3 f3 rfl
  rw [hn3, ho3] at e3
  obtain ⟨a3, r3, k3, z3, u3⟩ := h3.out enc W m _ _ (e3.trans rfl)
  have e4 := hf 4 f4 rfl
  rw [hn4, ho4] at e4
  obtain ⟨a4, r4, k4, z4, u4⟩ := h4.out enc W m _ _ (e4.trans rfl)
  have e5 := hf 5 f5 rfl
  rw [hn5, ho5] at e5
  obtain ⟨a5, r5, k5, z5, u5⟩ := h5.out enc W m _ _ (e5.trans rfl)
  have e6 := hf 6 f6 rfl
  rw [hn6, ho6] at e6
  obtain ⟨a6, r6, k6, z6, u6⟩ := h6.out enc W m _ _ (e6.trans rfl)
  have e7 := hf 7 f7 rfl
  rw [hn7, ho7] at e7
  obtain ⟨a7, r7, k7, z7, u7⟩ := h7.out enc W m _ _ (e7.trans rfl)
  rw [hc] at hl
  refine ⟨(a0, a1, a2, a3, a4, a5, a6, a7), ⟨_, _, _, _, _, _, _, _, ?_, r0, r1, r2, r3, r4, r5, r6, r7⟩, ⟨k0, k1, k2, k3, k4, k5, k6, k7⟩, fun hw => ?_, ?_⟩
  · exact cells_split8 hl
  · have hw' : ∀ n ∈ DataW.weightsEach Tryd.prog [f0.type, f1.type, f2.type, f3.type, f4.type, f5.type, f6.type, f7.type] [x0.1, x1.1, x2.1, x3.1, x4.1, x5.1, x6.1, x7.1], n ≤ reachBytes := fun n hn => hw n (by simp only [DataW.weights, hs]; exact hn)
    exact ⟨z0 fun n hn => hw' n (DataW.weights_mem_each (j := 0) rfl rfl n hn), z1 fun n hn => hw' n (DataW.weights_mem_each (j := 1) rfl rfl n hn), z2 fun n hn => hw' n (DataW.weights_mem_each (j := 2) rfl rfl n hn), z3 fun n hn => hw' n (DataW.weights_mem_each (j := 3) rfl rfl n hn), z4 fun n hn => hw' n (DataW.weights_mem_each (j := 4) rfl rfl n hn), z5 fun n hn => hw' n (DataW.weights_mem_each (j := 5) rfl rfl n hn), z6 fun n hn => hw' n (DataW.weights_mem_each (j := 6) rfl rfl n hn), z7 fun n hn => hw' n (DataW.weights_mem_each (j := 7) rfl rfl n hn)⟩
  · simp only [Rows.uptoBulk, Rows.uptoBulkAll, List.map]
    omega

end Go.Proofs.YthdkmohelampbaaDoor.F
namespace Go.Proofs.YthdkmohelampbaaDoor.F
open Go.RowKit Go.Proofs.YthdkmohelampbaaDoorW.PrintWords Go.Proofs.YthdkmohelampbaaDoorW.PrintLast Go.Proofs.YthdkmohelampbaaDoorW.PrintMore
set_option linter.unusedVariables false
set_option linter.unusedSimpArgs false
theorem g_widths : Tryd.prog.globalNamed "interchange/num.widths" = some 0 := by kernel_rfl
theorem g_widths_type : (Tryd.prog.globals[0]?).map (·.type) = some 95 := by kernel_rfl
theorem cells_widths : Tryd.prog.cellsOf 95 = 4 := by kernel_rfl
theorem cells_int : Tryd.prog.cellsOf 3 = 1 := by kernel_rfl
theorem table_widths {W : World} (h : laidMetH Tryd.prog [("interchange/num.widths", Rows.laid_interchange_num_widths)] W) : Lib.TabIs Tryd.prog W "interchange/num.widths" .i64 [1, 2, 4, 8] :=
  Lib.tabIs_of_head (rest := []) g_widths g_widths_type Tryd.underlying95 Tryd.underlying3 cells_int cells_widths h
theorem laid_of {W : World} (h : laidMetH Tryd.prog [("interchange/num.widths", Rows.laid_interchange_num_widths)] W) : Laid W :=
  ⟨(table_widths h).cell g_widths 0 (by decide), (table_widths h).cell g_widths 1 (by decide), (table_widths h).cell g_widths 2 (by decide), (table_widths h).cell g_widths 3 (by decide)⟩
noncomputable def laid_world (os : Os) : World :=
  { World.holding Tryd.prog os ⟨#[], #[], []⟩ with heap := (World.holding Tryd.prog os ⟨#[], #[], []⟩).heap.modify 0 fun
      | .cells _ t frozen => .cells #[.int .i64 1, .int .i64 2, .int .i64 4, .int .i64 8] t frozen
      | o => o }
end Go.Proofs.YthdkmohelampbaaDoor.F
namespace Go.Proofs.YthdkmohelampbaaDoor.F
open Go.RowKit Go.Proofs.YthdkmohelampbaaDoorW.PrintWords Go.Proofs.YthdkmohelampbaaDoorW.PrintLast Go.Proofs.YthdkmohelampbaaDoorW.PrintMore
set_option linter.unusedVariables false
set_option linter.unusedSimpArgs false
theorem items_congr {one one' : ByteArray → Int → Int → Tk} (hl : Less one) (dep : Int) : ∀ (k : Nat) (s : ByteArray) (d : Int), (∀ i d, i.size ≤ s.size → one i dep d = one' i dep d) → itemsR one k s dep d = itemsR one' k s dep d
  | 0, _, _, _ => rfl
  | k + 1, s, d, h => by
    rw [itemsR, itemsR, ← h s d (Nat.le_refl _)]
    by_cases e : s.size = 0
    · rw [if_pos e, if_pos e]
    · rw [if_neg e, if_neg e]
      have hs := hl s dep d
      by_cases e2 : (one s dep d).2.1 = 2
      · rw [if_pos e2]; rfl
      · rw [if_neg e2]
        by_cases e0 : (one s dep d).2.1 = 0
        · rw [if_pos e0, if_pos e0]
          have := hs e0
          exact items_congr hl dep k _ _ fun i d hi => h i d (by omega)
        · rw [if_neg e0, if_neg e0]
theorem within_congr {one one' : ByteArray → Int → Int → Tk} (hl : Less one) (s : ByteArray) (dep d : Int) (h : ∀ i d, i.size < s.size → one i dep d = one' i dep d) : withinR one s dep d = withinR one' s dep d := by
  unfold withinR
  have hs := ltake_less (n := 4) (t := s)
  by_cases e : (ltakeR 4 s).2.2 = 0
  · rw [if_pos e, if_pos e]
    replace hs := hs e (by decide) isW4
    by_cases hd : dep ≤ 32
    · rw [if_pos hd, if_pos hd, items_congr hl dep _ _ _ fun i d hi => h i d (by omega)]
    · rw [if_neg hd, if_neg hd]
  · rw [if_neg e, if_neg e]
theorem field_congr {val val' : ByteArray → Int → Int → Tk} (s : ByteArray) (dep d : Int) (h : ∀ i d, i.size ≤ s.size → val i dep d = val' i dep d) : fieldR val s dep d = fieldR val' s dep d := by
  unfold fieldR
  rw [h _ d (ltake_size 1 s).2]
theorem val_fuel : ∀ (k j : Nat) (s : ByteArray) (dep d : Int), s.size < k → s.size < j → valR k s dep d = valR j s dep d := by
  intro k
  induction k with
  | zero => intro j s dep d h; omega
  | succ k ih =>
    intro j s dep d hk hj
    obtain ⟨j, rfl⟩ : ∃ i, j = i + 1 := ⟨j - 1, by omega⟩
    rw [valR, valR]
    by_cases e : s.size = 0
    · rw [if_pos e, if_pos e]
    · have ht := tail_size e
      rw [if_neg e, if_neg e, within_congr (one' := valR j) (val_less k) _ _ _ fun i d hi => ih j i _ d (by omega) (by omega),
        within_congr (one' := fieldR (valR j)) (field_less (val_less k)) _ _ _ fun i d hi => field_congr i _ d fun i2 d2 hi2 => ih j i2 _ d2 (by omega) (by omega)]
/-- a value, taken with rounds enough -/
def valT (s : ByteArray) (dep d : Int) : Tk := valR (s.size + 1) s dep d
theorem valT_less : Less valT := fun s dep d h => val_less _ s dep d h
theorem valT_eq (s : ByteArray) (dep d : Int) : valT s dep d = if s.size = 0 then (⟨#[]⟩, 2, d) else
      match sizeU (kindOf s) with
      | some n => ((skipR (tailOf s) n).2.1, (skipR (tailOf s) n).2.2, d)
      | none => if kindOf s = 83 ∨ kindOf s = 120 then ((ltakeR 4 (tailOf s)).2.1, (ltakeR 4 (tailOf s)).2.2, d)
        else if kindOf s = 65 then withinR valT (tailOf s) (dep + 1) d
        else if kindOf s = 70 then withinR (fieldR valT) (tailOf s) (dep + 1) d
        else (⟨#[]⟩, 3, d) := by
  unfold valT
  rw [valR]
  by_cases e : s.size = 0
  · rw [if_pos e, if_pos e]
  · have ht := tail_size e
    rw [if_neg e, if_neg e, within_congr (one' := fun s dep d => valR (s.size + 1) s dep d) (val_less _) _ _ _ fun i d hi => val_fuel _ _ i _ d (by omega) (by omega),
      within_congr (one' := fieldR fun s dep d => valR (s.size + 1) s dep d) (field_less (val_less _)) _ _ _ fun i d hi => field_congr i _ d fun i2 d2 hi2 => val_fuel _ _ i2 _ d2 (by omega) (by omega)]
    rfl
/-- a table's taking, with rounds enough -/
theorem tabR_eq (s : ByteArray) : tabR s = withinR (fieldR valT) s 1 0 := by
  unfold tabR
  exact within_congr (field_less (val_less _)) s 1 0 fun i d hi => field_congr i _ d fun i2 d2 hi2 => val_fuel _ _ i2 _ d2 (by omega) (by omega)
/-- within: what stands behind it changes nothing -/
theorem within_pre {one : ByteArray → Int → Int → Tk} {s : ByteArray} {dep d : Int} (h : (withinR one s dep d).2.1 = 0) :
    ∃ a, s = a ++ (withinR one s dep d).1 ∧ ∀ more, withinR one (a ++ more) dep d = (more, 0, (withinR one s dep d).2.2) := by
  unfold withinR at h ⊢
  by_cases e : (ltakeR 4 s).2.2 = 0
  · rw [if_pos e] at h ⊢
    obtain ⟨h1, h2⟩ := take_lay e
    by_cases hd : dep ≤ 32
    · rw [if_pos hd] at h ⊢
      refine ⟨(layR 4 (ltakeR 4 s).1).1, h2.symm, fun more => ?_⟩
      rw [lay_take more h1]
      simp only at h ⊢
      rw [if_pos trivial, if_pos hd, h]
    · rw [if_neg hd] at h
      exact absurd h (show ¬ (5 : Int) = 0 by decide)
  · rw [if_neg e] at h
    exact absurd h e
/-- the kind's byte -/
def headOf (s : ByteArray) : ByteArray := s.extract 0 1
theorem head_tail {s : ByteArray} (h : ¬ s.size = 0) : headOf s ++ tailOf s = s := extract_join s 1 (by omega)
theorem head_size {s : ByteArray} (h : ¬ s.size = 0) : (headOf s).size = 1 := extract_size s 1 (by omega)
theorem head_kind {s : ByteArray} (h : ¬ s.size = 0) (y : ByteArray) : kindOf (headOf s ++ y) = kindOf s := by
  unfold kindOf
  have h1 := head_tail h
  have h2 := head_size h
  generalize headOf s = a at h1 h2
  rw [← h1]
  rw [append_data, append_data]
  cases hl : a.data.toList with
  | nil => rw [← size_list, hl] at h2; simp at h2
  | cons b l => rfl
theorem tail_head {s : ByteArray} (h : ¬ s.size = 0) (y : ByteArray) : tailOf (headOf s ++ y) = y := by
  have h2 := head_size h
  unfold tailOf
  rw [← h2]
  exact extract_app_right _ _
theorem skip_pre {s : ByteArray} {n : Nat} (h : (skipR s n).2.2 = 0) : ∃ a, s = a ++ (skipR s n).2.1 ∧ ∀ more, (skipR (a ++ more) n).2 = (more, 0) := by
  unfold skipR at h ⊢
  by_cases e : (n : Int) ≤ (s.size : Int)
  · rw [if_pos e]
    have ha := extract_size s n (by omega)
    refine ⟨s.extract 0 n, (extract_join s n (by omega)).symm, fun more => ?_⟩
    rw [if_pos (by rw [size_append]; omega)]
    simp only [Int.toNat_natCast]
    have := extract_app_right (s.extract 0 n) more
    rw [ha] at this
    rw [this]
  · rw [if_neg e] at h
    exact absurd h (show ¬ (2 : Int) = 0 by decide)
theorem ltake_pre {s : ByteArray} (h : (ltakeR 4 s).2.2 = 0) : ∃ a, s = a ++ (ltakeR 4 s).2.1 ∧ ∀ more, (ltakeR 4 (a ++ more)).2 = (more, 0) := by
  obtain ⟨h1, h2⟩ := take_lay h
  exact ⟨_, h2.symm, fun more => by rw [lay_take more h1]⟩
/-- A value: what stands behind it changes nothing. -/
theorem val_pre {s : ByteArray} {dep d : Int} (h : (valT s dep d).2.1 = 0) :
    ∃ a, s = a ++ (valT s dep d).1 ∧ ∀ more, valT (a ++ more) dep d = (more, 0, (valT s dep d).2.2) := by
  rw [valT_eq] at h ⊢
  by_cases e : s.size = 0
  · rw [if_pos e] at h; exact absurd h (show ¬ (2 : Int) = 0 by decide)
  rw [if_neg e] at h ⊢
  have hs := head_size e
  have step : ∀ (x : ByteArray) (more : ByteArray), valT ((headOf s ++ x) ++ more) dep d = match sizeU (kindOf s) with
      | some n => ((skipR (x ++ more) n).2.1, (skipR (x ++ more) n).2.2, d)
      | none => if kindOf s = 83 ∨ kindOf s = 120 then ((ltakeR 4 (x ++ more)).2.1, (ltakeR 4 (x ++ more)).2.2, d)
        else if kindOf s = 65 then withinR valT (x ++ more) (dep + 1) d
        else if kindOf s = 70 then withinR (fieldR valT) (x ++ more) (dep + 1) d
        else (⟨#[]⟩, 3, d) := by
    intro x more
    rw [valT_eq, app_assoc, if_neg (by rw [size_append]; omega), head_kind e, tail_head e]
  have hj := head_tail e
  have close : ∀ x r, tailOf s = x ++ r → s = (headOf s ++ x) ++ r := by
    intro x r hx
    rw [app_assoc, ← hx, hj]
  cases hk : sizeU (kindOf s) with
  | some n =>
    rw [hk] at h step
    simp only at h step ⊢
    obtain ⟨a, h1, h2⟩ := skip_pre h
    refine ⟨headOf s ++ a, close _ _ h1, fun more => ?_⟩
    rw [step, h2 more]
  | none =>
    rw [hk] at h step
    simp only at h step ⊢
    by_cases c1 : kindOf s = 83 ∨ kindOf s = 120
    · simp only [if_pos c1] at h step ⊢
      obtain ⟨a, h1, h2⟩ := ltake_pre h
      refine ⟨headOf s ++ a, close _ _ h1, fun more => ?_⟩
      rw [step, h2 more]
    · simp only [if_neg c1] at h step ⊢
      by_cases c2 : kindOf s = 65
      · simp only [if_pos c2] at h step ⊢
        obtain ⟨a, h1, h2⟩ := within_pre h
        exact ⟨headOf s ++ a, close _ _ h1, fun more => by rw [step, h2 more]⟩
      · simp only [if_neg c2] at h step ⊢
        by_cases c3 : kindOf s = 70
        · simp only [if_pos c3] at h step ⊢
          obtain ⟨a, h1, h2⟩ := within_pre h
          exact ⟨headOf s ++ a, close _ _ h1, fun more => by rw [step, h2 more]⟩
        · simp only [if_neg c3] at h
          exact absurd h (show ¬ (3 : Int) = 0 by decide)
end Go.Proofs.YthdkmohelampbaaDoor.F
namespace Go.Proofs.YthdkmohelampbaaDoor.F
open Go.RowKit Go.Proofs.YthdkmohelampbaaDoorW.PrintWords Go.Proofs.YthdkmohelampbaaDoorW.PrintLast Go.Proofs.YthdkmohelampbaaDoorW.PrintMore
set_option linter.unusedVariables false
set_option linter.unusedSimpArgs false
/-- alike: the same error; where there is none, the same rest, and how deep -/
def Alike (d : Int) (t : Tk) (r : Rk) : Prop := t.2.1 = r.2.2 ∧ (t.2.1 = 0 → t.1 = r.1 ∧ t.2.2 = max d r.2.1)
def rOne (val : ByteArray → Int → Rk) (fields : Bool) (s : ByteArray) (depth : Int) : Rk := if fields = true ∧ ¬ (ltakeR 1 s).2.2 = 0 then (⟨#[]⟩, 0, 2) else val (if fields = true then (ltakeR 1 s).2.1 else s) depth
theorem rItems_succ (val : ByteArray → Int → Rk) (fields : Bool) (depth : Int) (k : Nat) (s : ByteArray) (dp : Int) : rItems val fields depth (k + 1) s dp = if s.size = 0 then (dp, 0) else
    if (if (rOne val fields s depth).2.2 = 2 then 3 else (rOne val fields s depth).2.2) = 0 then rItems val fields depth k (rOne val fields s depth).1 (if dp < (rOne val fields s depth).2.1 then (rOne val fields s depth).2.1 else dp)
    else (0, if (rOne val fields s depth).2.2 = 2 then 3 else (rOne val fields s depth).2.2) := by
  rw [rItems]
  unfold rOne
  by_cases e : s.size = 0
  · rw [if_pos e, if_pos e]
  · rw [if_neg e, if_neg e]
    by_cases c : fields = true ∧ ¬ (ltakeR 1 s).2.2 = 0
    · simp only [if_pos c]
      rfl
    · simp only [if_neg c]
theorem items_alike {one : ByteArray → Int → Int → Tk} {val : ByteArray → Int → Rk} {fields : Bool} (hl : Less one) {dep : Int} : ∀ (k : Nat) (s : ByteArray) (d dp : Int), dp ≤ d → dep ≤ dp → (∀ i d, i.size ≤ s.size → dep ≤ d → Alike d (one i dep d) (rOne val fields i dep)) →
    (itemsR one k s dep d).1 = (rItems val fields dep k s dp).2 ∧ ((itemsR one k s dep d).1 = 0 → dp ≤ (rItems val fields dep k s dp).1 ∧ (itemsR one k s dep d).2 = max d (rItems val fields dep k s dp).1)
  | 0, s, d, dp, h, _, _ => ⟨rfl, fun _ => ⟨Int.le_refl _, by show d = max d dp; omega⟩⟩
  | k + 1, s, d, dp, h, h1, H => by
    rw [itemsR, rItems_succ]
    by_cases e : s.size = 0
    · rw [if_pos e, if_pos e]
      exact ⟨rfl, fun _ => ⟨Int.le_refl _, by show d = max d dp; omega⟩⟩
    · rw [if_neg e, if_neg e]
      obtain ⟨a1, a2⟩ := H s d (Nat.le_refl _) (by omega)
      have hls := hl s dep d
      generalize rOne val fields s dep = r at a1 a2 ⊢
      generalize one s dep d = t at a1 a2 hls ⊢
      obtain ⟨t1, t2, t3⟩ := t
      obtain ⟨r1, r2, r3⟩ := r
      simp only at a1 a2 hls ⊢
      subst a1
      by_cases e0 : t2 = 0
      · subst e0
        obtain ⟨rfl, rfl⟩ := a2 rfl
        replace hls := hls rfl
        rw [if_pos (show (if (0 : Int) = 2 then (3 : Int) else 0) = 0 by decide), if_pos (show (if (0 : Int) = 2 then (3 : Int) else 0) = 0 by decide)]
        obtain ⟨m, hm⟩ : ∃ m : Int, m = if dp < r2 then r2 else dp := ⟨_, rfl⟩
        have hm1 : dp ≤ m ∧ r2 ≤ m ∧ m ≤ max d r2 := by rw [hm]; split <;> omega
        rw [← hm]
        obtain ⟨b1, b2⟩ := items_alike hl k t1 (max d r2) m (by omega) (by omega) (fun i d hi hd => H i d (by omega) hd)
        refine ⟨b1, fun h0 => ?_⟩
        obtain ⟨c1, c2⟩ := b2 h0
        exact ⟨by omega, by omega⟩
      · by_cases e2 : t2 = 2
        · subst e2
          exact ⟨rfl, fun h => absurd h (show ¬ (3 : Int) = 0 by decide)⟩
        · rw [if_neg e2, if_neg e0, if_neg e0]
          exact ⟨rfl, fun h => absurd h e0⟩
theorem within_alike {one : ByteArray → Int → Int → Tk} {val : ByteArray → Int → Rk} {fields : Bool} (hl : Less one) {s : ByteArray} {dep d : Int} (hd : dep ≤ d)
    (H : ∀ i d', i.size ≤ (ltakeR 4 s).1.size → dep + 1 ≤ d' → Alike d' (one i (dep + 1) d') (rOne val fields i (dep + 1))) :
    Alike d (withinR one s (dep + 1) d) (if (ltakeR 4 s).2.2 = 0 then (if 32 ≤ dep then (⟨#[]⟩, 0, 5) else ((ltakeR 4 s).2.1, (rRow val (ltakeR 4 s).1 (dep + 1) fields).1, (rRow val (ltakeR 4 s).1 (dep + 1) fields).2)) else (⟨#[]⟩, 0, 2)) := by
  unfold withinR rRow Alike
  by_cases e : (ltakeR 4 s).2.2 = 0
  · have hs := ltake_less e (by decide) isW4
    rw [if_pos e, if_pos e]
    by_cases c : 32 ≤ dep
    · rw [if_pos c, if_neg (show ¬ dep + 1 ≤ 32 by omega)]
      exact ⟨rfl, fun h => absurd h (show ¬ (5 : Int) = 0 by decide)⟩
    · rw [if_neg c, if_pos (show dep + 1 ≤ 32 by omega)]
      obtain ⟨m, hm⟩ : ∃ m : Int, m = if d < dep + 1 then dep + 1 else d := ⟨_, rfl⟩
      have hm1 : dep + 1 ≤ m ∧ m = max d (dep + 1) := by rw [hm]; split <;> omega
      rw [← hm]
      obtain ⟨b1, b2⟩ := items_alike (val := val) (fields := fields) hl (ltakeR 4 s).1.size (ltakeR 4 s).1 m (dep + 1) hm1.1 (Int.le_refl _) (fun i d' hi hd' => H i d' hi hd')
      refine ⟨b1, fun h => ⟨rfl, ?_⟩⟩
      obtain ⟨c1, c2⟩ := b2 h
      show (itemsR one (ltakeR 4 s).1.size (ltakeR 4 s).1 (dep + 1) m).2 = max d (rItems val fields (dep + 1) (ltakeR 4 s).1.size (ltakeR 4 s).1 (dep + 1)).1
      omega
  · rw [if_neg e, if_neg e, ltake_fail e isW4]
    exact ⟨rfl, fun h => absurd h (show ¬ (2 : Int) = 0 by decide)⟩
theorem one_alike {val : ByteArray → Int → Rk} {s : ByteArray} {dep d : Int} (H : ∀ i, i.size ≤ s.size → Alike d (valT i dep d) (val i dep)) : Alike d (fieldR valT s dep d) (rOne val true s dep) := by
  unfold fieldR rOne
  by_cases e : (ltakeR 1 s).2.2 = 0
  · rw [if_pos e, if_neg (fun h => h.2 e), if_pos rfl]
    exact H _ (ltake_size 1 s).2
  · rw [if_neg e, if_pos ⟨rfl, e⟩, ltake_fail e isW1]
    exact ⟨rfl, fun h => absurd h (show ¬ (2 : Int) = 0 by decide)⟩
theorem one_alike' {val : ByteArray → Int → Rk} {s : ByteArray} {dep d : Int} (H : Alike d (valT s dep d) (val s dep)) : Alike d (valT s dep d) (rOne val false s dep) := by
  unfold rOne
  rw [if_neg (fun h => Bool.noConfusion h.1), if_neg (by decide)]
  exact H
theorem val_alike : ∀ (n k : Nat) (s : ByteArray) (dep d : Int), s.size < n → s.size < k → dep ≤ d → Alike d (valT s dep d) (rVal k s dep) := by
  intro n
  induction n with
  | zero => intro k s dep d h; omega
  | succ n ih =>
    intro k s dep d hn hk hd
    obtain ⟨k, rfl⟩ : ∃ j, k = j + 1 := ⟨k - 1, by omega⟩
    rw [valT_eq, rVal]
    by_cases e : s.size = 0
    · rw [if_pos e, if_pos e]
      exact ⟨rfl, fun h => absurd h (show ¬ (2 : Int) = 0 by decide)⟩
    have ht := tail_size e
    have hl4 := (ltake_size 4 (tailOf s)).1
    rw [if_neg e, if_neg e]
    cases hs : sizeU (kindOf s) with
    | some m =>
      simp only
      unfold skipR
      by_cases c : s.size < 1 + m
      · rw [if_pos c, if_neg (by omega)]
        exact ⟨rfl, fun h => absurd h (show ¬ (2 : Int) = 0 by decide)⟩
      · rw [if_neg c, if_pos (by omega)]
        refine ⟨rfl, fun _ => ⟨?_, by show d = max d dep; omega⟩⟩
        show (tailOf s).extract m (tailOf s).size = s.extract (1 + m) s.size
        unfold tailOf
        exact eq_of_list (by rw [extract_drop, toBA_list, extract_drop, toBA_list, extract_drop, toBA_list, List.drop_drop])
    | none =>
      simp only
      by_cases c1 : kindOf s = 83 ∨ kindOf s = 120
      · rw [if_pos c1, if_pos c1]
        by_cases el : (ltakeR 4 (tailOf s)).2.2 = 0
        · rw [if_pos el]
          exact ⟨el, fun _ => ⟨rfl, by show d = max d dep; omega⟩⟩
        · rw [if_neg el, ltake_fail el isW4]
          exact ⟨rfl, fun h => absurd h (show ¬ (2 : Int) = 0 by decide)⟩
      · rw [if_neg c1, if_neg c1]
        by_cases c2 : kindOf s = 65
        · rw [if_pos c2, if_pos c2]
          exact within_alike valT_less hd (fun i d' hi hd' => one_alike' (ih k i _ d' (by omega) (by omega) hd'))
        · rw [if_neg c2, if_neg c2]
          by_cases c3 : kindOf s = 70
          · rw [if_pos c3, if_pos c3]
            exact within_alike (field_less valT_less) hd (fun i d' hi hd' => one_alike (fun i2 hi2 => ih k i2 _ d' (by omega) (by omega) hd'))
          · rw [if_neg c3, if_neg c3]
            exact ⟨rfl, fun h => absurd h (show ¬ (3 : Int) = 0 by decide)⟩
end Go.Proofs.YthdkmohelampbaaDoor.F
namespace Go.Proofs.YthdkmohelampbaaDoor.F
open Go.RowKit Go.Proofs.YthdkmohelampbaaDoorW.PrintWords Go.Proofs.YthdkmohelampbaaDoorW.PrintLast Go.Proofs.YthdkmohelampbaaDoorW.PrintMore
set_option linter.unusedVariables false
set_option linter.unusedSimpArgs false
theorem items_shal {one : ByteArray → Int → Int → Tk} (hl : Less one) {dep dep' : Int} : ∀ (k : Nat) (s : ByteArray) (d d' : Int), (∀ i d d', i.size ≤ s.size → (one i dep d).2.1 = 0 → (one i dep' d').2.1 = 0 ∧ (one i dep' d').1 = (one i dep d).1) →
    (itemsR one k s dep d).1 = 0 → (itemsR one k s dep' d').1 = 0
  | 0, _, _, _, _, _ => rfl
  | k + 1, s, d, d', h, h0 => by
    rw [itemsR] at h0 ⊢
    by_cases e : s.size = 0
    · rw [if_pos e]
    · rw [if_neg e] at h0 ⊢
      by_cases e1 : (one s dep d).2.1 = 0
      · obtain ⟨a1, a2⟩ := h s d d' (Nat.le_refl _) e1
        have := hl _ _ _ e1
        rw [e1, if_pos (show (if (0 : Int) = 2 then (3 : Int) else 0) = 0 by decide)] at h0
        rw [a1, if_pos (show (if (0 : Int) = 2 then (3 : Int) else 0) = 0 by decide), a2]
        exact items_shal hl k _ _ _ (fun i d d' hi => h i d d' (by omega)) h0
      · exfalso
        by_cases e2 : (one s dep d).2.1 = 2
        · rw [if_pos e2] at h0
          exact absurd h0 (show ¬ (3 : Int) = 0 by decide)
        · rw [if_neg e2, if_neg e1] at h0
          exact e1 h0
theorem within_shal {one : ByteArray → Int → Int → Tk} (hl : Less one) {dep dep' : Int} (hd : dep' ≤ dep) {s : ByteArray} {d d' : Int} (h : ∀ i d d', i.size < s.size → (one i dep d).2.1 = 0 → (one i dep' d').2.1 = 0 ∧ (one i dep' d').1 = (one i dep d).1)
    (h0 : (withinR one s dep d).2.1 = 0) : (withinR one s dep' d').2.1 = 0 ∧ (withinR one s dep' d').1 = (withinR one s dep d).1 := by
  unfold withinR at h0 ⊢
  by_cases e : (ltakeR 4 s).2.2 = 0
  · have hs := ltake_less e (by decide) isW4
    rw [if_pos e] at h0 ⊢
    rw [if_pos e]
    by_cases c : dep ≤ 32
    · rw [if_pos c] at h0 ⊢
      rw [if_pos (by omega)]
      exact ⟨items_shal hl _ _ _ _ (fun i d d' hi => h i d d' (by omega)) h0, rfl⟩
    · rw [if_neg c] at h0
      exact absurd h0 (show ¬ (5 : Int) = 0 by decide)
  · rw [if_neg e] at h0
    exact absurd h0 e
theorem field_shal {val : ByteArray → Int → Int → Tk} {dep dep' : Int} {s : ByteArray} {d d' : Int} (h : ∀ i d d', i.size ≤ s.size → (val i dep d).2.1 = 0 → (val i dep' d').2.1 = 0 ∧ (val i dep' d').1 = (val i dep d).1)
    (h0 : (fieldR val s dep d).2.1 = 0) : (fieldR val s dep' d').2.1 = 0 ∧ (fieldR val s dep' d').1 = (fieldR val s dep d).1 := by
  unfold fieldR at h0 ⊢
  by_cases e : (ltakeR 1 s).2.2 = 0
  · rw [if_pos e] at h0 ⊢
    rw [if_pos e]
    exact h _ d d' (ltake_size 1 s).2 h0
  · rw [if_neg e] at h0
    exact absurd h0 e
theorem val_shal : ∀ (n : Nat) (s : ByteArray) (dep dep' d d' : Int), s.size < n → dep' ≤ dep → (valT s dep d).2.1 = 0 → (valT s dep' d').2.1 = 0 ∧ (valT s dep' d').1 = (valT s dep d).1 := by
  intro n
  induction n with
  | zero => intro s dep dep' d d' h; omega
  | succ n ih =>
    intro s dep dep' d d' hn hd h
    rw [valT_eq] at h ⊢
    rw [valT_eq]
    by_cases e : s.size = 0
    · rw [if_pos e] at h; exact absurd h (show ¬ (2 : Int) = 0 by decide)
    have ht := tail_size e
    rw [if_neg e] at h ⊢
    rw [if_neg e]
    cases hk : sizeU (kindOf s) with
    | some m =>
      rw [hk] at h
      exact ⟨h, rfl⟩
    | none =>
      rw [hk] at h
      simp only at h ⊢
      by_cases c1 : kindOf s = 83 ∨ kindOf s = 120
      · simp only [if_pos c1] at h ⊢
        exact ⟨h, trivial⟩
      · simp only [if_neg c1] at h ⊢
        by_cases c2 : kindOf s = 65
        · simp only [if_pos c2] at h ⊢
          exact within_shal valT_less (by omega) (fun i d d' hi => ih i _ _ d d' (by omega) (by omega)) h
        · simp only [if_neg c2] at h ⊢
          by_cases c3 : kindOf s = 70
          · simp only [if_pos c3] at h ⊢
            exact within_shal (field_less valT_less) (by omega) (fun i d d' hi => field_shal fun i2 d2 d3 hi2 => ih i2 _ _ d2 d3 (by omega) (by omega)) h
          · simp only [if_neg c3] at h
            exact absurd h (show ¬ (3 : Int) = 0 by decide)
/-- a value, and nothing else -/
def IsVal (v : ByteArray) : Prop := ∃ d, tvalR v = (⟨#[]⟩, 0, d)
theorem tval_eq (s : ByteArray) : tvalR s = valT s 0 0 := rfl
/-- a field that is taken -/
theorem fld_one {x : ByteArray} {d : Int} (h : (fieldR valT x 1 d).2.1 = 0) : (ltakeR 1 x).2.2 = 0 ∧ IsVal (valAt x) ∧ leftAt x = (fieldR valT x 1 d).1 := by
  unfold fieldR at h ⊢
  by_cases e : (ltakeR 1 x).2.2 = 0
  · rw [if_pos e] at h ⊢
    refine ⟨e, ?_⟩
    unfold valAt leftAt taken1
    generalize (ltakeR 1 x).2.1 = r at h ⊢
    obtain ⟨h1, h2⟩ := val_shal (r.size + 1) r 1 0 d 0 (by omega) (by decide) h
    obtain ⟨a, ha, hm⟩ := val_pre h1
    have hp := hm ⟨#[]⟩
    rw [app_empty] at hp
    have ht : takenR r (tvalR r) = (a, (valT r 0 0).1, 0) := by
      unfold takenR
      rw [tval_eq, if_pos h1]
      have hs : r.size - (valT r 0 0).1.size = a.size := by
        have := congrArg ByteArray.size ha
        rw [size_append] at this
        omega
      rw [hs]
      have := extract_app_left a (valT r 0 0).1
      rw [← ha] at this
      rw [this]
    rw [ht]
    exact ⟨⟨_, hp⟩, h2⟩
  · rw [if_neg e] at h
    exact absurd h e
theorem fld_ok : ∀ (k : Nat) (x : ByteArray) (d : Int), x.size ≤ k → (itemsR (fieldR valT) k x 1 d).1 = 0 → ∀ p ∈ fldR x, IsVal p.2 := by
  intro k
  induction k with
  | zero =>
    intro x d hx _ p hp
    rw [fldR_eq, if_pos (by omega)] at hp
    exact absurd hp (List.not_mem_nil)
  | succ k ih =>
    intro x d hx h p hp
    rw [fldR_eq] at hp
    by_cases e : x.size = 0
    · rw [if_pos e] at hp; exact absurd hp (List.not_mem_nil)
    · rw [if_neg e] at hp
      rw [itemsR, if_neg e] at h
      by_cases e1 : (fieldR valT x 1 d).2.1 = 0
      · obtain ⟨_, h2, h3⟩ := fld_one e1
        have hl := left_less e
        rw [e1, if_pos (show (if (0 : Int) = 2 then (3 : Int) else 0) = 0 by decide), ← h3] at h
        rcases List.mem_cons.1 hp with rfl | hp
        · exact h2
        · exact ih _ _ (by omega) h p hp
      · exfalso
        by_cases e2 : (fieldR valT x 1 d).2.1 = 2
        · rw [if_pos e2] at h
          exact absurd h (show ¬ (3 : Int) = 0 by decide)
        · rw [if_neg e2, if_neg e1] at h
          exact e1 h
/-- a table, and nothing else: what stands within it -/
theorem whole_in {s : ByteArray} (h : wholeR s = 0) : inR s = (ltakeR 4 s).1 ∧ (ltakeR 4 s).2.2 = 0 ∧ (itemsR (fieldR valT) (inR s).size (inR s) 1 1).1 = 0 := by
  unfold wholeR at h
  by_cases e : (tabR s).2.1 = 0
  · rw [if_pos e] at h
    by_cases e0 : (tabR s).1.size = 0
    · rw [tabR_eq] at e e0
      unfold withinR at e e0
      by_cases el : (ltakeR 4 s).2.2 = 0
      · rw [if_pos el, if_pos (show (1 : Int) ≤ 32 by decide), if_pos (show (0 : Int) < 1 by decide)] at e e0
        simp only at e e0
        have hx : inR s = (ltakeR 4 s).1 := by
          unfold inR
          unfold ltakeR at el e0 ⊢
          by_cases et : (takeR s 4).2.2 = 0
          · rw [if_pos et] at el e0 ⊢
            by_cases en : (takeR s 4).1 ≤ ((takeR s 4).2.1.size : Int)
            · rw [if_pos en] at el e0 ⊢
              simp only at e0 ⊢
              rw [extract_size'] at e0
              have hb := (take_bound s 4).1
              have : (takeR s 4).1.toNat = (takeR s 4).2.1.size := by omega
              rw [this, extract_take, List.take_of_length_le (by rw [size_list]; omega), ← toBA_of]
            · rw [if_neg en] at el
              exact absurd el (show ¬ (2 : Int) = 0 by decide)
          · rw [if_neg et] at el
            exact absurd el et
        exact ⟨hx, el, by rw [hx]; exact e⟩
      · rw [if_neg el] at e
        exact absurd e el
    · rw [if_neg e0] at h
      exact absurd h (show ¬ (3 : Int) = 0 by decide)
  · rw [if_neg e] at h
    exact absurd h e
end Go.Proofs.YthdkmohelampbaaDoor.F
namespace Go.Proofs.YthdkmohelampbaaDoor.F
open Go.RowKit Go.Proofs.YthdkmohelampbaaDoorW.PrintWords Go.Proofs.YthdkmohelampbaaDoorW.PrintLast Go.Proofs.YthdkmohelampbaaDoorW.PrintMore
set_option linter.unusedVariables false
set_option linter.unusedSimpArgs false
theorem shown_t : interchangelaw03_shown.f = some true := by
  unfold interchangelaw03_shown.f
  decide +kernel
end Go.Proofs.YthdkmohelampbaaDoor.F
namespace Go.Proofs.YthdkmohelampbaaDoor.F
open Go.RowKit Go.Proofs.YthdkmohelampbaaDoorW.PrintWords Go.Proofs.YthdkmohelampbaaDoorW.PrintLast Go.Proofs.YthdkmohelampbaaDoorW.PrintMore
attribute [local go_sem] max2_int min2_int max_two min_two max_three min_three max_four min_four
set_option linter.unusedVariables false
set_option linter.unusedSimpArgs false

/-! ### interchangelaw03_TableParts: function 6 -/
def interchangelaw03_TableParts.j0 : Nat → ByteArray → ByteArray → Bool → Option (Bool)
  | 0, _, _, _ => none
  | k + 1, x0, x1, x5 => (table_Find.f x0 x1).bind fun bt199 => (if bt199.2 = true then ((table_Value.f bt199.1).bind fun bt201 => (if x5 = true then (if bt201.2.2 = 0 then (if bt201.1.toList = bt199.1.toList then (some (bt201.2.1.toList == ([] : List UInt8))) else (some false)) else (some false)) else (some false))) else (if x5 = true then (some (bt199.1.toList == ([] : List UInt8))) else (some false)))
def interchangelaw03_TableParts.f (k : Nat) (a0 : ByteArray) (a1 : ByteArray) : Option (Bool) := (interchangelaw03_shown.f).bind fun t192 => ((table_Value.f a0).bind fun bt193 => (if bt193.2.2 = 0 then ((table_Value.f bt193.1).bind fun bt196 => (if bt196.2.2 = 0 then (if bt196.1.toList = bt193.1.toList then (if bt196.2.1.toList = ([] : List UInt8) then (interchangelaw03_TableParts.j0 k a0 a1 t192) else (some false)) else (some false)) else (some false))) else (interchangelaw03_TableParts.j0 k a0 a1 t192)))
theorem interchangelaw03_TableParts.mono_l : ∀ k, (∀ y0 y1 y2, LeO (interchangelaw03_TableParts.j0 k y0 y1 y2) (interchangelaw03_TableParts.j0 (k + 1) y0 y1 y2))
  | 0 => fun _ _ _ r h => by simp [interchangelaw03_TableParts.j0] at h
  | k + 1 => by
    have ih0 := interchangelaw03_TableParts.mono_l k
    · intro y0 y1 y2
      unfold interchangelaw03_TableParts.j0
      repeat' first
      | (with_reducible exact ih0 _ _ _)
      | (with_reducible exact LeO.refl _)
      | (with_reducible exact LeO.none _)
      | (with_reducible refine LeO.ite ?_ ?_)
      | (with_reducible refine LeO.bind ?_ (fun _ => ?_))
      | exact ih0 _ _ _
      | exact LeO.none _
      | refine LeO.ite ?_ ?_
      | refine LeO.bind ?_ (fun _ => ?_)
theorem interchangelaw03_TableParts.mono : ∀ a0 a1 k, LeO (interchangelaw03_TableParts.f k a0 a1) (interchangelaw03_TableParts.f (k + 1) a0 a1) := by
  intro a0 a1 k
  have ih0 := interchangelaw03_TableParts.mono_l k
  unfold interchangelaw03_TableParts.f
  repeat' first
      | (with_reducible exact ih0 _ _ _)
      | (with_reducible exact LeO.refl _)
      | (with_reducible exact LeO.none _)
      | (with_reducible refine LeO.ite ?_ ?_)
      | (with_reducible refine LeO.bind ?_ (fun _ => ?_))
      | exact ih0 _ _ _
      | exact LeO.none _
      | refine LeO.ite ?_ ?_
      | refine LeO.bind ?_ (fun _ => ?_)
set_option maxHeartbeats 8000000 in
set_option maxRecDepth 100000 in
theorem interchangelaw03_TableParts.calls (k : Nat) (a0 : ByteArray) (a1 : ByteArray) (w : World) (hg : Laid w) (h : interchangelaw03_TableParts.f k a0 a1 = some true) :
    Calls Tryd.prog 6 #[.string a0, .string a1] w fun e w' => e = .returned (.bool true) ∧ Below w.heap.size w w' := by
  have HG := Aside0.mk hg
  clear hg
  have HB := Aside0.mk (Below.refl w.heap.size w)
  have H : ((interchangelaw03_shown.f).bind fun t192 => ((table_Value.f a0).bind fun bt193 => (if bt193.2.2 = 0 then ((table_Value.f bt193.1).bind fun bt196 => (if bt196.2.2 = 0 then (if bt196.1.toList = bt193.1.toList then (if bt196.2.1.toList = ([] : List UInt8) then (interchangelaw03_TableParts.j0 k a0 a1 t192) else (some false)) else (some false)) else (some false))) else (interchangelaw03_TableParts.j0 k a0 a1 t192)))) = some true := h
  clear h
  replace H := Option.bind_eq_some_iff.mp H
  obtain ⟨t192, A30, H⟩ := H
  replace H : ((table_Value.f a0).bind fun bt193 => (if bt193.2.2 = 0 then ((table_Value.f bt193.1).bind fun bt196 => (if bt196.2.2 = 0 then (if bt196.1.toList = bt193.1.toList then (if bt196.2.1.toList = ([] : List UInt8) then (interchangelaw03_TableParts.j0 k a0 a1 t192) else (some false)) else (some false)) else (some false))) else (interchangelaw03_TableParts.j0 k a0 a1 t192))) = some true := H
  have A3 := Aside0.mk A30
  clear A30
  replace H := Option.bind_eq_some_iff.mp H
  obtain ⟨⟨t193, t194, t195⟩, A40, H⟩ := H
  replace H : (if t195 = 0 then ((table_Value.f t193).bind fun bt196 => (if bt196.2.2 = 0 then (if bt196.1.toList = t193.toList then (if bt196.2.1.toList = ([] : List UInt8) then (interchangelaw03_TableParts.j0 k a0 a1 t192) else (some false)) else (some false)) else (some false))) else (interchangelaw03_TableParts.j0 k a0 a1 t192)) = some true := H
  have A4 := Aside0.mk A40
  clear A40
  have HC5 := Aside0.mk H
  clear H
  go_enter Tryd.func6, Tryd.ntmps6
  go_upto_if 25 with (first | ((with_reducible refine gate_callee (f := 10) rfl ?_); refine goesL_ (some 17) rfl rfl Tryd.func10 (by kernel_rfl) rfl #[] rfl (by (try simp only [List.map_toArray, List.map_cons, List.map_nil]); first | done | rfl | (simp only [List.length_drop, List.length_take]; rfl)) ?_; (with_reducible refine (interchangelaw03_shown.calls t192 _ ?lg A3.out).mono ?_); (case lg => exact (HG.out.below (by repeat (first | (with_reducible first | exact HB.out | apply below_alloc | apply pw_below_drewN | apply below_drew1) | exact HB.out)))); rintro e w6 ⟨rfl, hb⟩; refine ⟨_, rfl, ?_⟩; have n0_ := Aside0.mk (below_step (by repeat (first | (with_reducible first | exact HB.out | apply below_alloc | apply pw_below_drewN | apply below_drew1) | exact HB.out)) hb); clear HB; have HB := n0_; clear n0_; (try clear hb); (try clear hb2); (try clear hk); (try clear hi)) | ((with_reducible refine gate_callee (f := 15) rfl ?_); refine goesL_ (some 20) rfl rfl Tryd.func15 (by kernel_rfl) rfl #[.string a0] rfl (by (try simp only [List.map_toArray, List.map_cons, List.map_nil]); first | done | rfl | (simp only [List.length_drop, List.length_take]; rfl)) ?_; (with_reducible refine (table_Value.calls a0 t193 t194 t195 _ ?lg A4.out).mono ?_); (case lg => exact (HG.out.below (by repeat (first | (with_reducible first | exact HB.out | apply below_alloc | apply pw_below_drewN | apply below_drew1) | exact HB.out)))); rintro e w7 ⟨rfl, hb⟩; refine ⟨_, rfl, ?_⟩; have n0_ := Aside0.mk (below_step (by repeat (first | (with_reducible first | exact HB.out | apply below_alloc | apply pw_below_drewN | apply below_drew1) | exact HB.out)) hb); clear HB; have HB := n0_; clear n0_; (try clear hb); (try clear hb2); (try clear hk); (try clear hi)))
  (try simp only [Act.put, List.setIfInBounds_toArray, List.set_cons_zero, List.set_cons_succ])
  go_cut [] (fun wc => ∃ (kq : Nat), Aside0 (interchangelaw03_TableParts.j0 kq a0 a1 t192 = some true) ∧ Aside0 (kq ≤ k) ∧ Aside0 (Below w.heap.size w wc))
  case first =>
    have H := HC5.out
    clear HC5
    by_cases c8 : t195 = 0
    · rw [if_pos c8] at H
      have c8b0 : (t195 == 0) = true := beq_iff_eq.mpr c8
      have c8b1 : (t195 != 0) = false := bne_eq_false_iff_eq.mpr c8
      clear c8
      (first | rw [c8b0] | (simp only [i64_w, i32_w]; rw [c8b0]) | skip)
      replace H := Option.bind_eq_some_iff.mp H
      obtain ⟨⟨t196, t197, t198⟩, A90, H⟩ := H
      replace H : (if t198 = 0 then (if t196.toList = t193.toList then (if t197.toList = ([] : List UInt8) then (interchangelaw03_TableParts.j0 k a0 a1 t192) else (some false)) else (some false)) else (some false)) = some true := H
      have A9 := Aside0.mk A90
      clear A90
      by_cases c10 : t198 = 0
      · rw [if_pos c10] at H
        have c10b0 : (t198 == 0) = true := beq_iff_eq.mpr c10
        have c10b1 : (t198 != 0) = false := bne_eq_false_iff_eq.mpr c10
        clear c10
        by_cases c11 : t196.toList = t193.toList
        · rw [if_pos c11] at H
          have c11b0 : (t196.toList == t193.toList) = true := beq_iff_eq.mpr c11
          have c11b1 : (t196.toList != t193.toList) = false := bne_eq_false_iff_eq.mpr c11
          clear c11
          by_cases c12 : t197.toList = ([] : List UInt8)
          · rw [if_pos c12] at H
            have c12b0 : (t197.toList == ([] : List UInt8)) = true := beq_iff_eq.mpr c12
            have c12b1 : (t197.toList != ([] : List UInt8)) = false := bne_eq_false_iff_eq.mpr c12
            clear c12
            have H' := Aside0.mk H
            clear H
            go_wp2_with (first | ((with_reducible refine gate_callee (f := 15) rfl ?_); refine goesL_ (some 28) rfl rfl Tryd.func15 (by kernel_rfl) rfl #[.string t193] rfl (by (try simp only [List.map_toArray, List.map_cons, List.map_nil]); first | done | rfl | (simp only [List.length_drop, List.length_take]; rfl)) ?_; (with_reducible refine (table_Value.calls t193 t196 t197 t198 _ ?lg A9.out).mono ?_); (case lg => exact (HG.out.below (by repeat (first | (with_reducible first | exact HB.out | apply below_alloc | apply pw_below_drewN | apply below_drew1) | exact HB.out)))); rintro e w13 ⟨rfl, hb⟩; refine ⟨_, rfl, ?_⟩; have n0_ := Aside0.mk (below_step (by repeat (first | (with_reducible first | exact HB.out | apply below_alloc | apply pw_below_drewN | apply below_drew1) | exact HB.out)) hb); clear HB; have HB := n0_; clear n0_; (try clear hb); (try clear hb2); (try clear hk); (try clear hi)))
            go_meet
            case rel => exact ⟨_, H', ⟨by first | omega | exact Nat.le_refl _⟩, ⟨by repeat (first | (with_reducible first | exact HB.out | apply below_alloc | apply pw_below_drewN | apply below_drew1) | exact HB.out)⟩⟩
          · rw [if_neg c12] at H
            have c12b0 : (t197.toList == ([] : List UInt8)) = false := beq_eq_false_iff_ne.mpr c12
            have c12b1 : (t197.toList != ([] : List UInt8)) = true := bne_iff_ne.mpr c12
            exact absurd H (by decide)
        · rw [if_neg c11] at H
          have c11b0 : (t196.toList == t193.toList) = false := beq_eq_false_iff_ne.mpr c11
          have c11b1 : (t196.toList != t193.toList) = true := bne_iff_ne.mpr c11
          exact absurd H (by decide)
      · rw [if_neg c10] at H
        have c10b0 : (t198 == 0) = false := beq_eq_false_iff_ne.mpr c10
        have c10b1 : (t198 != 0) = true := bne_iff_ne.mpr c10
        exact absurd H (by decide)
    · rw [if_neg c8] at H
      have c8b0 : (t195 == 0) = false := beq_eq_false_iff_ne.mpr c8
      have c8b1 : (t195 != 0) = true := bne_iff_ne.mpr c8
      (first | rw [c8b0] | (simp only [i64_w, i32_w]; rw [c8b0]) | skip)
      have H' := Aside0.mk H
      clear H
      go_wp2
      go_meet
      case rel => exact ⟨_, H', ⟨by first | omega | exact Nat.le_refl _⟩, ⟨by repeat (first | (with_reducible first | exact HB.out | apply below_alloc | apply pw_below_drewN | apply below_drew1) | exact HB.out)⟩⟩
  case rest =>
    clear HC5
    try clear c1
    try clear p2
    try clear c6
    try clear c8
    try clear c8b0
    try clear c8b1
    try clear c10
    try clear c10b0
    try clear c10b1
    try clear c11
    try clear c11b0
    try clear c11b1
    try clear c12
    try clear c12b0
    try clear c12b1
    try clear c15
    obtain ⟨kq, HA, HJ4, HB⟩ := hcut
    cases kq with
    | zero => exact absurd HA.out (by simp [interchangelaw03_TableParts.j0])
    | succ kj4 =>
      have H := HA.out
      clear HA
      simp only [interchangelaw03_TableParts.j0] at H
      replace H := Option.bind_eq_some_iff.mp H
      obtain ⟨⟨t199, t200⟩, A170, H⟩ := H
      replace H : (if t200 = true then ((table_Value.f t199).bind fun bt201 => (if t192 = true then (if bt201.2.2 = 0 then (if bt201.1.toList = t199.toList then (some (bt201.2.1.toList == ([] : List UInt8))) else (some false)) else (some false)) else (some false))) else (if t192 = true then (some (t199.toList == ([] : List UInt8))) else (some false))) = some true := H
      have A17 := Aside0.mk A170
      clear A170
      by_cases c18 : t200 = true
      · subst c18
        have H1 : ((table_Value.f t199).bind fun bt201 => (if t192 = true then (if bt201.2.2 = 0 then (if bt201.1.toList = t199.toList then (some (bt201.2.1.toList == ([] : List UInt8))) else (some false)) else (some false)) else (some false))) = some true := by rw [if_pos rfl] at H; first | done | exact H
        clear H
        have H := H1
        clear H1
        replace H := Option.bind_eq_some_iff.mp H
        obtain ⟨⟨t201, t202, t203⟩, A190, H⟩ := H
        replace H : (if t192 = true then (if t203 = 0 then (if t201.toList = t199.toList then (some (t202.toList == ([] : List UInt8))) else (some false)) else (some false)) else (some false)) = some true := H
        have A19 := Aside0.mk A190
        clear A190
        by_cases c20 : t192 = true
        · subst c20
          have H1 : (if t203 = 0 then (if t201.toList = t199.toList then (some (t202.toList == ([] : List UInt8))) else (some false)) else (some false)) = some true := by rw [if_pos rfl] at H; first | done | exact H
          clear H
          have H := H1
          clear H1
          by_cases c21 : t203 = 0
          · rw [if_pos c21] at H
            have c21b0 : (t203 == 0) = true := beq_iff_eq.mpr c21
            have c21b1 : (t203 != 0) = false := bne_eq_false_iff_eq.mpr c21
            clear c21
            by_cases c22 : t201.toList = t199.toList
            · rw [if_pos c22] at H
              have c22b0 : (t201.toList == t199.toList) = true := beq_iff_eq.mpr c22
              have c22b1 : (t201.toList != t199.toList) = false := bne_eq_false_iff_eq.mpr c22
              clear c22
              have HR_ := Aside0.mk (Option.some.inj H)
              clear H
              go_wp2_with (first | ((with_reducible refine gate_callee (f := 16) rfl ?_); refine goesL_ (some 46) rfl rfl Tryd.func16 (by kernel_rfl) rfl #[.string a0, .string a1] rfl (by (try simp only [List.map_toArray, List.map_cons, List.map_nil]); first | done | rfl | (simp only [List.length_drop, List.length_take]; rfl)) ?_; (with_reducible refine (table_Find.calls a0 a1 t199 true _ ?lg A17.out).mono ?_); (case lg => exact (HG.out.below (by repeat (first | (with_reducible first | exact HB.out | apply below_alloc | apply pw_below_drewN | apply below_drew1) | exact HB.out)))); rintro e w23 ⟨rfl, hb⟩; refine ⟨_, rfl, ?_⟩; have n0_ := Aside0.mk (below_step (by repeat (first | (with_reducible first | exact HB.out | apply below_alloc | apply pw_below_drewN | apply below_drew1) | exact HB.out)) hb); clear HB; have HB := n0_; clear n0_; (try clear hb); (try clear hb2); (try clear hk); (try clear hi)) | ((with_reducible refine gate_callee (f := 15) rfl ?_); refine goesL_ (some 58) rfl rfl Tryd.func15 (by kernel_rfl) rfl #[.string t199] rfl (by (try simp only [List.map_toArray, List.map_cons, List.map_nil]); first | done | rfl | (simp only [List.length_drop, List.length_take]; rfl)) ?_; (with_reducible refine (table_Value.calls t199 t201 t202 t203 _ ?lg A19.out).mono ?_); (case lg => exact (HG.out.below (by repeat (first | (with_reducible first | exact HB.out | apply below_alloc | apply pw_below_drewN | apply below_drew1) | exact HB.out)))); rintro e w24 ⟨rfl, hb⟩; refine ⟨_, rfl, ?_⟩; have n0_ := Aside0.mk (below_step (by repeat (first | (with_reducible first | exact HB.out | apply below_alloc | apply pw_below_drewN | apply below_drew1) | exact HB.out)) hb); clear HB; have HB := n0_; clear n0_; (try clear hb); (try clear hb2); (try clear hk); (try clear hi)))
              go_ret
              exact ⟨by have HR0_ := HR_.out; first | exact congrArg (fun b_ => Ending.returned (Value.bool b_)) HR0_ | (simpa using HR0_) | rfl | (simp [errW_none, errW_some] <;> rfl) | (simp [*, errW_none, errW_some] <;> rfl), by repeat (first | (with_reducible first | exact HB.out | apply below_alloc | apply pw_below_drewN | apply below_drew1) | exact HB.out)⟩
            · rw [if_neg c22] at H
              have c22b0 : (t201.toList == t199.toList) = false := beq_eq_false_iff_ne.mpr c22
              have c22b1 : (t201.toList != t199.toList) = true := bne_iff_ne.mpr c22
              exact absurd H (by decide)
          · rw [if_neg c21] at H
            have c21b0 : (t203 == 0) = false := beq_eq_false_iff_ne.mpr c21
            have c21b1 : (t203 != 0) = true := bne_iff_ne.mpr c21
            exact absurd H (by decide)
        · replace c20 := Bool.eq_false_iff.mpr c20
          subst c20
          have H1 : (some false) = some true := by rw [if_neg (show ¬ (false = true) by decide)] at H; first | done | exact H
          clear H
          have H := H1
          clear H1
          exact absurd H (by decide)
      · replace c18 := Bool.eq_false_iff.mpr c18
        subst c18
        have H1 : (if t192 = true then (some (t199.toList == ([] : List UInt8))) else (some false)) = some true := by rw [if_neg (show ¬ (false = true) by decide)] at H; first | done | exact H
        clear H
        have H := H1
        clear H1
        by_cases c31 : t192 = true
        · subst c31
          have H1 : (some (t199.toList == ([] : List UInt8))) = some true := by rw [if_pos rfl] at H; first | done | exact H
          clear H
          have H := H1
          clear H1
          have HR_ := Aside0.mk (Option.some.inj H)
          clear H
          go_wp2_with (first | ((with_reducible refine gate_callee (f := 16) rfl ?_); refine goesL_ (some 46) rfl rfl Tryd.func16 (by kernel_rfl) rfl #[.string a0, .string a1] rfl (by (try simp only [List.map_toArray, List.map_cons, List.map_nil]); first | done | rfl | (simp only [List.length_drop, List.length_take]; rfl)) ?_; (with_reducible refine (table_Find.calls a0 a1 t199 false _ ?lg A17.out).mono ?_); (case lg => exact (HG.out.below (by repeat (first | (with_reducible first | exact HB.out | apply below_alloc | apply pw_below_drewN | apply below_drew1) | exact HB.out)))); rintro e w32 ⟨rfl, hb⟩; refine ⟨_, rfl, ?_⟩; have n0_ := Aside0.mk (below_step (by repeat (first | (with_reducible first | exact HB.out | apply below_alloc | apply pw_below_drewN | apply below_drew1) | exact HB.out)) hb); clear HB; have HB := n0_; clear n0_; (try clear hb); (try clear hb2); (try clear hk); (try clear hi)))
          go_ret
          exact ⟨by have HR0_ := HR_.out; first | exact congrArg (fun b_ => Ending.returned (Value.bool b_)) HR0_ | (simpa using HR0_) | rfl | (simp [errW_none, errW_some] <;> rfl) | (simp [*, errW_none, errW_some] <;> rfl), by repeat (first | (with_reducible first | exact HB.out | apply below_alloc | apply pw_below_drewN | apply below_drew1) | exact HB.out)⟩
        · replace c31 := Bool.eq_false_iff.mpr c31
          subst c31
          have H1 : (some false) = some true := by rw [if_neg (show ¬ (false = true) by decide)] at H; first | done | exact H
          clear H
          have H := H1
          clear H1
          exact absurd H (by decide)


end Go.Proofs.YthdkmohelampbaaDoor.F
namespace Go.Proofs.YthdkmohelampbaaDoor.F
open Go.RowKit Go.Proofs.YthdkmohelampbaaDoorW.PrintWords Go.Proofs.YthdkmohelampbaaDoorW.PrintLast Go.Proofs.YthdkmohelampbaaDoorW.PrintMore
set_option linter.unusedVariables false
set_option linter.unusedSimpArgs false
theorem val_whole {v : ByteArray} (h : IsVal v) : takenR v (tvalR v) = (v, ⟨#[]⟩, 0) := by
  obtain ⟨d, h⟩ := h
  rw [h]
  unfold takenR
  rw [if_pos rfl]
  have : v.size - (⟨#[]⟩ : ByteArray).size = v.size := rfl
  simp only
  rw [this, extract_take, List.take_of_length_le (by rw [size_list]; omega), ← toBA_of]
theorem val_cut {s : ByteArray} (h : (tvalR s).2.1 = 0) : ∃ a r, takenR s (tvalR s) = (a, r, 0) ∧ IsVal a ∧ a.size ≤ s.size := by
  rw [tval_eq] at h ⊢
  obtain ⟨a, ha, hm⟩ := val_pre h
  have hp := hm ⟨#[]⟩
  rw [app_empty] at hp
  have hs := congrArg ByteArray.size ha
  rw [size_append] at hs
  refine ⟨a, (valT s 0 0).1, ?_, ⟨_, hp⟩, by omega⟩
  unfold takenR
  rw [if_pos h]
  have hs : s.size - (valT s 0 0).1.size = a.size := by omega
  rw [hs]
  have := extract_app_left a (valT s 0 0).1
  rw [← ha] at this
  rw [this]
theorem val_at_size (x : ByteArray) : (valAt x).size ≤ x.size := by
  unfold valAt taken1 takenR
  have := (ltake_size 1 x).2
  split
  · rw [extract_take, toBA_size, List.length_take, size_list]; omega
  · exact Nat.zero_le _
theorem fld_size : ∀ (k : Nat) (x : ByteArray), x.size ≤ k → ∀ p ∈ fldR x, p.2.size ≤ x.size := by
  intro k
  induction k with
  | zero =>
    intro x hx p hp
    rw [fldR_eq, if_pos (by omega)] at hp
    exact absurd hp (List.not_mem_nil)
  | succ k ih =>
    intro x hx p hp
    rw [fldR_eq] at hp
    by_cases e : x.size = 0
    · rw [if_pos e] at hp; exact absurd hp (List.not_mem_nil)
    · rw [if_neg e] at hp
      have hl := left_less e
      rcases List.mem_cons.1 hp with rfl | hp
      · exact val_at_size x
      · have := ih _ (by omega) p hp; omega
theorem findF_mem (key : ByteArray) : ∀ l : Fds, ((findF key l).2 = true → ∃ p ∈ l, p.2 = (findF key l).1) ∧ ((findF key l).2 = false → (findF key l).1 = ⟨#[]⟩)
  | [] => ⟨fun h => Bool.noConfusion h, fun _ => rfl⟩
  | p :: l => by
    rw [findF]
    by_cases e : p.1.toList = key.toList
    · rw [if_pos e]
      exact ⟨fun _ => ⟨p, List.mem_cons_self .., rfl⟩, fun h => Bool.noConfusion h⟩
    · rw [if_neg e]
      obtain ⟨h1, h2⟩ := findF_mem key l
      exact ⟨fun h => by obtain ⟨q, hq, hv⟩ := h1 h; exact ⟨q, List.mem_cons_of_mem _ hq, hv⟩, h2⟩
theorem find_val (s key : ByteArray) : ((findR s key).2 = true → IsVal (findR s key).1 ∧ (findR s key).1.size ≤ s.size) ∧ ((findR s key).2 = false → (findR s key).1 = ⟨#[]⟩) := by
  unfold findR
  by_cases e : wholeR s = 0
  · rw [if_pos e]
    obtain ⟨h1, h2⟩ := findF_mem key (fldR (inR s))
    refine ⟨fun h => ?_, h2⟩
    obtain ⟨p, hp, hv⟩ := h1 h
    obtain ⟨_, _, ho⟩ := whole_in e
    have hi := take_rest s 4
    have hz := fld_size _ _ (Nat.le_refl _) p hp
    rw [← hv]
    exact ⟨fld_ok _ _ _ (Nat.le_refl _) ho p hp, by unfold inR at hz; omega⟩
  · rw [if_neg e]
    exact ⟨fun h => Bool.noConfusion h, fun _ => rfl⟩
theorem parts_j {k : Nat} (hk : 1 ≤ k) (x0 x1 : ByteArray) (hz : x0.size ≤ 140737488351232) : interchangelaw03_TableParts.j0 k x0 x1 true = some true := by
  obtain ⟨k, rfl⟩ : ∃ j, k = j + 1 := ⟨k - 1, by omega⟩
  have h1 : table_Find.f x0 x1 = some (findR x0 x1) := by unfold table_Find.f; rw [if_pos (by omega)]
  rw [interchangelaw03_TableParts.j0, h1, Option.bind_some]
  obtain ⟨h2, h3⟩ := find_val x0 x1
  generalize findR x0 x1 = f at h2 h3
  obtain ⟨v, is⟩ := f
  cases is with
  | true =>
    obtain ⟨h4, h5⟩ := h2 rfl
    simp only at h4 h5
    have h6 : table_Value.f v = some (v, ⟨#[]⟩, 0) := by unfold table_Value.f; rw [if_pos (by omega), val_whole h4]
    simp only
    rw [if_pos trivial, h6, Option.bind_some, if_pos trivial, if_pos rfl, if_pos rfl]
    simp only [toList_data]
    rfl
  | false =>
    have h4 := h3 rfl
    simp only at h4
    subst h4
    simp only
    rw [if_neg (by decide), if_pos trivial, toList_data]
    rfl
theorem tableParts_pure (b0 b1 : ByteArray) (g0 : b0.size ≤ maxLen) (g1 : b1.size ≤ maxLen) (z0 : b0.size ≤ 140737488351232) (z1 : b1.size ≤ 140737488351232) : ∃ k, interchangelaw03_TableParts.f k b0 b1 = some true := by
  obtain ⟨k, hk⟩ : ∃ k : Nat, 100 ≤ k := ⟨100, Nat.le_refl _⟩
  refine ⟨k, ?_⟩
  unfold interchangelaw03_TableParts.f
  have h1 : table_Value.f b0 = some (takenR b0 (tvalR b0)) := by unfold table_Value.f; rw [if_pos (by omega)]
  have hj := parts_j (k := k) (by omega) b0 b1 (by omega)
  rw [shown_t, Option.bind_some, h1, Option.bind_some]
  by_cases e : (tvalR b0).2.1 = 0
  · obtain ⟨a, r, h2, h3, h4⟩ := val_cut e
    rw [h2]
    have h6 : table_Value.f a = some (a, ⟨#[]⟩, 0) := by unfold table_Value.f; rw [if_pos (by omega), val_whole h3]
    simp only
    rw [if_pos trivial, h6, Option.bind_some]
    simp only
    rw [if_pos trivial, if_pos trivial, if_pos (by rw [toList_data]), hj]
  · unfold takenR
    rw [if_neg e]
    simp only
    rw [if_neg e, hj]
end Go.Proofs.YthdkmohelampbaaDoor.F
