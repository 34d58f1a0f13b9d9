-- Printed by this session's program pf.py out of the kit's print.
import Derived.Test.YtdalcbhnnfabhaaDoorFbase
import Derived.Test.YtdalcbhnnfabhaaDoorFHsplit
import Derived.Test.YtdalcbhnnfabhaaDoorFframeBytes
import Derived.Test.YtdalcbhnnfabhaaDoorFinterchangelaw04shown
import Derived.Test.YtdalcbhnnfabhaaDoorFeq29
namespace Go.Proofs.YtdalcbhnnfabhaaDoor.F
open Go.RowKit Go.Proofs.YtdalcbhnnfabhaaDoorW.PrintWords Go.Proofs.YtdalcbhnnfabhaaDoorW.PrintLast Go.Proofs.YtdalcbhnnfabhaaDoorW.PrintMore
attribute [local go_sem] max2_int min2_int max_two min_two max_three min_three max_four min_four
set_option linter.unusedVariables false
set_option linter.unusedSimpArgs false

attribute [local go_sem high] eqA29
/-! ### interchangelaw04_FrameBeats: function 8 -/
mutual
def interchangelaw04_FrameBeats.j0 : Nat → Bool → List (S29) → List (S29) → Bool → Option (Bool)
  | 0, _, _, _, _ => none
  | k + 1, x5, x8, x11, x56 => if x56 = true then (some false) else (interchangelaw04_FrameBeats.l0 k x5 x8 x11 0)
def interchangelaw04_FrameBeats.l0 : Nat → Bool → List (S29) → List (S29) → Int → Option (Bool)
  | 0, _, _, _, _ => none
  | k + 1, x5, x8, x11, x14 => if x14 < (x8.length : Int) then (if 0 ≤ (wrap64 (x14 + 1)) then (if (wrap64 (x14 + 1)) < (x11.length : Int) then (if 0 ≤ x14 then (if (!(((rd_T29 x11 (wrap64 (x14 + 1))).f0) == ((rd_T29 x8 x14).f0)) || (!(((rd_T29 x11 (wrap64 (x14 + 1))).f1) == ((rd_T29 x8 x14).f1)) || (!((((rd_T29 x11 (wrap64 (x14 + 1))).f2).toList) == (((rd_T29 x8 x14).f2).toList))))) = true then (some false) else (interchangelaw04_FrameBeats.l0 k x5 x8 x11 (wrap64 (x14 + 1)))) else (none)) else (none)) else (none)) else (if x5 = true then (if 0 < (x11.length : Int) then (some (((rd_T29 x11 0).f0) == 8 && (((rd_T29 x11 0).f1) == 0 && ((((rd_T29 x11 0).f2).toList) == ([] : List UInt8))))) else (none)) else (some false))
end
def interchangelaw04_FrameBeats.f (k : Nat) (a0 : ByteArray) (a1 : Int) : Option (Bool) := (interchangelaw04_shown.f k).bind fun t242 => ((frame_Bytes.f k 8 0 (⟨#[]⟩ : ByteArray)).bind fun bt243 => ((frame_Split.f a0 a1).bind fun bt245 => (if bt243.1.size + a0.size ≤ 9223372036854775807 then ((frame_Split.f (bt243.1 ++ a0) a1).bind fun bt250 => (if bt243.2 = 0 then (if (bt250.1.length : Int) = (wrap64 ((bt245.1.length : Int) + 1)) then (if bt245.2.2 = bt250.2.2 then (interchangelaw04_FrameBeats.j0 k t242 bt245.1 bt250.1 (bt245.2.1.toList != bt250.2.1.toList)) else (interchangelaw04_FrameBeats.j0 k t242 bt245.1 bt250.1 true)) else (interchangelaw04_FrameBeats.j0 k t242 bt245.1 bt250.1 true)) else (interchangelaw04_FrameBeats.j0 k t242 bt245.1 bt250.1 true))) else (none))))
theorem interchangelaw04_FrameBeats.mono_l : ∀ k, (∀ y0 y1 y2 y3, LeO (interchangelaw04_FrameBeats.j0 k y0 y1 y2 y3) (interchangelaw04_FrameBeats.j0 (k + 1) y0 y1 y2 y3)) ∧ (∀ y0 y1 y2 y3, LeO (interchangelaw04_FrameBeats.l0 k y0 y1 y2 y3) (interchangelaw04_FrameBeats.l0 (k + 1) y0 y1 y2 y3))
  | 0 => ⟨fun _ _ _ _ r h => by simp [interchangelaw04_FrameBeats.j0] at h, fun _ _ _ _ r h => by simp [interchangelaw04_FrameBeats.l0] at h⟩
  | k + 1 => by
    obtain ⟨ih0, ih1⟩ := interchangelaw04_FrameBeats.mono_l k
    refine ⟨?_, ?_⟩
    · intro y0 y1 y2 y3
      unfold interchangelaw04_FrameBeats.j0
      repeat' first
      | (with_reducible exact ih0 _ _ _ _)
      | (with_reducible exact ih1 _ _ _ _)
      | (with_reducible exact frame_Bytes.mono _ _ _ _)
      | (with_reducible exact interchangelaw04_shown.mono _)
      | (with_reducible exact LeO.refl _)
      | (with_reducible exact LeO.none _)
      | (with_reducible refine LeO.ite ?_ ?_)
      | (with_reducible refine LeO.bind ?_ (fun _ => ?_))
      | exact ih0 _ _ _ _
      | exact ih1 _ _ _ _
      | exact frame_Bytes.mono _ _ _ _
      | exact interchangelaw04_shown.mono _
      | exact LeO.none _
      | refine LeO.ite ?_ ?_
      | refine LeO.bind ?_ (fun _ => ?_)
    · intro y0 y1 y2 y3
      unfold interchangelaw04_FrameBeats.l0
      repeat' first
      | (with_reducible exact ih0 _ _ _ _)
      | (with_reducible exact ih1 _ _ _ _)
      | (with_reducible exact frame_Bytes.mono _ _ _ _)
      | (with_reducible exact interchangelaw04_shown.mono _)
      | (with_reducible exact LeO.refl _)
      | (with_reducible exact LeO.none _)
      | (with_reducible refine LeO.ite ?_ ?_)
      | (with_reducible refine LeO.bind ?_ (fun _ => ?_))
      | exact ih0 _ _ _ _
      | exact ih1 _ _ _ _
      | exact frame_Bytes.mono _ _ _ _
      | exact interchangelaw04_shown.mono _
      | exact LeO.none _
      | refine LeO.ite ?_ ?_
      | refine LeO.bind ?_ (fun _ => ?_)
theorem interchangelaw04_FrameBeats.mono : ∀ a0 a1 k, LeO (interchangelaw04_FrameBeats.f k a0 a1) (interchangelaw04_FrameBeats.f (k + 1) a0 a1) := by
  intro a0 a1 k
  obtain ⟨ih0, ih1⟩ := interchangelaw04_FrameBeats.mono_l k
  unfold interchangelaw04_FrameBeats.f
  repeat' first
      | (with_reducible exact ih0 _ _ _ _)
      | (with_reducible exact ih1 _ _ _ _)
      | (with_reducible exact frame_Bytes.mono _ _ _ _)
      | (with_reducible exact interchangelaw04_shown.mono _)
      | (with_reducible exact LeO.refl _)
      | (with_reducible exact LeO.none _)
      | (with_reducible refine LeO.ite ?_ ?_)
      | (with_reducible refine LeO.bind ?_ (fun _ => ?_))
      | exact ih0 _ _ _ _
      | exact ih1 _ _ _ _
      | exact frame_Bytes.mono _ _ _ _
      | exact interchangelaw04_shown.mono _
      | exact LeO.none _
      | refine LeO.ite ?_ ?_
      | refine LeO.bind ?_ (fun _ => ?_)
set_option maxHeartbeats 8000000 in
set_option maxRecDepth 100000 in
theorem interchangelaw04_FrameBeats.calls (k : Nat) (a0 : ByteArray) (a1 : Int) (r : Bool) (w : World) (hg : Laid w) (h : interchangelaw04_FrameBeats.f k a0 a1 = some r) :
    Calls Tryd.prog 8 #[.string a0, .int .i64 a1] w fun e w' => e = .returned (.bool r) ∧ Below w.heap.size w w' := by
  have HG := Aside0.mk hg
  clear hg
  have hu29 := Tryd.underlying29
  have HB := Aside0.mk (Below.refl w.heap.size w)
  have H : ((interchangelaw04_shown.f k).bind fun t242 => ((frame_Bytes.f k 8 0 (⟨#[]⟩ : ByteArray)).bind fun bt243 => ((frame_Split.f a0 a1).bind fun bt245 => (if bt243.1.size + a0.size ≤ 9223372036854775807 then ((frame_Split.f (bt243.1 ++ a0) a1).bind fun bt250 => (if bt243.2 = 0 then (if (bt250.1.length : Int) = (wrap64 ((bt245.1.length : Int) + 1)) then (if bt245.2.2 = bt250.2.2 then (interchangelaw04_FrameBeats.j0 k t242 bt245.1 bt250.1 (bt245.2.1.toList != bt250.2.1.toList)) else (interchangelaw04_FrameBeats.j0 k t242 bt245.1 bt250.1 true)) else (interchangelaw04_FrameBeats.j0 k t242 bt245.1 bt250.1 true)) else (interchangelaw04_FrameBeats.j0 k t242 bt245.1 bt250.1 true))) else (none))))) = some r := h
  clear h
  replace H := Option.bind_eq_some_iff.mp H
  obtain ⟨t242, A30, H⟩ := H
  replace H : ((frame_Bytes.f k 8 0 (⟨#[]⟩ : ByteArray)).bind fun bt243 => ((frame_Split.f a0 a1).bind fun bt245 => (if bt243.1.size + a0.size ≤ 9223372036854775807 then ((frame_Split.f (bt243.1 ++ a0) a1).bind fun bt250 => (if bt243.2 = 0 then (if (bt250.1.length : Int) = (wrap64 ((bt245.1.length : Int) + 1)) then (if bt245.2.2 = bt250.2.2 then (interchangelaw04_FrameBeats.j0 k t242 bt245.1 bt250.1 (bt245.2.1.toList != bt250.2.1.toList)) else (interchangelaw04_FrameBeats.j0 k t242 bt245.1 bt250.1 true)) else (interchangelaw04_FrameBeats.j0 k t242 bt245.1 bt250.1 true)) else (interchangelaw04_FrameBeats.j0 k t242 bt245.1 bt250.1 true))) else (none)))) = some r := H
  have A3 := Aside0.mk A30
  clear A30
  replace H := Option.bind_eq_some_iff.mp H
  obtain ⟨⟨t243, t244⟩, A40, H⟩ := H
  replace H : ((frame_Split.f a0 a1).bind fun bt245 => (if t243.size + a0.size ≤ 9223372036854775807 then ((frame_Split.f (t243 ++ a0) a1).bind fun bt250 => (if t244 = 0 then (if (bt250.1.length : Int) = (wrap64 ((bt245.1.length : Int) + 1)) then (if bt245.2.2 = bt250.2.2 then (interchangelaw04_FrameBeats.j0 k t242 bt245.1 bt250.1 (bt245.2.1.toList != bt250.2.1.toList)) else (interchangelaw04_FrameBeats.j0 k t242 bt245.1 bt250.1 true)) else (interchangelaw04_FrameBeats.j0 k t242 bt245.1 bt250.1 true)) else (interchangelaw04_FrameBeats.j0 k t242 bt245.1 bt250.1 true))) else (none))) = some r := H
  have A4 := Aside0.mk A40
  clear A40
  replace H := Option.bind_eq_some_iff.mp H
  obtain ⟨⟨t245, t246, t247⟩, A50, H⟩ := H
  replace H : (if t243.size + a0.size ≤ 9223372036854775807 then ((frame_Split.f (t243 ++ a0) a1).bind fun bt250 => (if t244 = 0 then (if (bt250.1.length : Int) = (wrap64 ((t245.length : Int) + 1)) then (if t247 = bt250.2.2 then (interchangelaw04_FrameBeats.j0 k t242 t245 bt250.1 (t246.toList != bt250.2.1.toList)) else (interchangelaw04_FrameBeats.j0 k t242 t245 bt250.1 true)) else (interchangelaw04_FrameBeats.j0 k t242 t245 bt250.1 true)) else (interchangelaw04_FrameBeats.j0 k t242 t245 bt250.1 true))) else (none)) = some r := H
  have A5 := Aside0.mk A50
  clear A50
  by_cases c6 : t243.size + a0.size ≤ 9223372036854775807
  · rw [if_pos c6] at H
    have c6b0 := eq_true c6
    have c6b1 : decide (t243.size + a0.size ≤ 9223372036854775807) = true := decide_eq_true c6
    try have c6b2 : (9223372036854775807 < t243.size + a0.size) = False := eq_false (Nat.not_lt.2 c6)
    replace H := Option.bind_eq_some_iff.mp H
    obtain ⟨⟨t250, t251, t252⟩, A70, H⟩ := H
    replace H : (if t244 = 0 then (if (t250.length : Int) = (wrap64 ((t245.length : Int) + 1)) then (if t247 = t252 then (interchangelaw04_FrameBeats.j0 k t242 t245 t250 (t246.toList != t251.toList)) else (interchangelaw04_FrameBeats.j0 k t242 t245 t250 true)) else (interchangelaw04_FrameBeats.j0 k t242 t245 t250 true)) else (interchangelaw04_FrameBeats.j0 k t242 t245 t250 true)) = some r := H
    have A7 := Aside0.mk A70
    clear A70
    have HC8 := Aside0.mk H
    clear H
    go_enter Tryd.func8, Tryd.ntmps8
    go_upto_region 5 with (first | (go_at_call 10; (with_reducible refine (interchangelaw04_shown.calls k t242 _ ?lg A3.out).mono ?_); (case lg => exact (HG.out.below (by repeat (first | (with_reducible first | exact HB.out | apply below_alloc | apply pw_below_drewN | apply below_drew1) | exact HB.out)))); rintro e w9 ⟨rfl, hb⟩; have n0_ := Aside0.mk (below_step (by repeat (first | (with_reducible first | exact HB.out | apply below_alloc | apply pw_below_drewN | apply below_drew1) | exact HB.out)) hb); clear HB; have HB := n0_; clear n0_; (try clear hb); (try clear hb2); (try clear hk); (try clear hi)) | (go_at_call 13; (with_reducible refine (frame_Bytes.calls k 8 0 (⟨#[]⟩ : ByteArray) t243 t244 _ ?lg A4.out).mono ?_); (case lg => exact (HG.out.below (by repeat (first | (with_reducible first | exact HB.out | apply below_alloc | apply pw_below_drewN | apply below_drew1) | exact HB.out)))); rintro e w10 ⟨rfl, hb⟩; have n0_ := Aside0.mk (below_step (by repeat (first | (with_reducible first | exact HB.out | apply below_alloc | apply pw_below_drewN | apply below_drew1) | exact HB.out)) hb); clear HB; have HB := n0_; clear n0_; (try clear hb); (try clear hb2); (try clear hk); (try clear hi)) | (go_at_call 16; (with_reducible refine (frame_Split.calls a0 a1 t245 t246 t247 _ ?lg A5.out).mono ?_); (case lg => exact (HG.out.below (by repeat (first | (with_reducible first | exact HB.out | apply below_alloc | apply pw_below_drewN | apply below_drew1) | exact HB.out)))); rintro e w11 ⟨v248, rfl, ho0, hb⟩; have n0_ := Aside0.mk (Kd.R_lower ho0 (below_size (by repeat (first | (with_reducible first | exact HB.out | apply below_alloc | apply pw_below_drewN | apply below_drew1) | exact HB.out)))); have n1_ := Aside0.mk (below_step (by repeat (first | (with_reducible first | exact HB.out | apply below_alloc | apply pw_below_drewN | apply below_drew1) | exact HB.out)) hb); clear HB; have HO249 := n0_; have HB := n1_; clear n0_ n1_; (try clear hb); (try clear hb2); (try clear hk); (try clear hi); (try clear ho0)) | (go_at_call 16; (with_reducible refine (frame_Split.calls (t243 ++ a0) a1 t250 t251 t252 _ ?lg A7.out).mono ?_); (case lg => exact (HG.out.below (by repeat (first | (with_reducible first | exact HB.out | apply below_alloc | apply pw_below_drewN | apply below_drew1) | exact HB.out)))); rintro e w12 ⟨v253, rfl, ho0, hb⟩; have n0_ := Aside0.mk (Kd.R_elder' (by (with_reducible repeat (first | apply Kd.R_alloc | apply Kd.R_drewN | apply Kd.R_drew)); exact HO249.out) (Kd.R_base ho0) hb); have n1_ := Aside0.mk (Kd.R_lower (Kd.R_new' ho0 (Kd.R_lt (by (with_reducible repeat (first | apply Kd.R_alloc | apply Kd.R_drewN | apply Kd.R_drew)); exact HO249.out))) (below_size (by repeat (first | (with_reducible first | exact HB.out | apply below_alloc | apply pw_below_drewN | apply below_drew1) | exact HB.out)))); have n2_ := Aside0.mk (below_step (by repeat (first | (with_reducible first | exact HB.out | apply below_alloc | apply pw_below_drewN | apply below_drew1) | exact HB.out)) hb); clear HO249; clear HB; have HO249 := n0_; have HO254 := n1_; have HB := n2_; clear n0_ n1_ n2_; (try clear hb); (try clear hb2); (try clear hk); (try clear hi); (try clear ho0)))
    repeat (go_quiet (first | (go_at_call 10; (with_reducible refine (interchangelaw04_shown.calls k t242 _ ?lg A3.out).mono ?_); (case lg => exact (HG.out.below (by repeat (first | (with_reducible first | exact HB.out | apply below_alloc | apply pw_below_drewN | apply below_drew1) | exact HB.out)))); rintro e w9 ⟨rfl, hb⟩; have n0_ := Aside0.mk (below_step (by repeat (first | (with_reducible first | exact HB.out | apply below_alloc | apply pw_below_drewN | apply below_drew1) | exact HB.out)) hb); clear HB; have HB := n0_; clear n0_; (try clear hb); (try clear hb2); (try clear hk); (try clear hi)) | (go_at_call 13; (with_reducible refine (frame_Bytes.calls k 8 0 (⟨#[]⟩ : ByteArray) t243 t244 _ ?lg A4.out).mono ?_); (case lg => exact (HG.out.below (by repeat (first | (with_reducible first | exact HB.out | apply below_alloc | apply pw_below_drewN | apply below_drew1) | exact HB.out)))); rintro e w10 ⟨rfl, hb⟩; have n0_ := Aside0.mk (below_step (by repeat (first | (with_reducible first | exact HB.out | apply below_alloc | apply pw_below_drewN | apply below_drew1) | exact HB.out)) hb); clear HB; have HB := n0_; clear n0_; (try clear hb); (try clear hb2); (try clear hk); (try clear hi)) | (go_at_call 16; (with_reducible refine (frame_Split.calls a0 a1 t245 t246 t247 _ ?lg A5.out).mono ?_); (case lg => exact (HG.out.below (by repeat (first | (with_reducible first | exact HB.out | apply below_alloc | apply pw_below_drewN | apply below_drew1) | exact HB.out)))); rintro e w11 ⟨v248, rfl, ho0, hb⟩; have n0_ := Aside0.mk (Kd.R_lower ho0 (below_size (by repeat (first | (with_reducible first | exact HB.out | apply below_alloc | apply pw_below_drewN | apply below_drew1) | exact HB.out)))); have n1_ := Aside0.mk (below_step (by repeat (first | (with_reducible first | exact HB.out | apply below_alloc | apply pw_below_drewN | apply below_drew1) | exact HB.out)) hb); clear HB; have HO249 := n0_; have HB := n1_; clear n0_ n1_; (try clear hb); (try clear hb2); (try clear hk); (try clear hi); (try clear ho0)) | (go_at_call 16; (with_reducible refine (frame_Split.calls (t243 ++ a0) a1 t250 t251 t252 _ ?lg A7.out).mono ?_); (case lg => exact (HG.out.below (by repeat (first | (with_reducible first | exact HB.out | apply below_alloc | apply pw_below_drewN | apply below_drew1) | exact HB.out)))); rintro e w12 ⟨v253, rfl, ho0, hb⟩; have n0_ := Aside0.mk (Kd.R_elder' (by (with_reducible repeat (first | apply Kd.R_alloc | apply Kd.R_drewN | apply Kd.R_drew)); exact HO249.out) (Kd.R_base ho0) hb); have n1_ := Aside0.mk (Kd.R_lower (Kd.R_new' ho0 (Kd.R_lt (by (with_reducible repeat (first | apply Kd.R_alloc | apply Kd.R_drewN | apply Kd.R_drew)); exact HO249.out))) (below_size (by repeat (first | (with_reducible first | exact HB.out | apply below_alloc | apply pw_below_drewN | apply below_drew1) | exact HB.out)))); have n2_ := Aside0.mk (below_step (by repeat (first | (with_reducible first | exact HB.out | apply below_alloc | apply pw_below_drewN | apply below_drew1) | exact HB.out)) hb); clear HO249; clear HB; have HO249 := n0_; have HO254 := n1_; have HB := n2_; clear n0_ n1_ n2_; (try clear hb); (try clear hb2); (try clear hk); (try clear hi); (try clear ho0))); go_upto_region 5 with (first | (go_at_call 10; (with_reducible refine (interchangelaw04_shown.calls k t242 _ ?lg A3.out).mono ?_); (case lg => exact (HG.out.below (by repeat (first | (with_reducible first | exact HB.out | apply below_alloc | apply pw_below_drewN | apply below_drew1) | exact HB.out)))); rintro e w9 ⟨rfl, hb⟩; have n0_ := Aside0.mk (below_step (by repeat (first | (with_reducible first | exact HB.out | apply below_alloc | apply pw_below_drewN | apply below_drew1) | exact HB.out)) hb); clear HB; have HB := n0_; clear n0_; (try clear hb); (try clear hb2); (try clear hk); (try clear hi)) | (go_at_call 13; (with_reducible refine (frame_Bytes.calls k 8 0 (⟨#[]⟩ : ByteArray) t243 t244 _ ?lg A4.out).mono ?_); (case lg => exact (HG.out.below (by repeat (first | (with_reducible first | exact HB.out | apply below_alloc | apply pw_below_drewN | apply below_drew1) | exact HB.out)))); rintro e w10 ⟨rfl, hb⟩; have n0_ := Aside0.mk (below_step (by repeat (first | (with_reducible first | exact HB.out | apply below_alloc | apply pw_below_drewN | apply below_drew1) | exact HB.out)) hb); clear HB; have HB := n0_; clear n0_; (try clear hb); (try clear hb2); (try clear hk); (try clear hi)) | (go_at_call 16; (with_reducible refine (frame_Split.calls a0 a1 t245 t246 t247 _ ?lg A5.out).mono ?_); (case lg => exact (HG.out.below (by repeat (first | (with_reducible first | exact HB.out | apply below_alloc | apply pw_below_drewN | apply below_drew1) | exact HB.out)))); rintro e w11 ⟨v248, rfl, ho0, hb⟩; have n0_ := Aside0.mk (Kd.R_lower ho0 (below_size (by repeat (first | (with_reducible first | exact HB.out | apply below_alloc | apply pw_below_drewN | apply below_drew1) | exact HB.out)))); have n1_ := Aside0.mk (below_step (by repeat (first | (with_reducible first | exact HB.out | apply below_alloc | apply pw_below_drewN | apply below_drew1) | exact HB.out)) hb); clear HB; have HO249 := n0_; have HB := n1_; clear n0_ n1_; (try clear hb); (try clear hb2); (try clear hk); (try clear hi); (try clear ho0)) | (go_at_call 16; (with_reducible refine (frame_Split.calls (t243 ++ a0) a1 t250 t251 t252 _ ?lg A7.out).mono ?_); (case lg => exact (HG.out.below (by repeat (first | (with_reducible first | exact HB.out | apply below_alloc | apply pw_below_drewN | apply below_drew1) | exact HB.out)))); rintro e w12 ⟨v253, rfl, ho0, hb⟩; have n0_ := Aside0.mk (Kd.R_elder' (by (with_reducible repeat (first | apply Kd.R_alloc | apply Kd.R_drewN | apply Kd.R_drew)); exact HO249.out) (Kd.R_base ho0) hb); have n1_ := Aside0.mk (Kd.R_lower (Kd.R_new' ho0 (Kd.R_lt (by (with_reducible repeat (first | apply Kd.R_alloc | apply Kd.R_drewN | apply Kd.R_drew)); exact HO249.out))) (below_size (by repeat (first | (with_reducible first | exact HB.out | apply below_alloc | apply pw_below_drewN | apply below_drew1) | exact HB.out)))); have n2_ := Aside0.mk (below_step (by repeat (first | (with_reducible first | exact HB.out | apply below_alloc | apply pw_below_drewN | apply below_drew1) | exact HB.out)) hb); clear HO249; clear HB; have HO249 := n0_; have HO254 := n1_; have HB := n2_; clear n0_ n1_ n2_; (try clear hb); (try clear hb2); (try clear hk); (try clear hi); (try clear ho0))))
    (try simp only [Act.put, List.setIfInBounds_toArray, List.set_cons_zero, List.set_cons_succ])
    go_cut [56] (fun v56 wc => ∃ (kq : Nat) (x56_7 : Bool), v56 = .bool x56_7 ∧ Aside0 (interchangelaw04_FrameBeats.j0 kq t242 t245 t250 x56_7 = some r) ∧ Aside0 (kq ≤ k) ∧ Aside0 (Kd.R k29 29 wc w.heap.size (fun k_ => some k_ ≠ (v253 : Value).ownBlock) v248 t245) ∧ Aside0 (Kd.R k29 29 wc w.heap.size (fun k_ => some k_ ≠ (v248 : Value).ownBlock) v253 t250) ∧ Aside0 (Below w.heap.size w wc))
    case first =>
      have H := HC8.out
      clear HC8
      by_cases c13 : t244 = 0
      · rw [if_pos c13] at H
        have c13b0 : (t244 == 0) = true := beq_iff_eq.mpr c13
        have c13b1 : (t244 != 0) = false := bne_eq_false_iff_eq.mpr c13
        clear c13
        (first | rw [c13b0] | (simp only [i64_w, i32_w]; rw [c13b0]) | skip)
        by_cases c14 : (t250.length : Int) = (wrap64 ((t245.length : Int) + 1))
        · rw [if_pos c14] at H
          have c14b0 : ((t250.length : Int) == (wrap64 ((t245.length : Int) + 1))) = true := beq_iff_eq.mpr c14
          have c14b1 : ((t250.length : Int) != (wrap64 ((t245.length : Int) + 1))) = false := bne_eq_false_iff_eq.mpr c14
          clear c14
          by_cases c15 : t247 = t252
          · rw [if_pos c15] at H
            have c15b0 : (t247 == t252) = true := beq_iff_eq.mpr c15
            have c15b1 : (t247 != t252) = false := bne_eq_false_iff_eq.mpr c15
            clear c15
            have H' := Aside0.mk H
            clear H
            obtain ⟨Ao16, co16, eo16⟩ := Kd.R_slice HO254.out
            subst eo16
            obtain ⟨Ao17, co17, eo17⟩ := Kd.R_slice HO249.out
            subst eo17
            go_wp2
            repeat (go_quiet (fail); try go_wp2)
            go_meet
            case rel => exact ⟨_, ((t246.toList != t251.toList)), (by first | rfl | (simp; done) | (simp [*]; done)), H', ⟨by first | omega | exact Nat.le_refl _⟩, ⟨by (with_reducible repeat (first | apply Kd.R_alloc | apply Kd.R_drewN | apply Kd.R_drew)); exact Kd.R_mono HO249.out (fun _ hk => hk.2)⟩, ⟨by (with_reducible repeat (first | apply Kd.R_alloc | apply Kd.R_drewN | apply Kd.R_drew)); exact Kd.R_mono HO254.out (fun _ hk => hk.2)⟩, ⟨by repeat (first | (with_reducible first | exact HB.out | apply below_alloc | apply pw_below_drewN | apply below_drew1) | exact HB.out)⟩⟩
          · rw [if_neg c15] at H
            have c15b0 : (t247 == t252) = false := beq_eq_false_iff_ne.mpr c15
            have c15b1 : (t247 != t252) = true := bne_iff_ne.mpr c15
            have H' := Aside0.mk H
            clear H
            obtain ⟨Ao18, co18, eo18⟩ := Kd.R_slice HO254.out
            subst eo18
            obtain ⟨Ao19, co19, eo19⟩ := Kd.R_slice HO249.out
            subst eo19
            go_wp2
            repeat (go_quiet (fail); try go_wp2)
            go_meet
            case rel => exact ⟨_, (true), (by first | rfl | (simp; done) | (simp [*]; done)), H', ⟨by first | omega | exact Nat.le_refl _⟩, ⟨by (with_reducible repeat (first | apply Kd.R_alloc | apply Kd.R_drewN | apply Kd.R_drew)); exact Kd.R_mono HO249.out (fun _ hk => hk.2)⟩, ⟨by (with_reducible repeat (first | apply Kd.R_alloc | apply Kd.R_drewN | apply Kd.R_drew)); exact Kd.R_mono HO254.out (fun _ hk => hk.2)⟩, ⟨by repeat (first | (with_reducible first | exact HB.out | apply below_alloc | apply pw_below_drewN | apply below_drew1) | exact HB.out)⟩⟩
        · rw [if_neg c14] at H
          have c14b0 : ((t250.length : Int) == (wrap64 ((t245.length : Int) + 1))) = false := beq_eq_false_iff_ne.mpr c14
          have c14b1 : ((t250.length : Int) != (wrap64 ((t245.length : Int) + 1))) = true := bne_iff_ne.mpr c14
          have H' := Aside0.mk H
          clear H
          obtain ⟨Ao20, co20, eo20⟩ := Kd.R_slice HO254.out
          subst eo20
          obtain ⟨Ao21, co21, eo21⟩ := Kd.R_slice HO249.out
          subst eo21
          go_wp2
          repeat (go_quiet (fail); try go_wp2)
          go_meet
          case rel => exact ⟨_, (true), (by first | rfl | (simp; done) | (simp [*]; done)), H', ⟨by first | omega | exact Nat.le_refl _⟩, ⟨by (with_reducible repeat (first | apply Kd.R_alloc | apply Kd.R_drewN | apply Kd.R_drew)); exact Kd.R_mono HO249.out (fun _ hk => hk.2)⟩, ⟨by (with_reducible repeat (first | apply Kd.R_alloc | apply Kd.R_drewN | apply Kd.R_drew)); exact Kd.R_mono HO254.out (fun _ hk => hk.2)⟩, ⟨by repeat (first | (with_reducible first | exact HB.out | apply below_alloc | apply pw_below_drewN | apply below_drew1) | exact HB.out)⟩⟩
      · rw [if_neg c13] at H
        have c13b0 : (t244 == 0) = false := beq_eq_false_iff_ne.mpr c13
        have c13b1 : (t244 != 0) = true := bne_iff_ne.mpr c13
        (first | rw [c13b0] | (simp only [i64_w, i32_w]; rw [c13b0]) | skip)
        have H' := Aside0.mk H
        clear H
        go_wp2
        repeat (go_quiet (fail); try go_wp2)
        go_meet
        case rel => exact ⟨_, (true), (by first | rfl | (simp; done) | (simp [*]; done)), H', ⟨by first | omega | exact Nat.le_refl _⟩, ⟨by (with_reducible repeat (first | apply Kd.R_alloc | apply Kd.R_drewN | apply Kd.R_drew)); exact Kd.R_mono HO249.out (fun _ hk => hk.2)⟩, ⟨by (with_reducible repeat (first | apply Kd.R_alloc | apply Kd.R_drewN | apply Kd.R_drew)); exact Kd.R_mono HO254.out (fun _ hk => hk.2)⟩, ⟨by repeat (first | (with_reducible first | exact HB.out | apply below_alloc | apply pw_below_drewN | apply below_drew1) | exact HB.out)⟩⟩
    case rest =>
      clear HC8
      try clear c1
      try clear p2
      try clear c6
      try clear c6b0
      try clear c6b1
      try clear c6b2
      try clear p6
      try clear c8
      try clear c13
      try clear c13b0
      try clear c13b1
      try clear c14
      try clear c14b0
      try clear c14b1
      try clear c15
      try clear c15b0
      try clear c15b1
      obtain ⟨kq, x56_7, rfl, HA, HJ7, HO_8, HO_11, HB⟩ := hcut
      cases kq with
      | zero => exact absurd HA.out (by simp [interchangelaw04_FrameBeats.j0])
      | succ kj7 =>
        have H := HA.out
        clear HA
        simp only [interchangelaw04_FrameBeats.j0] at H
        by_cases c22 : x56_7 = true
        · subst c22
          have H1 : (some false) = some r := by rw [if_pos rfl] at H; exact H
          clear H
          have H := H1
          clear H1
          obtain rfl := Option.some.inj H
          go_wp2
          repeat (go_quiet (fail); try go_wp2)
          go_ret
          exact ⟨by first | rfl | (simp [errW_none, errW_some] <;> rfl) | (simp [*, errW_none, errW_some] <;> rfl), by repeat (first | (with_reducible first | exact HB.out | apply below_alloc | apply pw_below_drewN | apply below_drew1) | exact HB.out)⟩
        · replace c22 := Bool.eq_false_iff.mpr c22
          subst c22
          have H1 : (interchangelaw04_FrameBeats.l0 kj7 t242 t245 t250 0) = some r := by rw [if_neg (show ¬ (false = true) by decide)] at H; exact H
          clear H
          have H := H1
          clear H1
          have H' := Aside0.mk H
          clear H
          go_wp2
          repeat (go_quiet (fail); try go_wp2)
          go_loopg [14] kj7 (fun kq v14 w' => ∃ (x14_2 : Int), v14 = .int .i64 x14_2 ∧ Aside0 (interchangelaw04_FrameBeats.l0 kq t242 t245 t250 x14_2 = some r) ∧ Aside0 (kq ≤ kj7) ∧ Aside0 (Kd.R k29 29 w' w.heap.size (fun k_ => some k_ ≠ (v253 : Value).ownBlock) v248 t245) ∧ Aside0 (Kd.R k29 29 w' w.heap.size (fun k_ => some k_ ≠ (v248 : Value).ownBlock) v253 t250) ∧ Aside0 (Below w.heap.size w w'))
          case atStart => exact ⟨(0), (by first | rfl | (simp; done) | (simp [*]; done)), H', ⟨Nat.le_refl _⟩, ⟨by (with_reducible repeat (first | apply Kd.R_alloc | apply Kd.R_drewN | apply Kd.R_drew)); exact HO_8.out⟩, ⟨by (with_reducible repeat (first | apply Kd.R_alloc | apply Kd.R_drewN | apply Kd.R_drew)); exact HO_11.out⟩, ⟨by repeat (first | (with_reducible first | exact HB.out | apply below_alloc | apply pw_below_drewN | apply below_drew1) | exact HB.out)⟩⟩
          case round =>
            clear H'
            try clear c1
            try clear c2
            try clear p2
            try clear c6
            try clear c6b0
            try clear c6b1
            try clear c6b2
            try clear p6
            try clear c8
            try clear c13
            try clear c13b0
            try clear c13b1
            try clear c14
            try clear c14b0
            try clear c14b1
            try clear c15
            try clear c15b0
            try clear c15b1
            try clear c22
            try clear p2
            try clear p6
            obtain ⟨x14_2, rfl, HA, HK2, HO_8, HO_11, HB⟩ := hrel
            cases gk with
            | zero => exact absurd HA.out (by simp [interchangelaw04_FrameBeats.l0])
            | succ k2 =>
              have H := HA.out
              clear HA
              simp only [interchangelaw04_FrameBeats.l0] at H
              by_cases c23 : x14_2 < (t245.length : Int)
              · rw [if_pos c23] at H
                have c23b0 : decide (x14_2 < (t245.length : Int)) = true := decide_eq_true c23
                clear c23
                obtain ⟨ji24, hji24⟩ : ∃ j_ : Int, (wrap64 (x14_2 + 1)) = j_ := ⟨_, rfl⟩
                replace H : (if 0 ≤ (ji24) then (if (ji24) < (t250.length : Int) then (if 0 ≤ x14_2 then (if (!(((rd_T29 t250 (ji24)).f0) == ((rd_T29 t245 x14_2).f0)) || (!(((rd_T29 t250 (ji24)).f1) == ((rd_T29 t245 x14_2).f1)) || (!((((rd_T29 t250 (ji24)).f2).toList) == (((rd_T29 t245 x14_2).f2).toList))))) = true then (some false) else (interchangelaw04_FrameBeats.l0 k2 t242 t245 t250 ji24)) else (none)) else (none)) else (none)) = some r := by first | (rw [hji24] at H; exact H) | (simp only [hji24] at H ⊢; exact H)
                have hji24w : (IntKind.i64.wrap (x14_2 + 1)) = ji24 := (i64_w _).trans hji24
                by_cases c25 : 0 ≤ (ji24)
                · rw [if_pos c25] at H
                  have c25b0 : decide (0 ≤ (ji24)) = true := decide_eq_true c25
                  clear c25
                  by_cases c26 : (ji24) < (t250.length : Int)
                  · rw [if_pos c26] at H
                    have c26b0 : decide ((ji24) < (t250.length : Int)) = true := decide_eq_true c26
                    clear c26
                    by_cases c27 : 0 ≤ x14_2
                    · rw [if_pos c27] at H
                      have c27b0 : decide (0 ≤ x14_2) = true := decide_eq_true c27
                      clear c27
                      by_cases c28 : (!(((rd_T29 t250 (ji24)).f0) == ((rd_T29 t245 x14_2).f0)) || (!(((rd_T29 t250 (ji24)).f1) == ((rd_T29 t245 x14_2).f1)) || (!((((rd_T29 t250 (ji24)).f2).toList) == (((rd_T29 t245 x14_2).f2).toList))))) = true
                      · rw [if_pos c28] at H
                        have c28b0 : (!(((rd_T29 t250 (ji24)).f0) == ((rd_T29 t245 x14_2).f0)) || (!(((rd_T29 t250 (ji24)).f1) == ((rd_T29 t245 x14_2).f1)) || (!((((rd_T29 t250 (ji24)).f2).toList) == (((rd_T29 t245 x14_2).f2).toList))))) = true := c28
                        clear c28
                        obtain rfl := Option.some.inj H
                        obtain ⟨Ao29, co29, eo29⟩ := Kd.R_slice HO_8.out
                        subst eo29
                        obtain ⟨Ao30, co30, eo30⟩ := Kd.R_slice HO_11.out
                        subst eo30
                        have p255 : 0 ≤ ((ji24) : Int) := of_decide_eq_true (by first | (with_reducible assumption) | assumption)
                        have q255 : (ji24) < (t250.length : Int) := of_decide_eq_true (by first | (with_reducible assumption) | assumption)
                        obtain ⟨ad255, e255, hx255_0, hx255_1, hx255_2⟩ := at_T29 (Kd.R_reads' HO_11.out).2.2 (ji24) p255 q255
                        cases e255
                        replace p255 := eq_true p255
                        replace q255 := eq_true q255
                        have p256 : 0 ≤ (x14_2 : Int) := of_decide_eq_true (by first | (with_reducible assumption) | assumption)
                        have q256 : x14_2 < (t245.length : Int) := of_decide_eq_true (by first | (with_reducible assumption) | assumption)
                        obtain ⟨ad256, e256, hx256_0, hx256_1, hx256_2⟩ := at_T29 (Kd.R_reads' HO_8.out).2.2 x14_2 p256 q256
                        cases e256
                        replace p256 := eq_true p256
                        replace q256 := eq_true q256
                        go_wp2
                        repeat (go_quiet (fail); try go_wp2)
                        go_ret
                        exact ⟨by first | rfl | (simp [errW_none, errW_some] <;> rfl) | (simp only [← hji24]; first | rfl | (simp [errW_none, errW_some] <;> rfl)) | (simp [*, errW_none, errW_some] <;> rfl), by repeat (first | (with_reducible first | exact HB.out | apply below_alloc | apply pw_below_drewN | apply below_drew1) | exact HB.out)⟩
                      · rw [if_neg c28] at H
                        have c28b0 : (!(((rd_T29 t250 (ji24)).f0) == ((rd_T29 t245 x14_2).f0)) || (!(((rd_T29 t250 (ji24)).f1) == ((rd_T29 t245 x14_2).f1)) || (!((((rd_T29 t250 (ji24)).f2).toList) == (((rd_T29 t245 x14_2).f2).toList))))) = false := by simpa using c28
                        clear c28
                        have H' := Aside0.mk H
                        clear H
                        obtain ⟨Ao31, co31, eo31⟩ := Kd.R_slice HO_8.out
                        subst eo31
                        obtain ⟨Ao32, co32, eo32⟩ := Kd.R_slice HO_11.out
                        subst eo32
                        have p255 : 0 ≤ ((ji24) : Int) := of_decide_eq_true (by first | (with_reducible assumption) | assumption)
                        have q255 : (ji24) < (t250.length : Int) := of_decide_eq_true (by first | (with_reducible assumption) | assumption)
                        obtain ⟨ad255, e255, hx255_0, hx255_1, hx255_2⟩ := at_T29 (Kd.R_reads' HO_11.out).2.2 (ji24) p255 q255
                        cases e255
                        replace p255 := eq_true p255
                        replace q255 := eq_true q255
                        have p256 : 0 ≤ (x14_2 : Int) := of_decide_eq_true (by first | (with_reducible assumption) | assumption)
                        have q256 : x14_2 < (t245.length : Int) := of_decide_eq_true (by first | (with_reducible assumption) | assumption)
                        obtain ⟨ad256, e256, hx256_0, hx256_1, hx256_2⟩ := at_T29 (Kd.R_reads' HO_8.out).2.2 x14_2 p256 q256
                        cases e256
                        replace p256 := eq_true p256
                        replace q256 := eq_true q256
                        go_wp2
                        repeat (go_quiet (fail); try go_wp2)
                        go_roundg k2
                        case measure => have := HJ7.out; have := HK2.out; omega
                        case rel => exact ⟨(ji24), (by first | rfl | (simp; done) | (simp only [← hji24] <;> (first | rfl | simp)) | (simp [*]; done)), H', ⟨by have := HJ7.out; have := HK2.out; omega⟩, ⟨by (with_reducible repeat (first | apply Kd.R_alloc | apply Kd.R_drewN | apply Kd.R_drew)); exact HO_8.out⟩, ⟨by (with_reducible repeat (first | apply Kd.R_alloc | apply Kd.R_drewN | apply Kd.R_drew)); exact HO_11.out⟩, ⟨by repeat (first | (with_reducible first | exact HB.out | apply below_alloc | apply pw_below_drewN | apply below_drew1) | exact HB.out)⟩⟩
                    · rw [if_neg c27] at H
                      exact absurd H (by simp)
                  · rw [if_neg c26] at H
                    exact absurd H (by simp)
                · rw [if_neg c25] at H
                  exact absurd H (by simp)
              · rw [if_neg c23] at H
                have c23b0 : decide (x14_2 < (t245.length : Int)) = false := decide_eq_false c23
                clear c23
                by_cases c33 : t242 = true
                · subst c33
                  have H1 : (if 0 < (t250.length : Int) then (some (((rd_T29 t250 0).f0) == 8 && (((rd_T29 t250 0).f1) == 0 && ((((rd_T29 t250 0).f2).toList) == ([] : List UInt8))))) else (none)) = some r := by rw [if_pos rfl] at H; exact H
                  clear H
                  have H := H1
                  clear H1
                  by_cases c34 : 0 < (t250.length : Int)
                  · rw [if_pos c34] at H
                    have c34b0 : decide (0 < (t250.length : Int)) = true := decide_eq_true c34
                    have c34b1 : decide (0 < t250.length) = true := decide_eq_true (by omega)
                    clear c34
                    obtain rfl := Option.some.inj H
                    obtain ⟨Ao35, co35, eo35⟩ := Kd.R_slice HO_8.out
                    subst eo35
                    obtain ⟨Ao36, co36, eo36⟩ := Kd.R_slice HO_11.out
                    subst eo36
                    have p257 : 0 ≤ (0 : Int) := (by omega)
                    have q257 : 0 < (t250.length : Int) := of_decide_eq_true (by first | (with_reducible assumption) | assumption)
                    obtain ⟨ad257, e257, hx257_0, hx257_1, hx257_2⟩ := at_T29 (Kd.R_reads' HO_11.out).2.2 0 p257 q257
                    cases e257
                    have qi257 : (0 < t250.length) = True := eq_true (by omega)
                    (try rw [show ((0 : Int)).toNat = 0 from rfl] at hx257_0)
                    (try rw [show 0 * 3 = 0 from rfl] at hx257_0)
                    (try rw [Addr.add_zero'] at hx257_0)
                    (try rw [show ((0 : Int)).toNat = 0 from rfl] at hx257_1)
                    (try rw [show 0 * 3 = 0 from rfl] at hx257_1)
                    (try rw [Addr.add_zero'] at hx257_1)
                    (try rw [show ((0 : Int)).toNat = 0 from rfl] at hx257_2)
                    (try rw [show 0 * 3 = 0 from rfl] at hx257_2)
                    (try rw [Addr.add_zero'] at hx257_2)
                    replace p257 := eq_true p257
                    replace q257 := eq_true q257
                    go_wp2
                    repeat (go_quiet (fail); try go_wp2)
                    go_ret
                    exact ⟨by first | rfl | (simp [errW_none, errW_some] <;> rfl) | (simp [*, errW_none, errW_some] <;> rfl), by repeat (first | (with_reducible first | exact HB.out | apply below_alloc | apply pw_below_drewN | apply below_drew1) | exact HB.out)⟩
                  · rw [if_neg c34] at H
                    exact absurd H (by simp)
                · replace c33 := Bool.eq_false_iff.mpr c33
                  subst c33
                  have H1 : (some false) = some r := by rw [if_neg (show ¬ (false = true) by decide)] at H; exact H
                  clear H
                  have H := H1
                  clear H1
                  obtain rfl := Option.some.inj H
                  obtain ⟨Ao37, co37, eo37⟩ := Kd.R_slice HO_8.out
                  subst eo37
                  go_wp2
                  repeat (go_quiet (fail); try go_wp2)
                  go_ret
                  exact ⟨by first | rfl | (simp [errW_none, errW_some] <;> rfl) | (simp [*, errW_none, errW_some] <;> rfl), by repeat (first | (with_reducible first | exact HB.out | apply below_alloc | apply pw_below_drewN | apply below_drew1) | exact HB.out)⟩
  · rw [if_neg c6] at H
    exact absurd H (by simp)


end Go.Proofs.YtdalcbhnnfabhaaDoor.F
