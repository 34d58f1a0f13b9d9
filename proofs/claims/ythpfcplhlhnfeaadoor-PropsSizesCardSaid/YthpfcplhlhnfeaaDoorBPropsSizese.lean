/- A head is as long as fourteen bytes and its properties; another size changes nothing else of its bytes, for every input. -/
import Derived.Lib.LaidTab
import Derived.Deep.DeepHandedRow
import Derived.Test.YthpfcplhlhnfeaaDoorCards
import Derived.Test.YthpfcplhlhnfeaaDoorTie
import Derived.WalkKit
import Derived.ProofKit
import Derived.OpenShut
import Derived.SizedLaws
import Derived.Carry
import Derived.SevenTiedAt
import Derived.Test.YthpfcplhlhnfeaaDoorBPropsSizesa
import Derived.Test.YthpfcplhlhnfeaaDoorBPropsSizesb
import Derived.Test.YthpfcplhlhnfeaaDoorBPropsSizesc
import Derived.Test.YthpfcplhlhnfeaaDoorBPropsSizesd
namespace Go.Proofs.YthpfcplhlhnfeaaDoor.F
open Go.RowKit Go.Proofs.YthpfcplhlhnfeaaDoorW.PrintWords Go.Proofs.YthpfcplhlhnfeaaDoorW.PrintLast Go.Proofs.YthpfcplhlhnfeaaDoorW.PrintMore
set_option linter.unusedVariables false
set_option linter.unusedSimpArgs false
set_option maxRecDepth 4000
theorem head_parts {b fl : Int} {p : ByteArray} (h0 : 0 ≤ b) (h1 : b < 18446744073709551616) (h2 : fl ≤ 65535) : (headB b fl ++ p).extract 0 4 = pnum 2 60 ++ pnum 2 0 ∧ (headB b fl ++ p).extract 12 (headB b fl ++ p).size = pnum 2 fl ++ p := by
  have e1 : headB b fl ++ p = (pnum 2 60 ++ pnum 2 0) ++ (pnum 8 b ++ (pnum 2 fl ++ p)) := by unfold headB; simp only [app_assoc]
  have e2 : headB b fl ++ p = ((pnum 2 60 ++ pnum 2 0) ++ pnum 8 b) ++ (pnum 2 fl ++ p) := by unfold headB; simp only [app_assoc]
  have s1 : (pnum 2 60 ++ pnum 2 0).size = 4 := by rw [size_append, pnum2_size (by decide), pnum2_size (by decide)]
  have s2 : ((pnum 2 60 ++ pnum 2 0) ++ pnum 8 b).size = 12 := by rw [size_append, s1, pnum8_size h0 h1]
  constructor
  · rw [e1]
    have := extract_app_left (pnum 2 60 ++ pnum 2 0) (pnum 8 b ++ (pnum 2 fl ++ p))
    rw [s1] at this
    exact this
  · rw [e2]
    have := extract_app_right ((pnum 2 60 ++ pnum 2 0) ++ pnum 8 b) (pnum 2 fl ++ p)
    rw [s2] at this
    exact this
theorem bytes_ok {a b fl : Int} {l : List S42} (h : RightR a b fl l = 0) : bytesR a b fl l = (headB b fl ++ propsB l (whichF fl 0) 0, 0) := by unfold bytesR; rw [if_pos h]
theorem bytes_bad {a b fl : Int} {l : List S42} (h : ¬ RightR a b fl l = 0) : bytesR a b fl l = (⟨#[]⟩, RightR a b fl l) := by unfold bytesR; rw [if_neg h]
def interchangelaw07_PropsSizes.f (a b fl : Int) (l : List S42) (n : Int) : Option Bool := if okH b fl l ∧ okH n fl l then some true else none
set_option maxHeartbeats 1000000 in
set_option maxRecDepth 100000 in
theorem interchangelaw07_PropsSizes.calls (a b fl : Int) (A : Option Addr) (c : Nat) (l : List S42) (n : Int) (w : World) (hg : Laid w) (hr : Kd.C k42 w A l.length l) (hc : l.length ≤ c) (h : interchangelaw07_PropsSizes.f a b fl l n = some true) :
    Calls Tryd.prog 5 #[.agg #[.int .i64 a, .int .u64 b, .int .u64 fl, .slice A l.length c], .int .u64 n] w fun e w' => e = .returned (.bool true) ∧ Below w.heap.size w w' := by
  obtain ⟨ok, ok1⟩ : okH b fl l ∧ okH n fl l := by
    unfold interchangelaw07_PropsSizes.f at h
    split at h
    · assumption
    · cases h
  clear h
  have HG := Aside0.mk hg
  have HR := Aside0.mk hr
  clear hg hr
  have hu25 := Tryd.underlying25
  have hB0 := blk_new w (.cells #[.int .i64 a, .int .u64 b, .int .u64 fl, .slice A l.length c] 25)
  have hL0 : Below w.heap.size w (w.alloc (.cells #[.int .i64 a, .int .u64 b, .int .u64 fl, .slice A l.length c] 25)) := below_alloc (Below.refl _ _) _
  have hL3 : ∀ w2, Below w.heap.size w w2 → ∀ (o : Obj), Below w.heap.size w (w2.alloc o) := fun w2 h o => h.alloc h.size o
  have hK3 : ∀ w2 : World, w2.heap[w.heap.size]? = some (.cells #[.int .i64 a, .int .u64 b, .int .u64 fl, .slice A l.length c] 25 (0, 0)) → ∀ (o : Obj), (w2.alloc o).heap[w.heap.size]? = some (.cells #[.int .i64 a, .int .u64 b, .int .u64 fl, .slice A l.length c] 25 (0, 0)) :=
    fun w2 h o => blk_alloc h o
  have hf1 := Bytes_f (a := a) ok
  have hf2 := Bytes_f (a := a) ok1
  by_cases e : RightR a b fl l = 0
  · obtain ⟨hf, hb16, hv⟩ := right_form e
    rw [bytes_ok e] at hf1
    have hF1 := Aside0.mk hf1
    have e1 := RightR_size e n
    by_cases e2 : n > 65536
    · rw [if_pos (show 65536 < n from e2)] at e1
      rw [bytes_bad (by rw [e1]; decide), e1] at hf2
      have hF2 := Aside0.mk hf2
      have d2 : decide (65536 < n) = true := decide_eq_true e2
      generalize headB b fl ++ propsB l (whichF fl 0) 0 = X at hF1
      clear hf1 hf2 e e1 e2 hf hb16 hv ok ok1
      go_enter Tryd.func5, Tryd.ntmps5
      go_wp2_with (first | (go_at_call 10; (refine (interchangelaw07_shown.calls true _ ?lg shown_t).mono ?_); (case lg => exact HG.out.below (below_alloc (Below.refl _ _) _)); rintro e w1 ⟨rfl, hb1⟩; have k1 := blk_below hB0 hb1; have l1 := hL0.trans (hb1.mono hL0.size); obtain ⟨⟨k10, k11, k12, k13⟩, -⟩ := head4_cells k1) | (go_at_call 11; (with_reducible refine (props_Bytes.calls a b fl A c l X 0 w1 ?lg ?side1 hc hF1.out).mono ?_); (case lg => exact HG.out.below l1); (case side1 => exact Kd.C_below HR.out l1); rintro e w2 ⟨rfl, hb2⟩; have k2 := blk_below k1 hb2; have l2 := l1.trans (hb2.mono l1.size); have kl := blk_lt k2; have ls := l2.size; obtain ⟨⟨k20, k21, k22, k23⟩, -⟩ := head4_cells k2) | (go_at_call 11; (with_reducible refine (props_Bytes.calls a n fl A c l ⟨#[]⟩ 4 _ ?lg ?side1 hc hF2.out).mono ?_); (case lg => exact HG.out.below (hL3 w2 l2 _)); (case side1 => exact Kd.C_below HR.out (hL3 w2 l2 _)); rintro e w3 ⟨rfl, hb3⟩; have k3 := blk_below (hK3 w2 k2 _) hb3; have l3 := (hL3 w2 l2 _).trans (hb3.mono (hL3 w2 l2 _).size); obtain ⟨⟨k30, k31, k32, k33⟩, -⟩ := head4_cells k3))
      go_ret
      exact ⟨by first | rfl | (simp [*] <;> rfl), by first | exact l3 | exact below_drew l3 | exact pw_below_drewN l3 _ | (repeat (first | exact l3 | apply below_drew1 | apply pw_below_drewN))⟩
    · rw [if_neg (show ¬ 65536 < n from e2)] at e1
      rw [bytes_ok e1] at hf2
      have hF2 := Aside0.mk hf2
      have d2 : decide (65536 < n) = false := decide_eq_false e2
      have s0 := headB_size ok.1.1 ok.1.2 hf.2.1
      have s1 := headB_size ok1.1.1 ok1.1.2 hf.2.1
      obtain ⟨p1, p2⟩ := head_parts (p := propsB l (whichF fl 0) 0) ok.1.1 ok.1.2 hf.2.1
      obtain ⟨q1, q2⟩ := head_parts (p := propsB l (whichF fl 0) 0) ok1.1.1 ok1.1.2 hf.2.1
      have z0 := size_append (headB b fl) (propsB l (whichF fl 0) 0)
      have z1 := size_append (headB n fl) (propsB l (whichF fl 0) 0)
      rw [s0] at z0
      rw [s1] at z1
      have hl := hf.2.2.2
      have hn : ¬ (0 : Int) < (l.length : Int) → (propsB l (whichF fl 0) 0).size = 0 := by
        intro h
        have : whichF fl 0 = [] := List.length_eq_zero_iff.1 (by omega)
        rw [this]
        rfl
      clear hf1 hf2 e e1 e2 hf hb16 hv ok ok1 s0 s1 hl
      generalize propsB l (whichF fl 0) 0 = P at *
      generalize headB b fl ++ P = X at *
      generalize headB n fl ++ P = Y at *
      have c1 : ((X.size : Int) == (Y.size : Int)) = true := beq_iff_eq.2 (by omega)
      have c1' : (X.size == Y.size) = true := beq_iff_eq.2 (by omega)
      have c2 : decide ((14 : Int) ≤ (X.size : Int)) = true := decide_eq_true (by omega)
      have c2' : decide (14 ≤ X.size) = true := decide_eq_true (by omega)
      have c3 : ((X.extract 0 4).toList == (Y.extract 0 4).toList) = true := by rw [p1, q1]; exact beq_iff_eq.2 rfl
      have c4 : ((X.extract 12 X.size).toList == (Y.extract 12 Y.size).toList) = true := by rw [p2, q2]; exact beq_iff_eq.2 rfl
      have y1 : 4 ≤ X.size := by omega
      have y2 : 4 ≤ Y.size := by omega
      have y3 : 12 ≤ X.size := by omega
      have y4 : 12 ≤ Y.size := by omega
      have x1 : (4 : Int) ≤ (X.size : Int) := by omega
      have x2 : (4 : Int) ≤ (Y.size : Int) := by omega
      have x3 : (12 : Int) ≤ (X.size : Int) := by omega
      have x4 : (12 : Int) ≤ (Y.size : Int) := by omega
      by_cases h0 : (0 : Int) < (l.length : Int)
      · have d3 : decide ((0 : Int) < (l.length : Int)) = true := decide_eq_true h0
        have d3' : decide (0 < l.length) = true := decide_eq_true (by omega)
        have d3'' : ¬ l = [] := fun hh => by rw [hh] at h0; exact absurd h0 (by decide)
        clear p1 p2 q1 q2 hn z0 z1 h0
        go_enter Tryd.func5, Tryd.ntmps5
        go_wp2_with (first | (go_at_call 10; (refine (interchangelaw07_shown.calls true _ ?lg shown_t).mono ?_); (case lg => exact HG.out.below (below_alloc (Below.refl _ _) _)); rintro e w1 ⟨rfl, hb1⟩; have k1 := blk_below hB0 hb1; have l1 := hL0.trans (hb1.mono hL0.size); obtain ⟨⟨k10, k11, k12, k13⟩, -⟩ := head4_cells k1) | (go_at_call 11; (with_reducible refine (props_Bytes.calls a b fl A c l X 0 w1 ?lg ?side1 hc hF1.out).mono ?_); (case lg => exact HG.out.below l1); (case side1 => exact Kd.C_below HR.out l1); rintro e w2 ⟨rfl, hb2⟩; have k2 := blk_below k1 hb2; have l2 := l1.trans (hb2.mono l1.size); have kl := blk_lt k2; have ls := l2.size; obtain ⟨⟨k20, k21, k22, k23⟩, -⟩ := head4_cells k2) | (go_at_call 11; (with_reducible refine (props_Bytes.calls a n fl A c l Y 0 _ ?lg ?side1 hc hF2.out).mono ?_); (case lg => exact HG.out.below (hL3 w2 l2 _)); (case side1 => exact Kd.C_below HR.out (hL3 w2 l2 _)); rintro e w3 ⟨rfl, hb3⟩; have k3 := blk_below (hK3 w2 k2 _) hb3; have l3 := (hL3 w2 l2 _).trans (hb3.mono (hL3 w2 l2 _).size); obtain ⟨⟨k30, k31, k32, k33⟩, -⟩ := head4_cells k3))
        repeat (go_quiet (fail))
        go_wp2
        go_ret
        exact ⟨by first | rfl | (simp [*] <;> rfl), by first | exact l3 | exact below_drew l3 | exact pw_below_drewN l3 _ | (repeat (first | exact l3 | apply below_drew1 | apply pw_below_drewN))⟩
      · have d3 : decide ((0 : Int) < (l.length : Int)) = false := decide_eq_false h0
        have d3' : decide (0 < l.length) = false := decide_eq_false (by omega)
        have d4 : ((X.size : Int) == 14) = true := beq_iff_eq.2 (by have := hn h0; omega)
        have d4' : (X.size == 14) = true := beq_iff_eq.2 (by have := hn h0; omega)
        clear p1 p2 q1 q2 hn z0 z1 h0
        go_enter Tryd.func5, Tryd.ntmps5
        go_wp2_with (first | (go_at_call 10; (refine (interchangelaw07_shown.calls true _ ?lg shown_t).mono ?_); (case lg => exact HG.out.below (below_alloc (Below.refl _ _) _)); rintro e w1 ⟨rfl, hb1⟩; have k1 := blk_below hB0 hb1; have l1 := hL0.trans (hb1.mono hL0.size); obtain ⟨⟨k10, k11, k12, k13⟩, -⟩ := head4_cells k1) | (go_at_call 11; (with_reducible refine (props_Bytes.calls a b fl A c l X 0 w1 ?lg ?side1 hc hF1.out).mono ?_); (case lg => exact HG.out.below l1); (case side1 => exact Kd.C_below HR.out l1); rintro e w2 ⟨rfl, hb2⟩; have k2 := blk_below k1 hb2; have l2 := l1.trans (hb2.mono l1.size); have kl := blk_lt k2; have ls := l2.size; obtain ⟨⟨k20, k21, k22, k23⟩, -⟩ := head4_cells k2) | (go_at_call 11; (with_reducible refine (props_Bytes.calls a n fl A c l Y 0 _ ?lg ?side1 hc hF2.out).mono ?_); (case lg => exact HG.out.below (hL3 w2 l2 _)); (case side1 => exact Kd.C_below HR.out (hL3 w2 l2 _)); rintro e w3 ⟨rfl, hb3⟩; have k3 := blk_below (hK3 w2 k2 _) hb3; have l3 := (hL3 w2 l2 _).trans (hb3.mono (hL3 w2 l2 _).size); obtain ⟨⟨k30, k31, k32, k33⟩, -⟩ := head4_cells k3))
        repeat (go_quiet (fail))
        go_wp2
        go_ret
        exact ⟨by first | rfl | (simp [*] <;> rfl), by first | exact l3 | exact below_drew l3 | exact pw_below_drewN l3 _ | (repeat (first | exact l3 | apply below_drew1 | apply pw_below_drewN))⟩
  · rw [bytes_bad e] at hf1
    have hF1 := Aside0.mk hf1
    have d1 : (RightR a b fl l != 0) = true := bne_iff_ne.2 e
    by_cases e1 : RightR a n fl l = 0
    · rw [bytes_ok e1] at hf2
      have hF2 := Aside0.mk hf2
      have hh := RightR_size e1 b
      obtain ⟨_, hn16, _⟩ := right_form e1
      have d2 : decide (n ≤ 65536) = true := decide_eq_true (by omega)
      have e3 : 65536 < b := by
        by_cases e3 : 65536 < b
        · exact e3
        · rw [if_neg e3] at hh; exact absurd hh e
      have d3 : decide (65536 < b) = true := decide_eq_true e3
      generalize headB n fl ++ propsB l (whichF fl 0) 0 = Y at hF2
      generalize RightR a b fl l = q at hF1 d1
      clear hf1 hf2 e e1 hh hn16 e3 ok ok1
      go_enter Tryd.func5, Tryd.ntmps5
      go_wp2_with (first | (go_at_call 10; (refine (interchangelaw07_shown.calls true _ ?lg shown_t).mono ?_); (case lg => exact HG.out.below (below_alloc (Below.refl _ _) _)); rintro e w1 ⟨rfl, hb1⟩; have k1 := blk_below hB0 hb1; have l1 := hL0.trans (hb1.mono hL0.size); obtain ⟨⟨k10, k11, k12, k13⟩, -⟩ := head4_cells k1) | (go_at_call 11; (with_reducible refine (props_Bytes.calls a b fl A c l ⟨#[]⟩ q w1 ?lg ?side1 hc hF1.out).mono ?_); (case lg => exact HG.out.below l1); (case side1 => exact Kd.C_below HR.out l1); rintro e w2 ⟨rfl, hb2⟩; have k2 := blk_below k1 hb2; have l2 := l1.trans (hb2.mono l1.size); have kl := blk_lt k2; have ls := l2.size; obtain ⟨⟨k20, k21, k22, k23⟩, -⟩ := head4_cells k2) | (go_at_call 11; (with_reducible refine (props_Bytes.calls a n fl A c l Y 0 _ ?lg ?side1 hc hF2.out).mono ?_); (case lg => exact HG.out.below (hL3 w2 l2 _)); (case side1 => exact Kd.C_below HR.out (hL3 w2 l2 _)); rintro e w3 ⟨rfl, hb3⟩; have k3 := blk_below (hK3 w2 k2 _) hb3; have l3 := (hL3 w2 l2 _).trans (hb3.mono (hL3 w2 l2 _).size); obtain ⟨⟨k30, k31, k32, k33⟩, -⟩ := head4_cells k3))
      go_ret
      exact ⟨by first | rfl | (simp [*] <;> rfl), by first | exact l3 | exact below_drew l3 | exact pw_below_drewN l3 _ | (repeat (first | exact l3 | apply below_drew1 | apply pw_below_drewN))⟩
    · rw [bytes_bad e1] at hf2
      have hF2 := Aside0.mk hf2
      have d2 : (RightR a n fl l != 0) = true := bne_iff_ne.2 e1
      generalize RightR a b fl l = q at hF1 d1
      generalize RightR a n fl l = q2 at hF2 d2
      clear hf1 hf2 e e1 ok ok1
      go_enter Tryd.func5, Tryd.ntmps5
      go_wp2_with (first | (go_at_call 10; (refine (interchangelaw07_shown.calls true _ ?lg shown_t).mono ?_); (case lg => exact HG.out.below (below_alloc (Below.refl _ _) _)); rintro e w1 ⟨rfl, hb1⟩; have k1 := blk_below hB0 hb1; have l1 := hL0.trans (hb1.mono hL0.size); obtain ⟨⟨k10, k11, k12, k13⟩, -⟩ := head4_cells k1) | (go_at_call 11; (with_reducible refine (props_Bytes.calls a b fl A c l ⟨#[]⟩ q w1 ?lg ?side1 hc hF1.out).mono ?_); (case lg => exact HG.out.below l1); (case side1 => exact Kd.C_below HR.out l1); rintro e w2 ⟨rfl, hb2⟩; have k2 := blk_below k1 hb2; have l2 := l1.trans (hb2.mono l1.size); have kl := blk_lt k2; have ls := l2.size; obtain ⟨⟨k20, k21, k22, k23⟩, -⟩ := head4_cells k2) | (go_at_call 11; (with_reducible refine (props_Bytes.calls a n fl A c l ⟨#[]⟩ q2 _ ?lg ?side1 hc hF2.out).mono ?_); (case lg => exact HG.out.below (hL3 w2 l2 _)); (case side1 => exact Kd.C_below HR.out (hL3 w2 l2 _)); rintro e w3 ⟨rfl, hb3⟩; have k3 := blk_below (hK3 w2 k2 _) hb3; have l3 := (hL3 w2 l2 _).trans (hb3.mono (hL3 w2 l2 _).size); obtain ⟨⟨k30, k31, k32, k33⟩, -⟩ := head4_cells k3))
      go_ret
      exact ⟨by first | rfl | (simp [*] <;> rfl), by first | exact l3 | exact below_drew l3 | exact pw_below_drewN l3 _ | (repeat (first | exact l3 | apply below_drew1 | apply pw_below_drewN))⟩
theorem propsSizes_pure (b0 : Int × Int × Int × List S42) (b1 : Int) (g0 : (Lit.int .i64 b0.1).wf = true ∧ (Lit.int .u64 b0.2.1).wf = true ∧ (Lit.int .u64 b0.2.2.1).wf = true ∧ (b0.2.2.2.length ≤ maxLen ∧ ∀ x ∈ b0.2.2.2, good_42 x)) (g1 : (Lit.int .u64 b1).wf = true)
    (z0 : (True ∧ True ∧ True ∧ (b0.2.2.2.length * Tryd.prog.bytesOf 42 ≤ 140737488351232 ∧ ∀ x ∈ b0.2.2.2, sized_42 x))) (zn : True) : ∃ k : Nat, interchangelaw07_PropsSizes.f b0.1 b0.2.1 b0.2.2.1 b0.2.2.2 b1 = some true := by
  obtain ⟨a, b, fl, l⟩ := b0
  have ok : okH b fl l := vals_ok g0.2.1 g0.2.2.1 g0.2.2.2 z0.2.2.2
  refine ⟨0, ?_⟩
  unfold interchangelaw07_PropsSizes.f
  rw [if_pos ⟨ok, ok.len b1 (u64_bounds g1)⟩]
end Go.Proofs.YthpfcplhlhnfeaaDoor.F
namespace Go.Proofs.YthpfcplhlhnfeaaDoor.F
open Go.RowKit Go.Proofs.YthpfcplhlhnfeaaDoorW.PrintWords Go.Proofs.YthpfcplhlhnfeaaDoorW.PrintLast Go.Proofs.YthpfcplhlhnfeaaDoorW.PrintMore
set_option linter.unusedVariables false
set_option linter.unusedSimpArgs false
set_option maxRecDepth 4000
theorem g_widths : Tryd.prog.globalNamed "interchange/num.widths" = some 0 := by kernel_rfl
theorem g_widths_type : (Tryd.prog.globals[0]?).map (·.type) = some 96 := by kernel_rfl
theorem cells_widths : Tryd.prog.cellsOf 96 = 4 := by kernel_rfl
theorem cells_int : Tryd.prog.cellsOf 3 = 1 := by kernel_rfl
theorem table_widths {W : World} (h : laidMetH Tryd.prog [("interchange/num.widths", Rows.laid_interchange_num_widths)] W) : Lib.TabIs Tryd.prog W "interchange/num.widths" .i64 [1, 2, 4, 8] :=
  Lib.tabIs_of_head (rest := []) g_widths g_widths_type Tryd.underlying96 Tryd.underlying3 cells_int cells_widths h
theorem laid_of {W : World} (h : laidMetH Tryd.prog [("interchange/num.widths", Rows.laid_interchange_num_widths)] W) : Laid W :=
  ⟨(table_widths h).cell g_widths 0 (by decide), (table_widths h).cell g_widths 1 (by decide), (table_widths h).cell g_widths 2 (by decide), (table_widths h).cell g_widths 3 (by decide)⟩
noncomputable def laid_world (os : Os) : World :=
  { World.holding Tryd.prog os ⟨#[], #[], []⟩ with heap := (World.holding Tryd.prog os ⟨#[], #[], []⟩).heap.modify 0 fun
      | .cells _ t frozen => .cells #[.int .i64 1, .int .i64 2, .int .i64 4, .int .i64 8] t frozen
      | o => o }
end Go.Proofs.YthpfcplhlhnfeaaDoor.F
namespace Go.Proofs.YthpfcplhlhnfeaaDoor.F
open Go.ChangeShapes Go.WideShapes Go.ChangeAt Go.RowKit Go.Proofs.YthpfcplhlhnfeaaDoorW.PrintWords Go.Proofs.YthpfcplhlhnfeaaDoorW.PrintLast
set_option linter.unusedVariables false
set_option linter.unusedSimpArgs false
set_option maxRecDepth 4000
set_option linter.unnecessarySimpa false

set_option maxHeartbeats 2000000 in
theorem propsSizes_contract (H : Type) (enc : TypeId × Value → H) (W : World) (base : Nat) (args : Array Value) (ds gs : List (DataW H)) (before : List MemPlace)
    (hval0 : ∀ (j : Nat) t v, Tryd.f5.params[j]? = some t → args[j]? = some v → Value.okWide Tryd.prog W .any base t v)
    (hW : DataW.Whole enc Tryd.prog Tryd.f5.params.toList Rows.propsSizesSpec.vars false W args.toList ds gs before) (hL : laidMetH Tryd.prog Rows.propsSizesRow.laid W)
    (hsz : (DataW.weightsEach Tryd.prog (Tryd.f5.params.toList ++ (OpenSpec.ofChange Rows.propsSizesSpec).bare.plain.varTypes Tryd.prog) (ds ++ gs)).all (· ≤ reachBytes) = true) :
    Calls Tryd.prog 5 args W fun e W' => ∃ v, e = .returned v ∧ Rows.propsSizesSpec.post enc Tryd.prog Tryd.f5 false true false false W args v W' := by
  have hW' := hW
  obtain ⟨p, q, hA0, hV, rfl, hfz, hnd⟩ := hW
  have hA : DataW.TrodAll enc Tryd.prog W 0 (fun _ => true) true Tryd.f5.params.toList args.toList ds p := hA0
  have hval : ∀ (j : Nat) t v, Tryd.f5.params[j]? = some t → args[j]? = some v → Value.okWide Tryd.prog W .any base t v := hval0
  have hsz' : (DataW.weightsEach Tryd.prog (Tryd.f5.params.toList ++ []) (ds ++ gs)).all (· ≤ reachBytes) = true := hsz
  rw [Tryd.params5] at hA hval hsz'
  obtain ⟨v0, vs0, d0, ds0, p0, q0, hargs, rfl, rfl, h0, r0⟩ := trodAll_cons hA
  obtain ⟨v1, vs1, d1, ds1, p1, q1, rfl, rfl, rfl, h1, r1⟩ := trodAll_cons r0
  obtain ⟨rfl, rfl, rfl⟩ := trodAll_nil r1
  obtain rfl : args = #[v0, v1] := by cases args; simp_all
  obtain ⟨rfl, rfl⟩ := trodVars_none hV
  have hg := laid_of hL
  have k0 := h0
  have lt0 : ∀ x ∈ p0, x.block < W.heap.size := by obtain ⟨m, hm⟩ := k0; exact DataW.trod_lt m _ _ _ hm
  obtain ⟨fuel0, hf0⟩ := h0
  obtain ⟨b0, e0, g0, z0, u0⟩ := (opened_struct4 (n0 := 1) (n1 := 1) (n2 := 1) (n3 := 1) Tryd.underlying25 (by kernel_rfl) (by kernel_rfl) rfl (opened_int (k := .i64) Tryd.underlying3) (by kernel_rfl) rfl (opened_int (k := .u64) Tryd.underlying22) (by kernel_rfl) rfl (opened_int (k := .u64) Tryd.underlying22) (by kernel_rfl) rfl (opened_slice Tryd.underlying23 (by kernel_rfl) opened_42)).out enc W fuel0 _ _ hf0
  obtain ⟨c0_0_0, c0_0_1, c0_0_2, c0_0_3, eq0_0, e0_0_0, e0_0_1, e0_0_2, e0_0_3⟩ := e0
  replace e0_0_0 : c0_0_0 = [.int .i64 b0.1] := e0_0_0
  subst e0_0_0
  replace e0_0_1 : c0_0_1 = [.int .u64 b0.2.1] := e0_0_1
  subst e0_0_1
  replace e0_0_2 : c0_0_2 = [.int .u64 b0.2.2.1] := e0_0_2
  subst e0_0_2
  obtain ⟨A0_0_3, cc0_0_3, rfl, hc0_0_3, hr0_0_3⟩ := e0_0_3
  (try subst eq0_0)
  have hvv0 := shape_struct Tryd.underlying25 (hval 0 25 v0 rfl rfl) eq0_0
  simp only [List.cons_append, List.nil_append] at hvv0
  subst hvv0
  have k1 := h1
  have lt1 : ∀ x ∈ p1, x.block < W.heap.size := by obtain ⟨m, hm⟩ := k1; exact DataW.trod_lt m _ _ _ hm
  obtain ⟨fuel1, hf1⟩ := h1
  obtain ⟨b1, e1, g1, z1, u1⟩ := (opened_int (k := .u64) Tryd.underlying22).out enc W fuel1 _ _ hf1
  obtain rfl := shape_int Tryd.underlying22 (hval 1 22 v1 rfl rfl) e1
  obtain ⟨k, hpure⟩ := propsSizes_pure b0 b1 g0 g1 (z0 fun n hn => of_decide_eq_true (List.all_eq_true.1 hsz' n (DataW.weights_mem_each (j := 0) rfl rfl n hn))) (z1 fun n hn => of_decide_eq_true (List.all_eq_true.1 hsz' n (DataW.weights_mem_each (j := 1) rfl rfl n hn)))
  refine (interchangelaw07_PropsSizes.calls b0.1 b0.2.1 b0.2.2.1 A0_0_3 cc0_0_3 b0.2.2.2 b1 W hg hr0_0_3 hc0_0_3 hpure).mono fun e W' ⟨he, bel⟩ => ?_
  subst he
  exact ⟨_, rfl, _, _, _, [], _, [], hW', trodAll_mk1 (shut_bool Tryd.underlying4 _), (trodAll_cons_mk (Below.trod laid_out (by kernel_rfl) (of_decide_eq_true (by kernel_rfl)) k0 bel lt0) (trodAll_cons_mk (Below.trod laid_out (by kernel_rfl) (of_decide_eq_true (by kernel_rfl)) k1 bel lt1) trodAll_mk0)), rfl, bel.frame _, fun h => by cases h⟩

theorem propsSizes_reads (os : Os) {H : Type} (enc : TypeId × Value → H) : ∃ places, DataW.whole enc Tryd.prog ((laid_world os).forCall (fun _ _ => 0) ⟨#[], #[.agg #[.int .i64 0, .int .u64 0, .int .u64 0, .slice none 0 0], .int .u64 0], []⟩).memory Tryd.f5.params.toList Rows.propsSizesSpec.vars false (#[.agg #[.int .i64 0, .int .u64 0, .int .u64 0, .slice none 0 0], .int .u64 0] : Array Value).toList 8 = some ([.agg [.lit (.int .i64 0), .lit (.int .u64 0), .lit (.int .u64 0), .nil], .lit (.int .u64 0)], [], places) :=
  ⟨[], by kernel_rfl⟩
theorem propsSizes_met (os : Os) : laidMet Tryd.prog Rows.propsSizesRow.laid ((laid_world os).forCall (fun _ _ => 0) ⟨#[], #[.agg #[.int .i64 0, .int .u64 0, .int .u64 0, .slice none 0 0], .int .u64 0], []⟩).memory :=
  laidMet_of_run' 8 (by kernel_rfl) (by kernel_rfl)
set_option maxRecDepth 100000 in
theorem propsSizes_lifted (os : Os) (started : os.Started) (H : Type) (enc : TypeId × Value → H) (F : Stop.Interp) :
    ReturnsInHanded {} Tryd.checked os 5 .any ((OpenSpec.ofChange Rows.propsSizesSpec).preRow enc Tryd.prog Tryd.f5 Rows.propsSizesRow.domain false Rows.propsSizesRow.laid) (((OpenSpec.ofChange Rows.propsSizesSpec).at F).post enc Tryd.prog Tryd.f5 false true false false) := by
  obtain ⟨places, hx⟩ := propsSizes_reads os enc
  refine returnsInHanded_of_row (C := Tryd.checked) (s := (OpenSpec.ofChange Rows.propsSizesSpec)) own_knob started (by kernel_rfl) Tryd.func5
    (witness_row_at (enc := enc) (C := Tryd.checked) false (laid_world os) #[.agg #[.int .i64 0, .int .u64 0, .int .u64 0, .slice none 0 0], .int .u64 0] rfl (by kernel_rfl) (by kernel_rfl) (by kernel_rfl)
      (OpenSpec.preRow_of_cond 8 hx (by kernel_rfl) (fun k hk => by cases hk) (by kernel_rfl) (propsSizes_met os))) ?_
  intro W base args ds gs before hval hW _ hcond hsz hL _ _
  exact propsSizes_contract H enc W base args ds gs before hval hW hL hsz
theorem propsSizes_said : Rows.PropsSizesSaid :=
  OpenClaim.holds_of_cond 5 Tryd.f5 rfl rfl rfl rfl rfl rfl rfl ⟨rfl, rfl, rfl, rfl, rfl⟩ rfl rfl rfl rfl rfl (by kernel_rfl) Tryd.func5 (by kernel_rfl)
    (of_decide_eq_true (by kernel_rfl)) (by unfold Func.isWrapper; first | (rw [if_pos (by decide +kernel)]; kernel_rfl) | (rw [if_neg (by decide +kernel)]; exact ⟨rfl, rfl⟩))
    (fun os started H enc _ F => by rw [OpenClaim.pre_eq_preRow]; exact propsSizes_lifted os started H enc F)
theorem propsSizes_plain (f : FuncId) (fn : Func) (hf : Tryd.pinned.checked.prog.funcNamed "interchange/interchangelaw07.PropsSizes" = some f) (hfn : Tryd.pinned.checked.prog.funcs[f]? = some fn) :
    false = Tryd.pinned.checked.prog.looks [] ∧ ∀ (j : Nat) t, fn.params[j]? = some t → Tryd.pinned.checked.prog.wantsStandIn t = false := by
  obtain rfl : f = 5 := Option.some.inj ((show Tryd.prog.funcNamed "interchange/interchangelaw07.PropsSizes" = some 5 by kernel_rfl).symm.trans hf) |>.symm
  obtain rfl : fn = Tryd.f5 := (Option.some.inj (Tryd.func5.symm.trans hfn)).symm
  refine ⟨by kernel_rfl, fun j t ht => ?_⟩
  rw [Tryd.params5] at ht
  have hm := Array.mem_of_getElem? ht
  simp only [List.mem_toArray, List.mem_cons, List.not_mem_nil, or_false] at hm
  rcases hm with rfl | rfl
  · exact (show Tryd.prog.wantsStandIn 25 = false by kernel_rfl)
  · exact (show Tryd.prog.wantsStandIn 22 = false by kernel_rfl)
theorem propsSizes_holds : Rows.PropsSizesCardSaid :=
  Claim7.holds_tied_plain_at .later [] _ _ _ _ propsSizes_said (fun _ h => by cases h) (by kernel_rfl) (fun _ h => by cases h) propsSizes_row_tie rfl ⟨rfl, rfl⟩ (by kernel_rfl) rfl propsSizes_plain (by kernel_rfl)
#print axioms propsSizes_holds
end Go.Proofs.YthpfcplhlhnfeaaDoor.F
