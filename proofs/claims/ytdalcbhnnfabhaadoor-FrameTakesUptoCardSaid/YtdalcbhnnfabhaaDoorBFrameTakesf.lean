/- Frames' bytes, which are right, the frames of bytes, and how a side begins, are as the document says, for every input whose bulk is at most 1048576 (the second form). -/
import Derived.Test.YtdalcbhnnfabhaaDoorRows
import Derived.SizedLaws
import Derived.ProofKit
import Derived.OpenShut
import Derived.Deep.Slices
import Derived.Lib.LaidTab
import Derived.Deep.DeepHandedRow
import Derived.Test.YtdalcbhnnfabhaaDoorCards
import Derived.Test.YtdalcbhnnfabhaaDoorTie
import Derived.WalkKit
import Derived.Carry
import Derived.SevenTiedAt
import Derived.Test.YtdalcbhnnfabhaaDoorBFrameTakesa
import Derived.Test.YtdalcbhnnfabhaaDoorBFrameTakesb
import Derived.Test.YtdalcbhnnfabhaaDoorBFrameTakesc
import Derived.Test.YtdalcbhnnfabhaaDoorBFrameTakesd
import Derived.Test.YtdalcbhnnfabhaaDoorBFrameTakese
namespace Go.Proofs.YtdalcbhnnfabhaaDoor.F
open Go.RowKit Go.Proofs.YtdalcbhnnfabhaaDoorW.PrintWords Go.Proofs.YtdalcbhnnfabhaaDoorW.PrintLast Go.Proofs.YtdalcbhnnfabhaaDoorW.PrintMore
set_option linter.unusedVariables false
set_option linter.unusedSimpArgs false

theorem drop_split {β : Type} (cs : List β) (o n : Nat) : cs.drop o = (cs.drop o).take n ++ cs.drop (o + n) := by
  rw [← List.drop_drop, List.take_append_drop]

structure Opened {α : Type} (t : TypeId) (R : World → α → List Value → Prop) (good sized : α → Prop) (bulk : α → Nat) : Prop where
  out : ∀ {H : Type} (enc : TypeId × Value → H) (W : World) (fuel : Nat) (cs : List Value) (y : DataW H × List MemPlace),
    DataW.trod enc Tryd.prog W 0 (fun _ => true) true fuel t cs = some y → ∃ a : α, R W a cs ∧ good a ∧ ((∀ n ∈ y.1.weights Tryd.prog t, n ≤ reachBytes) → sized a) ∧ bulk a ≤ Rows.uptoBulk y.1

theorem Opened.iso {α β : Type} {t : TypeId} {R : World → α → List Value → Prop} {g s : α → Prop} {b : α → Nat} (h : Opened t R g s b) (f : α → β) {R' : World → β → List Value → Prop} {g' s' : β → Prop} {b' : β → Nat}
    (hR : ∀ W a cs, R W a cs → R' W (f a) cs) (hg : ∀ a, g a → g' (f a)) (hs : ∀ a, s a → s' (f a)) (hb : ∀ a, b' (f a) ≤ b a) : Opened t R' g' s' b' := by
  constructor
  intro H enc W fuel cs y hy
  obtain ⟨a, r, k, z, u⟩ := h.out enc W fuel cs y hy
  exact ⟨f a, hR _ _ _ r, hg _ k, fun hw => hs _ (z hw), Nat.le_trans (hb a) u⟩

theorem opened_int {t : TypeId} {k : IntKind} (ht : Tryd.prog.underlying t = some (.int k)) : Opened t (Kd.int k).K (fun a => (Lit.int k a).wf = true) (fun _ => True) (fun _ => 1) := by
  constructor
  intro H enc W fuel cs y hy
  cases fuel with
  | zero => simp [DataW.trod] at hy
  | succ fuel =>
    unfold DataW.trod at hy
    rw [ht] at hy
    split at hy <;> simp_all
    obtain ⟨⟨rfl, h⟩, rfl⟩ := hy
    exact ⟨_, rfl, h, by simp [Rows.uptoBulk]⟩
theorem opened_bool {t : TypeId} (ht : Tryd.prog.underlying t = some .bool) : Opened t Kd.bool.K (fun _ => True) (fun _ => True) (fun _ => 1) := by
  constructor
  intro H enc W fuel cs y hy
  cases fuel with
  | zero => simp [DataW.trod] at hy
  | succ fuel =>
    unfold DataW.trod at hy
    rw [ht] at hy
    cases cs with
    | nil => simp at hy
    | cons v r =>
      cases r with
      | cons _ _ => cases v <;> simp at hy
      | nil =>
        cases v <;> simp at hy
        rename_i b
        subst hy
        exact ⟨b, rfl, trivial, fun _ => trivial, by simp [Rows.uptoBulk]⟩
theorem opened_string {t : TypeId} (ht : Tryd.prog.underlying t = some .string) : Opened t Kd.string.K (fun a => a.size ≤ maxLen) (fun a => a.size ≤ 140737488351232) (fun a => a.size + 1) := by
  constructor
  intro H enc W fuel cs y hy
  cases fuel with
  | zero => simp [DataW.trod] at hy
  | succ fuel =>
    unfold DataW.trod at hy
    rw [ht] at hy
    cases cs with
    | nil => simp at hy
    | cons v r =>
      cases r with
      | cons _ _ => cases v <;> simp at hy
      | nil =>
        cases v <;> simp at hy
        rename_i s
        obtain ⟨h, rfl⟩ := hy
        have e : s.data.toList.length = s.size := by simp
        refine ⟨s, rfl, h, ?_, ?_⟩
        · intro hw
          have := hw s.data.toList.length (by simp [DataW.weights])
          rw [e] at this
          exact Nat.le_trans this (by decide)
        · simp only [Rows.uptoBulk]; omega

/-- a value's shape, out of its one cell -/
theorem shape_int {t : TypeId} {k : IntKind} {W : World} {r : Reach} {b : Nat} {v : Value} {a : Int} (ht : Tryd.prog.underlying t = some (.int k)) (hv : Value.okWide Tryd.prog W r b t v) (h : (Kd.int k).K W a v.cells.toList) : v = .int k a := by
  obtain ⟨n, rfl⟩ := WideShapes.okWide_int ht hv
  have h' : [Value.int k n] = [Value.int k a] := h
  simpa using h'
theorem shape_bool {t : TypeId} {W : World} {r : Reach} {b : Nat} {v : Value} {a : Bool} (ht : Tryd.prog.underlying t = some .bool) (hv : Value.okWide Tryd.prog W r b t v) (h : Kd.bool.K W a v.cells.toList) : v = .bool a := by
  obtain ⟨n, rfl⟩ := WideShapes.okWide_bool ht hv
  have h' : [Value.bool n] = [Value.bool a] := h
  simpa using h'
theorem shape_string {t : TypeId} {W : World} {r : Reach} {b : Nat} {v : Value} {a : ByteArray} (ht : Tryd.prog.underlying t = some .string) (hv : Value.okWide Tryd.prog W r b t v) (h : Kd.string.K W a v.cells.toList) : v = .string a := by
  obtain ⟨n, rfl⟩ := WideShapes.okWide_string ht hv
  have h' : [Value.string n] = [Value.string a] := h
  simpa using h'
theorem shape_slice {α : Type} {t e : TypeId} {d : Kd α} {W : World} {r : Reach} {b : Nat} {v : Value} {l : List α} (ht : Tryd.prog.underlying t = some (.slice e)) (hv : Value.okWide Tryd.prog W r b t v) (h : (Kd.slice e d).K W l v.cells.toList) : ∃ A c, v = .slice A l.length c ∧ l.length ≤ c ∧ d.C W A l.length l := by
  obtain ⟨a, n, m, rfl⟩ := WideShapes.okWide_slice ht hv
  obtain ⟨A, c, h1, h2, h3⟩ := h
  have h' : [Value.slice a n m] = [Value.slice A l.length c] := h1
  exact ⟨A, c, by simpa using h', h2, h3⟩
theorem shape_struct {t : TypeId} {fs : Array Field} {W : World} {r : Reach} {b : Nat} {v : Value} {l : List Value} (ht : Tryd.prog.underlying t = some (.struct fs)) (hv : Value.okWide Tryd.prog W r b t v) (h : v.cells.toList = l) : v = .agg l.toArray := by
  obtain ⟨cs, rfl, _⟩ := WideShapes.okWide_struct ht hv
  have h' : cs.toList = l := h
  subst h'
  rfl
theorem laid_out : laidOutB Tryd.prog = true := by kernel_rfl
theorem own_knob : ownKnob Tryd.prog.godebug = none := by kernel_rfl

theorem exists_list {α : Type} {n : Nat} {p : Nat → α → Prop} (h : ∀ i, i < n → ∃ x, p i x) : ∃ l : List α, l.length = n ∧ ∀ i x, l[i]? = some x → p i x := by
  induction n with
  | zero => exact ⟨[], rfl, fun i x hx => by simp at hx⟩
  | succ n ih =>
    obtain ⟨l, hl, hp⟩ := ih (fun i hi => h i (by omega))
    obtain ⟨x, hx⟩ := h n (by omega)
    refine ⟨l ++ [x], by simp [hl], fun i y hy => ?_⟩
    rcases Nat.lt_trichotomy i l.length with hlt | heq | hgt
    · rw [List.getElem?_append_left hlt] at hy; exact hp i y hy
    · subst heq
      rw [List.getElem?_append_right (Nat.le_refl _)] at hy
      simp at hy
      subst hy
      rw [hl]; exact hx
    · rw [List.getElem?_append_right (by omega)] at hy
      have : i - l.length = (i - l.length - 1) + 1 := by omega
      rw [this] at hy
      simp at hy

theorem bulk_sum {α H : Type} (b : α → Nat) : ∀ (l : List α) (ds : List (DataW H)), l.length = ds.length → (∀ (i : Nat) (x : α) (d : DataW H), l[i]? = some x → ds[i]? = some d → b x ≤ Rows.uptoBulk d) → (l.map b).sum ≤ Rows.uptoBulkAll ds
  | [], [], _, _ => by simp [Rows.uptoBulkAll]
  | x :: l, d :: ds, h, hb => by
    have h1 := hb 0 x d rfl rfl
    have h2 := bulk_sum b l ds (by simpa using h) (fun i y e hy he => hb (i + 1) y e (by simpa using hy) (by simpa using he))
    simp only [List.map_cons, List.sum_cons, Rows.uptoBulkAll]
    omega
  | [], _ :: _, h, _ => by simp at h
  | _ :: _, [], h, _ => by simp at h

theorem weights_mem_all {H : Type} {P : Program} {e : TypeId} : ∀ {ds : List (DataW H)} {d : DataW H} {n : Nat}, d ∈ ds → n ∈ d.weights P e → n ∈ DataW.weightsAll P e ds
  | x :: ds, d, n, hd, hn => by
    simp only [DataW.weightsAll, List.mem_append]
    rcases List.mem_cons.1 hd with rfl | hd
    · exact .inl hn
    · exact .inr (weights_mem_all hd hn)
  | [], _, _, hd, _ => by simp at hd

theorem opened_slice {α : Type} {t e : TypeId} {d : Kd α} {g s : α → Prop} {b : α → Nat} (ht : Tryd.prog.underlying t = some (.slice e)) (hsz : Tryd.prog.cellsOf e = d.sz) (h : Opened e d.K g s b) :
    Opened t (Kd.slice e d).K (fun l => l.length ≤ maxLen ∧ ∀ x ∈ l, g x) (fun l => l.length * Tryd.prog.bytesOf e ≤ 140737488351232 ∧ ∀ x ∈ l, s x) (fun l => (l.map b).sum + 1) := by
  constructor
  intro H enc W fuel cs y hy
  rcases DataW.trod_slice ht hy with ⟨rfl, rfl⟩ | ⟨a, len, cap, elems, rest, n, rfl, rfl, rfl, hba, hl, hm, hlen, hel, _, _⟩
  · refine ⟨[], ⟨none, 0, rfl, Nat.le_refl _, rfl, by simp, fun h0 => absurd h0 (by simp)⟩, ⟨by simp, by simp⟩, fun _ => ⟨by simp, by simp⟩, by simp [Rows.uptoBulk]⟩
  · have hx : ∀ i, i < len → ∃ x : α, (∃ c y, W.cells? 0 (a.add (i * Tryd.prog.cellsOf e)) (Tryd.prog.cellsOf e) = some c ∧ elems[i]? = some y ∧ d.K W x c ∧ g x ∧ ((∀ n ∈ y.1.weights Tryd.prog e, n ≤ reachBytes) → s x) ∧ b x ≤ Rows.uptoBulk y.1) := by
      intro i hi
      have h1 := hel i hi
      have h2 : elems[i]? = some elems[i] := List.getElem?_eq_getElem (by omega)
      rw [h2] at h1
      obtain ⟨c, hc, hd⟩ := Option.bind_eq_some_iff.1 h1
      obtain ⟨x, r, k, z, u⟩ := h.out enc W n c _ hd
      exact ⟨x, c, _, hc, h2, r, k, z, u⟩
    obtain ⟨l, hll, hp⟩ := exists_list hx
    have hmem : ∀ x ∈ l, ∃ y, y ∈ elems ∧ g x ∧ ((∀ n ∈ y.1.weights Tryd.prog e, n ≤ reachBytes) → s x) := by
      intro x hx
      obtain ⟨i, hi⟩ := List.mem_iff_getElem?.1 hx
      obtain ⟨c, y, _, hy, _, k, z, _⟩ := hp i x hi
      exact ⟨y, List.mem_of_getElem? hy, k, z⟩
    refine ⟨l, ⟨some a, cap, by rw [hll], by omega, rfl, ?_, fun h0 => ⟨a, rfl, fun j p hj => ?_⟩⟩, ⟨by omega, fun x hx => ?_⟩, fun hw => ⟨?_, fun x hx => ?_⟩, ?_⟩
    · unfold maxLen at hm; omega
    · obtain ⟨c, y, hc, _, r, _⟩ := hp j p hj
      obtain ⟨_, hc1, hc2⟩ := World.cells?_some hc
      refine ⟨c, d.K_len r, r, fun i u hu => ?_⟩
      have := hc2 i (by have := (List.getElem?_eq_some_iff.1 hu).1; omega)
      rw [hu, hsz, Deep.add_add] at this
      exact this
    · obtain ⟨y, _, k, _⟩ := hmem x hx
      exact k
    · have := hw ((elems.length + rest.length) * Tryd.prog.bytesOf e) (by simp [DataW.weights, ht])
      have h2 : l.length * Tryd.prog.bytesOf e ≤ (elems.length + rest.length) * Tryd.prog.bytesOf e := Nat.mul_le_mul_right _ (by omega)
      exact Nat.le_trans (Nat.le_trans h2 this) (by decide)
    · obtain ⟨y, hy, _, z⟩ := hmem x hx
      exact z fun n hn => hw n (by
        simp only [DataW.weights, ht, List.mem_cons, List.mem_append]
        exact .inr (.inl (weights_mem_all (List.mem_map_of_mem hy) hn)))
    · have := bulk_sum b l (elems.map (·.1)) (by simp; omega) (fun i x dd hx hd => by
        obtain ⟨c, y, _, hy, _, _, _, u⟩ := hp i x hx
        rw [List.getElem?_map, hy] at hd
        simp at hd
        subst hd
        exact u)
      simp only [Rows.uptoBulk]
      omega

theorem cells_split1 {β : Type} {cs : List β} {n0 : Nat} (h : cs.length = n0) : cs = (cs.drop (0)).take n0 := by
  have q : (cs.drop (0)).take n0 = cs.drop (0) := List.take_of_length_le (by rw [List.length_drop]; omega)
  rw [q]
  rfl
theorem opened_struct1 {α0 : Type} {t : TypeId} {f0 : Field} {n0 : Nat}
    {R0 : World → α0 → List Value → Prop} {g0 s0 : α0 → Prop} {b0 : α0 → Nat}
    (hs : Tryd.prog.underlying t = some (.struct #[f0])) (hc : Tryd.prog.cellsOf t = n0)
    (hn0 : Tryd.prog.cellsOf f0.type = n0) (ho0 : f0.offset = 0) (h0 : Opened f0.type R0 g0 s0 b0)
    : Opened t (fun W (a : α0) cs => ∃ c0, cs = c0 ∧ R0 W a c0) (fun a => g0 a) (fun a => s0 a) (fun a => b0 a) := by
  constructor
  intro H enc W fuel cs y hy
  obtain ⟨xs, m, rfl, rfl, hl, hx, hf⟩ := DataW.trod_struct hs hy
  obtain ⟨x0, rfl⟩ : ∃ x0, xs = [x0] := by
    match xs, hx with
    | [x0], _ => exact ⟨x0, rfl⟩
  have e0 := hf 0 f0 rfl
  rw [hn0, ho0] at e0
  obtain ⟨a0, r0, k0, z0, u0⟩ := h0.out enc W m _ _ (e0.trans rfl)
  rw [hc] at hl
  refine ⟨a0, ⟨_, ?_, r0⟩, k0, fun hw => ?_, ?_⟩
  · exact cells_split1 hl
  · have hw' : ∀ n ∈ DataW.weightsEach Tryd.prog [f0.type] [x0.1], n ≤ reachBytes := fun n hn => hw n (by simp only [DataW.weights, hs]; exact hn)
    exact z0 fun n hn => hw' n (DataW.weights_mem_each (j := 0) rfl rfl n hn)
  · simp only [Rows.uptoBulk, Rows.uptoBulkAll, List.map]
    omega

theorem cells_split2 {β : Type} {cs : List β} {n0 n1 : Nat} (h : cs.length = n0 + n1) : cs = (cs.drop (0)).take n0 ++ ((cs.drop (n0)).take n1) := by
  have p0 := drop_split cs (0) n0
  rw [Nat.zero_add] at p0
  have q : (cs.drop (n0)).take n1 = cs.drop (n0) := List.take_of_length_le (by rw [List.length_drop]; omega)
  rw [q]
  rw [← p0]
  rfl
theorem opened_struct2 {α0 α1 : Type} {t : TypeId} {f0 f1 : Field} {n0 n1 : Nat}
    {R0 : World → α0 → List Value → Prop} {g0 s0 : α0 → Prop} {b0 : α0 → Nat}
    {R1 : World → α1 → List Value → Prop} {g1 s1 : α1 → Prop} {b1 : α1 → Nat}
    (hs : Tryd.prog.underlying t = some (.struct #[f0, f1])) (hc : Tryd.prog.cellsOf t = n0 + n1)
    (hn0 : Tryd.prog.cellsOf f0.type = n0) (ho0 : f0.offset = 0) (h0 : Opened f0.type R0 g0 s0 b0)
    (hn1 : Tryd.prog.cellsOf f1.type = n1) (ho1 : f1.offset = n0) (h1 : Opened f1.type R1 g1 s1 b1)
    : Opened t (fun W (a : α0 × α1) cs => ∃ c0 c1, cs = c0 ++ (c1) ∧ R0 W a.1 c0 ∧ R1 W a.2 c1) (fun a => g0 a.1 ∧ g1 a.2) (fun a => s0 a.1 ∧ s1 a.2) (fun a => b0 a.1 + b1 a.2) := by
  constructor
  intro H enc W fuel cs y hy
  obtain ⟨xs, m, rfl, rfl, hl, hx, hf⟩ := DataW.trod_struct hs hy
  obtain ⟨x0, x1, rfl⟩ : ∃ x0 x1, xs = [x0, x1] := by
    match xs, hx with
    | [x0, x1], _ => exact ⟨x0, x1, rfl⟩
  have e0 := hf 0 f0 rfl
  rw [hn0, ho0] at e0
  obtain ⟨a0, r0, k0, z0, u0⟩ := h0.out enc W m _ _ (e0.trans rfl)
  have e1 := hf 1 f1 rfl
  rw [hn1, ho1] at e1
  obtain ⟨a1, r1, k1, z1, u1⟩ := h1.out enc W m _ _ (e1.trans rfl)
  rw [hc] at hl
  refine ⟨(a0, a1), ⟨_, _, ?_, r0, r1⟩, ⟨k0, k1⟩, fun hw => ?_, ?_⟩
  · exact cells_split2 hl
  · have hw' : ∀ n ∈ DataW.weightsEach Tryd.prog [f0.type, f1.type] [x0.1, x1.1], n ≤ reachBytes := fun n hn => hw n (by simp only [DataW.weights, hs]; exact hn)
    exact ⟨z0 fun n hn => hw' n (DataW.weights_mem_each (j := 0) rfl rfl n hn), z1 fun n hn => hw' n (DataW.weights_mem_each (j := 1) rfl rfl n hn)⟩
  · simp only [Rows.uptoBulk, Rows.uptoBulkAll, List.map]
    omega

theorem cells_split3 {β : Type} {cs : List β} {n0 n1 n2 : Nat} (h : cs.length = n0 + n1 + n2) : cs = (cs.drop (0)).take n0 ++ ((cs.drop (n0)).take n1 ++ ((cs.drop (n0 + n1)).take n2)) := by
  have p0 := drop_split cs (0) n0
  rw [Nat.zero_add] at p0
  have p1 := drop_split cs (n0) n1
  have q : (cs.drop (n0 + n1)).take n2 = cs.drop (n0 + n1) := List.take_of_length_le (by rw [List.length_drop]; omega)
  rw [q]
  rw [← p1]
  rw [← p0]
  rfl
theorem opened_struct3 {α0 α1 α2 : Type} {t : TypeId} {f0 f1 f2 : Field} {n0 n1 n2 : Nat}
    {R0 : World → α0 → List Value → Prop} {g0 s0 : α0 → Prop} {b0 : α0 → Nat}
    {R1 : World → α1 → List Value → Prop} {g1 s1 : α1 → Prop} {b1 : α1 → Nat}
    {R2 : World → α2 → List Value → Prop} {g2 s2 : α2 → Prop} {b2 : α2 → Nat}
    (hs : Tryd.prog.underlying t = some (.struct #[f0, f1, f2])) (hc : Tryd.prog.cellsOf t = n0 + n1 + n2)
    (hn0 : Tryd.prog.cellsOf f0.type = n0) (ho0 : f0.offset = 0) (h0 : Opened f0.type R0 g0 s0 b0)
    (hn1 : Tryd.prog.cellsOf f1.type = n1) (ho1 : f1.offset = n0) (h1 : Opened f1.type R1 g1 s1 b1)
    (hn2 : Tryd.prog.cellsOf f2.type = n2) (ho2 : f2.offset = n0 + n1) (h2 : Opened f2.type R2 g2 s2 b2)
    : Opened t (fun W (a : α0 × α1 × α2) cs => ∃ c0 c1 c2, cs = c0 ++ (c1 ++ (c2)) ∧ R0 W a.1 c0 ∧ R1 W a.2.1 c1 ∧ R2 W a.2.2 c2) (fun a => g0 a.1 ∧ g1 a.2.1 ∧ g2 a.2.2) (fun a => s0 a.1 ∧ s1 a.2.1 ∧ s2 a.2.2) (fun a => b0 a.1 + b1 a.2.1 + b2 a.2.2) := by
  constructor
  intro H enc W fuel cs y hy
  obtain ⟨xs, m, rfl, rfl, hl, hx, hf⟩ := DataW.trod_struct hs hy
  obtain ⟨x0, x1, x2, rfl⟩ : ∃ x0 x1 x2, xs = [x0, x1, x2] := by
    match xs, hx with
    | [x0, x1, x2], _ => exact ⟨x0, x1, x2, rfl⟩
  have e0 := hf 0 f0 rfl
  rw [hn0, ho0] at e0
  obtain ⟨a0, r0, k0, z0, u0⟩ := h0.out enc W m _ _ (e0.trans rfl)
  have e1 := hf 1 f1 rfl
  rw [hn1, ho1] at e1
  obtain ⟨a1, r1, k1, z1, u1⟩ := h1.out enc W m _ _ (e1.trans rfl)
  have e2 := hf 2 f2 rfl
  rw [hn2, ho2] at e2
  obtain ⟨a2, r2, k2, z2, u2⟩ := h2.out enc W m _ _ (e2.trans rfl)
  rw [hc] at hl
  refine ⟨(a0, a1, a2), ⟨_, _, _, ?_, r0, r1, r2⟩, ⟨k0, k1, k2⟩, fun hw => ?_, ?_⟩
  · exact cells_split3 hl
  · have hw' : ∀ n ∈ DataW.weightsEach Tryd.prog [f0.type, f1.type, f2.type] [x0.1, x1.1, x2.1], n ≤ reachBytes := fun n hn => hw n (by simp only [DataW.weights, hs]; exact hn)
    exact ⟨z0 fun n hn => hw' n (DataW.weights_mem_each (j := 0) rfl rfl n hn), z1 fun n hn => hw' n (DataW.weights_mem_each (j := 1) rfl rfl n hn), z2 fun n hn => hw' n (DataW.weights_mem_each (j := 2) rfl rfl n hn)⟩
  · simp only [Rows.uptoBulk, Rows.uptoBulkAll, List.map]
    omega

theorem cells_split4 {β : Type} {cs : List β} {n0 n1 n2 n3 : Nat} (h : cs.length = n0 + n1 + n2 + n3) : cs = (cs.drop (0)).take n0 ++ ((cs.drop (n0)).take n1 ++ ((cs.drop (n0 + n1)).take n2 ++ ((cs.drop (n0 + n1 + n2)).take n3))) := by
  have p0 := drop_split cs (0) n0
  rw [Nat.zero_add] at p0
  have p1 := drop_split cs (n0) n1
  have p2 := drop_split cs (n0 + n1) n2
  have q : (cs.drop (n0 + n1 + n2)).take n3 = cs.drop (n0 + n1 + n2) := List.take_of_length_le (by rw [List.length_drop]; omega)
  rw [q]
  rw [← p2]
  rw [← p1]
  rw [← p0]
  rfl
theorem opened_struct4 {α0 α1 α2 α3 : Type} {t : TypeId} {f0 f1 f2 f3 : Field} {n0 n1 n2 n3 : Nat}
    {R0 : World → α0 → List Value → Prop} {g0 s0 : α0 → Prop} {b0 : α0 → Nat}
    {R1 : World → α1 → List Value → Prop} {g1 s1 : α1 → Prop} {b1 : α1 → Nat}
    {R2 : World → α2 → List Value → Prop} {g2 s2 : α2 → Prop} {b2 : α2 → Nat}
    {R3 : World → α3 → List Value → Prop} {g3 s3 : α3 → Prop} {b3 : α3 → Nat}
    (hs : Tryd.prog.underlying t = some (.struct #[f0, f1, f2, f3])) (hc : Tryd.prog.cellsOf t = n0 + n1 + n2 + n3)
    (hn0 : Tryd.prog.cellsOf f0.type = n0) (ho0 : f0.offset = 0) (h0 : Opened f0.type R0 g0 s0 b0)
    (hn1 : Tryd.prog.cellsOf f1.type = n1) (ho1 : f1.offset = n0) (h1 : Opened f1.type R1 g1 s1 b1)
    (hn2 : Tryd.prog.cellsOf f2.type = n2) (ho2 : f2.offset = n0 + n1) (h2 : Opened f2.type R2 g2 s2 b2)
    (hn3 : Tryd.prog.cellsOf f3.type = n3) (ho3 : f3.offset = n0 + n1 + n2) (h3 : Opened f3.type R3 g3 s3 b3)
    : Opened t (fun W (a : α0 × α1 × α2 × α3) cs => ∃ c0 c1 c2 c3, cs = c0 ++ (c1 ++ (c2 ++ (c3))) ∧ R0 W a.1 c0 ∧ R1 W a.2.1 c1 ∧ R2 W a.2.2.1 c2 ∧ R3 W a.2.2.2 c3) (fun a => g0 a.1 ∧ g1 a.2.1 ∧ g2 a.2.2.1 ∧ g3 a.2.2.2) (fun a => s0 a.1 ∧ s1 a.2.1 ∧ s2 a.2.2.1 ∧ s3 a.2.2.2) (fun a => b0 a.1 + b1 a.2.1 + b2 a.2.2.1 + b3 a.2.2.2) := by
  constructor
  intro H enc W fuel cs y hy
  obtain ⟨xs, m, rfl, rfl, hl, hx, hf⟩ := DataW.trod_struct hs hy
  obtain ⟨x0, x1, x2, x3, rfl⟩ : ∃ x0 x1 x2 x3, xs = [x0, x1, x2, x3] := by
    match xs, hx with
    | [x0, x1, x2, x3], _ => exact ⟨x0, x1, x2, x3, rfl⟩
  have e0 := hf 0 f0 rfl
  rw [hn0, ho0] at e0
  obtain ⟨a0, r0, k0, z0, u0⟩ := h0.out enc W m _ _ (e0.trans rfl)
  have e1 := hf 1 f1 rfl
  rw [hn1, ho1] at e1
  obtain ⟨a1, r1, k1, z1, u1⟩ := h1.out enc W m _ _ (e1.trans rfl)
  have e2 := hf 2 f2 rfl
  rw [hn2, ho2] at e2
  obtain ⟨a2, r2, k2, z2, u2⟩ := h2.out enc W m _ _ (e2.trans rfl)
  have e3 := hf 3 f3 rfl
  rw [hn3, ho3] at e3
  obtain ⟨a3, r3, k3, z3, u3⟩ := h3.out enc W m _ _ (e3.trans rfl)
  rw [hc] at hl
  refine ⟨(a0, a1, a2, a3), ⟨_, _, _, _, ?_, r0, r1, r2, r3⟩, ⟨k0, k1, k2, k3⟩, fun hw => ?_, ?_⟩
  · exact cells_split4 hl
  · have hw' : ∀ n ∈ DataW.weightsEach Tryd.prog [f0.type, f1.type, f2.type, f3.type] [x0.1, x1.1, x2.1, x3.1], n ≤ reachBytes := fun n hn => hw n (by simp only [DataW.weights, hs]; exact hn)
    exact ⟨z0 fun n hn => hw' n (DataW.weights_mem_each (j := 0) rfl rfl n hn), z1 fun n hn => hw' n (DataW.weights_mem_each (j := 1) rfl rfl n hn), z2 fun n hn => hw' n (DataW.weights_mem_each (j := 2) rfl rfl n hn), z3 fun n hn => hw' n (DataW.weights_mem_each (j := 3) rfl rfl n hn)⟩
  · simp only [Rows.uptoBulk, Rows.uptoBulkAll, List.map]
    omega

theorem cells_split5 {β : Type} {cs : List β} {n0 n1 n2 n3 n4 : Nat} (h : cs.length = n0 + n1 + n2 + n3 + n4) : cs = (cs.drop (0)).take n0 ++ ((cs.drop (n0)).take n1 ++ ((cs.drop (n0 + n1)).take n2 ++ ((cs.drop (n0 + n1 + n2)).take n3 ++ ((cs.drop (n0 + n1 + n2 + n3)).take n4)))) := by
  have p0 := drop_split cs (0) n0
  rw [Nat.zero_add] at p0
  have p1 := drop_split cs (n0) n1
  have p2 := drop_split cs (n0 + n1) n2
  have p3 := drop_split cs (n0 + n1 + n2) n3
  have q : (cs.drop (n0 + n1 + n2 + n3)).take n4 = cs.drop (n0 + n1 + n2 + n3) := List.take_of_length_le (by rw [List.length_drop]; omega)
  rw [q]
  rw [← p3]
  rw [← p2]
  rw [← p1]
  rw [← p0]
  rfl
theorem opened_struct5 {α0 α1 α2 α3 α4 : Type} {t : TypeId} {f0 f1 f2 f3 f4 : Field} {n0 n1 n2 n3 n4 : Nat}
    {R0 : World → α0 → List Value → Prop} {g0 s0 : α0 → Prop} {b0 : α0 → Nat}
    {R1 : World → α1 → List Value → Prop} {g1 s1 : α1 → Prop} {b1 : α1 → Nat}
    {R2 : World → α2 → List Value → Prop} {g2 s2 : α2 → Prop} {b2 : α2 → Nat}
    {R3 : World → α3 → List Value → Prop} {g3 s3 : α3 → Prop} {b3 : α3 → Nat}
    {R4 : World → α4 → List Value → Prop} {g4 s4 : α4 → Prop} {b4 : α4 → Nat}
    (hs : Tryd.prog.underlying t = some (.struct #[f0, f1, f2, f3, f4])) (hc : Tryd.prog.cellsOf t = n0 + n1 + n2 + n3 + n4)
    (hn0 : Tryd.prog.cellsOf f0.type = n0) (ho0 : f0.offset = 0) (h0 : Opened f0.type R0 g0 s0 b0)
    (hn1 : Tryd.prog.cellsOf f1.type = n1) (ho1 : f1.offset = n0) (h1 : Opened f1.type R1 g1 s1 b1)
    (hn2 : Tryd.prog.cellsOf f2.type = n2) (ho2 : f2.offset = n0 + n1) (h2 : Opened f2.type R2 g2 s2 b2)
    (hn3 : Tryd.prog.cellsOf f3.type = n3) (ho3 : f3.offset = n0 + n1 + n2) (h3 : Opened f3.type R3 g3 s3 b3)
    (hn4 : Tryd.prog.cellsOf f4.type = n4) (ho4 : f4.offset = n0 + n1 + n2 + n3) (h4 : Opened f4.type R4 g4 s4 b4)
    : Opened t (fun W (a : α0 × α1 × α2 × α3 × α4) cs => ∃ c0 c1 c2 c3 c4, cs = c0 ++ (c1 ++ (c2 ++ (c3 ++ (c4)))) ∧ R0 W a.1 c0 ∧ R1 W a.2.1 c1 ∧ R2 W a.2.2.1 c2 ∧ R3 W a.2.2.2.1 c3 ∧ R4 W a.2.2.2.2 c4) (fun a => g0 a.1 ∧ g1 a.2.1 ∧ g2 a.2.2.1 ∧ g3 a.2.2.2.1 ∧ g4 a.2.2.2.2) (fun a => s0 a.1 ∧ s1 a.2.1 ∧ s2 a.2.2.1 ∧ s3 a.2.2.2.1 ∧ s4 a.2.2.2.2) (fun a => b0 a.1 + b1 a.2.1 + b2 a.2.2.1 + b3 a.2.2.2.1 + b4 a.2.2.2.2) := by
  constructor
  intro H enc W fuel cs y hy
  obtain ⟨xs, m, rfl, rfl, hl, hx, hf⟩ := DataW.trod_struct hs hy
  obtain ⟨x0, x1, x2, x3, x4, rfl⟩ : ∃ x0 x1 x2 x3 x4, xs = [x0, x1, x2, x3, x4] := by
    match xs, hx with
    | [x0, x1, x2, x3, x4], _ => exact ⟨x0, x1, x2, x3, x4, rfl⟩
  have e0 := hf 0 f0 rfl
  rw [hn0, ho0] at e0
  obtain ⟨a0, r0, k0, z0, u0⟩ := h0.out enc W m _ _ (e0.trans rfl)
  have e1 := hf 1 f1 rfl
  rw [hn1, ho1] at e1
  obtain ⟨a1, r1, k1, z1, u1⟩ := h1.out enc W m _ _ (e1.trans rfl)
  have e2 := hf 2 f2 rfl
  rw [hn2, ho2] at e2
  obtain ⟨a2, r2, k2, z2, u2⟩ := h2.out enc W m _ _ (e2.trans rfl)
  have e3 := hf 3 f3 rfl
  rw [hn3, ho3] at e3
  obtain ⟨a3, r3, k3, z3, u3⟩ := h3.out enc W m _ _ (e3.trans rfl)
  have e4 := hf 4 f4 rfl
  rw [hn4, ho4] at e4
  obtain ⟨a4, r4, k4, z4, u4⟩ := h4.out enc W m _ _ (e4.trans rfl)
  rw [hc] at hl
  refine ⟨(a0, a1, a2, a3, a4), ⟨_, _, _, _, _, ?_, r0, r1, r2, r3, r4⟩, ⟨k0, k1, k2, k3, k4⟩, fun hw => ?_, ?_⟩
  · exact cells_split5 hl
  · have hw' : ∀ n ∈ DataW.weightsEach Tryd.prog [f0.type, f1.type, f2.type, f3.type, f4.type] [x0.1, x1.1, x2.1, x3.1, x4.1], n ≤ reachBytes := fun n hn => hw n (by simp only [DataW.weights, hs]; exact hn)
    exact ⟨z0 fun n hn => hw' n (DataW.weights_mem_each (j := 0) rfl rfl n hn), z1 fun n hn => hw' n (DataW.weights_mem_each (j := 1) rfl rfl n hn), z2 fun n hn => hw' n (DataW.weights_mem_each (j := 2) rfl rfl n hn), z3 fun n hn => hw' n (DataW.weights_mem_each (j := 3) rfl rfl n hn), z4 fun n hn => hw' n (DataW.weights_mem_each (j := 4) rfl rfl n hn)⟩
  · simp only [Rows.uptoBulk, Rows.uptoBulkAll, List.map]
    omega

theorem cells_split6 {β : Type} {cs : List β} {n0 n1 n2 n3 n4 n5 : Nat} (h : cs.length = n0 + n1 + n2 + n3 + n4 + n5) : cs = (cs.drop (0)).take n0 ++ ((cs.drop (n0)).take n1 ++ ((cs.drop (n0 + n1)).take n2 ++ ((cs.drop (n0 + n1 + n2)).take n3 ++ ((cs.drop (n0 + n1 + n2 + n3)).take n4 ++ ((cs.drop (n0 + n1 + n2 + n3 + n4)).take n5))))) := by
  have p0 := drop_split cs (0) n0
  rw [Nat.zero_add] at p0
  have p1 := drop_split cs (n0) n1
  have p2 := drop_split cs (n0 + n1) n2
  have p3 := drop_split cs (n0 + n1 + n2) n3
  have p4 := drop_split cs (n0 + n1 + n2 + n3) n4
  have q : (cs.drop (n0 + n1 + n2 + n3 + n4)).take n5 = cs.drop (n0 + n1 + n2 + n3 + n4) := List.take_of_length_le (by rw [List.length_drop]; omega)
  rw [q]
  rw [← p4]
  rw [← p3]
  rw [← p2]
  rw [← p1]
  rw [← p0]
  rfl
theorem opened_struct6 {α0 α1 α2 α3 α4 α5 : Type} {t : TypeId} {f0 f1 f2 f3 f4 f5 : Field} {n0 n1 n2 n3 n4 n5 : Nat}
    {R0 : World → α0 → List Value → Prop} {g0 s0 : α0 → Prop} {b0 : α0 → Nat}
    {R1 : World → α1 → List Value → Prop} {g1 s1 : α1 → Prop} {b1 : α1 → Nat}
    {R2 : World → α2 → List Value → Prop} {g2 s2 : α2 → Prop} {b2 : α2 → Nat}
    {R3 : World → α3 → List Value → Prop} {g3 s3 : α3 → Prop} {b3 : α3 → Nat}
    {R4 : World → α4 → List Value → Prop} {g4 s4 : α4 → Prop} {b4 : α4 → Nat}
    {R5 : World → α5 → List Value → Prop} {g5 s5 : α5 → Prop} {b5 : α5 → Nat}
    (hs : Tryd.prog.underlying t = some (.struct #[f0, f1, f2, f3, f4, f5])) (hc : Tryd.prog.cellsOf t = n0 + n1 + n2 + n3 + n4 + n5)
    (hn0 : Tryd.prog.cellsOf f0.type = n0) (ho0 : f0.offset = 0) (h0 : Opened f0.type R0 g0 s0 b0)
    (hn1 : Tryd.prog.cellsOf f1.type = n1) (ho1 : f1.offset = n0) (h1 : Opened f1.type R1 g1 s1 b1)
    (hn2 : Tryd.prog.cellsOf f2.type = n2) (ho2 : f2.offset = n0 + n1) (h2 : Opened f2.type R2 g2 s2 b2)
    (hn3 : Tryd.prog.cellsOf f3.type = n3) (ho3 : f3.offset = n0 + n1 + n2) (h3 : Opened f3.type R3 g3 s3 b3)
    (hn4 : Tryd.prog.cellsOf f4.type = n4) (ho4 : f4.offset = n0 + n1 + n2 + n3) (h4 : Opened f4.type R4 g4 s4 b4)
    (hn5 : Tryd.prog.cellsOf f5.type = n5) (ho5 : f5.offset = n0 + n1 + n2 + n3 + n4) (h5 : Opened f5.type R5 g5 s5 b5)
    : Opened t (fun W (a : α0 × α1 × α2 × α3 × α4 × α5) cs => ∃ c0 c1 c2 c3 c4 c5, cs = c0 ++ (c1 ++ (c2 ++ (c3 ++ (c4 ++ (c5))))) ∧ R0 W a.1 c0 ∧ R1 W a.2.1 c1 ∧ R2 W a.2.2.1 c2 ∧ R3 W a.2.2.2.1 c3 ∧ R4 W a.2.2.2.2.1 c4 ∧ R5 W a.2.2.2.2.2 c5) (fun a => g0 a.1 ∧ g1 a.2.1 ∧ g2 a.2.2.1 ∧ g3 a.2.2.2.1 ∧ g4 a.2.2.2.2.1 ∧ g5 a.2.2.2.2.2) (fun a => s0 a.1 ∧ s1 a.2.1 ∧ s2 a.2.2.1 ∧ s3 a.2.2.2.1 ∧ s4 a.2.2.2.2.1 ∧ s5 a.2.2.2.2.2) (fun a => b0 a.1 + b1 a.2.1 + b2 a.2.2.1 + b3 a.2.2.2.1 + b4 a.2.2.2.2.1 + b5 a.2.2.2.2.2) := by
  constructor
  intro H enc W fuel cs y hy
  obtain ⟨xs, m, rfl, rfl, hl, hx, hf⟩ := DataW.trod_struct hs hy
  obtain ⟨x0, x1, x2, x3, x4, x5, rfl⟩ : ∃ x0 x1 x2 x3 x4 x5, xs = [x0, x1, x2, x3, x4, x5] := by
    match xs, hx with
    | [x0, x1, x2, x3, x4, x5], _ => exact ⟨x0, x1, x2, x3, x4, x5, rfl⟩
  have e0 := hf 0 f0 rfl
  rw [hn0, ho0] at e0
  obtain ⟨a0, r0, k0, z0, u0⟩ := h0.out enc W m _ _ (e0.trans rfl)
  have e1 := hf 1 f1 rfl
  rw [hn1, ho1] at e1
  obtain ⟨a1, r1, k1, z1, u1⟩ := h1.out enc W m _ _ (e1.trans rfl)
  have e2 := hf 2 f2 rfl
  rw [hn2, ho2] at e2
  obtain ⟨a2, r2, k2, z2, u2⟩ := h2.out enc W m _ _ (e2.trans rfl)
  have e3 := hf 3 f3 rfl
  rw [hn3, ho3] at e3
  obtain ⟨a3, r3, k3, z3, u3⟩ := h3.out enc W m _ _ (e3.trans rfl)
  have e4 := hf 4 f4 rfl
  rw [hn4, ho4] at e4
  obtain ⟨a4, r4, k4, z4, u4⟩ := h4.out enc W m _ _ (e4.trans rfl)
  have e5 := hf 5 f5 rfl
  rw [hn5, ho5] at e5
  obtain ⟨a5, r5, k5, z5, u5⟩ := h5.out enc W m _ _ (e5.trans rfl)
  rw [hc] at hl
  refine ⟨(a0, a1, a2, a3, a4, a5), ⟨_, _, _, _, _, _, ?_, r0, r1, r2, r3, r4, r5⟩, ⟨k0, k1, k2, k3, k4, k5⟩, fun hw => ?_, ?_⟩
  · exact cells_split6 hl
  · have hw' : ∀ n ∈ DataW.weightsEach Tryd.prog [f0.type, f1.type, f2.type, f3.type, f4.type, f5.type] [x0.1, x1.1, x2.1, x3.1, x4.1, x5.1], n ≤ reachBytes := fun n hn => hw n (by simp only [DataW.weights, hs]; exact hn)
    exact ⟨z0 fun n hn => hw' n (DataW.weights_mem_each (j := 0) rfl rfl n hn), z1 fun n hn => hw' n (DataW.weights_mem_each (j := 1) rfl rfl n hn), z2 fun n hn => hw' n (DataW.weights_mem_each (j := 2) rfl rfl n hn), z3 fun n hn => hw' n (DataW.weights_mem_each (j := 3) rfl rfl n hn), z4 fun n hn => hw' n (DataW.weights_mem_each (j := 4) rfl rfl n hn), z5 fun n hn => hw' n (DataW.weights_mem_each (j := 5) rfl rfl n hn)⟩
  · simp only [Rows.uptoBulk, Rows.uptoBulkAll, List.map]
    omega

theorem cells_split7 {β : Type} {cs : List β} {n0 n1 n2 n3 n4 n5 n6 : Nat} (h : cs.length = n0 + n1 + n2 + n3 + n4 + n5 + n6) : cs = (cs.drop (0)).take n0 ++ ((cs.drop (n0)).take n1 ++ ((cs.drop (n0 + n1)).take n2 ++ ((cs.drop (n0 + n1 + n2)).take n3 ++ ((cs.drop (n0 + n1 + n2 + n3)).take n4 ++ ((cs.drop (n0 + n1 + n2 + n3 + n4)).take n5 ++ ((cs.drop (n0 + n1 + n2 + n3 + n4 + n5)).take n6)))))) := by
  have p0 := drop_split cs (0) n0
  rw [Nat.zero_add] at p0
  have p1 := drop_split cs (n0) n1
  have p2 := drop_split cs (n0 + n1) n2
  have p3 := drop_split cs (n0 + n1 + n2) n3
  have p4 := drop_split cs (n0 + n1 + n2 + n3) n4
  have p5 := drop_split cs (n0 + n1 + n2 + n3 + n4) n5
  have q : (cs.drop (n0 + n1 + n2 + n3 + n4 + n5)).take n6 = cs.drop (n0 + n1 + n2 + n3 + n4 + n5) := List.take_of_length_le (by rw [List.length_drop]; omega)
  rw [q]
  rw [← p5]
  rw [← p4]
  rw [← p3]
  rw [← p2]
  rw [← p1]
  rw [← p0]
  rfl
theorem opened_struct7 {α0 α1 α2 α3 α4 α5 α6 : Type} {t : TypeId} {f0 f1 f2 f3 f4 f5 f6 : Field} {n0 n1 n2 n3 n4 n5 n6 : Nat}
    {R0 : World → α0 → List Value → Prop} {g0 s0 : α0 → Prop} {b0 : α0 → Nat}
    {R1 : World → α1 → List Value → Prop} {g1 s1 : α1 → Prop} {b1 : α1 → Nat}
    {R2 : World → α2 → List Value → Prop} {g2 s2 : α2 → Prop} {b2 : α2 → Nat}
    {R3 : World → α3 → List Value → Prop} {g3 s3 : α3 → Prop} {b3 : α3 → Nat}
    {R4 : World → α4 → List Value → Prop} {g4 s4 : α4 → Prop} {b4 : α4 → Nat}
    {R5 : World → α5 → List Value → Prop} {g5 s5 : α5 → Prop} {b5 : α5 → Nat}
    {R6 : World → α6 → List Value → Prop} {g6 s6 : α6 → Prop} {b6 : α6 → Nat}
    (hs : Tryd.prog.underlying t = some (.struct #[f0, f1, f2, f3, f4, f5, f6])) (hc : Tryd.prog.cellsOf t = n0 + n1 + n2 + n3 + n4 + n5 + n6)
    (hn0 : Tryd.prog.cellsOf f0.type = n0) (ho0 : f0.offset = 0) (h0 : Opened f0.type R0 g0 s0 b0)
    (hn1 : Tryd.prog.cellsOf f1.type = n1) (ho1 : f1.offset = n0) (h1 : Opened f1.type R1 g1 s1 b1)
    (hn2 : Tryd.prog.cellsOf f2.type = n2) (ho2 : f2.offset = n0 + n1) (h2 : Opened f2.type R2 g2 s2 b2)
    (hn3 : Tryd.prog.cellsOf f3.type = n3) (ho3 : f3.offset = n0 + n1 + n2) (h3 : Opened f3.type R3 g3 s3 b3)
    (hn4 : Tryd.prog.cellsOf f4.type = n4) (ho4 : f4.offset = n0 + n1 + n2 + n3) (h4 : Opened f4.type R4 g4 s4 b4)
    (hn5 : Tryd.prog.cellsOf f5.type = n5) (ho5 : f5.offset = n0 + n1 + n2 + n3 + n4) (h5 : Opened f5.type R5 g5 s5 b5)
    (hn6 : Tryd.prog.cellsOf f6.type = n6) (ho6 : f6.offset = n0 + n1 + n2 + n3 + n4 + n5) (h6 : Opened f6.type R6 g6 s6 b6)
    : Opened t (fun W (a : α0 × α1 × α2 × α3 × α4 × α5 × α6) cs => ∃ c0 c1 c2 c3 c4 c5 c6, cs = c0 ++ (c1 ++ (c2 ++ (c3 ++ (c4 ++ (c5 ++ (c6)))))) ∧ R0 W a.1 c0 ∧ R1 W a.2.1 c1 ∧ R2 W a.2.2.1 c2 ∧ R3 W a.2.2.2.1 c3 ∧ R4 W a.2.2.2.2.1 c4 ∧ R5 W a.2.2.2.2.2.1 c5 ∧ R6 W a.2.2.2.2.2.2 c6) (fun a => g0 a.1 ∧ g1 a.2.1 ∧ g2 a.2.2.1 ∧ g3 a.2.2.2.1 ∧ g4 a.2.2.2.2.1 ∧ g5 a.2.2.2.2.2.1 ∧ g6 a.2.2.2.2.2.2) (fun a => s0 a.1 ∧ s1 a.2.1 ∧ s2 a.2.2.1 ∧ s3 a.2.2.2.1 ∧ s4 a.2.2.2.2.1 ∧ s5 a.2.2.2.2.2.1 ∧ s6 a.2.2.2.2.2.2) (fun a => b0 a.1 + b1 a.2.1 + b2 a.2.2.1 + b3 a.2.2.2.1 + b4 a.2.2.2.2.1 + b5 a.2.2.2.2.2.1 + b6 a.2.2.2.2.2.2) := by
  constructor
  intro H enc W fuel cs y hy
  obtain ⟨xs, m, rfl, rfl, hl, hx, hf⟩ := DataW.trod_struct hs hy
  obtain ⟨x0, x1, x2, x3, x4, x5, x6, rfl⟩ : ∃ x0 x1 x2 x3 x4 x5 x6, xs = [x0, x1, x2, x3, x4, x5, x6] := by
    match xs, hx with
    | [x0, x1, x2, x3, x4, x5, x6], _ => exact ⟨x0, x1, x2, x3, x4, x5, x6, rfl⟩
  have e0 := hf 0 f0 rfl
  rw [hn0, ho0] at e0
  obtain ⟨a0, r0, k0, z0, u0⟩ := h0.out enc W m _ _ (e0.trans rfl)
  have e1 := hf 1 f1 rfl
  rw [hn1, ho1] at e1
  obtain ⟨a1, r1, k1, z1, u1⟩ := h1.out enc W m _ _ (e1.trans rfl)
  have e2 := hf 2 f2 rfl
  rw [hn2, ho2] at e2
  obtain ⟨a2, r2, k2, z2, u2⟩ := h2.out enc W m _ _ (e2.trans rfl)
  have e3 := hf 3 f3 rfl
  rw [hn3, ho3] at e3
  obtain ⟨a3, r3, k3, z3, u3⟩ := h3.out enc W m _ _ (e3.trans rfl)
  have e4 := hf 4 f4 rfl
  rw [hn4, ho4] at e4
  obtain ⟨a4, r4, k4, z4, u4⟩ := h4.out enc W m _ _ (e4.trans rfl)
  have e5 := hf 5 f5 rfl
  rw [hn5, ho5] at e5
  obtain ⟨a5, r5, k5, z5, u5⟩ := h5.out enc W m _ _ (e5.trans rfl)
  have e6 := hf 6 f6 rfl
  rw [hn6, ho6] at e6
  obtain ⟨a6, r6, k6, z6, u6⟩ := h6.out enc W m _ _ (e6.trans rfl)
  rw [hc] at hl
  refine ⟨(a0, a1, a2, a3, a4, a5, a6), ⟨_, _, _, _, _, _, _, ?_, r0, r1, r2, r3, r4, r5, r6⟩, ⟨k0, k1, k2, k3, k4, k5, k6⟩, fun hw => ?_, ?_⟩
  · exact cells_split7 hl
  · have hw' : ∀ n ∈ DataW.weightsEach Tryd.prog [f0.type, f1.type, f2.type, f3.type, f4.type, f5.type, f6.type] [x0.1, x1.1, x2.1, x3.1, x4.1, x5.1, x6.1], n ≤ reachBytes := fun n hn => hw n (by simp only [DataW.weights, hs]; exact hn)
    exact ⟨z0 fun n hn => hw' n (DataW.weights_mem_each (j := 0) rfl rfl n hn), z1 fun n hn => hw' n (DataW.weights_mem_each (j := 1) rfl rfl n hn), z2 fun n hn => hw' n (DataW.weights_mem_each (j := 2) rfl rfl n hn), z3 fun n hn => hw' n (DataW.weights_mem_each (j := 3) rfl rfl n hn), z4 fun n hn => hw' n (DataW.weights_mem_each (j := 4) rfl rfl n hn), z5 fun n hn => hw' n (DataW.weights_mem_each (j := 5) rfl rfl n hn), z6 fun n hn => hw' n (DataW.weights_mem_each (j := 6) rfl rfl n hn)⟩
  · simp only [Rows.uptoBulk, Rows.uptoBulkAll, List.map]
    omega

theorem cells_split8 {β : Type} {cs : List β} {n0 n1 n2 n3 n4 n5 n6 n7 : Nat} (h : cs.length = n0 + n1 + n2 + n3 + n4 + n5 + n6 + n7) : cs = (cs.drop (0)).take n0 ++ ((cs.drop (n0)).take n1 ++ ((cs.drop (n0 + n1)).take n2 ++ ((cs.drop (n0 + n1 + n2)).take n3 ++ ((cs.drop (n0 + n1 + n2 + n3)).take n4 ++ ((cs.drop (n0 + n1 + n2 + n3 + n4)).take n5 ++ ((cs.drop (n0 + n1 + n2 + n3 + n4 + n5)).take n6 ++ ((cs.drop (n0 + n1 + n2 + n3 + n4 + n5 + n6)).take n7))))))) := by
  have p0 := drop_split cs (0) n0
  rw [Nat.zero_add] at p0
  have p1 := drop_split cs (n0) n1
  have p2 := drop_split cs (n0 + n1) n2
  have p3 := drop_split cs (n0 + n1 + n2) n3
  have p4 := drop_split cs (n0 + n1 + n2 + n3) n4
  have p5 := drop_split cs (n0 + n1 + n2 + n3 + n4) n5
  have p6 := drop_split cs (n0 + n1 + n2 + n3 + n4 + n5) n6
  have q : (cs.drop (n0 + n1 + n2 + n3 + n4 + n5 + n6)).take n7 = cs.drop (n0 + n1 + n2 + n3 + n4 + n5 + n6) := List.take_of_length_le (by rw [List.length_drop]; omega)
  rw [q]
  rw [← p6]
  rw [← p5]
  rw [← p4]
  rw [← p3]
  rw [← p2]
  rw [← p1]
  rw [← p0]
  rfl
theorem opened_struct8 {α0 α1 α2 α3 α4 α5 α6 α7 : Type} {t : TypeId} {f0 f1 f2 f3 f4 f5 f6 f7 : Field} {n0 n1 n2 n3 n4 n5 n6 n7 : Nat}
    {R0 : World → α0 → List Value → Prop} {g0 s0 : α0 → Prop} {b0 : α0 → Nat}
    {R1 : World → α1 → List Value → Prop} {g1 s1 : α1 → Prop} {b1 : α1 → Nat}
    {R2 : World → α2 → List Value → Prop} {g2 s2 : α2 → Prop} {b2 : α2 → Nat}
    {R3 : World → α3 → List Value → Prop} {g3 s3 : α3 → Prop} {b3 : α3 → Nat}
    {R4 : World → α4 → List Value → Prop} {g4 s4 : α4 → Prop} {b4 : α4 → Nat}
    {R5 : World → α5 → List Value → Prop} {g5 s5 : α5 → Prop} {b5 : α5 → Nat}
    {R6 : World → α6 → List Value → Prop} {g6 s6 : α6 → Prop} {b6 : α6 → Nat}
    {R7 : World → α7 → List Value → Prop} {g7 s7 : α7 → Prop} {b7 : α7 → Nat}
    (hs : Tryd.prog.underlying t = some (.struct #[f0, f1, f2, f3, f4, f5, f6, f7])) (hc : Tryd.prog.cellsOf t = n0 + n1 + n2 + n3 + n4 + n5 + n6 + n7)
    (hn0 : Tryd.prog.cellsOf f0.type = n0) (ho0 : f0.offset = 0) (h0 : Opened f0.type R0 g0 s0 b0)
    (hn1 : Tryd.prog.cellsOf f1.type = n1) (ho1 : f1.offset = n0) (h1 : Opened f1.type R1 g1 s1 b1)
    (hn2 : Tryd.prog.cellsOf f2.type = n2) (ho2 : f2.offset = n0 + n1) (h2 : Opened f2.type R2 g2 s2 b2)
    (hn3 : Tryd.prog.cellsOf f3.type = n3) (ho3 : f3.offset = n0 + n1 + n2) (h3 : Opened f3.type R3 g3 s3 b3)
    (hn4 : Tryd.prog.cellsOf f4.type = n4) (ho4 : f4.offset = n0 + n1 + n2 + n3) (h4 : Opened f4.type R4 g4 s4 b4)
    (hn5 : Tryd.prog.cellsOf f5.type = n5) (ho5 : f5.offset = n0 + n1 + n2 + n3 + n4) (h5 : Opened f5.type R5 g5 s5 b5)
    (hn6 : Tryd.prog.cellsOf f6.type = n6) (ho6 : f6.offset = n0 + n1 + n2 + n3 + n4 + n5) (h6 : Opened f6.type R6 g6 s6 b6)
    (hn7 : Tryd.prog.cellsOf f7.type = n7) (ho7 : f7.offset = n0 + n1 + n2 + n3 + n4 + n5 + n6) (h7 : Opened f7.type R7 g7 s7 b7)
    : Opened t (fun W (a : α0 × α1 × α2 × α3 × α4 × α5 × α6 × α7) cs => ∃ c0 c1 c2 c3 c4 c5 c6 c7, cs = c0 ++ (c1 ++ (c2 ++ (c3 ++ (c4 ++ (c5 ++ (c6 ++ (c7))))))) ∧ R0 W a.1 c0 ∧ R1 W a.2.1 c1 ∧ R2 W a.2.2.1 c2 ∧ R3 W a.2.2.2.1 c3 ∧ R4 W a.2.2.2.2.1 c4 ∧ R5 W a.2.2.2.2.2.1 c5 ∧ R6 W a.2.2.2.2.2.2.1 c6 ∧ R7 W a.2.2.2.2.2.2.2 c7) (fun a => g0 a.1 ∧ g1 a.2.1 ∧ g2 a.2.2.1 ∧ g3 a.2.2.2.1 ∧ g4 a.2.2.2.2.1 ∧ g5 a.2.2.2.2.2.1 ∧ g6 a.2.2.2.2.2.2.1 ∧ g7 a.2.2.2.2.2.2.2) (fun a => s0 a.1 ∧ s1 a.2.1 ∧ s2 a.2.2.1 ∧ s3 a.2.2.2.1 ∧ s4 a.2.2.2.2.1 ∧ s5 a.2.2.2.2.2.1 ∧ s6 a.2.2.2.2.2.2.1 ∧ s7 a.2.2.2.2.2.2.2) (fun a => b0 a.1 + b1 a.2.1 + b2 a.2.2.1 + b3 a.2.2.2.1 + b4 a.2.2.2.2.1 + b5 a.2.2.2.2.2.1 + b6 a.2.2.2.2.2.2.1 + b7 a.2.2.2.2.2.2.2) := by
  constructor
  intro H enc W fuel cs y hy
  obtain ⟨xs, m, rfl, rfl, hl, hx, hf⟩ := DataW.trod_struct hs hy
  obtain ⟨x0, x1, x2, x3, x4, x5, x6, x7, rfl⟩ : ∃ x0 x1 x2 x3 x4 x5 x6 x7, xs = [x0, x1, x2, x3, x4, x5, x6, x7] := by
    match xs, hx with
    | [x0, x1, x2, x3, x4, x5, x6, x7], _ => exact ⟨x0, x1, x2, x3, x4, x5, x6, x7, rfl⟩
  have e0 := hf 0 f0 rfl
  rw [hn0, ho0] at e0
  obtain ⟨a0, r0, k0, z0, u0⟩ := h0.out enc W m _ _ (e0.trans rfl)
  have e1 := hf 1 f1 rfl
  rw [hn1, ho1] at e1
  obtain ⟨a1, r1, k1, z1, u1⟩ := h1.out enc W m _ _ (e1.trans rfl)
  have e2 := hf 2 f2 rfl
  rw [hn2, ho2] at e2
  obtain ⟨a2, r2, k2, z2, u2⟩ := h2.out enc W m _ _ (e2.trans rfl)
  have e3 := hf 3 f3 rfl
  rw [hn3, ho3] at e3
  obtain ⟨a3, r3, k3, z3, u3⟩ := h3.out enc W m _ _ (e3.trans rfl)
  have e4 := hf 4 f4 rfl
  rw [hn4, ho4] at e4
  obtain ⟨a4, r4, k4, z4, u4⟩ := h4.out enc W m _ _ (e4.trans rfl)
  have e5 := hf 5 f5 rfl
  rw [hn5, ho5] at e5
  obtain ⟨a5, r5, k5, z5, u5⟩ := h5.out enc W m _ _ (e5.trans rfl)
  have e6 := hf 6 f6 rfl
  rw [hn6, ho6] at e6
  obtain ⟨a6, r6, k6, z6, u6⟩ := h6.out enc W m _ _ (e6.trans rfl)
  have e7 := hf 7 f7 rfl
  rw [hn7, ho7] at e7
  obtain ⟨a7, r7, k7, z7, u7⟩ := h7.out enc W m _ _ (e7.trans rfl)
  rw [hc] at hl
  refine ⟨(a0, a1, a2, a3, a4, a5, a6, a7), ⟨_, _, _, _, _, _, _, _, ?_, r0, r1, r2, r3, r4, r5, r6, r7⟩, ⟨k0, k1, k2, k3, k4, k5, k6, k7⟩, fun hw => ?_, ?_⟩
  · exact cells_split8 hl
  · have hw' : ∀ n ∈ DataW.weightsEach Tryd.prog [f0.type, f1.type, f2.type, f3.type, f4.type, f5.type, f6.type, f7.type] [x0.1, x1.1, x2.1, x3.1, x4.1, x5.1, x6.1, x7.1], n ≤ reachBytes := fun n hn => hw n (by simp only [DataW.weights, hs]; exact hn)
    exact ⟨z0 fun n hn => hw' n (DataW.weights_mem_each (j := 0) rfl rfl n hn), z1 fun n hn => hw' n (DataW.weights_mem_each (j := 1) rfl rfl n hn), z2 fun n hn => hw' n (DataW.weights_mem_each (j := 2) rfl rfl n hn), z3 fun n hn => hw' n (DataW.weights_mem_each (j := 3) rfl rfl n hn), z4 fun n hn => hw' n (DataW.weights_mem_each (j := 4) rfl rfl n hn), z5 fun n hn => hw' n (DataW.weights_mem_each (j := 5) rfl rfl n hn), z6 fun n hn => hw' n (DataW.weights_mem_each (j := 6) rfl rfl n hn), z7 fun n hn => hw' n (DataW.weights_mem_each (j := 7) rfl rfl n hn)⟩
  · simp only [Rows.uptoBulk, Rows.uptoBulkAll, List.map]
    omega

end Go.Proofs.YtdalcbhnnfabhaaDoor.F
namespace Go.Proofs.YtdalcbhnnfabhaaDoor.F
open Go.RowKit Go.Proofs.YtdalcbhnnfabhaaDoorW.PrintWords Go.Proofs.YtdalcbhnnfabhaaDoorW.PrintLast Go.Proofs.YtdalcbhnnfabhaaDoorW.PrintMore
set_option linter.unusedVariables false
set_option linter.unusedSimpArgs false
theorem g_widths : Tryd.prog.globalNamed "interchange/num.widths" = some 1 := by kernel_rfl
theorem g_widths_type : (Tryd.prog.globals[1]?).map (·.type) = some 68 := by kernel_rfl
theorem g_types : Tryd.prog.globalNamed "interchange/frame.types" = some 0 := by kernel_rfl
theorem g_types_type : (Tryd.prog.globals[0]?).map (·.type) = some 64 := by kernel_rfl
theorem cells_widths : Tryd.prog.cellsOf 68 = 4 := by kernel_rfl
theorem cells_types : Tryd.prog.cellsOf 64 = 9 := by kernel_rfl
theorem cells_int : Tryd.prog.cellsOf 3 = 1 := by kernel_rfl
theorem cells_bool : Tryd.prog.cellsOf 4 = 1 := by kernel_rfl
/-- A row's array of truth values. -/
def boolData {H : Type} (zs : List Bool) : DataW H := .agg (zs.map fun z => .lit (.bool z))
theorem cells_of_bools {H : Type} {enc : TypeId × Value → H} {P : Program} {w : World} {base : Nat} {sp : Nat → Bool} {held : Bool} {fuel : Nat} {t e : TypeId} {n : Nat} {cs : List Value} {zs : List Bool} {p : List MemPlace}
    (ht : P.underlying t = some (.array n e)) (he : P.underlying e = some .bool) (hce : P.cellsOf e = 1) (hct : P.cellsOf t = n)
    (h : DataW.trod enc P w base sp held fuel t cs = some (boolData zs, p)) : cs = zs.map fun z => Value.bool z := by
  cases fuel with
  | zero => simp [DataW.trod] at h
  | succ fuel =>
    simp only [DataW.trod, ht, hce, hct, Nat.mul_one] at h
    split at h
    · obtain ⟨xs, hm, hx⟩ := Option.map_eq_some_iff.1 h
      have hxs : xs.map (·.1) = zs.map fun z => (DataW.lit (.bool z) : DataW H) := by
        have := congrArg Prod.fst hx
        simpa [boolData] using this
      have hxl : xs.length = n := by simpa using Lib.mapM_length hm
      have hzl : zs.length = n := by
        have := congrArg List.length hxs
        simp at this
        omega
      rename_i hl
      apply List.ext_getElem?
      intro i
      by_cases hi : i < n
      · obtain ⟨b, hb, hf⟩ := Lib.mapM_at hm i i (by simp [hi])
        obtain ⟨z, hc, rfl⟩ := DataW.trod_bool he hf
        have h1 : cs[i]? = some (.bool z) := by
          have := congrArg (·[0]?) hc
          simpa [List.getElem?_take, List.getElem?_drop] using this
        have h2 : (xs.map (·.1))[i]? = some (DataW.lit (.bool z) : DataW H) := by simp [hb]
        rw [hxs] at h2
        simp only [List.getElem?_map, Option.map_eq_some_iff, DataW.lit.injEq, Lit.bool.injEq] at h2
        obtain ⟨z', hz', rfl⟩ := h2
        simp [h1, hz']
      · rw [List.getElem?_eq_none (by omega), List.getElem?_eq_none (by simp; omega)]
    · cases h
theorem bools_of_met {P : Program} {W : World} {name : String} {zs : List Bool} {x : String × DataW Unit} {rest : List (String × DataW Unit)} {g : Nat} {t e : TypeId} {n : Nat}
    (hg : P.globalNamed name = some g) (hty : (P.globals[g]?).map (·.type) = some t) (ht : P.underlying t = some (.array n e)) (he : P.underlying e = some .bool) (hce : P.cellsOf e = 1) (hct : P.cellsOf t = n)
    (h : laidMet P (x :: (name, boolData zs) :: rest) W) : W.var? P name = some (zs.map fun z => Value.bool z).toArray := by
  obtain ⟨ps, ⟨_, _, _, _, _, _, _, _, _, _, ⟨g', t', cs, fuel, p, q, hg', ht', hvar, hd, _, _⟩, _⟩, _⟩ := h
  obtain rfl := Option.some.inj (hg.symm.trans hg')
  obtain rfl := Option.some.inj (hty.symm.trans ht')
  rw [hvar, ← cells_of_bools ht he hce hct hd]
theorem bool_cell {P : Program} {w : World} {name : String} {zs : List Bool} {g : Nat} (h : w.var? P name = some (zs.map fun z => Value.bool z).toArray) (hg : P.globalNamed name = some g) (i : Nat) (hi : i < zs.length) :
    w.cell? ⟨g, i, none⟩ = some (.bool (zs.getD i false)) := by
  have := World.var?_cell hg h i
  simpa [List.getD, hi] using this
theorem laid_of {W : World} (h : laidMetH Tryd.prog [("interchange/num.widths", Rows.laid_interchange_num_widths), ("interchange/frame.types", Rows.laid_interchange_frame_types)] W) : Laid W := by
  have tw : Lib.TabIs Tryd.prog W "interchange/num.widths" .i64 [1, 2, 4, 8] :=
    Lib.tabIs_of_head (rest := [("interchange/frame.types", Rows.laid_interchange_frame_types)]) g_widths g_widths_type Tryd.underlying68 Tryd.underlying3 cells_int cells_widths h
  have tt : W.var? Tryd.prog "interchange/frame.types" = some (([false, true, true, true, false, false, false, false, true] : List Bool).map fun z => Value.bool z).toArray :=
    bools_of_met (x := ("interchange/num.widths", Rows.laid_interchange_num_widths)) (rest := []) g_types g_types_type Tryd.underlying64 Tryd.underlying4 cells_bool cells_types h
  exact ⟨tw.cell g_widths 0 (by decide), tw.cell g_widths 1 (by decide), tw.cell g_widths 2 (by decide), tw.cell g_widths 3 (by decide),
    bool_cell tt g_types 0 (by decide), bool_cell tt g_types 1 (by decide), bool_cell tt g_types 2 (by decide), bool_cell tt g_types 3 (by decide), bool_cell tt g_types 4 (by decide),
    bool_cell tt g_types 5 (by decide), bool_cell tt g_types 6 (by decide), bool_cell tt g_types 7 (by decide), bool_cell tt g_types 8 (by decide)⟩
def put_widths (o : Obj) : Obj := match o with
  | .cells _ t frozen => .cells #[.int .i64 1, .int .i64 2, .int .i64 4, .int .i64 8] t frozen
  | o => o
def put_types (o : Obj) : Obj := match o with
  | .cells _ t frozen => .cells #[.bool false, .bool true, .bool true, .bool true, .bool false, .bool false, .bool false, .bool false, .bool true] t frozen
  | o => o
noncomputable def laid_world (os : Os) : World :=
  { World.holding Tryd.prog os ⟨#[], #[], []⟩ with heap := ((World.holding Tryd.prog os ⟨#[], #[], []⟩).heap.modify 1 put_widths).modify 0 put_types }
end Go.Proofs.YtdalcbhnnfabhaaDoor.F
namespace Go.Proofs.YtdalcbhnnfabhaaDoor.F
open Go.RowKit Go.Proofs.YtdalcbhnnfabhaaDoorW.PrintWords Go.Proofs.YtdalcbhnnfabhaaDoorW.PrintLast
set_option linter.unusedVariables false

/-! elements of type 29 -/
def good_29 (a : S29) : Prop := (Lit.int .i64 a.f0).wf = true ∧ (Lit.int .i64 a.f1).wf = true ∧ a.f2.size ≤ maxLen
def sized_29 (a : S29) : Prop := True ∧ True ∧ a.f2.size ≤ 140737488351232
def bulk_29 (a : S29) : Nat := (fun _ => 1) a.f0 + (fun _ => 1) a.f1 + (fun a => a.size + 1) a.f2
theorem opened_29 : Opened 29 k29.K good_29 sized_29 bulk_29 :=
  Opened.iso (opened_struct3 (n0 := 1) (n1 := 1) (n2 := 1) Tryd.underlying29 (by kernel_rfl) (by kernel_rfl) rfl (opened_int (k := .i64) Tryd.underlying3) (by kernel_rfl) rfl (opened_int (k := .i64) Tryd.underlying3) (by kernel_rfl) rfl (opened_string Tryd.underlying9)) (fun a => S29.mk a.1 a.2.1 a.2.2) (by rintro W a cs ⟨c0, c1, c2, e, r0, r1, r2⟩; exact ⟨c0, _, e, r0, c1, _, rfl, r1, r2⟩) (fun a h => h) (fun a h => h) (fun a => Nat.le_refl _)
end Go.Proofs.YtdalcbhnnfabhaaDoor.F
namespace Go.Proofs.YtdalcbhnnfabhaaDoor.F
open Go.RowKit Go.Proofs.YtdalcbhnnfabhaaDoorW.PrintWords Go.Proofs.YtdalcbhnnfabhaaDoorW.PrintLast Go.Proofs.YtdalcbhnnfabhaaDoorW.PrintMore
set_option linter.unusedVariables false
set_option linter.unusedSimpArgs false

abbrev Fr := S29
def frB (x : Fr) : List UInt8 := bytesL x.f0 x.f1 x.f2
def frR (x : Fr) : Bool := rightB x.f0 x.f1 x.f2
theorem frB_length (x : Fr) : (frB x).length = x.f2.size + 8 := bytesL_length _ _ _
theorem split_nil (M : Nat) : splitR M (toBA []) = ([], toBA [], 0) := by
  rw [splitR_eq]
  have e : takeL M (toBA []).data.toList = errM := rfl
  rw [e]; rfl
theorem split_cons {M : Nat} {x : Fr} (hr : frR x = true) (hM : x.f2.size + 8 ≤ M) (t : List UInt8) : splitR M (toBA (frB x ++ t)) = (x :: (splitR M (toBA t)).1, (splitR M (toBA t)).2) := by
  rw [splitR_eq, toBA_list]
  have := take_bytes hr hM t
  rw [show frB x ++ t = bytesL x.f0 x.f1 x.f2 ++ t from rfl, this, if_pos rfl]
  rfl
theorem head_app {l t : List UInt8} (h : 0 < l.length) : (l ++ t).headD 1 = l.headD 1 := by
  cases l with
  | nil => simp at h
  | cons b r => rfl
theorem part_app {l t : List UInt8} (i n : Nat) (h : i + n ≤ l.length) : ((l ++ t).drop i).take n = (l.drop i).take n := by
  rw [List.drop_append_of_le_length (by omega), List.take_append_of_le_length (by rw [List.length_drop]; omega)]
theorem one_app {l t : List UInt8} (i : Nat) (h : i < l.length) : ((l ++ t).drop i).headD 0 = (l.drop i).headD 0 := by
  rw [headD_drop _ _ (by rw [List.length_append]; omega), headD_drop _ _ h, List.getElem_append_left h]
/-- What is bad stays bad, whatever comes behind it. -/
theorem bad_app {M : Nat} {l : List UInt8} (h : takeL M l = errF) (t : List UInt8) : takeL M (l ++ t) = errF := by
  have ne : errF ≠ errM := by decide
  unfold takeL at h
  split at h
  · rename_i hk
    have hl : 0 < l.length := by
      cases l with
      | nil => exact absurd hk (by decide)
      | cons b r => simp
    unfold takeL
    rw [head_app hl, if_pos hk]
  split at h
  · exact absurd h.symm ne
  rename_i hk h7
  have q1 := head_app (l := l) (t := t) (by omega)
  have q2 := part_app (l := l) (t := t) 1 2 (by omega)
  have q4 := part_app (l := l) (t := t) 3 4 (by omega)
  have hlen : (l ++ t).length = l.length + t.length := List.length_append
  split at h
  · rename_i hm
    unfold takeL
    rw [q1, q4, if_neg hk, if_neg (by omega), if_pos hm]
  split at h
  · exact absurd h.symm ne
  rename_i hm hn
  unfold takeL
  rw [q1, q2, q4, part_app 7 _ (by omega), one_app _ (by omega), if_neg hk, if_neg (by omega), if_neg hm, if_neg (by omega)]
  split at h
  · rename_i hc
    exact absurd (congrArg (fun x : Took => x.2.2.2.2) h) (show ¬ (0 : Int) = 6 by decide)
  · rename_i hc
    rw [if_neg hc]
theorem took_frame {M : Nat} {l : List UInt8} (h : (takeL M l).2.2.2.2 = 0) : frR (toF (takeL M l)) = true ∧ frB (toF (takeL M l)) ++ (takeL M l).2.2.2.1.data.toList = l ∧ (toF (takeL M l)).f2.size + 8 ≤ M := take_ok h
/-- Bytes in two pieces. -/
theorem split_two (M : Nat) (hM : 4096 ≤ M) (t : List UInt8) : ∀ (n : Nat) (p : ByteArray), p.size ≤ n →
    ((splitR M p).2.2 = 0 → splitR M (toBA (p.data.toList ++ t)) = ((splitR M p).1 ++ (splitR M (toBA ((splitR M p).2.1.data.toList ++ t))).1, (splitR M (toBA ((splitR M p).2.1.data.toList ++ t))).2)) ∧
    ((splitR M p).2.2 ≠ 0 → splitR M (toBA (p.data.toList ++ t)) = splitR M p) ∧ (splitR M p).2.1.size ≤ p.size ∧ (splitR M p).1.length ≤ p.size := by
  intro n
  induction n with
  | zero =>
    intro p hp
    obtain rfl : p = toBA [] := eq_of_list (by rw [toBA_list]; exact List.length_eq_zero_iff.1 (by rw [size_list]; omega))
    rw [split_nil]
    exact ⟨fun _ => by simp [toBA_list], fun h => absurd rfl h, Nat.le_refl _, Nat.le_refl _⟩
  | succ n ih =>
    intro p hp
    by_cases e : (takeL M p.data.toList).2.2.2.2 = 0
    · obtain ⟨hr, hb, hs⟩ := took_frame e
      have hls := take_less e
      obtain ⟨i1, i2, i3, i4⟩ := ih (takeL M p.data.toList).2.2.2.1 (by omega)
      have hp1 : splitR M p = (toF (takeL M p.data.toList) :: (splitR M (takeL M p.data.toList).2.2.2.1).1, (splitR M (takeL M p.data.toList).2.2.2.1).2) := by rw [splitR_eq, if_pos e]
      have hp2 : splitR M (toBA (p.data.toList ++ t)) = (toF (takeL M p.data.toList) :: (splitR M (toBA ((takeL M p.data.toList).2.2.2.1.data.toList ++ t))).1, (splitR M (toBA ((takeL M p.data.toList).2.2.2.1.data.toList ++ t))).2) := by
        rw [← split_cons hr hs, ← List.append_assoc, hb]
      rw [hp2, hp1]
      refine ⟨fun h => ?_, fun h => ?_, by simp only; omega, by simp only [List.length_cons]; omega⟩
      · rw [i1 h]; rfl
      · rw [i2 h]
    · rcases take_bad hM e with h | ⟨h, _⟩
      · have hp1 : splitR M p = ([], ⟨#[]⟩, 6) := by rw [splitR_eq, h]; rfl
        have hp2 : splitR M (toBA (p.data.toList ++ t)) = ([], ⟨#[]⟩, 6) := by rw [splitR_eq, toBA_list, bad_app h]; rfl
        rw [hp1, hp2]
        exact ⟨fun h => absurd h (by decide), fun _ => rfl, Nat.zero_le _, Nat.zero_le _⟩
      · have hp1 : splitR M p = ([], p, 0) := by rw [splitR_eq, h]; rfl
        rw [hp1]
        exact ⟨fun _ => rfl, fun h => absurd rfl h, Nat.le_refl _, Nat.zero_le _⟩
theorem split_size (M : Nat) (p : ByteArray) : (splitR M p).2.1.size ≤ p.size := by
  have : ∀ (n : Nat) (p : ByteArray), p.size ≤ n → (splitR M p).2.1.size ≤ p.size := by
    intro n
    induction n with
    | zero =>
      intro p hp
      obtain rfl : p = toBA [] := eq_of_list (by rw [toBA_list]; exact List.length_eq_zero_iff.1 (by rw [size_list]; omega))
      rw [split_nil]; exact Nat.le_refl _
    | succ n ih =>
      intro p hp
      rw [splitR_eq]
      split
      · rename_i e
        have := take_less e
        have := ih (takeL M p.data.toList).2.2.2.1 (by omega)
        simp only; omega
      · split
        · exact Nat.le_refl _
        · exact Nat.zero_le _
  exact this p.size p (Nat.le_refl _)
/-! ### the same rows -/
theorem rd_get (l : List Fr) (i : Nat) (h : i < l.length) : rd_T29 l (i : Int) = l[i] := by
  unfold rd_T29
  simp [List.getD, h]
theorem same_loop (l : List Fr) (d : Nat) : ∀ (k i : Nat), i + d = l.length → d < k → l.length < 4611686018427387904 → interchangeref04_Same.l0 k l l (i : Int) = some true := by
  induction d with
  | zero =>
    intro k i h hk hl
    obtain ⟨k, rfl⟩ : ∃ j, k = j + 1 := ⟨k - 1, by omega⟩
    simp only [interchangeref04_Same.l0]
    rw [if_neg (by omega)]
  | succ d ih =>
    intro k i h hk hl
    obtain ⟨k, rfl⟩ : ∃ j, k = j + 1 := ⟨k - 1, by omega⟩
    simp only [interchangeref04_Same.l0]
    rw [if_pos (by omega), if_pos (by omega), if_pos (by omega), w_succ (by omega)]
    simp only [BEq.rfl, Bool.not_true, Bool.or_self, Bool.false_eq_true, if_false]
    exact ih k (i + 1) (by omega) (by omega) hl
theorem same_k {k : Nat} (l : List Fr) (hk : l.length < k) (hl : l.length < 4611686018427387904) : interchangeref04_Same.f k l l = some true := by
  unfold interchangeref04_Same.f
  rw [if_pos rfl]
  exact same_loop l l.length k 0 (by omega) hk hl
theorem fsplit_f (s : ByteArray) (hz : s.size ≤ 4294967296) (m : Int) : frame_Split.f s m = some (splitR (mostN m) s) := by
  unfold frame_Split.f; rw [if_pos hz]
end Go.Proofs.YtdalcbhnnfabhaaDoor.F
namespace Go.Proofs.YtdalcbhnnfabhaaDoor.F
open Go.RowKit Go.Proofs.YtdalcbhnnfabhaaDoorW.PrintWords Go.Proofs.YtdalcbhnnfabhaaDoorW.PrintLast Go.Proofs.YtdalcbhnnfabhaaDoorW.PrintMore
set_option linter.unusedVariables false
set_option linter.unusedSimpArgs false
theorem shown_k {k : Nat} (hk : 12 ≤ k) : interchangelaw04_shown.f k = some true := by
  unfold interchangelaw04_shown.f
  rw [bytes_k hk]
  decide +kernel
end Go.Proofs.YtdalcbhnnfabhaaDoor.F
namespace Go.Proofs.YtdalcbhnnfabhaaDoor.F
open Go.RowKit Go.Proofs.YtdalcbhnnfabhaaDoorW.PrintWords Go.Proofs.YtdalcbhnnfabhaaDoorW.PrintLast Go.Proofs.YtdalcbhnnfabhaaDoorW.PrintMore
set_option linter.unusedVariables false
set_option linter.unusedSimpArgs false

theorem rput_loop (d : Nat) : ∀ (k i : Nat) (n : Int) (v : Nat) (l : List UInt8), n = i + d → n ≤ 8 → v < 18446744073709551616 → l.length = i → d < k →
    interchangeref01_Put.l0 k n v (toBA l) i = some (if v < 256 ^ d then (toBA (be d v ++ l), 0) else (⟨#[]⟩, 4)) := by
  induction d with
  | zero =>
    intro k i n v l hn _ _ _ hk
    obtain ⟨k, rfl⟩ : ∃ m, k = m + 1 := ⟨k - 1, by omega⟩
    simp only [interchangeref01_Put.l0]
    rw [if_neg (by omega)]
    by_cases hv : (v : Int) > 0
    · rw [if_pos hv, if_neg (by simp; omega)]
    · rw [if_neg hv, if_pos (by simp; omega)]; rfl
  | succ d ih =>
    intro k i n v l hn h8 hv hl hk
    obtain ⟨k, rfl⟩ : ∃ m, k = m + 1 := ⟨k - 1, by omega⟩
    simp only [interchangeref01_Put.l0, Option.bind_some]
    rw [if_pos (by omega), strOfNums_toBA, toBA_append, if_pos (by rw [toBA_size, toBA_size]; simp; omega)]
    have e1 : IntKind.u64.wrap (Int.tdiv (v : Int) 256) = ((v / 256 : Nat) : Int) := by
      rw [Int.tdiv_eq_ediv_of_nonneg (by omega), wrapU (by omega) (by omega)]; omega
    have e2 : (Int.tmod (v : Int) 256 % 256).toNat = v % 256 := by
      rw [Int.tmod_eq_emod_of_nonneg (by omega)]; omega
    have e3 : wrap64 ((i : Int) + 1) = ((i + 1 : Nat) : Int) := by rw [wrap64_of (by omega) (by omega)]; omega
    rw [e1, e3]
    simp only [List.map_cons, List.map_nil, e2]
    rw [ih k (i + 1) n (v / 256) _ (by omega) h8 (by omega) (by simp; omega) (by omega)]
    have hp : v / 256 < 256 ^ d ↔ v < 256 ^ (d + 1) := by
      rw [Nat.pow_succ, Nat.div_lt_iff_lt_mul (by decide)]
    by_cases hq : v < 256 ^ (d + 1)
    · rw [if_pos hq, if_pos (hp.2 hq)]
      simp [be]
    · rw [if_neg hq, if_neg (fun h => hq (hp.1 h))]

theorem rput_flag (k : Nat) (a0 a1 : Int) : interchangeref01_Put.f k a0 a1 = interchangeref01_Put.j0 k a0 a1 (decide (¬ isW a0)) := by
  unfold interchangeref01_Put.f isW
  by_cases h1 : a0 = 1
  · rw [if_pos h1]; simp [h1]
  by_cases h2 : a0 = 2
  · rw [if_neg h1, if_pos h2]; simp [h2]
  by_cases h4 : a0 = 4
  · rw [if_neg h1, if_neg h2, if_pos h4]; simp [h4]
  rw [if_neg h1, if_neg h2, if_neg h4]
  by_cases h8 : a0 = 8
  · simp [h8]
  · have : (a0 != 8) = true := by simp [h8]
    rw [this]
    simp [h1, h2, h4, h8]
theorem rput_at (a0 a1 : Int) (h0 : 0 ≤ a1) (h1 : a1 < 18446744073709551616) : interchangeref01_Put.f 12 a0 a1 = some (putR a0 a1) := by
  rw [rput_flag]
  unfold putR
  simp only [interchangeref01_Put.j0]
  obtain ⟨v, rfl⟩ := Int.eq_ofNat_of_zero_le h0
  by_cases hw : isW a0
  · obtain ⟨m, rfl⟩ : ∃ m : Nat, a0 = m := ⟨a0.toNat, by rcases hw with h | h | h | h <;> omega⟩
    have hm : m ≤ 8 := by rcases hw with h | h | h | h <;> omega
    rw [if_pos hw, if_neg (by simp [hw]), toBA_nil]
    have L := rput_loop m 11 0 m v [] (by omega) (by omega) (by omega) rfl (by omega)
    rw [List.append_nil] at L
    rw [Int.toNat_natCast, Int.toNat_natCast]
    refine L.trans ?_
    by_cases hv : v < 256 ^ m
    · rw [if_pos hv, if_pos (by have : ((v : Nat) : Int) < ((256 ^ m : Nat) : Int) := by omega
                                simpa using this)]
    · rw [if_neg hv, if_neg (fun h => hv (by have : ((v : Nat) : Int) < ((256 ^ m : Nat) : Int) := by simpa using h
                                             omega))]
      rfl
  · rw [if_neg hw, if_pos (by simp [hw])]
theorem rput_ev (a0 a1 : Int) (h0 : 0 ≤ a1) (h1 : a1 < 18446744073709551616) : Ev (fun k => interchangeref01_Put.f k a0 a1) (putR a0 a1) := Ev.of (interchangeref01_Put.mono a0 a1) (rput_at a0 a1 h0 h1)
theorem rput_k {k : Nat} (hk : 12 ≤ k) (a0 a1 : Int) (h0 : 0 ≤ a1) (h1 : a1 < 18446744073709551616) : interchangeref01_Put.f k a0 a1 = some (putR a0 a1) := at_rounds (interchangeref01_Put.mono a0 a1) hk (rput_at a0 a1 h0 h1)
end Go.Proofs.YtdalcbhnnfabhaaDoor.F
namespace Go.Proofs.YtdalcbhnnfabhaaDoor.F
open Go.RowKit Go.Proofs.YtdalcbhnnfabhaaDoorW.PrintWords Go.Proofs.YtdalcbhnnfabhaaDoorW.PrintLast Go.Proofs.YtdalcbhnnfabhaaDoorW.PrintMore
set_option linter.unusedVariables false
set_option linter.unusedSimpArgs false
theorem rright_j {k : Nat} (hk : 1 ≤ k) (x : Bool) (ty ch : Int) (d : ByteArray) : interchangeref04_Right.j0 k x ty ch d = some (!x && (if ty = 8 then (decide (d.size = 0) && decide (ch = 0)) else (decide (ty ≠ 3) || decide (d.size ≠ 0)))) := by
  obtain ⟨k, rfl⟩ : ∃ j, k = j + 1 := ⟨k - 1, by omega⟩
  simp only [interchangeref04_Right.j0]
  have e : decide ((d.size : Int) > 0) = decide (d.size ≠ 0) := by rw [Bool.eq_iff_iff, decide_eq_true_iff, decide_eq_true_iff]; omega
  have e2 : ((d.size : Int) = 0) = (d.size = 0) := by simp
  rw [e]
  simp only [e2]
  cases x <;> simp only [if_true, if_false, reduceCtorEq, Bool.not_true, Bool.not_false, Bool.true_and, Bool.false_and]
  by_cases h8 : ty = 8
  · by_cases h0 : d.size = 0
    · by_cases hc : ch = 0 <;> simp [h8, h0, hc]
    · simp [h8, h0]
  · by_cases h3 : ty = 3 <;> simp [h8, h3]
theorem rright_k {k : Nat} (hk : 1 ≤ k) (ty ch : Int) (d : ByteArray) : interchangeref04_Right.f k ty ch d = some (rightB ty ch d) := by
  unfold interchangeref04_Right.f
  simp only [rright_j hk]
  unfold rightB kindB
  have e : decide ((d.size : Int) > 131072) = !decide (d.size ≤ 131072) := by rw [Bool.eq_iff_iff, decide_eq_true_iff, Bool.not_eq_true', decide_eq_false_iff_not]; omega
  rw [e]
  by_cases h1 : ty = 1
  · subst h1
    by_cases hc : ch < 0
    · have : ¬ 0 ≤ ch := by omega
      simp [hc, this]
    · by_cases hd : ch > 65535
      · have : ¬ ch ≤ 65535 := by omega
        simp [hc, hd, this]
      · have t1 : 0 ≤ ch := by omega
        have t2 : ch ≤ 65535 := by omega
        simp [hc, hd, t1, t2]
  by_cases h2 : ty = 2
  · subst h2
    by_cases hc : ch < 0
    · have : ¬ 0 ≤ ch := by omega
      simp [hc, this]
    · by_cases hd : ch > 65535
      · have : ¬ ch ≤ 65535 := by omega
        simp [hc, hd, this]
      · have t1 : 0 ≤ ch := by omega
        have t2 : ch ≤ 65535 := by omega
        simp [hc, hd, t1, t2]
  by_cases h3 : ty = 3
  · subst h3
    by_cases hc : ch < 0
    · have : ¬ 0 ≤ ch := by omega
      simp [hc, this]
    · by_cases hd : ch > 65535
      · have : ¬ ch ≤ 65535 := by omega
        simp [hc, hd, this]
      · have t1 : 0 ≤ ch := by omega
        have t2 : ch ≤ 65535 := by omega
        simp [hc, hd, t1, t2]
  by_cases h8 : ty = 8
  · subst h8
    by_cases hc : ch < 0
    · have : ¬ 0 ≤ ch := by omega
      simp [hc, this]
    · by_cases hd : ch > 65535
      · have : ¬ ch ≤ 65535 := by omega
        simp [hc, hd, this]
      · have t1 : 0 ≤ ch := by omega
        have t2 : ch ≤ 65535 := by omega
        simp [hc, hd, t1, t2]
  simp [h1, h2, h3, h8]
theorem rbytes_k {k : Nat} (hk : 12 ≤ k) (ty ch : Int) (d : ByteArray) : interchangeref04_Bytes.f k ty ch d = some (bytesR ty ch d) := by
  unfold interchangeref04_Bytes.f bytesR
  rw [rright_k (by omega), Option.bind_some]
  by_cases h : rightB ty ch d = true
  · rw [if_pos h, if_pos h]
    have hs := right_size h
    obtain ⟨c0, c1⟩ := right_chan h
    have ht := kind_cases (right_kind h)
    have t0 : 0 ≤ ty ∧ ty < 256 := by omega
    rw [wrapU c0 (by omega), wrapU (show (0 : Int) ≤ (d.size : Int) by omega) (by omega),
      rput_k hk _ _ c0 (by omega), rput_k hk _ _ (by omega) (by omega), Option.bind_some, Option.bind_some,
      putR_of (n := 2) (by decide) (by show ch < 256 ^ 2; omega), putR_of (n := 4) (by decide) (by show (d.size : Int) < 256 ^ 4; omega)]
    simp only [Option.bind_some]
    have e2 : (2 : Int).toNat = 2 := rfl
    have e4 : (4 : Int).toNat = 4 := rfl
    have ed : ((d.size : Int)).toNat = d.size := by omega
    have eo : strOfNums [ty % 256] = toBA (be 1 ty.toNat) := by
      have em : ty % 256 = ty := by omega
      rw [em, strOfNums_toBA]
      show toBA [UInt8.ofNat ty.toNat] = toBA ([] ++ [UInt8.ofNat (ty.toNat % 256)])
      rw [show ty.toNat % 256 = ty.toNat by omega]; rfl
    have el : (⟨#[206]⟩ : ByteArray) = toBA [206] := rfl
    rw [e2, e4, ed, eo, el]
    have s1 := be_length 1 ty.toNat
    have s2 := be_length 2 ch.toNat
    have s4 := be_length 4 d.size
    rw [toBA_append, toBA_append, append_toBA, toBA_append]
    simp only [toBA_size, List.length_append, s1, s2, s4, size_list, List.length_cons, List.length_nil]
    rw [if_pos (by omega), if_pos (by omega), if_pos (by omega), if_pos (by omega)]
    rfl
  · rw [if_neg h, if_neg h]
end Go.Proofs.YtdalcbhnnfabhaaDoor.F
namespace Go.Proofs.YtdalcbhnnfabhaaDoor.F
open Go.RowKit Go.Proofs.YtdalcbhnnfabhaaDoorW.PrintWords Go.Proofs.YtdalcbhnnfabhaaDoorW.PrintLast Go.Proofs.YtdalcbhnnfabhaaDoorW.PrintMore
set_option linter.unusedVariables false
set_option linter.unusedSimpArgs false

theorem rtake_loop (s : ByteArray) (n : Nat) (hn : n ≤ 8) (hs : n ≤ s.size) (d : Nat) : ∀ (k i : Nat), n = i + d → d < k →
    interchangeref01_Take.l0 k s n ((beNum (s.data.toList.take i) : Nat) : Int) i = some (((beNum (s.data.toList.take n) : Nat) : Int), s.extract n s.size, 0) := by
  induction d with
  | zero =>
    intro k i hi hk
    obtain ⟨k, rfl⟩ : ∃ m, k = m + 1 := ⟨k - 1, by omega⟩
    obtain rfl : n = i := by omega
    simp only [interchangeref01_Take.l0]
    rw [if_neg (by omega), if_pos (by omega), if_pos (by omega)]
    simp
  | succ d ih =>
    intro k i hi hk
    obtain ⟨k, rfl⟩ : ∃ m, k = m + 1 := ⟨k - 1, by omega⟩
    simp only [interchangeref01_Take.l0]
    rw [if_pos (by omega), if_pos (by omega), if_pos (by omega), bt_get s i (by omega)]
    have hx : beNum (s.data.toList.take i) < 72057594037927936 := by
      have h1 := beNum_lt (s.data.toList.take i)
      have h2 : (s.data.toList.take i).length ≤ 7 := by rw [List.length_take]; omega
      have h3 : 256 ^ (s.data.toList.take i).length ≤ 256 ^ 7 := Nat.pow_le_pow_right (by decide) h2
      omega
    have hb := (s.data.toList[i]'(by simp only [Array.length_toList]; show i < s.size; omega)).toNat_lt
    rw [wrapU (x := 256 * _) (by omega) (by omega), wrapU (x := ((s.data.toList[i]'(by simp only [Array.length_toList]; show i < s.size; omega)).toNat : Int)) (by omega) (by omega), wrapU (by omega) (by omega)]
    have e3 : wrap64 ((i : Int) + 1) = ((i + 1 : Nat) : Int) := by rw [wrap64_of (by omega) (by omega)]; omega
    have e4 : (256 * ((beNum (s.data.toList.take i) : Nat) : Int) + ((s.data.toList[i]'(by simp only [Array.length_toList]; show i < s.size; omega)).toNat : Int)) = ((beNum (s.data.toList.take (i + 1)) : Nat) : Int) := by
      rw [take_succ_num s i (by omega)]; omega
    rw [e3, e4]
    exact ih k (i + 1) (by omega) (by omega)
theorem rtake_flag (k : Nat) (s : ByteArray) (a0 : Int) : interchangeref01_Take.f k s a0 = interchangeref01_Take.j0 k s a0 (decide (¬ isW a0)) := by
  unfold interchangeref01_Take.f isW
  by_cases h1 : a0 = 1
  · rw [if_pos h1]; simp [h1]
  by_cases h2 : a0 = 2
  · rw [if_neg h1, if_pos h2]; simp [h2]
  by_cases h4 : a0 = 4
  · rw [if_neg h1, if_neg h2, if_pos h4]; simp [h4]
  rw [if_neg h1, if_neg h2, if_neg h4]
  by_cases h8 : a0 = 8
  · simp [h8]
  · have : (a0 != 8) = true := by simp [h8]
    rw [this]
    simp [h1, h2, h4, h8]
theorem rtake_at (s : ByteArray) (n : Int) : interchangeref01_Take.f 11 s n = some (takeR s n) := by
  rw [rtake_flag]
  unfold takeR
  simp only [interchangeref01_Take.j0]
  by_cases hw : isW n
  · rw [if_pos hw, if_neg (by simp [hw])]
    by_cases hl : (s.size : Int) < n
    · rw [if_pos hl, if_pos hl]
    · rw [if_neg hl, if_neg hl]
      obtain ⟨m, rfl⟩ : ∃ m : Nat, n = m := ⟨n.toNat, by rcases hw with h | h | h | h <;> omega⟩
      have hm : m ≤ 8 := by rcases hw with h | h | h | h <;> omega
      have := rtake_loop s m hm (by omega) m 10 0 (by omega) (by omega)
      simpa [beNum] using this
  · rw [if_neg hw, if_pos (by simp [hw])]
theorem rtake_ev (s : ByteArray) (n : Int) : Ev (fun k => interchangeref01_Take.f k s n) (takeR s n) := Ev.of (interchangeref01_Take.mono s n) (rtake_at s n)
theorem rtake_k {k : Nat} (hk : 12 ≤ k) (s : ByteArray) (n : Int) : interchangeref01_Take.f k s n = some (takeR s n) := at_rounds (interchangeref01_Take.mono s n) (Nat.le_trans (by decide) hk) (rtake_at s n)
end Go.Proofs.YtdalcbhnnfabhaaDoor.F
namespace Go.Proofs.YtdalcbhnnfabhaaDoor.F
open Go.RowKit Go.Proofs.YtdalcbhnnfabhaaDoorW.PrintWords Go.Proofs.YtdalcbhnnfabhaaDoorW.PrintLast Go.Proofs.YtdalcbhnnfabhaaDoorW.PrintMore
set_option linter.unusedVariables false
set_option linter.unusedSimpArgs false
/-- How a side begins. -/
def headL : List UInt8 := [65, 77, 81, 80, 0, 0, 9, 1]
theorem prefix_f (s t : ByteArray) : strings_HasPrefix.f s t = some (decide (t.data.toList <+: s.data.toList)) := by
  unfold strings_HasPrefix.f stringslite_HasPrefix.f
  by_cases h : t.size ≤ s.size
  · rw [if_pos (by omega), if_pos (by omega), if_pos (by omega), Option.bind_some, Int.toNat_natCast, toList_data, toList_data, extract_take, toBA_list]
    congr 1
    rw [Bool.eq_iff_iff, beq_iff_eq, decide_eq_true_iff, List.prefix_iff_eq_take, size_list]
    exact eq_comm
  · rw [if_neg (by omega), Option.bind_some]
    congr 1
    symm
    rw [decide_eq_false_iff_not]
    intro hp
    have := hp.length_le
    rw [size_list, size_list] at this
    exact h this
def beginCode (l : List UInt8) : Int := if headL <+: l then 0 else if l <+: headL then 2 else 3
def beginRest (l : List UInt8) : ByteArray := if headL <+: l then toBA (l.drop 8) else ⟨#[]⟩
theorem begins_f (s : ByteArray) : frame_Begins.f s = some (beginRest s.data.toList, beginCode s.data.toList) := by
  unfold frame_Begins.f
  have hh : frame_Header.f = some (toBA headL) := rfl
  rw [hh, Option.bind_some, prefix_f, Option.bind_some, toBA_list]
  unfold beginCode beginRest
  by_cases h : headL <+: s.data.toList
  · have hl := h.length_le
    rw [size_list] at hl
    have e8 : (toBA headL).size = 8 := rfl
    have e8' : headL.length = 8 := rfl
    rw [decide_eq_true h, if_pos rfl, e8, if_pos (by decide), if_pos (by omega), if_pos h, if_pos h, Int.toNat_natCast, extract_drop]
  · rw [decide_eq_false h, if_neg (by decide), prefix_f, Option.bind_some, toBA_list, if_neg h, if_neg h]
    by_cases h2 : s.data.toList <+: headL
    · rw [decide_eq_true h2, if_pos rfl, if_pos h2]
    · rw [decide_eq_false h2, if_neg (by decide), if_neg h2]
theorem pre_take {a b : List UInt8} (h : a.take a.length = b.take a.length) : a <+: b := by
  rw [List.take_length] at h
  rw [List.prefix_iff_eq_take]; exact h
theorem not_pre {a b : List UInt8} {i : Nat} (ha : i < a.length) (hb : i < b.length) (h : a[i] ≠ b[i]) : ¬ a <+: b := by
  intro hp
  exact h (hp.getElem ha)
end Go.Proofs.YtdalcbhnnfabhaaDoor.F
namespace Go.Proofs.YtdalcbhnnfabhaaDoor.F
open Go.RowKit Go.Proofs.YtdalcbhnnfabhaaDoorW.PrintWords Go.Proofs.YtdalcbhnnfabhaaDoorW.PrintLast Go.Proofs.YtdalcbhnnfabhaaDoorW.PrintMore
set_option linter.unusedVariables false
set_option linter.unusedSimpArgs false
theorem ext_mid (s : ByteArray) (a b : Nat) : s.extract a b = toBA ((s.data.toList.drop a).take (b - a)) := eq_of_list (by rw [Lib.extract_data, toBA_list])
/-! ### the reference's Take -/
set_option maxHeartbeats 2000000 in
theorem rtake_j2 {k : Nat} (hk : 14 ≤ k) (s : ByteArray) (hz : s.size ≤ 4611686018427387904) (m : Int) : interchangeref04_Take.j2 k s (mostN m : Int) (!kindB ((s.data.toList.headD 1).toNat : Int)) = some (takeL (mostN m) s.data.toList) := by
  obtain ⟨k, rfl⟩ : ∃ j, k = j + 1 := ⟨k - 1, by omega⟩
  have lo := most_lo m
  have hi := most_hi m
  generalize mostN m = M at lo hi
  unfold takeL
  simp only [interchangeref04_Take.j2]
  by_cases hkd : kindB ((s.data.toList.headD 1).toNat : Int) = false
  · rw [if_pos hkd, hkd]; rfl
  rw [if_neg hkd]
  rw [show kindB ((s.data.toList.headD 1).toNat : Int) = true from by simpa using hkd, Bool.not_true, if_neg (by decide), size_list]
  by_cases h7 : s.size < 7
  · rw [if_pos (by omega), if_pos h7]; rfl
  rw [if_neg (by omega), if_neg h7]
  have e2 := takeR_two (s := toBA ((s.data.toList.drop 1).take 2)) (n := 2) (by decide) (by rw [toBA_size, List.length_take, List.length_drop, size_list]; omega)
  rw [show (((2 : Nat)) : Int) = 2 from rfl, toBA_list, List.take_take, Nat.min_self] at e2
  have e4 := takeR_two (s := toBA ((s.data.toList.drop 3).take 4)) (n := 4) (by decide) (by rw [toBA_size, List.length_take, List.length_drop, size_list]; omega)
  rw [show (((4 : Nat)) : Int) = 4 from rfl, toBA_list, List.take_take, Nat.min_self] at e4
  rw [if_pos (by decide), if_pos (by omega), ext_mid, rtake_k (by omega), e2, Option.bind_some]
  simp only []
  rw [if_pos (by decide), if_pos (by omega), ext_mid, rtake_k (by omega), e4, Option.bind_some]
  simp only []
  have hn := be_small (s.data.toList.drop 3) 4 (by decide)
  generalize hN : beNum ((s.data.toList.drop 3).take 4) = n at hn
  have hc := two_small (s.data.toList.drop 1)
  generalize hC : beNum ((s.data.toList.drop 1).take 2) = c at hc
  have w1 : wrap64 ((n : Nat) : Int) = ((n : Nat) : Int) := wrap64_of (by omega) (by omega)
  have w2 : wrap64 ((n : Int) + 8) = ((n + 8 : Nat) : Int) := by rw [wrap64_of (by omega) (by omega)]; omega
  have w3 : wrap64 (7 + (n : Int)) = ((7 + n : Nat) : Int) := by rw [wrap64_of (by omega) (by omega)]; omega
  have w4 : wrap64 (8 + (n : Int)) = ((8 + n : Nat) : Int) := by rw [wrap64_of (by omega) (by omega)]; omega
  have w5 : wrap64 ((c : Nat) : Int) = ((c : Nat) : Int) := wrap64_of (by omega) (by omega)
  have hwb := byte_lt (s.data.toList.headD 1)
  have w6 : wrap64 (((s.data.toList.headD 1).toNat : Nat) : Int) = (((s.data.toList.headD 1).toNat : Nat) : Int) := wrap64_of (by omega) (by omega)
  rw [w1, w2, w3, w4, w5]
  have W6 := Aside0.mk w6
  clear w1 w2 w3 w4 w5 w6 e2 e4
  by_cases hM : M < 8 + n
  · rw [if_pos (by omega), if_pos hM]; rfl
  rw [if_neg (by omega), if_neg hM]
  by_cases hl : s.size ≤ 7 + n
  · rw [if_pos (by omega), if_pos hl]; rfl
  have hb : (bt s ((7 + n : Nat) : Int) = 206) ↔ (s.data.toList.drop (7 + n)).headD 0 = 206 := by
    rw [bt_get _ (7 + n) (by omega), headD_drop _ _ (by rw [size_list]; omega), ← UInt8.toNat_inj]
    have e206 : (206 : UInt8).toNat = 206 := rfl
    rw [e206]
    omega
  have he : s.extract (8 + n) s.size = toBA (s.data.toList.drop (8 + n)) := extract_drop _ _
  have hd : s.extract 7 (7 + n) = toBA ((s.data.toList.drop 7).take n) := by rw [ext_mid]; congr 2; omega
  rw [if_neg (by omega), if_neg hl, if_pos (by omega), if_pos (by omega), if_pos (by omega), head_at s (by omega), W6.out, Int.toNat_natCast, Int.toNat_natCast, hd, he, rright_k (by omega), Option.bind_some, if_pos (by omega), if_pos (by omega)]
  by_cases h206 : (s.data.toList.drop (7 + n)).headD 0 = 206
  · rw [if_pos (hb.2 h206)]
    by_cases hr : rightB ((s.data.toList.headD 1).toNat : Int) (c : Int) (toBA ((s.data.toList.drop 7).take n)) = true
    · rw [if_pos hr, if_pos (by omega), if_pos (by omega), if_pos ⟨h206, hr⟩]
    · rw [if_neg hr, if_neg (fun h => hr h.2)]; rfl
  · rw [if_neg (fun h => h206 (hb.1 h)), if_neg (fun h => h206 h.1)]; rfl
theorem kind_flag (s : ByteArray) (h : 0 < s.size) : kindB (bt s 0) = (decide (bt s 0 = 1) || decide (bt s 0 = 2) || decide (bt s 0 = 3) || decide (bt s 0 = 8)) := rfl
theorem rtake_j1 {k : Nat} (hk : 15 ≤ k) (s : ByteArray) (hz : s.size ≤ 4611686018427387904) (m : Int) : interchangeref04_Take.j1 k s (mostN m : Int) = some (takeL (mostN m) s.data.toList) := by
  obtain ⟨k, rfl⟩ : ∃ j, k = j + 1 := ⟨k - 1, by omega⟩
  have hj := rtake_j2 (show 14 ≤ k by omega) s hz m
  simp only [interchangeref04_Take.j1]
  by_cases h0 : s.size = 0
  · have e : s.data.toList = [] := List.length_eq_zero_iff.1 (by rw [size_list]; exact h0)
    rw [if_neg (by omega)]
    rw [e] at hj ⊢
    exact hj
  · rw [if_pos (by omega), if_pos (by omega), head_at s (by omega)]
    generalize ((s.data.toList.headD 1).toNat : Int) = b at hj ⊢
    unfold kindB at hj
    by_cases h1 : b = 1
    · rw [if_pos h1]; simp only [h1] at hj; exact hj
    rw [if_neg h1]
    by_cases h2 : b = 2
    · rw [if_pos h2]; simp only [h2] at hj; exact hj
    rw [if_neg h2]
    by_cases h3 : b = 3
    · rw [if_pos h3]; simp only [h3] at hj; exact hj
    rw [if_neg h3]
    simp only [h1, h2, h3, decide_false, Bool.false_or] at hj
    rw [show (b != 8) = !decide (b = 8) from rfl]
    exact hj
theorem rftake_k {k : Nat} (hk : 17 ≤ k) (s : ByteArray) (hz : s.size ≤ 4611686018427387904) (m : Int) : interchangeref04_Take.f k s m = some (takeL (mostN m) s.data.toList) := by
  obtain ⟨k, rfl⟩ : ∃ j, k = j + 1 := ⟨k - 1, by omega⟩
  have hj := rtake_j1 (show 15 ≤ k by omega) s hz m
  unfold interchangeref04_Take.f
  simp only [interchangeref04_Take.j0]
  by_cases h : m < 4096
  · rw [if_pos h, if_neg (by decide)]
    have e : mostN m = 4096 := by unfold mostN; rw [if_pos h]
    rw [e] at hj ⊢; exact hj
  · rw [if_neg h]
    by_cases h2 : m > 131072
    · rw [if_pos h2]
      have e : mostN m = 131072 := by unfold mostN; rw [if_neg h, if_pos h2]
      rw [e] at hj ⊢; exact hj
    · rw [if_neg h2]
      have e : (mostN m : Int) = m := by unfold mostN; rw [if_neg h, if_neg h2]; omega
      rw [e] at hj; exact hj
/-! ### the reference's Split -/
theorem rsplit_loop (m : Int) : ∀ (n k : Nat) (s : ByteArray) (acc : List Fr), s.size ≤ n → n + 20 ≤ k → acc.length + s.size ≤ 4194304 → interchangeref04_Split.l0 k s m acc = some (acc ++ (splitR (mostN m) s).1, (splitR (mostN m) s).2.1, (splitR (mostN m) s).2.2) := by
  intro n
  induction n with
  | zero =>
    intro k s acc hs hk hb
    obtain ⟨k, rfl⟩ : ∃ j, k = j + 1 := ⟨k - 1, by omega⟩
    obtain rfl : s = toBA [] := eq_of_list (by rw [toBA_list]; exact List.length_eq_zero_iff.1 (by rw [size_list]; omega))
    simp only [interchangeref04_Split.l0]
    rw [rftake_k (by omega) _ (by omega), Option.bind_some, show takeL (mostN m) (toBA []).data.toList = errM from rfl, split_nil]
    simp [errM]
  | succ n ih =>
    intro k s acc hs hk hb
    obtain ⟨k, rfl⟩ : ∃ j, k = j + 1 := ⟨k - 1, by omega⟩
    simp only [interchangeref04_Split.l0]
    rw [rftake_k (by omega) _ (by omega), Option.bind_some, splitR_eq]
    by_cases e : (takeL (mostN m) s.data.toList).2.2.2.2 = 0
    · have hl := take_less e
      rw [if_neg (by rw [e]; decide), if_pos e, if_pos (by omega), if_pos e, ih k _ _ (by omega) (by omega) (by rw [List.length_append, List.length_singleton]; omega)]
      simp [toF]
    · rw [if_neg e]
      by_cases e2 : (takeL (mostN m) s.data.toList).2.2.2.2 = 2
      · simp only [if_neg e, if_pos e2, List.append_nil]
      · simp only [if_neg e, if_neg e2, List.append_nil]
/-! ### the reference's Begins -/
theorem rbegins_loop (s : ByteArray) (hz : s.size ≤ 140737488351232) (d : Nat) : ∀ (k i : Nat), i + d = 8 → d < k → i ≤ s.size → s.data.toList.take i = headL.take i →
    interchangeref04_Begins.l0 k s (i : Int) = some (beginRest s.data.toList, beginCode s.data.toList) := by
  have e8 : (⟨#[65, 77, 81, 80, 0, 0, 9, 1]⟩ : ByteArray).size = 8 := rfl
  have eh : (⟨#[65, 77, 81, 80, 0, 0, 9, 1]⟩ : ByteArray) = toBA headL := rfl
  have e8' : headL.length = 8 := rfl
  have e8'' : (toBA headL).size = 8 := rfl
  have sl := size_list s
  induction d with
  | zero =>
    intro k i hi hk hs ht
    obtain ⟨k, rfl⟩ : ∃ j, k = j + 1 := ⟨k - 1, by omega⟩
    obtain rfl : i = 8 := by omega
    have hp : headL <+: s.data.toList := pre_take (by rw [e8', ← ht])
    simp only [interchangeref04_Begins.l0, beginRest, beginCode]
    rw [if_neg (by omega), if_pos (by omega), if_pos hp, if_pos hp, extract_drop]
  | succ d ih =>
    intro k i hi hk hs ht
    obtain ⟨k, rfl⟩ : ∃ j, k = j + 1 := ⟨k - 1, by omega⟩
    simp only [interchangeref04_Begins.l0]
    rw [if_pos (by omega), eh]
    by_cases hlt : i < s.size
    · rw [if_neg (by omega), if_pos (by omega), if_pos (by omega), bt_get s i hlt, bt_get (toBA headL) i (by rw [e8'']; omega)]
      by_cases hb : s.data.toList[i]'(by omega) = headL[i]'(by omega)
      · rw [if_pos (by simp only [toBA_list, hb]), w_succ (by omega)]
        refine ih k (i + 1) (by omega) (by omega) (by omega) ?_
        rw [List.take_succ_eq_append_getElem (by omega), List.take_succ_eq_append_getElem (by omega), ht, hb]
      · rw [if_neg (by
          simp only [toBA_list]
          intro hh
          exact hb (UInt8.toNat_inj.1 (Int.ofNat.inj hh)))]
        have n1 := not_pre (a := headL) (b := s.data.toList) (i := i) (by omega) (by omega) (fun hh => hb hh.symm)
        unfold beginCode beginRest
        rw [if_neg n1, if_neg n1, if_neg (not_pre (by omega) (by omega) hb)]
    · obtain rfl : i = s.size := by omega
      have hp : s.data.toList <+: headL := pre_take (by rw [sl, ht])
      have hn : ¬ headL <+: s.data.toList := by
        intro hh
        have := hh.length_le
        omega
      unfold beginCode beginRest
      rw [if_pos (by omega), if_neg hn, if_neg hn, if_pos hp]
theorem frameTakes_pure (b0 : Int × Int × ByteArray) (b1 : ByteArray) (b2 : Int) (g0 : (Lit.int .i64 b0.1).wf = true ∧ (Lit.int .i64 b0.2.1).wf = true ∧ b0.2.2.size ≤ maxLen) (g1 : b1.size ≤ maxLen) (g2 : (Lit.int .i64 b2).wf = true)
    (hb : (fun a => (fun _ => 1) a.1 + (fun _ => 1) a.2.1 + (fun a => a.size + 1) a.2.2) b0 + (fun a => a.size + 1) b1 + (fun _ => 1) b2 ≤ 1048576) : ∃ k, interchangelaw04_FrameTakes.f k b0.1 b0.2.1 b0.2.2 b1 b2 = some true := by
  obtain ⟨ty, ch, d⟩ := b0
  have hz : 1 + 1 + (d.size + 1) + (b1.size + 1) + 1 ≤ 1048576 := hb
  simp only
  obtain ⟨k, hk⟩ : ∃ k : Nat, 2200000 ≤ k := ⟨2200000, Nat.le_refl _⟩
  refine ⟨k, ?_⟩
  have hrb : interchangeref04_Begins.f k b1 = some (beginRest b1.data.toList, beginCode b1.data.toList) := rbegins_loop b1 (by omega) 8 k 0 rfl (by omega) (by omega) rfl
  have hrs : interchangeref04_Split.f k b1 b2 = some (splitR (mostN b2) b1) := by
    unfold interchangeref04_Split.f
    rw [rsplit_loop b2 b1.size k b1 [] (Nat.le_refl _) (by omega) (by simp; omega), List.nil_append]
  obtain ⟨_, _, _, s4⟩ := split_two (mostN b2) (most_lo b2) [] _ b1 (Nat.le_refl _)
  unfold interchangelaw04_FrameTakes.f
  rw [shown_k (by omega), Option.bind_some, bytes_k (by omega), Option.bind_some, rbytes_k (by omega), Option.bind_some, ftake_k (by omega) b1 (by omega), Option.bind_some, rftake_k (by omega) b1 (by omega), Option.bind_some,
    fsplit_f b1 (by omega), Option.bind_some, hrs, Option.bind_some, begins_f, Option.bind_some, hrb, Option.bind_some, same_k _ (by omega) (by omega), Option.bind_some, right_k (by omega), rright_k (by omega)]
  clear hrb hrs s4
  generalize bytesR ty ch d = A
  generalize takeL (mostN b2) b1.data.toList = B
  generalize splitR (mostN b2) b1 = C
  generalize beginRest b1.data.toList = D
  generalize beginCode b1.data.toList = E
  simp
end Go.Proofs.YtdalcbhnnfabhaaDoor.F
namespace Go.Proofs.YtdalcbhnnfabhaaDoor.F
open Go.ChangeShapes Go.WideShapes Go.ChangeAt Go.RowKit Go.Proofs.YtdalcbhnnfabhaaDoorW.PrintWords Go.Proofs.YtdalcbhnnfabhaaDoorW.PrintLast
set_option linter.unusedVariables false
set_option linter.unusedSimpArgs false

set_option maxHeartbeats 2000000 in
theorem frameTakes_contract (H : Type) (enc : TypeId × Value → H) (W : World) (base : Nat) (args : Array Value) (ds gs : List (DataW H)) (before : List MemPlace)
    (hval0 : ∀ (j : Nat) t v, Tryd.f9.params[j]? = some t → args[j]? = some v → Value.okWide Tryd.prog W .any base t v)
    (hW : DataW.Whole enc Tryd.prog Tryd.f9.params.toList Rows.frameTakesSpec.vars false W args.toList ds gs before) (hL : laidMetH Tryd.prog Rows.frameTakesUptoRow.laid W)
    (hk : Rows.uptoSmall H (ds ++ gs) = true) :
    Calls Tryd.prog 9 args W fun e W' => ∃ v, e = .returned v ∧ Rows.frameTakesSpec.post enc Tryd.prog Tryd.f9 false true false false W args v W' := by
  have hW' := hW
  obtain ⟨p, q, hA0, hV, rfl, hfz, hnd⟩ := hW
  have hA : DataW.TrodAll enc Tryd.prog W 0 (fun _ => true) true Tryd.f9.params.toList args.toList ds p := hA0
  have hval : ∀ (j : Nat) t v, Tryd.f9.params[j]? = some t → args[j]? = some v → Value.okWide Tryd.prog W .any base t v := hval0
  rw [Tryd.params9] at hA hval
  obtain ⟨v0, vs0, d0, ds0, p0, q0, hargs, rfl, rfl, h0, r0⟩ := trodAll_cons hA
  obtain ⟨v1, vs1, d1, ds1, p1, q1, rfl, rfl, rfl, h1, r1⟩ := trodAll_cons r0
  obtain ⟨v2, vs2, d2, ds2, p2, q2, rfl, rfl, rfl, h2, r2⟩ := trodAll_cons r1
  obtain ⟨rfl, rfl, rfl⟩ := trodAll_nil r2
  obtain rfl : args = #[v0, v1, v2] := by cases args; simp_all
  obtain ⟨rfl, rfl⟩ := trodVars_none hV
  have hg := laid_of hL
  have k0 := h0
  have lt0 : ∀ x ∈ p0, x.block < W.heap.size := by obtain ⟨m, hm⟩ := k0; exact DataW.trod_lt m _ _ _ hm
  obtain ⟨fuel0, hf0⟩ := h0
  obtain ⟨b0, e0, g0, z0, u0⟩ := (opened_struct3 (n0 := 1) (n1 := 1) (n2 := 1) Tryd.underlying29 (by kernel_rfl) (by kernel_rfl) rfl (opened_int (k := .i64) Tryd.underlying3) (by kernel_rfl) rfl (opened_int (k := .i64) Tryd.underlying3) (by kernel_rfl) rfl (opened_string Tryd.underlying9)).out enc W fuel0 _ _ hf0
  obtain ⟨c0_0_0, c0_0_1, c0_0_2, eq0_0, e0_0_0, e0_0_1, e0_0_2⟩ := e0
  replace e0_0_0 : c0_0_0 = [.int .i64 b0.1] := e0_0_0
  subst e0_0_0
  replace e0_0_1 : c0_0_1 = [.int .i64 b0.2.1] := e0_0_1
  subst e0_0_1
  replace e0_0_2 : c0_0_2 = [.string b0.2.2] := e0_0_2
  subst e0_0_2
  (try subst eq0_0)
  have hvv0 := shape_struct Tryd.underlying29 (hval 0 29 v0 rfl rfl) eq0_0
  simp only [List.cons_append, List.nil_append] at hvv0
  subst hvv0
  have k1 := h1
  have lt1 : ∀ x ∈ p1, x.block < W.heap.size := by obtain ⟨m, hm⟩ := k1; exact DataW.trod_lt m _ _ _ hm
  obtain ⟨fuel1, hf1⟩ := h1
  obtain ⟨b1, e1, g1, z1, u1⟩ := (opened_string Tryd.underlying9).out enc W fuel1 _ _ hf1
  obtain rfl := shape_string Tryd.underlying9 (hval 1 9 v1 rfl rfl) e1
  have k2 := h2
  have lt2 : ∀ x ∈ p2, x.block < W.heap.size := by obtain ⟨m, hm⟩ := k2; exact DataW.trod_lt m _ _ _ hm
  obtain ⟨fuel2, hf2⟩ := h2
  obtain ⟨b2, e2, g2, z2, u2⟩ := (opened_int (k := .i64) Tryd.underlying3).out enc W fuel2 _ _ hf2
  obtain rfl := shape_int Tryd.underlying3 (hval 2 3 v2 rfl rfl) e2
  have hbulk : Rows.uptoBulk d0 + Rows.uptoBulk d1 + Rows.uptoBulk d2 ≤ 1048576 := by
    have := of_decide_eq_true hk
    simp only [List.append_nil, Rows.uptoBulkAll] at this
    omega
  have hbb : (fun a => (fun _ => 1) a.1 + (fun _ => 1) a.2.1 + (fun a => a.size + 1) a.2.2) b0 + (fun a => a.size + 1) b1 + (fun _ => 1) b2 ≤ 1048576 := by
    have y0 : (fun a => (fun _ => 1) a.1 + (fun _ => 1) a.2.1 + (fun a => a.size + 1) a.2.2) b0 ≤ Rows.uptoBulk d0 := u0
    have y1 : (fun a => a.size + 1) b1 ≤ Rows.uptoBulk d1 := u1
    have y2 : (fun _ => 1) b2 ≤ Rows.uptoBulk d2 := u2
    omega
  obtain ⟨k, hpure⟩ := frameTakes_pure b0 b1 b2 g0 g1 g2 hbb
  refine (interchangelaw04_FrameTakes.calls k b0.1 b0.2.1 b0.2.2 b1 b2 W hg  hpure).mono fun e W' ⟨he, bel⟩ => ?_
  subst he
  exact ⟨_, rfl, _, _, _, [], _, [], hW', trodAll_mk1 (shut_bool Tryd.underlying4 _), (trodAll_cons_mk (Below.trod laid_out (by kernel_rfl) (of_decide_eq_true (by kernel_rfl)) k0 bel lt0) (trodAll_cons_mk (Below.trod laid_out (by kernel_rfl) (of_decide_eq_true (by kernel_rfl)) k1 bel lt1) (trodAll_cons_mk (Below.trod laid_out (by kernel_rfl) (of_decide_eq_true (by kernel_rfl)) k2 bel lt2) trodAll_mk0))), rfl, bel.frame _, fun h => by cases h⟩

theorem frameTakes_reads (os : Os) {H : Type} (enc : TypeId × Value → H) : ∃ places, DataW.whole enc Tryd.prog ((laid_world os).forCall (fun _ _ => 0) ⟨#[], #[.agg #[.int .i64 0, .int .i64 0, .string ByteArray.empty], .string ByteArray.empty, .int .i64 0], []⟩).memory Tryd.f9.params.toList Rows.frameTakesSpec.vars false (#[.agg #[.int .i64 0, .int .i64 0, .string ByteArray.empty], .string ByteArray.empty, .int .i64 0] : Array Value).toList 8 = some ([.agg [.lit (.int .i64 0), .lit (.int .i64 0), .lit (.string [])], .lit (.string []), .lit (.int .i64 0)], [], places) :=
  ⟨[], by kernel_rfl⟩
theorem frameTakes_met (os : Os) : laidMet Tryd.prog Rows.frameTakesUptoRow.laid ((laid_world os).forCall (fun _ _ => 0) ⟨#[], #[.agg #[.int .i64 0, .int .i64 0, .string ByteArray.empty], .string ByteArray.empty, .int .i64 0], []⟩).memory :=
  laidMet_of_run' 8 (by kernel_rfl) (by kernel_rfl)
set_option maxRecDepth 100000 in
theorem frameTakes_lifted (os : Os) (started : os.Started) (H : Type) (enc : TypeId × Value → H) (F : Stop.Interp) :
    ReturnsInHanded {} Tryd.checked os 9 .any ((Rows.OpenSpec.upto Rows.frameTakesSpec).preRow enc Tryd.prog Tryd.f9 Rows.frameTakesUptoRow.domain false Rows.frameTakesUptoRow.laid) (((Rows.OpenSpec.upto Rows.frameTakesSpec).at F).post enc Tryd.prog Tryd.f9 false true false false) := by
  obtain ⟨places, hx⟩ := frameTakes_reads os enc
  refine returnsInHanded_of_row (C := Tryd.checked) (s := (Rows.OpenSpec.upto Rows.frameTakesSpec)) own_knob started (by kernel_rfl) Tryd.func9
    (witness_row_at (enc := enc) (C := Tryd.checked) false (laid_world os) #[.agg #[.int .i64 0, .int .i64 0, .string ByteArray.empty], .string ByteArray.empty, .int .i64 0] rfl (by kernel_rfl) (by kernel_rfl) (by kernel_rfl)
      (OpenSpec.preRow_of_cond 8 hx (by kernel_rfl) (fun k hk => by cases hk; kernel_rfl) (by kernel_rfl) (frameTakes_met os))) ?_
  intro W base args ds gs before hval hW _ hcond hsz hL _ _
  exact frameTakes_contract H enc W base args ds gs before hval hW hL (hcond _ rfl)
theorem frameTakes_said : Rows.FrameTakesUptoSaid :=
  OpenClaim.holds_of_cond 9 Tryd.f9 rfl rfl rfl rfl rfl rfl rfl ⟨rfl, rfl, rfl, rfl, rfl⟩ rfl rfl rfl rfl rfl (by kernel_rfl) Tryd.func9 (by kernel_rfl)
    (of_decide_eq_true (by kernel_rfl)) (by unfold Func.isWrapper; first | (rw [if_pos (by decide +kernel)]; kernel_rfl) | (rw [if_neg (by decide +kernel)]; exact ⟨rfl, rfl⟩))
    (fun os started H enc _ F => by rw [OpenClaim.pre_eq_preRow]; exact frameTakes_lifted os started H enc F)
theorem frameTakes_plain (f : FuncId) (fn : Func) (hf : Tryd.pinned.checked.prog.funcNamed "interchange/interchangelaw04.FrameTakes" = some f) (hfn : Tryd.pinned.checked.prog.funcs[f]? = some fn) :
    false = Tryd.pinned.checked.prog.looks [] ∧ ∀ (j : Nat) t, fn.params[j]? = some t → Tryd.pinned.checked.prog.wantsStandIn t = false := by
  obtain rfl : f = 9 := Option.some.inj ((show Tryd.prog.funcNamed "interchange/interchangelaw04.FrameTakes" = some 9 by kernel_rfl).symm.trans hf) |>.symm
  obtain rfl : fn = Tryd.f9 := (Option.some.inj (Tryd.func9.symm.trans hfn)).symm
  refine ⟨by kernel_rfl, fun j t ht => ?_⟩
  rw [Tryd.params9] at ht
  have hm := Array.mem_of_getElem? ht
  simp only [List.mem_toArray, List.mem_cons, List.not_mem_nil, or_false] at hm
  rcases hm with rfl | rfl | rfl
  · exact (show Tryd.prog.wantsStandIn 29 = false by kernel_rfl)
  · exact (show Tryd.prog.wantsStandIn 9 = false by kernel_rfl)
  · exact (show Tryd.prog.wantsStandIn 3 = false by kernel_rfl)
theorem frameTakes_holds : Rows.FrameTakesUptoCardSaid :=
  Claim7.holds_tied_plain_at .later [] _ _ _ _ frameTakes_said (fun _ h => by cases h) (by kernel_rfl) (fun _ h => by cases h) frameTakesUpto_row_tie rfl ⟨rfl, rfl⟩ (by kernel_rfl) rfl frameTakes_plain (by kernel_rfl)
#print axioms frameTakes_holds
end Go.Proofs.YtdalcbhnnfabhaaDoor.F
