/- A part of a proof: GIdxA, GIdx, PFlowTextsx17, PFlowTextsx19, LKnown. -/
import Derived.WalkSpells
import Derived.WalkLawsBesides
import Derived.Handy
import Derived.Lib.Hide
import Derived.Deep.RegionHeld3
import Derived.Test.YtfpikmeiooangaaDoorT06
import Derived.Test.YtfpikmeiooangaaDoorT04
import Derived.Test.YtfpikmeiooangaaDoorT08
import Derived.Test.YtfpikmeiooangaaDoorT10
set_option linter.unusedVariables false
set_option linter.unusedSimpArgs false
section
namespace Go.Proofs.YtfpikmeiooangaaDoor.PFlowTexts
open Go.RowKit Go.Proofs.YtfpikmeiooangaaDoorW.PrintWords Go.Proofs.YtfpikmeiooangaaDoorW.PrintLast Go.Proofs.YtfpikmeiooangaaDoorW.PrintMore
def sidesV : Array Value := #[.int .i64 0, .int .i64 0, .int .i64 0, .int .i64 1, .int .i64 1, .int .i64 0, .int .i64 1, .int .i64 1, .int .i64 0, .int .i64 1, .int .i64 0, .int .i64 (-1), .int .i64 0, .int .i64 0, .int .i64 1, .int .i64 (-1)]
set_option maxHeartbeats 400000 in
set_option maxRecDepth 100000 in
theorem sides_calls (w : World) :
    Calls Tryd.prog 42 #[.int .i64 0, .int .i64 0] w fun e w' => e = .returned (.agg sidesV) ∧ Below w.heap.size w w' := by
  go_enter Tryd.func42, Tryd.ntmps42
  go_wp2
  go_returns
  exact ⟨rfl, (Below.refl _ _).alloc (Nat.le_refl _) _⟩
end Go.Proofs.YtfpikmeiooangaaDoor.PFlowTexts
end
section
namespace Go.Proofs.YtfpikmeiooangaaDoor.PFlowTexts
open Go.RowKit Go.Proofs.YtfpikmeiooangaaDoorW.PrintWords Go.Proofs.YtfpikmeiooangaaDoorW.PrintLast Go.Proofs.YtfpikmeiooangaaDoorW.PrintMore
def flow_index.f (k : Nat) (a0_0 a0_1 : Int) (l0_2 : List Int) (l0_3 : List S50) (a1 a2 : Int) : Option Int :=
  if a1 = 0 then if a2 = 0 then
    (flow_turns.f k a0_0 a0_1 l0_2 l0_3 0 0 0).bind fun t0 => (flow_turns.f k a0_0 a0_1 l0_2 l0_3 1 0 1).bind fun t1 =>
    (flow_turns.f k a0_0 a0_1 l0_2 l0_3 0 1 0).bind fun t2 => (flow_turns.f k a0_0 a0_1 l0_2 l0_3 0 0 1).bind fun t3 =>
    if -8 ≤ t0 ∧ t0 ≤ 8 ∧ -8 ≤ t1 ∧ t1 ≤ 8 ∧ -8 ≤ t2 ∧ t2 ≤ 8 ∧ -8 ≤ t3 ∧ t3 ≤ 8 then some ((t0 + t1 - t2 - t3).tdiv 4) else none
  else none else none
theorem flow_index.mono : ∀ a0 a1 a2 a3 a4 a5 k, LeO (flow_index.f k a0 a1 a2 a3 a4 a5) (flow_index.f (k + 1) a0 a1 a2 a3 a4 a5) := by
  intro a0 a1 a2 a3 a4 a5 k
  unfold flow_index.f
  repeat' first
    | exact LeO.refl _
    | exact LeO.none _
    | refine LeO.ite ?_ ?_
    | refine LeO.bind (flow_turns.mono _ _ _ _ _ _ _ _) (fun _ => ?_)
/-- What the region's loads lean on: the boxed field and the boxed edge. -/
structure IdxS (w wr : World) (p0 p1 p2 p3 : Value) (x0 x1 x2 x3 : Int) (W : World) : Prop where
  below : Below w.heap.size w W
  size : wr.heap.size + 1 ≤ W.heap.size
  c0 : W.cell? ⟨w.heap.size, 0, none⟩ = some p0
  c1 : W.cell? ⟨w.heap.size, 1, none⟩ = some p1
  c2 : W.cell? ⟨w.heap.size, 2, none⟩ = some p2
  c3 : W.cell? ⟨w.heap.size, 3, none⟩ = some p3
  d0 : W.cell? ⟨wr.heap.size, 0, none⟩ = some (.int .i64 x0)
  d1 : W.cell? ⟨wr.heap.size, 1, none⟩ = some (.int .i64 x1)
  d2 : W.cell? ⟨wr.heap.size, 2, none⟩ = some (.int .i64 x2)
  d3 : W.cell? ⟨wr.heap.size, 3, none⟩ = some (.int .i64 x3)
theorem IdxS.all {w wr : World} {p0 p1 p2 p3 : Value} {x0 x1 x2 x3 : Int} {W : World} (h : IdxS w wr p0 p1 p2 p3 x0 x1 x2 x3 W) :
    IdxS w wr p0 p1 p2 p3 x0 x1 x2 x3 W ∧ W.cell? ⟨w.heap.size, 0, none⟩ = some p0 ∧ W.cell? ⟨w.heap.size, 1, none⟩ = some p1 ∧ W.cell? ⟨w.heap.size, 2, none⟩ = some p2 ∧ W.cell? ⟨w.heap.size, 3, none⟩ = some p3 ∧ W.cell? ⟨wr.heap.size, 0, none⟩ = some (.int .i64 x0) ∧ W.cell? ⟨wr.heap.size, 1, none⟩ = some (.int .i64 x1) ∧ W.cell? ⟨wr.heap.size, 2, none⟩ = some (.int .i64 x2) ∧ W.cell? ⟨wr.heap.size, 3, none⟩ = some (.int .i64 x3) := ⟨h, h.c0, h.c1, h.c2, h.c3, h.d0, h.d1, h.d2, h.d3⟩
theorem IdxS.step {w wr : World} {p0 p1 p2 p3 : Value} {x0 x1 x2 x3 : Int} {W W' : World} (h : IdxS w wr p0 p1 p2 p3 x0 x1 x2 x3 W) (hb : Below W.heap.size W W') : IdxS w wr p0 p1 p2 p3 x0 x1 x2 x3 W' :=
  ⟨below_step h.below hb, Nat.le_trans h.size hb.size, pw_cell_below hb h.c0, pw_cell_below hb h.c1, pw_cell_below hb h.c2, pw_cell_below hb h.c3, pw_cell_below hb h.d0, pw_cell_below hb h.d1, pw_cell_below hb h.d2, pw_cell_below hb h.d3⟩
theorem IdxS.start {w wr : World} {p0 p1 p2 p3 : Value} {x0 x1 x2 x3 : Int} (hb : Below w.heap.size w wr) (h0 : wr.cell? ⟨w.heap.size, 0, none⟩ = some p0) (h1 : wr.cell? ⟨w.heap.size, 1, none⟩ = some p1) (h2 : wr.cell? ⟨w.heap.size, 2, none⟩ = some p2) (h3 : wr.cell? ⟨w.heap.size, 3, none⟩ = some p3) :
    IdxS w wr p0 p1 p2 p3 x0 x1 x2 x3 (wr.alloc (.cells #[.int .i64 x0, .int .i64 x1, .int .i64 x2, .int .i64 x3] 68)).drew := by
  have hb' : Below wr.heap.size wr (wr.alloc (.cells #[.int .i64 x0, .int .i64 x1, .int .i64 x2, .int .i64 x3] 68)).drew := ((Below.refl _ _).alloc (Nat.le_refl _) _).drew
  exact ⟨below_step hb hb', by simp, pw_cell_below hb' h0, pw_cell_below hb' h1, pw_cell_below hb' h2, pw_cell_below hb' h3, by go_simp, by go_simp, by go_simp, by go_simp⟩
set_option maxHeartbeats 1000000 in
set_option maxRecDepth 100000 in
theorem flow_index.calls (k : Nat) (a0_0 : Int) (a0_1 : Int) (A0_2 : Option Addr) (c0_2 : Nat) (l0_2 : List Int) (A0_3 : Option Addr) (c0_3 : Nat) (l0_3 : List (S50)) (a1 : Int) (a2 : Int) (r : Int) (w : World) (hr0_2 : Kd.C (Kd.int .i64) w A0_2 l0_2.length l0_2) (hc0_2 : l0_2.length ≤ c0_2) (hr0_3 : Kd.C k50 w A0_3 l0_3.length l0_3) (hc0_3 : l0_3.length ≤ c0_3) (h : flow_index.f k a0_0 a0_1 l0_2 l0_3 a1 a2 = some r) :
    Calls Tryd.prog 27 #[.agg #[.int .i64 a0_0, .int .i64 a0_1, .slice A0_2 l0_2.length c0_2, .slice A0_3 l0_3.length c0_3], .int .i64 a1, .int .i64 a2] w fun e w' => e = .returned (.int .i64 r) ∧ Below w.heap.size w w' := by
  unfold flow_index.f at h
  by_cases h1 : a1 = 0
  case neg => rw [if_neg h1] at h; cases h
  by_cases h2 : a2 = 0
  case neg => rw [if_pos h1, if_neg h2] at h; cases h
  subst h1; subst h2
  rw [if_pos rfl, if_pos rfl] at h
  simp only [Option.bind_eq_some_iff] at h
  obtain ⟨t0, q0, t1, q1, t2, q2, t3, q3, h⟩ := h
  split at h
  case isFalse => cases h
  rename_i hb
  obtain ⟨b0, b1, b2, b3, b4, b5, b6, b7⟩ := hb
  injection h with h
  have HF := Lib.hid h
  clear h
  have H0 := Lib.hid q0; have H1 := Lib.hid q1; have H2 := Lib.hid q2; have H3 := Lib.hid q3
  clear q0 q1 q2 q3
  have HR2 := Aside0.mk hr0_2; have HC2 := Aside0.mk hc0_2; have HR3 := Aside0.mk hr0_3; have HC3 := Aside0.mk hc0_3
  clear hr0_2 hc0_2 hr0_3 hc0_3
  go_enter Tryd.func27, Tryd.ntmps27
  go_wp2_with (go_at_call 42; refine (sides_calls _).mono ?_; rintro e w' ⟨rfl, hb'⟩)
  have hB : Below w.heap.size w w' := ((Below.refl _ _).alloc (Nat.le_refl _) _).trans (hb'.mono (by simp))
  have hz : w.heap.size + 1 ≤ w'.heap.size := by have := hb'.size; simpa using this
  have c0 : w'.cell? ⟨w.heap.size, 0, none⟩ = some (.int .i64 a0_0) := (hb'.cell (p := ⟨w.heap.size, 0, none⟩) (by simp)).trans (by go_simp)
  have c1 : w'.cell? ⟨w.heap.size, 1, none⟩ = some (.int .i64 a0_1) := (hb'.cell (p := ⟨w.heap.size, 1, none⟩) (by simp)).trans (by go_simp)
  have c2 : w'.cell? ⟨w.heap.size, 2, none⟩ = some (.slice A0_2 l0_2.length c0_2) := (hb'.cell (p := ⟨w.heap.size, 2, none⟩) (by simp)).trans (by go_simp)
  have c3 : w'.cell? ⟨w.heap.size, 3, none⟩ = some (.slice A0_3 l0_3.length c0_3) := (hb'.cell (p := ⟨w.heap.size, 3, none⟩) (by simp)).trans (by go_simp)
  clear hb'
  have i0 : ∀ W, (Instr.index 69 (.agg sidesV) (.int .i64 0)).run Tryd.prog W = .ok (.agg #[.int .i64 0, .int .i64 0, .int .i64 0, .int .i64 1]) W := fun _ => by kernel_rfl
  have i1 : ∀ W, (Instr.index 69 (.agg sidesV) (.int .i64 1)).run Tryd.prog W = .ok (.agg #[.int .i64 1, .int .i64 0, .int .i64 1, .int .i64 1]) W := fun _ => by kernel_rfl
  have i2 : ∀ W, (Instr.index 69 (.agg sidesV) (.int .i64 2)).run Tryd.prog W = .ok (.agg #[.int .i64 0, .int .i64 1, .int .i64 0, .int .i64 (-1)]) W := fun _ => by kernel_rfl
  have i3 : ∀ W, (Instr.index 69 (.agg sidesV) (.int .i64 3)).run Tryd.prog W = .ok (.agg #[.int .i64 0, .int .i64 0, .int .i64 1, .int .i64 (-1)]) W := fun _ => by kernel_rfl
  go_loopw [7, 13] (fun s i wr => (i = .int .i64 0 ∧ s = .int .i64 0 ∨ i = .int .i64 1 ∧ s = .int .i64 t0 ∨ i = .int .i64 2 ∧ s = .int .i64 (t0 + t1) ∨ i = .int .i64 3 ∧ s = .int .i64 (t0 + t1 - t2) ∨ i = .int .i64 4 ∧ s = .int .i64 (t0 + t1 - t2 - t3)) ∧ Below w.heap.size w wr ∧ w.heap.size + 1 ≤ wr.heap.size ∧
      wr.cell? ⟨w.heap.size, 0, none⟩ = some (.int .i64 a0_0) ∧ wr.cell? ⟨w.heap.size, 1, none⟩ = some (.int .i64 a0_1) ∧ wr.cell? ⟨w.heap.size, 2, none⟩ = some (.slice A0_2 l0_2.length c0_2) ∧ wr.cell? ⟨w.heap.size, 3, none⟩ = some (.slice A0_3 l0_3.length c0_3)) (fun _ i _ => (4 - intOf i).toNat)
  case atStart => exact ⟨.inl ⟨rfl, rfl⟩, hB, hz, c0, c1, c2, c3⟩
  case round =>
    clear c0 c1 c2 c3 hB hz
    obtain ⟨hcase, hB, hz, c0, c1, c2, c3⟩ := hrel
    have HB := Aside0.mk hB
    clear hB
    rcases hcase with ⟨rfl, rfl⟩ | ⟨rfl, rfl⟩ | ⟨rfl, rfl⟩ | ⟨rfl, rfl⟩ | ⟨rfl, rfl⟩
    · go_wp2_with fail
      have hS : IdxS w wr (.int .i64 a0_0) (.int .i64 a0_1) (.slice A0_2 l0_2.length c0_2) (.slice A0_3 l0_3.length c0_3) 0 0 0 1 (wr.alloc (.cells #[.int .i64 0, .int .i64 0, .int .i64 0, .int .i64 1] 68)).drew := .start HB.out c0 c1 c2 c3
      go_region_held3 (fun W => IdxS w wr (.int .i64 a0_0) (.int .i64 a0_1) (.slice A0_2 l0_2.length c0_2) (.slice A0_3 l0_3.length c0_3) 0 0 0 1 W ∧ W.cell? ⟨w.heap.size, 0, none⟩ = some (.int .i64 a0_0) ∧ W.cell? ⟨w.heap.size, 1, none⟩ = some (.int .i64 a0_1) ∧ W.cell? ⟨w.heap.size, 2, none⟩ = some (.slice A0_2 l0_2.length c0_2) ∧ W.cell? ⟨w.heap.size, 3, none⟩ = some (.slice A0_3 l0_3.length c0_3) ∧ W.cell? ⟨wr.heap.size, 0, none⟩ = some (.int .i64 0) ∧ W.cell? ⟨wr.heap.size, 1, none⟩ = some (.int .i64 0) ∧ W.cell? ⟨wr.heap.size, 2, none⟩ = some (.int .i64 0) ∧ W.cell? ⟨wr.heap.size, 3, none⟩ = some (.int .i64 1))
        (first | exact hS.all | assumption | exact (IdxS.step (And.left ‹IdxS _ _ _ _ _ _ _ _ _ _ _ ∧ _›) hb2).all)
        (first | (go_at_call 31; have hq := And.left ‹IdxS _ _ _ _ _ _ _ _ _ _ _ ∧ _›; refine (flow_turns.calls k _ _ _ _ _ _ _ _ _ _ _ t0 _ (Kd.C_below HR2.out hq.below) HC2.out (Kd.C_below HR3.out hq.below) HC3.out H0.out).mono ?_; rintro e w2 ⟨rfl, hb2⟩))
      have hq := IdxS.step (And.left ‹IdxS _ _ _ _ _ _ _ _ _ _ _ ∧ _›) (Below.refl _ _)
      have HQ := Aside0.mk hq
      clear hq
      go_wp2
      go_roundw
      case rel => exact ⟨.inr (.inl ⟨rfl, congrArg (Value.int .i64) (by simp only [IntKind.wrap_i64]; omega)⟩), HQ.out.below, Nat.le_trans (by omega) HQ.out.size, HQ.out.c0, HQ.out.c1, HQ.out.c2, HQ.out.c3⟩
      case measure => simp [intOf]
    · go_wp2_with fail
      have hS : IdxS w wr (.int .i64 a0_0) (.int .i64 a0_1) (.slice A0_2 l0_2.length c0_2) (.slice A0_3 l0_3.length c0_3) 1 0 1 1 (wr.alloc (.cells #[.int .i64 1, .int .i64 0, .int .i64 1, .int .i64 1] 68)).drew := .start HB.out c0 c1 c2 c3
      go_region_held3 (fun W => IdxS w wr (.int .i64 a0_0) (.int .i64 a0_1) (.slice A0_2 l0_2.length c0_2) (.slice A0_3 l0_3.length c0_3) 1 0 1 1 W ∧ W.cell? ⟨w.heap.size, 0, none⟩ = some (.int .i64 a0_0) ∧ W.cell? ⟨w.heap.size, 1, none⟩ = some (.int .i64 a0_1) ∧ W.cell? ⟨w.heap.size, 2, none⟩ = some (.slice A0_2 l0_2.length c0_2) ∧ W.cell? ⟨w.heap.size, 3, none⟩ = some (.slice A0_3 l0_3.length c0_3) ∧ W.cell? ⟨wr.heap.size, 0, none⟩ = some (.int .i64 1) ∧ W.cell? ⟨wr.heap.size, 1, none⟩ = some (.int .i64 0) ∧ W.cell? ⟨wr.heap.size, 2, none⟩ = some (.int .i64 1) ∧ W.cell? ⟨wr.heap.size, 3, none⟩ = some (.int .i64 1))
        (first | exact hS.all | assumption | exact (IdxS.step (And.left ‹IdxS _ _ _ _ _ _ _ _ _ _ _ ∧ _›) hb2).all)
        (first | (go_at_call 31; have hq := And.left ‹IdxS _ _ _ _ _ _ _ _ _ _ _ ∧ _›; refine (flow_turns.calls k _ _ _ _ _ _ _ _ _ _ _ t1 _ (Kd.C_below HR2.out hq.below) HC2.out (Kd.C_below HR3.out hq.below) HC3.out H1.out).mono ?_; rintro e w2 ⟨rfl, hb2⟩))
      have hq := IdxS.step (And.left ‹IdxS _ _ _ _ _ _ _ _ _ _ _ ∧ _›) (Below.refl _ _)
      have HQ := Aside0.mk hq
      clear hq
      go_wp2
      go_roundw
      case rel => exact ⟨.inr (.inr (.inl ⟨rfl, congrArg (Value.int .i64) (by simp only [IntKind.wrap_i64]; omega)⟩)), HQ.out.below, Nat.le_trans (by omega) HQ.out.size, HQ.out.c0, HQ.out.c1, HQ.out.c2, HQ.out.c3⟩
      case measure => simp [intOf]
    · go_wp2_with fail
      have hS : IdxS w wr (.int .i64 a0_0) (.int .i64 a0_1) (.slice A0_2 l0_2.length c0_2) (.slice A0_3 l0_3.length c0_3) 0 1 0 (-1) (wr.alloc (.cells #[.int .i64 0, .int .i64 1, .int .i64 0, .int .i64 (-1)] 68)).drew := .start HB.out c0 c1 c2 c3
      go_region_held3 (fun W => IdxS w wr (.int .i64 a0_0) (.int .i64 a0_1) (.slice A0_2 l0_2.length c0_2) (.slice A0_3 l0_3.length c0_3) 0 1 0 (-1) W ∧ W.cell? ⟨w.heap.size, 0, none⟩ = some (.int .i64 a0_0) ∧ W.cell? ⟨w.heap.size, 1, none⟩ = some (.int .i64 a0_1) ∧ W.cell? ⟨w.heap.size, 2, none⟩ = some (.slice A0_2 l0_2.length c0_2) ∧ W.cell? ⟨w.heap.size, 3, none⟩ = some (.slice A0_3 l0_3.length c0_3) ∧ W.cell? ⟨wr.heap.size, 0, none⟩ = some (.int .i64 0) ∧ W.cell? ⟨wr.heap.size, 1, none⟩ = some (.int .i64 1) ∧ W.cell? ⟨wr.heap.size, 2, none⟩ = some (.int .i64 0) ∧ W.cell? ⟨wr.heap.size, 3, none⟩ = some (.int .i64 (-1)))
        (first | exact hS.all | assumption | exact (IdxS.step (And.left ‹IdxS _ _ _ _ _ _ _ _ _ _ _ ∧ _›) hb2).all)
        (first | (go_at_call 31; have hq := And.left ‹IdxS _ _ _ _ _ _ _ _ _ _ _ ∧ _›; refine (flow_turns.calls k _ _ _ _ _ _ _ _ _ _ _ t2 _ (Kd.C_below HR2.out hq.below) HC2.out (Kd.C_below HR3.out hq.below) HC3.out H2.out).mono ?_; rintro e w2 ⟨rfl, hb2⟩))
      have hq := IdxS.step (And.left ‹IdxS _ _ _ _ _ _ _ _ _ _ _ ∧ _›) (Below.refl _ _)
      have HQ := Aside0.mk hq
      clear hq
      go_wp2
      go_roundw
      case rel => exact ⟨.inr (.inr (.inr (.inl ⟨rfl, congrArg (Value.int .i64) (by simp only [IntKind.wrap_i64]; omega)⟩))), HQ.out.below, Nat.le_trans (by omega) HQ.out.size, HQ.out.c0, HQ.out.c1, HQ.out.c2, HQ.out.c3⟩
      case measure => simp [intOf]
    · go_wp2_with fail
      have hS : IdxS w wr (.int .i64 a0_0) (.int .i64 a0_1) (.slice A0_2 l0_2.length c0_2) (.slice A0_3 l0_3.length c0_3) 0 0 1 (-1) (wr.alloc (.cells #[.int .i64 0, .int .i64 0, .int .i64 1, .int .i64 (-1)] 68)).drew := .start HB.out c0 c1 c2 c3
      go_region_held3 (fun W => IdxS w wr (.int .i64 a0_0) (.int .i64 a0_1) (.slice A0_2 l0_2.length c0_2) (.slice A0_3 l0_3.length c0_3) 0 0 1 (-1) W ∧ W.cell? ⟨w.heap.size, 0, none⟩ = some (.int .i64 a0_0) ∧ W.cell? ⟨w.heap.size, 1, none⟩ = some (.int .i64 a0_1) ∧ W.cell? ⟨w.heap.size, 2, none⟩ = some (.slice A0_2 l0_2.length c0_2) ∧ W.cell? ⟨w.heap.size, 3, none⟩ = some (.slice A0_3 l0_3.length c0_3) ∧ W.cell? ⟨wr.heap.size, 0, none⟩ = some (.int .i64 0) ∧ W.cell? ⟨wr.heap.size, 1, none⟩ = some (.int .i64 0) ∧ W.cell? ⟨wr.heap.size, 2, none⟩ = some (.int .i64 1) ∧ W.cell? ⟨wr.heap.size, 3, none⟩ = some (.int .i64 (-1)))
        (first | exact hS.all | assumption | exact (IdxS.step (And.left ‹IdxS _ _ _ _ _ _ _ _ _ _ _ ∧ _›) hb2).all)
        (first | (go_at_call 31; have hq := And.left ‹IdxS _ _ _ _ _ _ _ _ _ _ _ ∧ _›; refine (flow_turns.calls k _ _ _ _ _ _ _ _ _ _ _ t3 _ (Kd.C_below HR2.out hq.below) HC2.out (Kd.C_below HR3.out hq.below) HC3.out H3.out).mono ?_; rintro e w2 ⟨rfl, hb2⟩))
      have hq := IdxS.step (And.left ‹IdxS _ _ _ _ _ _ _ _ _ _ _ ∧ _›) (Below.refl _ _)
      have HQ := Aside0.mk hq
      clear hq
      go_wp2
      go_roundw
      case rel => exact ⟨.inr (.inr (.inr (.inr (⟨rfl, congrArg (Value.int .i64) (by simp only [IntKind.wrap_i64]; omega)⟩)))), HQ.out.below, Nat.le_trans (by omega) HQ.out.size, HQ.out.c0, HQ.out.c1, HQ.out.c2, HQ.out.c3⟩
      case measure => simp [intOf]
    · go_wp2
      go_ret
      refine ⟨?_, HB.out⟩
      rw [← HF.out]
      rfl
end Go.Proofs.YtfpikmeiooangaaDoor.PFlowTexts
end
section
namespace Go.Proofs.YtfpikmeiooangaaDoor.PFlowTexts
open Go.RowKit Go.Proofs.YtfpikmeiooangaaDoorW.PrintWords Go.Proofs.YtfpikmeiooangaaDoorW.PrintLast Go.Proofs.YtfpikmeiooangaaDoorW.PrintMore
def flow_Index.f (k : Nat) (a0_0 : Int) (a0_1 : Int) (l0_2 : List Int) (l0_3 : List (S50)) (a1 : Int) (a2 : Int) : Option (Int × Int) := (flow_Validate.f k a0_0 a0_1 l0_2 l0_3).bind fun t152 => (if t152 = 0 then ((flow_hasSquare.f a0_0 a0_1 l0_2 l0_3 a1 a2).bind fun t153 => (if t153 = true then ((flow_index.f k a0_0 a0_1 l0_2 l0_3 a1 a2).bind fun t154 => (some (t154, 0))) else (some (0, 5)))) else (some (0, t152)))
theorem flow_Index.mono : ∀ a0 a1 a2 a3 a4 a5 k, LeO (flow_Index.f k a0 a1 a2 a3 a4 a5) (flow_Index.f (k + 1) a0 a1 a2 a3 a4 a5) := by
  intro a0 a1 a2 a3 a4 a5 k; unfold flow_Index.f
  repeat' first
      | (with_reducible exact flow_Validate.mono _ _ _ _ _)
      | (with_reducible exact flow_index.mono _ _ _ _ _ _ _)
      | (with_reducible exact LeO.refl _)
      | (with_reducible exact LeO.none _)
      | (with_reducible refine LeO.ite ?_ ?_)
      | (with_reducible refine LeO.bind ?_ (fun _ => ?_))
      | exact flow_Validate.mono _ _ _ _ _
      | exact flow_index.mono _ _ _ _ _ _ _
      | exact LeO.none _
      | refine LeO.ite ?_ ?_
      | refine LeO.bind ?_ (fun _ => ?_)
set_option maxHeartbeats 8000000 in
set_option maxRecDepth 100000 in
theorem flow_Index.calls (k : Nat) (a0_0 : Int) (a0_1 : Int) (A0_2 : Option Addr) (c0_2 : Nat) (l0_2 : List Int) (A0_3 : Option Addr) (c0_3 : Nat) (l0_3 : List (S50)) (a1 : Int) (a2 : Int) (r1 : Int) (r2 : Int) (w : World) (hr0_2 : Kd.C (Kd.int .i64) w A0_2 l0_2.length l0_2) (hc0_2 : l0_2.length ≤ c0_2) (hr0_3 : Kd.C k50 w A0_3 l0_3.length l0_3) (hc0_3 : l0_3.length ≤ c0_3) (h : flow_Index.f k a0_0 a0_1 l0_2 l0_3 a1 a2 = some (r1, r2)) :
    Calls Tryd.prog 11 #[.agg #[.int .i64 a0_0, .int .i64 a0_1, .slice A0_2 l0_2.length c0_2, .slice A0_3 l0_3.length c0_3], .int .i64 a1, .int .i64 a2] w fun e w' => e = .returned (.tuple #[.int .i64 r1, .int .i64 r2]) ∧ Below w.heap.size w w' := by
  have hu25 := Tryd.underlying25; have HR0_2 := Aside0.mk hr0_2; have HC0_2 := Aside0.mk hc0_2; clear hr0_2 hc0_2; have HR0_3 := Aside0.mk hr0_3; have HC0_3 := Aside0.mk hc0_3; clear hr0_3 hc0_3; have HB := Aside0.mk (Below.refl w.heap.size w); (have H : ((flow_Validate.f k a0_0 a0_1 l0_2 l0_3).bind fun t152 => (if t152 = 0 then ((flow_hasSquare.f a0_0 a0_1 l0_2 l0_3 a1 a2).bind fun t153 => (if t153 = true then ((flow_index.f k a0_0 a0_1 l0_2 l0_3 a1 a2).bind fun t154 => (some (t154, 0))) else (some (0, 5)))) else (some (0, t152)))) = some (r1, r2) := h); clear h; replace H := Option.bind_eq_some_iff.mp H; obtain ⟨t152, A40, H⟩ := H; (replace H : (if t152 = 0 then ((flow_hasSquare.f a0_0 a0_1 l0_2 l0_3 a1 a2).bind fun t153 => (if t153 = true then ((flow_index.f k a0_0 a0_1 l0_2 l0_3 a1 a2).bind fun t154 => (some (t154, 0))) else (some (0, 5)))) else (some (0, t152))) = some (r1, r2) := H); have A4 := Aside0.mk A40; clear A40; by_cases c5 : t152 = 0
  · rw [if_pos c5] at H
    have c5b0 : (t152 == 0) = true := beq_iff_eq.mpr c5; have c5b1 : (t152 != 0) = false := bne_eq_false_iff_eq.mpr c5; clear c5; replace H := Option.bind_eq_some_iff.mp H; obtain ⟨t153, A60, H⟩ := H; (replace H : (if t153 = true then ((flow_index.f k a0_0 a0_1 l0_2 l0_3 a1 a2).bind fun t154 => (some (t154, 0))) else (some (0, 5))) = some (r1, r2) := H); have A6 := Aside0.mk A60; clear A60; by_cases c7 : t153 = true
    · subst c7
      (have H1 : ((flow_index.f k a0_0 a0_1 l0_2 l0_3 a1 a2).bind fun t154 => (some (t154, 0))) = some (r1, r2) := by rw [if_pos rfl] at H; exact H); clear H; have H := H1; clear H1; replace H := Option.bind_eq_some_iff.mp H; obtain ⟨t154, A80, H⟩ := H; replace H : (some (t154, 0)) = some (r1, r2) := H; have A8 := Aside0.mk A80; clear A80; simp only [Option.some.injEq, Prod.mk.injEq] at H; obtain ⟨rfl, rfl⟩ := H; go_enter Tryd.func11, Tryd.ntmps11; (go_wp2_with (first | ((with_reducible refine gate_dst (N := 3) rfl ?_); refine box_event ?hg (N := 3) ?hd (cs := #[.int .i64 a0_0, .int .i64 a0_1, .slice A0_2 l0_2.length c0_2, .slice A0_3 l0_3.length c0_3]) (t := 25) ?hr ?_; (case hd => rfl); (case hg => rfl); (case hr => first | (go_simp; done) | (go_simp; rfl)); intro gb151 hg w9 hbox hb; have n0_ := Aside0.mk (below_step Bq hb); have n1_ := Aside0.mk (hbox); have n2_ := Aside0.mk ((by rw [hg]; exact (below_size Bq) : w.heap.size ≤ gb151)); have n3_ := Aside0.mk ((by rw [hg]; exact (below_size Bq) : w.heap.size ≤ gb151)); clear HB; have HB := n0_; have BK151 := n1_; have GW151 := n2_; have GE151 := n3_; clear n0_ n1_ n2_ n3_; clear hb hbox hg; have hcz10_0 : w9.cell? ⟨gb151, 0, none⟩ = some (.int .i64 a0_0) := (blk_cell BK151.out 0).trans rfl; have hcz10_1 : w9.cell? ⟨gb151, 1, none⟩ = some (.int .i64 a0_1) := (blk_cell BK151.out 1).trans rfl; have hcz10_2 : w9.cell? ⟨gb151, 2, none⟩ = some (.slice A0_2 l0_2.length c0_2) := (blk_cell BK151.out 2).trans rfl; have hcz10_3 : w9.cell? ⟨gb151, 3, none⟩ = some (.slice A0_3 l0_3.length c0_3) := (blk_cell BK151.out 3).trans rfl; have hfz10_0 := blk_frozen BK151.out 0; have hfz10_1 := blk_frozen BK151.out 1; have hfz10_2 := blk_frozen BK151.out 2; have hfz10_3 := blk_frozen BK151.out 3) | ((with_reducible refine gate_callee (f := 13) rfl ?_); refine goesL_ (some 10) rfl rfl Tryd.func13 (by kernel_rfl) rfl #[.agg #[.int .i64 a0_0, .int .i64 a0_1, .slice A0_2 l0_2.length c0_2, .slice A0_3 l0_3.length c0_3]] rfl Mp ?_; (with_reducible refine (flow_Validate.calls k a0_0 a0_1 _ _ l0_2 _ _ l0_3 t152 _ ?side1 ?side2 ?side3 ?side4 A4.out).mono ?_); (case side1 => repeat (first | exact (Kd.C_below HR0_2.out HB.out) | (with_reducible refine Kd.C_alloc ?_ _) | (with_reducible refine Kd.C_drewN ?_ _) | (with_reducible refine Kd.C_drew ?_))); (case side2 => exact HC0_2.out); (case side3 => repeat (first | exact (Kd.C_below HR0_3.out HB.out) | (with_reducible refine Kd.C_alloc ?_ _) | (with_reducible refine Kd.C_drewN ?_ _) | (with_reducible refine Kd.C_drew ?_))); (case side4 => exact HC0_3.out); rintro e w11 ⟨rfl, hb⟩; refine ⟨_, rfl, ?_⟩; have n0_ := Aside0.mk (blk_below (g := gb151) (o := .cells #[.int .i64 a0_0, .int .i64 a0_1, .slice A0_2 l0_2.length c0_2, .slice A0_3 l0_3.length c0_3] 25 (0, 0)) (Bk BK151.out) hb); have n1_ := Aside0.mk (below_step (Bg GE151.out) hb); clear BK151; clear HB; have BK151 := n0_; have HB := n1_; clear n0_ n1_; (try clear hb); (try clear hb2); (try clear hk); (try clear hi); have hcz12_0 : w11.cell? ⟨gb151, 0, none⟩ = some (.int .i64 a0_0) := (blk_cell BK151.out 0).trans rfl; have hcz12_1 : w11.cell? ⟨gb151, 1, none⟩ = some (.int .i64 a0_1) := (blk_cell BK151.out 1).trans rfl; have hcz12_2 : w11.cell? ⟨gb151, 2, none⟩ = some (.slice A0_2 l0_2.length c0_2) := (blk_cell BK151.out 2).trans rfl; have hcz12_3 : w11.cell? ⟨gb151, 3, none⟩ = some (.slice A0_3 l0_3.length c0_3) := (blk_cell BK151.out 3).trans rfl; have hfz12_0 := blk_frozen BK151.out 0; have hfz12_1 := blk_frozen BK151.out 1; have hfz12_2 := blk_frozen BK151.out 2; have hfz12_3 := blk_frozen BK151.out 3) | ((with_reducible refine gate_callee (f := 26) rfl ?_); refine goesL_ (some 17) rfl rfl Tryd.func26 (by kernel_rfl) rfl #[.agg #[.int .i64 a0_0, .int .i64 a0_1, .slice A0_2 l0_2.length c0_2, .slice A0_3 l0_3.length c0_3], .int .i64 a1, .int .i64 a2] rfl Mp ?_; (with_reducible refine (flow_hasSquare.calls a0_0 a0_1 _ _ l0_2 _ _ l0_3 a1 a2 true _ ?side1 ?side2 ?side3 ?side4 A6.out).mono ?_); (case side1 => repeat (first | exact (Kd.C_below HR0_2.out HB.out) | (with_reducible refine Kd.C_alloc ?_ _) | (with_reducible refine Kd.C_drewN ?_ _) | (with_reducible refine Kd.C_drew ?_))); (case side2 => exact HC0_2.out); (case side3 => repeat (first | exact (Kd.C_below HR0_3.out HB.out) | (with_reducible refine Kd.C_alloc ?_ _) | (with_reducible refine Kd.C_drewN ?_ _) | (with_reducible refine Kd.C_drew ?_))); (case side4 => exact HC0_3.out); rintro e w13 ⟨rfl, hb⟩; refine ⟨_, rfl, ?_⟩; have n0_ := Aside0.mk (blk_below (g := gb151) (o := .cells #[.int .i64 a0_0, .int .i64 a0_1, .slice A0_2 l0_2.length c0_2, .slice A0_3 l0_3.length c0_3] 25 (0, 0)) (Bk BK151.out) hb); have n1_ := Aside0.mk (below_step (Bg GE151.out) hb); clear BK151; clear HB; have BK151 := n0_; have HB := n1_; clear n0_ n1_; (try clear hb); (try clear hb2); (try clear hk); (try clear hi); have hcz14_0 : w13.cell? ⟨gb151, 0, none⟩ = some (.int .i64 a0_0) := (blk_cell BK151.out 0).trans rfl; have hcz14_1 : w13.cell? ⟨gb151, 1, none⟩ = some (.int .i64 a0_1) := (blk_cell BK151.out 1).trans rfl; have hcz14_2 : w13.cell? ⟨gb151, 2, none⟩ = some (.slice A0_2 l0_2.length c0_2) := (blk_cell BK151.out 2).trans rfl; have hcz14_3 : w13.cell? ⟨gb151, 3, none⟩ = some (.slice A0_3 l0_3.length c0_3) := (blk_cell BK151.out 3).trans rfl; have hfz14_0 := blk_frozen BK151.out 0; have hfz14_1 := blk_frozen BK151.out 1; have hfz14_2 := blk_frozen BK151.out 2; have hfz14_3 := blk_frozen BK151.out 3) | ((with_reducible refine gate_callee (f := 27) rfl ?_); refine goesL_ (some 22) rfl rfl Tryd.func27 (by kernel_rfl) rfl #[.agg #[.int .i64 a0_0, .int .i64 a0_1, .slice A0_2 l0_2.length c0_2, .slice A0_3 l0_3.length c0_3], .int .i64 a1, .int .i64 a2] rfl Mp ?_; (with_reducible refine (flow_index.calls k a0_0 a0_1 _ _ l0_2 _ _ l0_3 a1 a2 t154 _ ?side1 ?side2 ?side3 ?side4 A8.out).mono ?_); (case side1 => repeat (first | exact (Kd.C_below HR0_2.out HB.out) | (with_reducible refine Kd.C_alloc ?_ _) | (with_reducible refine Kd.C_drewN ?_ _) | (with_reducible refine Kd.C_drew ?_))); (case side2 => exact HC0_2.out); (case side3 => repeat (first | exact (Kd.C_below HR0_3.out HB.out) | (with_reducible refine Kd.C_alloc ?_ _) | (with_reducible refine Kd.C_drewN ?_ _) | (with_reducible refine Kd.C_drew ?_))); (case side4 => exact HC0_3.out); rintro e w15 ⟨rfl, hb⟩; refine ⟨_, rfl, ?_⟩; have n0_ := Aside0.mk (blk_below (g := gb151) (o := .cells #[.int .i64 a0_0, .int .i64 a0_1, .slice A0_2 l0_2.length c0_2, .slice A0_3 l0_3.length c0_3] 25 (0, 0)) (Bk BK151.out) hb); have n1_ := Aside0.mk (below_step (Bg GE151.out) hb); clear BK151; clear HB; have BK151 := n0_; have HB := n1_; clear n0_ n1_; (try clear hb); (try clear hb2); (try clear hk); (try clear hi))))
      go_ret2; (exact ⟨by first | rfl | (simp [errW_none, errW_some] <;> rfl) | (simp [*, errW_none, errW_some] <;> rfl), (Bg GE151.out)⟩)
    · replace c7 := Bool.eq_false_iff.mpr c7
      subst c7; (have H1 : (some (0, 5)) = some (r1, r2) := by rw [if_neg (show ¬ (false = true) by decide)] at H; exact H); clear H; have H := H1; clear H1; simp only [Option.some.injEq, Prod.mk.injEq] at H; obtain ⟨rfl, rfl⟩ := H; go_enter Tryd.func11, Tryd.ntmps11; (go_wp2_with (first | ((with_reducible refine gate_dst (N := 3) rfl ?_); refine box_event ?hg (N := 3) ?hd (cs := #[.int .i64 a0_0, .int .i64 a0_1, .slice A0_2 l0_2.length c0_2, .slice A0_3 l0_3.length c0_3]) (t := 25) ?hr ?_; (case hd => rfl); (case hg => rfl); (case hr => first | (go_simp; done) | (go_simp; rfl)); intro gb151 hg w16 hbox hb; have n0_ := Aside0.mk (below_step Bq hb); have n1_ := Aside0.mk (hbox); have n2_ := Aside0.mk ((by rw [hg]; exact (below_size Bq) : w.heap.size ≤ gb151)); have n3_ := Aside0.mk ((by rw [hg]; exact (below_size Bq) : w.heap.size ≤ gb151)); clear HB; have HB := n0_; have BK151 := n1_; have GW151 := n2_; have GE151 := n3_; clear n0_ n1_ n2_ n3_; clear hb hbox hg; have hcz17_0 : w16.cell? ⟨gb151, 0, none⟩ = some (.int .i64 a0_0) := (blk_cell BK151.out 0).trans rfl; have hcz17_1 : w16.cell? ⟨gb151, 1, none⟩ = some (.int .i64 a0_1) := (blk_cell BK151.out 1).trans rfl; have hcz17_2 : w16.cell? ⟨gb151, 2, none⟩ = some (.slice A0_2 l0_2.length c0_2) := (blk_cell BK151.out 2).trans rfl; have hcz17_3 : w16.cell? ⟨gb151, 3, none⟩ = some (.slice A0_3 l0_3.length c0_3) := (blk_cell BK151.out 3).trans rfl; have hfz17_0 := blk_frozen BK151.out 0; have hfz17_1 := blk_frozen BK151.out 1; have hfz17_2 := blk_frozen BK151.out 2; have hfz17_3 := blk_frozen BK151.out 3) | ((with_reducible refine gate_callee (f := 13) rfl ?_); refine goesL_ (some 10) rfl rfl Tryd.func13 (by kernel_rfl) rfl #[.agg #[.int .i64 a0_0, .int .i64 a0_1, .slice A0_2 l0_2.length c0_2, .slice A0_3 l0_3.length c0_3]] rfl Mp ?_; (with_reducible refine (flow_Validate.calls k a0_0 a0_1 _ _ l0_2 _ _ l0_3 t152 _ ?side1 ?side2 ?side3 ?side4 A4.out).mono ?_); (case side1 => repeat (first | exact (Kd.C_below HR0_2.out HB.out) | (with_reducible refine Kd.C_alloc ?_ _) | (with_reducible refine Kd.C_drewN ?_ _) | (with_reducible refine Kd.C_drew ?_))); (case side2 => exact HC0_2.out); (case side3 => repeat (first | exact (Kd.C_below HR0_3.out HB.out) | (with_reducible refine Kd.C_alloc ?_ _) | (with_reducible refine Kd.C_drewN ?_ _) | (with_reducible refine Kd.C_drew ?_))); (case side4 => exact HC0_3.out); rintro e w18 ⟨rfl, hb⟩; refine ⟨_, rfl, ?_⟩; have n0_ := Aside0.mk (blk_below (g := gb151) (o := .cells #[.int .i64 a0_0, .int .i64 a0_1, .slice A0_2 l0_2.length c0_2, .slice A0_3 l0_3.length c0_3] 25 (0, 0)) (Bk BK151.out) hb); have n1_ := Aside0.mk (below_step (Bg GE151.out) hb); clear BK151; clear HB; have BK151 := n0_; have HB := n1_; clear n0_ n1_; (try clear hb); (try clear hb2); (try clear hk); (try clear hi); have hcz19_0 : w18.cell? ⟨gb151, 0, none⟩ = some (.int .i64 a0_0) := (blk_cell BK151.out 0).trans rfl; have hcz19_1 : w18.cell? ⟨gb151, 1, none⟩ = some (.int .i64 a0_1) := (blk_cell BK151.out 1).trans rfl; have hcz19_2 : w18.cell? ⟨gb151, 2, none⟩ = some (.slice A0_2 l0_2.length c0_2) := (blk_cell BK151.out 2).trans rfl; have hcz19_3 : w18.cell? ⟨gb151, 3, none⟩ = some (.slice A0_3 l0_3.length c0_3) := (blk_cell BK151.out 3).trans rfl; have hfz19_0 := blk_frozen BK151.out 0; have hfz19_1 := blk_frozen BK151.out 1; have hfz19_2 := blk_frozen BK151.out 2; have hfz19_3 := blk_frozen BK151.out 3) | ((with_reducible refine gate_callee (f := 26) rfl ?_); refine goesL_ (some 17) rfl rfl Tryd.func26 (by kernel_rfl) rfl #[.agg #[.int .i64 a0_0, .int .i64 a0_1, .slice A0_2 l0_2.length c0_2, .slice A0_3 l0_3.length c0_3], .int .i64 a1, .int .i64 a2] rfl Mp ?_; (with_reducible refine (flow_hasSquare.calls a0_0 a0_1 _ _ l0_2 _ _ l0_3 a1 a2 false _ ?side1 ?side2 ?side3 ?side4 A6.out).mono ?_); (case side1 => repeat (first | exact (Kd.C_below HR0_2.out HB.out) | (with_reducible refine Kd.C_alloc ?_ _) | (with_reducible refine Kd.C_drewN ?_ _) | (with_reducible refine Kd.C_drew ?_))); (case side2 => exact HC0_2.out); (case side3 => repeat (first | exact (Kd.C_below HR0_3.out HB.out) | (with_reducible refine Kd.C_alloc ?_ _) | (with_reducible refine Kd.C_drewN ?_ _) | (with_reducible refine Kd.C_drew ?_))); (case side4 => exact HC0_3.out); rintro e w20 ⟨rfl, hb⟩; refine ⟨_, rfl, ?_⟩; have n0_ := Aside0.mk (blk_below (g := gb151) (o := .cells #[.int .i64 a0_0, .int .i64 a0_1, .slice A0_2 l0_2.length c0_2, .slice A0_3 l0_3.length c0_3] 25 (0, 0)) (Bk BK151.out) hb); have n1_ := Aside0.mk (below_step (Bg GE151.out) hb); clear BK151; clear HB; have BK151 := n0_; have HB := n1_; clear n0_ n1_; (try clear hb); (try clear hb2); (try clear hk); (try clear hi))))
      go_ret2; (exact ⟨by first | rfl | (simp [errW_none, errW_some] <;> rfl) | (simp [*, errW_none, errW_some] <;> rfl), (Bg GE151.out)⟩)
  · rw [if_neg c5] at H
    have c5b0 : (t152 == 0) = false := beq_eq_false_iff_ne.mpr c5; have c5b1 : (t152 != 0) = true := bne_iff_ne.mpr c5; simp only [Option.some.injEq, Prod.mk.injEq] at H; obtain ⟨rfl, rfl⟩ := H; go_enter Tryd.func11, Tryd.ntmps11; (go_wp2_with (first | ((with_reducible refine gate_dst (N := 3) rfl ?_); refine box_event ?hg (N := 3) ?hd (cs := #[.int .i64 a0_0, .int .i64 a0_1, .slice A0_2 l0_2.length c0_2, .slice A0_3 l0_3.length c0_3]) (t := 25) ?hr ?_; (case hd => rfl); (case hg => rfl); (case hr => first | (go_simp; done) | (go_simp; rfl)); intro gb151 hg w21 hbox hb; have n0_ := Aside0.mk (below_step Bq hb); have n1_ := Aside0.mk (hbox); have n2_ := Aside0.mk ((by rw [hg]; exact (below_size Bq) : w.heap.size ≤ gb151)); have n3_ := Aside0.mk ((by rw [hg]; exact (below_size Bq) : w.heap.size ≤ gb151)); clear HB; have HB := n0_; have BK151 := n1_; have GW151 := n2_; have GE151 := n3_; clear n0_ n1_ n2_ n3_; clear hb hbox hg; have hcz22_0 : w21.cell? ⟨gb151, 0, none⟩ = some (.int .i64 a0_0) := (blk_cell BK151.out 0).trans rfl; have hcz22_1 : w21.cell? ⟨gb151, 1, none⟩ = some (.int .i64 a0_1) := (blk_cell BK151.out 1).trans rfl; have hcz22_2 : w21.cell? ⟨gb151, 2, none⟩ = some (.slice A0_2 l0_2.length c0_2) := (blk_cell BK151.out 2).trans rfl; have hcz22_3 : w21.cell? ⟨gb151, 3, none⟩ = some (.slice A0_3 l0_3.length c0_3) := (blk_cell BK151.out 3).trans rfl; have hfz22_0 := blk_frozen BK151.out 0; have hfz22_1 := blk_frozen BK151.out 1; have hfz22_2 := blk_frozen BK151.out 2; have hfz22_3 := blk_frozen BK151.out 3) | ((with_reducible refine gate_callee (f := 13) rfl ?_); refine goesL_ (some 10) rfl rfl Tryd.func13 (by kernel_rfl) rfl #[.agg #[.int .i64 a0_0, .int .i64 a0_1, .slice A0_2 l0_2.length c0_2, .slice A0_3 l0_3.length c0_3]] rfl Mp ?_; (with_reducible refine (flow_Validate.calls k a0_0 a0_1 _ _ l0_2 _ _ l0_3 t152 _ ?side1 ?side2 ?side3 ?side4 A4.out).mono ?_); (case side1 => repeat (first | exact (Kd.C_below HR0_2.out HB.out) | (with_reducible refine Kd.C_alloc ?_ _) | (with_reducible refine Kd.C_drewN ?_ _) | (with_reducible refine Kd.C_drew ?_))); (case side2 => exact HC0_2.out); (case side3 => repeat (first | exact (Kd.C_below HR0_3.out HB.out) | (with_reducible refine Kd.C_alloc ?_ _) | (with_reducible refine Kd.C_drewN ?_ _) | (with_reducible refine Kd.C_drew ?_))); (case side4 => exact HC0_3.out); rintro e w23 ⟨rfl, hb⟩; refine ⟨_, rfl, ?_⟩; have n0_ := Aside0.mk (blk_below (g := gb151) (o := .cells #[.int .i64 a0_0, .int .i64 a0_1, .slice A0_2 l0_2.length c0_2, .slice A0_3 l0_3.length c0_3] 25 (0, 0)) (Bk BK151.out) hb); have n1_ := Aside0.mk (below_step (Bg GE151.out) hb); clear BK151; clear HB; have BK151 := n0_; have HB := n1_; clear n0_ n1_; (try clear hb); (try clear hb2); (try clear hk); (try clear hi)))); go_ret2; (exact ⟨by first | rfl | (simp [errW_none, errW_some] <;> rfl) | (simp [*, errW_none, errW_some] <;> rfl), (Bg GE151.out)⟩)
end Go.Proofs.YtfpikmeiooangaaDoor.PFlowTexts
end
section
namespace Go.Proofs.YtfpikmeiooangaaDoor.PFlowTexts
open Go.RowKit Go.Proofs.YtfpikmeiooangaaDoorW.PrintWords Go.Proofs.YtfpikmeiooangaaDoorW.PrintLast Go.Proofs.YtfpikmeiooangaaDoorW.PrintMore
def wigmakerlaw03_known.f (k : Nat)  : Option (Bool) := (wigmakerlaw03_outward.f).bind fun bt159 => ((flow_Index.f k bt159.1 bt159.2.1 bt159.2.2.1 bt159.2.2.2 0 0).bind fun bt167 => (if bt167.1 = 2 then (some (bt167.2 == 0)) else (some false)))
theorem wigmakerlaw03_known.mono : ∀ k, LeO (wigmakerlaw03_known.f k ) (wigmakerlaw03_known.f (k + 1) ) := by
  intro  k; unfold wigmakerlaw03_known.f
  repeat' first
      | (with_reducible exact flow_Index.mono _ _ _ _ _ _ _)
      | (with_reducible exact LeO.refl _)
      | (with_reducible exact LeO.none _)
      | (with_reducible refine LeO.ite ?_ ?_)
      | (with_reducible refine LeO.bind ?_ (fun _ => ?_))
      | exact flow_Index.mono _ _ _ _ _ _ _
      | exact LeO.none _
      | refine LeO.ite ?_ ?_
      | refine LeO.bind ?_ (fun _ => ?_)
set_option maxHeartbeats 8000000 in
set_option maxRecDepth 100000 in
theorem wigmakerlaw03_known.calls (k : Nat)  (r : Bool) (w : World) (h : wigmakerlaw03_known.f k  = some r) :
    Calls Tryd.prog 5 #[] w fun e w' => e = .returned (.bool r) ∧ Below w.heap.size w w' := by
  have HB := Aside0.mk (Below.refl w.heap.size w); (have H : ((wigmakerlaw03_outward.f).bind fun bt159 => ((flow_Index.f k bt159.1 bt159.2.1 bt159.2.2.1 bt159.2.2.2 0 0).bind fun bt167 => (if bt167.1 = 2 then (some (bt167.2 == 0)) else (some false)))) = some r := h); clear h; replace H := Option.bind_eq_some_iff.mp H; obtain ⟨⟨t159, t160, t161, t164⟩, A10, H⟩ := H; (replace H : ((flow_Index.f k t159 t160 t161 t164 0 0).bind fun bt167 => (if bt167.1 = 2 then (some (bt167.2 == 0)) else (some false))) = some r := H); have A1 := Aside0.mk A10; clear A10; replace H := Option.bind_eq_some_iff.mp H; obtain ⟨⟨t167, t168⟩, A20, H⟩ := H; replace H : (if t167 = 2 then (some (t168 == 0)) else (some false)) = some r := H; have A2 := Aside0.mk A20; clear A20; by_cases c3 : t167 = 2
  · rw [if_pos c3] at H
    have c3b0 : (t167 == 2) = true := beq_iff_eq.mpr c3; have c3b1 : (t167 != 2) = false := bne_eq_false_iff_eq.mpr c3; clear c3; obtain rfl := Option.some.inj H; go_enter Tryd.func5, Tryd.ntmps5; (go_wp2_with (first | ((with_reducible refine gate_callee (f := 12) rfl ?_); refine goesL_ (some 4) rfl rfl Tryd.func12 (by kernel_rfl) rfl #[] rfl Mp ?_; (with_reducible refine (wigmakerlaw03_outward.calls  t159 t160 t161 t164 _ A1.out).mono ?_); rintro e w4 ⟨v162, v165, rfl, ho0, ho1, hb⟩; refine ⟨_, rfl, ?_⟩; have n0_ := Aside0.mk (Kd.R_lower ho0 (below_size Bq)); have n1_ := Aside0.mk (Kd.R_lower ho1 (below_size Bq)); have n2_ := Aside0.mk (below_step Bq hb); clear HB; have HO163 := n0_; have HO166 := n1_; have HB := n2_; clear n0_ n1_ n2_; (try clear hb); (try clear hb2); (try clear hk); (try clear hi); (try clear ho0); (try clear ho1); obtain ⟨Ao5, co5, eo5⟩ := Kd.R_slice HO163.out; subst eo5; obtain ⟨Ao6, co6, eo6⟩ := Kd.R_slice HO166.out; subst eo6) | ((with_reducible refine gate_callee (f := 11) rfl ?_); refine goesL_ (some 5) rfl rfl Tryd.func11 (by kernel_rfl) rfl #[.agg #[.int .i64 t159, .int .i64 t160, .slice Ao5 t161.length co5, .slice Ao6 t164.length co6], .int .i64 0, .int .i64 0] rfl Mp ?_; (with_reducible refine (flow_Index.calls k t159 t160 _ _ t161 _ _ t164 0 0 t167 t168 _ ?side1 ?side2 ?side3 ?side4 A2.out).mono ?_); (case side1 => repeat (first | exact (Kd.R_reads' HO163.out).2.2 | (with_reducible refine Kd.C_alloc ?_ _) | (with_reducible refine Kd.C_drewN ?_ _) | (with_reducible refine Kd.C_drew ?_))); (case side2 => exact (Kd.R_reads' HO163.out).2.1); (case side3 => repeat (first | exact (Kd.R_reads' HO166.out).2.2 | (with_reducible refine Kd.C_alloc ?_ _) | (with_reducible refine Kd.C_drewN ?_ _) | (with_reducible refine Kd.C_drew ?_))); (case side4 => exact (Kd.R_reads' HO166.out).2.1); rintro e w7 ⟨rfl, hb⟩; refine ⟨_, rfl, ?_⟩; have n0_ := Aside0.mk (Kd.R_below (by (with_reducible repeat (first | apply Kd.R_alloc | apply Kd.R_drewN | apply Kd.R_drew)); exact HO163.out) hb); have n1_ := Aside0.mk (Kd.R_below (by (with_reducible repeat (first | apply Kd.R_alloc | apply Kd.R_drewN | apply Kd.R_drew)); exact HO166.out) hb); have n2_ := Aside0.mk (below_step Bq hb); clear HO163; clear HO166; clear HB; have HO163 := n0_; have HO166 := n1_; have HB := n2_; clear n0_ n1_ n2_; (try clear hb); (try clear hb2); (try clear hk); (try clear hi)))); go_ret; (exact ⟨by first | rfl | (simp [errW_none, errW_some] <;> rfl) | (simp [*, errW_none, errW_some] <;> rfl), Bq⟩)
  · rw [if_neg c3] at H
    have c3b0 : (t167 == 2) = false := beq_eq_false_iff_ne.mpr c3; have c3b1 : (t167 != 2) = true := bne_iff_ne.mpr c3; obtain rfl := Option.some.inj H; go_enter Tryd.func5, Tryd.ntmps5; (go_wp2_with (first | ((with_reducible refine gate_callee (f := 12) rfl ?_); refine goesL_ (some 4) rfl rfl Tryd.func12 (by kernel_rfl) rfl #[] rfl Mp ?_; (with_reducible refine (wigmakerlaw03_outward.calls  t159 t160 t161 t164 _ A1.out).mono ?_); rintro e w8 ⟨v162, v165, rfl, ho0, ho1, hb⟩; refine ⟨_, rfl, ?_⟩; have n0_ := Aside0.mk (Kd.R_lower ho0 (below_size Bq)); have n1_ := Aside0.mk (Kd.R_lower ho1 (below_size Bq)); have n2_ := Aside0.mk (below_step Bq hb); clear HB; have HO163 := n0_; have HO166 := n1_; have HB := n2_; clear n0_ n1_ n2_; (try clear hb); (try clear hb2); (try clear hk); (try clear hi); (try clear ho0); (try clear ho1); obtain ⟨Ao9, co9, eo9⟩ := Kd.R_slice HO163.out; subst eo9; obtain ⟨Ao10, co10, eo10⟩ := Kd.R_slice HO166.out; subst eo10) | ((with_reducible refine gate_callee (f := 11) rfl ?_); refine goesL_ (some 5) rfl rfl Tryd.func11 (by kernel_rfl) rfl #[.agg #[.int .i64 t159, .int .i64 t160, .slice Ao9 t161.length co9, .slice Ao10 t164.length co10], .int .i64 0, .int .i64 0] rfl Mp ?_; (with_reducible refine (flow_Index.calls k t159 t160 _ _ t161 _ _ t164 0 0 t167 t168 _ ?side1 ?side2 ?side3 ?side4 A2.out).mono ?_); (case side1 => repeat (first | exact (Kd.R_reads' HO163.out).2.2 | (with_reducible refine Kd.C_alloc ?_ _) | (with_reducible refine Kd.C_drewN ?_ _) | (with_reducible refine Kd.C_drew ?_))); (case side2 => exact (Kd.R_reads' HO163.out).2.1); (case side3 => repeat (first | exact (Kd.R_reads' HO166.out).2.2 | (with_reducible refine Kd.C_alloc ?_ _) | (with_reducible refine Kd.C_drewN ?_ _) | (with_reducible refine Kd.C_drew ?_))); (case side4 => exact (Kd.R_reads' HO166.out).2.1); rintro e w11 ⟨rfl, hb⟩; refine ⟨_, rfl, ?_⟩; have n0_ := Aside0.mk (Kd.R_below (by (with_reducible repeat (first | apply Kd.R_alloc | apply Kd.R_drewN | apply Kd.R_drew)); exact HO163.out) hb); have n1_ := Aside0.mk (Kd.R_below (by (with_reducible repeat (first | apply Kd.R_alloc | apply Kd.R_drewN | apply Kd.R_drew)); exact HO166.out) hb); have n2_ := Aside0.mk (below_step Bq hb); clear HO163; clear HO166; clear HB; have HO163 := n0_; have HO166 := n1_; have HB := n2_; clear n0_ n1_ n2_; (try clear hb); (try clear hb2); (try clear hk); (try clear hi)))); go_ret; (exact ⟨by first | rfl | (simp [errW_none, errW_some] <;> rfl) | (simp [*, errW_none, errW_some] <;> rfl), Bq⟩)
end Go.Proofs.YtfpikmeiooangaaDoor.PFlowTexts
end
section
namespace Go.Proofs.YtfpikmeiooangaaDoor.PFlowTexts
open Go.RowKit Go.Proofs.YtfpikmeiooangaaDoorW.PrintWords Go.Proofs.YtfpikmeiooangaaDoorW.PrintLast Go.Proofs.YtfpikmeiooangaaDoorW.PrintMore
theorem sameInts_ev (a : List Int) (ha : a.length ≤ 100000) : Ev (fun k => wigmakerref01_SameInts.f k a a) true := by
  have main : ∀ (m i : Nat), i + m = a.length → Ev (fun k => wigmakerref01_SameInts.l0 k a a (i : Int)) true := by
    intro m
    induction m with
    | zero =>
      intro i hi
      refine Ev.succ ?_
      simp only [wigmakerref01_SameInts.l0]
      exact Ev.neg (by omega) (Ev.pure _)
    | succ m ih =>
      intro i hi
      refine Ev.succ ?_
      simp only [wigmakerref01_SameInts.l0]
      refine Ev.pos (by omega) (Ev.pos (by omega) (Ev.pos (by omega) (Ev.pos (by trivial) ?_)))
      rw [w1 i (by omega)]
      exact ih (i + 1) (by omega)
  unfold wigmakerref01_SameInts.f
  exact Ev.pos rfl (main a.length 0 (by omega))
theorem same_ev (W H : Int) (D : List Int) (P : List S50) (hD : D.length ≤ 100000) (hP : P.length ≤ 100000) : Ev (fun k => wigmakerref03_Same.f k W H D P W H D P) true := by
  have main : ∀ (m i : Nat), i + m = P.length → Ev (fun k => wigmakerref03_Same.l0 k (i : Int) W H D P W H D P) true := by
    intro m
    induction m with
    | zero =>
      intro i hi
      refine Ev.succ ?_
      simp only [wigmakerref03_Same.l0]
      exact Ev.neg (by omega) (Ev.pure _)
    | succ m ih =>
      intro i hi
      refine Ev.succ ?_
      simp only [wigmakerref03_Same.l0]
      refine Ev.pos (by omega) (Ev.pos (by omega) (Ev.pos (by omega) (Ev.neg (by simp) ?_)))
      rw [w1 i (by omega)]
      exact ih (i + 1) (by omega)
  unfold wigmakerref03_Same.f
  refine Ev.pos rfl (Ev.pos rfl (Ev.bind (sameInts_ev D hD) (Ev.pos rfl (Ev.succ ?_))))
  simp only [wigmakerref03_Same.j0, bne_self_eq_false]
  exact Ev.neg (by decide) (main P.length 0 (by omega))
theorem Ev.of_mono {α : Type} {F : Nat → Option α} {v : α} (hm : ∀ k, LeO (F k) (F (k + 1))) (k0 : Nat) (h : F k0 = some v) : Ev F v := by
  refine ⟨k0, fun k hk => ?_⟩
  obtain ⟨d, rfl⟩ : ∃ d, k = k0 + d := ⟨k - k0, by omega⟩
  clear hk
  induction d with
  | zero => exact h
  | succ d ih => exact hm _ _ ih
theorem known_ev : Ev (fun k => wigmakerlaw03_known.f k) true := Ev.of_mono (fun k => wigmakerlaw03_known.mono k) 40 (by decide +kernel)
end Go.Proofs.YtfpikmeiooangaaDoor.PFlowTexts
end
