/- A part of a proof: LVal, PFlowTextsx14, PFlowTextsx18, PFlowTextsx70, PFlowTextsx71, PFlowTextsx48. -/
import Derived.Test.YtfpikmeiooangaaDoorT07
import Derived.Test.YtfpikmeiooangaaDoorT08
import Derived.Test.YtfpikmeiooangaaDoorT09
import Derived.Test.YtfpikmeiooangaaDoorT04
import Derived.Test.YtfpikmeiooangaaDoorT05
set_option linter.unusedVariables false
set_option linter.unusedSimpArgs false
section
namespace Go.Proofs.YtfpikmeiooangaaDoor.PFlowTexts
open Go.RowKit Go.Proofs.YtfpikmeiooangaaDoorW.PrintWords Go.Proofs.YtfpikmeiooangaaDoorW.PrintLast Go.Proofs.YtfpikmeiooangaaDoorW.PrintMore
theorem drop_consI (D : List Int) (i : Nat) (h : i < D.length) : D.drop i = rd D (i : Int) :: D.drop (i + 1) := by
  rw [List.drop_eq_getElem_cons h]
  congr 1
  show D[i] = D.getD (i : Int).toNat 0
  rw [Int.toNat_natCast, List.getD_eq_getElem?_getD, List.getElem?_eq_getElem h]
  rfl
/-- The parting number i is an edge, behind the one before it. -/
def goodP (W H : Int) (P : List S50) (i : Nat) : Prop := onF W H (P.getD i z50).f0 (P.getD i z50).f1 (P.getD i z50).f2 = true ∧ (i = 0 ∨ ltE (P.getD (i - 1) z50) (P.getD i z50))
section
variable {W H : Int} {D : List Int} {P : List S50} {v : Int}
theorem fl0 (hD : D.length ≤ 100000) : ∀ (m i : Nat), i + m = D.length → ((∀ x ∈ D.drop i, 0 ≤ x ∧ x ≤ 7) → Ev (fun k => if (P.length : Int) > 60 then some 4 else flow_Validate.l1 k P (P.length : Int) 0 W H D P) v) → (¬ (∀ x ∈ D.drop i, 0 ≤ x ∧ x ≤ 7) → v = 1) →
    Ev (fun k => flow_Validate.l0 k D (D.length : Int) (i : Int) W H D P) v
  | 0, i, hm, hc, hb => by
    refine Ev.succ ?_
    simp only [flow_Validate.l0]
    refine Ev.neg (by omega) ?_
    exact hc (by rw [List.drop_eq_nil_of_le (by omega)]; simp)
  | m + 1, i, hm, hc, hb => by
    refine Ev.succ ?_
    simp only [flow_Validate.l0]
    rw [drop_consI D i (by omega)] at hc hb
    refine Ev.pos (by omega) (Ev.pos (by omega) (Ev.pos (by omega) ?_))
    rw [w1 i (by omega)]
    by_cases h0 : rd D (i : Int) < 0
    · rw [hb (fun h => by have := h _ List.mem_cons_self; omega)]
      exact Ev.pos h0 (Ev.pure _)
    · refine Ev.neg h0 ?_
      by_cases h7 : rd D (i : Int) > 7
      · rw [hb (fun h => by have := h _ List.mem_cons_self; omega)]
        exact Ev.pos h7 (Ev.pure _)
      · refine Ev.neg h7 (fl0 hD m (i + 1) (by omega) (fun h => hc ?_) (fun h => hb ?_))
        · intro x hx
          rcases List.mem_cons.1 hx with rfl | hx
          · omega
          · exact h x hx
        · exact fun c => h (fun x hx => c x (List.mem_cons_of_mem _ hx))
theorem rl0 (hD : D.length ≤ 100000) : ∀ (m i : Nat), i + m = D.length → ((∀ x ∈ D.drop i, 0 ≤ x ∧ x ≤ 7) → Ev (fun k => if (P.length : Int) > 60 then some 4 else wigmakerref03_Validate.l1 k 0 W H D P) v) → (¬ (∀ x ∈ D.drop i, 0 ≤ x ∧ x ≤ 7) → v = 1) →
    Ev (fun k => wigmakerref03_Validate.l0 k (i : Int) W H D P) v
  | 0, i, hm, hc, hb => by
    refine Ev.succ ?_
    simp only [wigmakerref03_Validate.l0]
    refine Ev.neg (by omega) ?_
    exact hc (by rw [List.drop_eq_nil_of_le (by omega)]; simp)
  | m + 1, i, hm, hc, hb => by
    have hw : ∀ a b c : Int, wigmakerref03_within.f a b c = some (decide (b ≤ a ∧ a ≤ c)) := by
      intro a b c
      unfold wigmakerref03_within.f
      split
      · rw [Option.some.injEq, decide_eq_decide]; omega
      · rw [Option.some.injEq]; symm; rw [decide_eq_false_iff_not]; omega
    refine Ev.succ ?_
    simp only [wigmakerref03_Validate.l0, hw, Option.bind_some, decide_eq_true_eq]
    rw [drop_consI D i (by omega)] at hc hb
    refine Ev.pos (by omega) (Ev.pos (by omega) ?_)
    rw [w1 i (by omega)]
    by_cases h0 : 0 ≤ rd D (i : Int) ∧ rd D (i : Int) ≤ 7
    · refine Ev.pos h0 (rl0 hD m (i + 1) (by omega) (fun h => hc ?_) (fun h => hb ?_))
      · intro x hx
        rcases List.mem_cons.1 hx with rfl | hx
        · exact h0
        · exact h x hx
      · exact fun c => h (fun x hx => c x (List.mem_cons_of_mem _ hx))
    · rw [hb (fun h => h0 (h _ List.mem_cons_self))]
      exact Ev.neg h0 (Ev.pure _)
theorem fl1 (hW : 1 ≤ W ∧ W ≤ 12) (hH : 1 ≤ H ∧ H ≤ 12) (hP : P.length ≤ 100000) : ∀ (m i : Nat), i + m = P.length → ((∀ j, i ≤ j → j < P.length → goodP W H P j) → Ev (fun k => (flow_edges.f k W H D P).bind fun t => flow_Validate.l2 k t (t.length : Int) 0 W H D P) v) → (¬ (∀ j, i ≤ j → j < P.length → goodP W H P j) → v = 1) →
    Ev (fun k => flow_Validate.l1 k P (P.length : Int) (i : Int) W H D P) v
  | 0, i, hm, hc, hb => by
    refine Ev.succ ?_
    simp only [flow_Validate.l1]
    refine Ev.neg (by omega) ?_
    exact hc (fun j h1 h2 => by omega)
  | m + 1, i, hm, hc, hb => by
    have next : goodP W H P i → Ev (fun k => flow_Validate.l1 k P (P.length : Int) ((i + 1 : Nat) : Int) W H D P) v := fun hg =>
      fl1 hW hH hP m (i + 1) (by omega) (fun h => hc (fun j h1 h2 => by
        rcases Nat.lt_or_ge i j with h3 | h3
        · exact h j h3 h2
        · obtain rfl : j = i := by omega
          exact hg)) (fun h => hb (fun c => h (fun j h1 h2 => c j (by omega) h2)))
    refine Ev.succ ?_
    simp only [flow_Validate.l1, hasEdge_eq _ _ D P _ _ _ hW hH, Option.bind_some]
    refine Ev.pos (by omega) (Ev.pos (by omega) (Ev.pos (by omega) ?_))
    rw [w1 i (by omega), rdT_nat]
    by_cases he : onF W H (P.getD i z50).f0 (P.getD i z50).f1 (P.getD i z50).f2 = true
    · refine Ev.pos he ?_
      by_cases hi : i = 0
      · refine Ev.neg (by omega) (next ⟨he, .inl hi⟩)
      · have e1 : wrap64 ((i : Int) - 1) = ((i - 1 : Nat) : Int) := by rw [w64 _ (by omega)]; omega
        rw [e1]
        refine Ev.pos (by omega) (Ev.pos (by omega) (Ev.pos (by omega) ?_))
        rw [rdT_nat]
        refine Ev.bind (compareEdges_ev (P.getD (i - 1) z50) (P.getD i z50)) ?_
        by_cases hl : ltE (P.getD (i - 1) z50) (P.getD i z50)
        · exact Ev.neg (by have := (cmpE_lt _ _).2 hl; omega) (next ⟨he, .inr hl⟩)
        · rw [hb (fun c => (c i (Nat.le_refl _) (by omega)).2.elim hi hl)]
          exact Ev.pos (by have := mt (cmpE_lt _ _).1 hl; omega) (Ev.pure _)
    · rw [hb (fun c => he (c i (Nat.le_refl _) (by omega)).1)]
      exact Ev.neg he (Ev.pure _)
theorem rl1 (hW : 1 ≤ W ∧ W ≤ 12) (hH : 1 ≤ H ∧ H ≤ 12) (hP : P.length ≤ 100000) : ∀ (m i : Nat), i + m = P.length → ((∀ j, i ≤ j → j < P.length → goodP W H P j) → Ev (fun k => (wigmakerref03_edges.f k W H D P).bind fun t => wigmakerref03_Validate.l2 k t 0 W H D P) v) → (¬ (∀ j, i ≤ j → j < P.length → goodP W H P j) → v = 1) →
    Ev (fun k => wigmakerref03_Validate.l1 k (i : Int) W H D P) v
  | 0, i, hm, hc, hb => by
    refine Ev.succ ?_
    simp only [wigmakerref03_Validate.l1]
    refine Ev.neg (by omega) ?_
    exact hc (fun j h1 h2 => by omega)
  | m + 1, i, hm, hc, hb => by
    have next : goodP W H P i → Ev (fun k => wigmakerref03_Validate.l1 k ((i + 1 : Nat) : Int) W H D P) v := fun hg =>
      rl1 hW hH hP m (i + 1) (by omega) (fun h => hc (fun j h1 h2 => by
        rcases Nat.lt_or_ge i j with h3 | h3
        · exact h j h3 h2
        · obtain rfl : j = i := by omega
          exact hg)) (fun h => hb (fun c => h (fun j h1 h2 => c j (by omega) h2)))
    refine Ev.succ ?_
    simp only [wigmakerref03_Validate.l1, isEdge_eq _ _ D P _ _ _ hW hH, before_eq, Option.bind_some]
    refine Ev.pos (by omega) (Ev.pos (by omega) ?_)
    rw [w1 i (by omega), rdT_nat]
    by_cases he : onF W H (P.getD i z50).f0 (P.getD i z50).f1 (P.getD i z50).f2 = true
    · refine Ev.pos he ?_
      by_cases hi : i = 0
      · refine Ev.neg (by omega) (next ⟨he, .inl hi⟩)
      · have e1 : wrap64 ((i : Int) - 1) = ((i - 1 : Nat) : Int) := by rw [w64 _ (by omega)]; omega
        rw [e1]
        refine Ev.pos (by omega) (Ev.pos (by omega) (Ev.pos (by omega) ?_))
        rw [rdT_nat]
        by_cases hl : ltE (P.getD (i - 1) z50) (P.getD i z50)
        · exact Ev.pos (decide_eq_true hl) (next ⟨he, .inr hl⟩)
        · rw [hb (fun c => (c i (Nat.le_refl _) (by omega)).2.elim hi hl)]
          exact Ev.neg (fun c => hl (of_decide_eq_true c)) (Ev.pure _)
    · rw [hb (fun c => he (c i (Nat.le_refl _) (by omega)).1)]
      exact Ev.neg he (Ev.pure _)
theorem fl2 (F : Fld W H D) (hP : P.length ≤ 100000) (ho : Ordered P) (L : List S50) (hL : L.length ≤ 1000) (hE : ∀ e ∈ L, onF W H e.f0 e.f1 e.f2 = true) : ∀ (m i : Nat), i + m = L.length → ((∀ e ∈ L.drop i, turnV W D P e ≠ 4) → v = 0) → (¬ (∀ e ∈ L.drop i, turnV W D P e ≠ 4) → v = 9) →
    Ev (fun k => flow_Validate.l2 k L (L.length : Int) (i : Int) W H D P) v
  | 0, i, hm, hc, hb => by
    refine Ev.succ ?_
    simp only [flow_Validate.l2]
    refine Ev.neg (by omega) ?_
    rw [hc (by rw [List.drop_eq_nil_of_le (by omega)]; simp)]
    exact Ev.pure _
  | m + 1, i, hm, hc, hb => by
    refine Ev.succ ?_
    simp only [flow_Validate.l2]
    have hd := drop_cons L i (by omega)
    have he := hE (L.getD i z50) (List.mem_of_mem_drop (hd ▸ List.mem_cons_self))
    rw [hd] at hc hb
    refine Ev.pos (by omega) (Ev.pos (by omega) (Ev.pos (by omega) ?_))
    rw [w1 i (by omega), rdT_nat]
    refine Ev.bind (turns_both F _ he hP ho).1 ?_
    by_cases h4 : turnV W D P (L.getD i z50) = 4
    · rw [hb (fun c => c _ List.mem_cons_self h4)]
      exact Ev.pos h4 (Ev.pure _)
    · refine Ev.neg h4 (fl2 F hP ho L hL hE m (i + 1) (by omega) (fun c => hc ?_) (fun c => hb ?_))
      · intro e h
        rcases List.mem_cons.1 h with rfl | h
        · exact h4
        · exact c e h
      · exact fun h => c (fun e he => h e (List.mem_cons_of_mem _ he))
theorem rl2 (F : Fld W H D) (hP : P.length ≤ 100000) (ho : Ordered P) (L : List S50) (hL : L.length ≤ 1000) (hE : ∀ e ∈ L, onF W H e.f0 e.f1 e.f2 = true) : ∀ (m i : Nat), i + m = L.length → ((∀ e ∈ L.drop i, turnV W D P e ≠ 4) → v = 0) → (¬ (∀ e ∈ L.drop i, turnV W D P e ≠ 4) → v = 9) →
    Ev (fun k => wigmakerref03_Validate.l2 k L (i : Int) W H D P) v
  | 0, i, hm, hc, hb => by
    refine Ev.succ ?_
    simp only [wigmakerref03_Validate.l2]
    refine Ev.neg (by omega) ?_
    rw [hc (by rw [List.drop_eq_nil_of_le (by omega)]; simp)]
    exact Ev.pure _
  | m + 1, i, hm, hc, hb => by
    refine Ev.succ ?_
    simp only [wigmakerref03_Validate.l2]
    have hd := drop_cons L i (by omega)
    have he := hE (L.getD i z50) (List.mem_of_mem_drop (hd ▸ List.mem_cons_self))
    rw [hd] at hc hb
    refine Ev.pos (by omega) (Ev.pos (by omega) ?_)
    rw [w1 i (by omega), rdT_nat]
    refine Ev.bind (turns_both F _ he hP ho).2 ?_
    by_cases h4 : turnV W D P (L.getD i z50) = 4
    · rw [hb (fun c => c _ List.mem_cons_self h4)]
      exact Ev.pos h4 (Ev.pure _)
    · refine Ev.neg h4 (rl2 F hP ho L hL hE m (i + 1) (by omega) (fun c => hc ?_) (fun c => hb ?_))
      · intro e h
        rcases List.mem_cons.1 h with rfl | h
        · exact h4
        · exact c e h
      · exact fun h => c (fun e he => h e (List.mem_cons_of_mem _ he))
end
theorem ordered_of {W H : Int} {P : List S50} (h : ∀ j, 0 ≤ j → j < P.length → goodP W H P j) : Ordered P := by
  intro i j hij
  induction j with
  | zero => omega
  | succ j ih =>
    intro hj
    have h1 := (h (j + 1) (by omega) hj).2.resolve_left (by omega)
    rw [Nat.add_sub_cancel] at h1
    rcases Nat.lt_or_ge i j with h2 | h2
    · have := ih h2 (by omega)
      unfold ltE at this h1 ⊢
      omega
    · obtain rfl : i = j := by omega
      exact h1
/-- A valid field. -/
structure Valid (W H : Int) (D : List Int) (P : List S50) : Prop where
  fld : Fld W H D
  few : P.length ≤ 60
  good : ∀ j, 0 ≤ j → j < P.length → goodP W H P j
open Classical in
theorem validate_both (W H : Int) (D : List Int) (P : List S50) (hD : D.length ≤ 100000) (hP : P.length ≤ 100000) :
    ∃ e : Int, Ev (fun k => flow_Validate.f k W H D P) e ∧ Ev (fun k => wigmakerref03_Validate.f k W H D P) e ∧ (e = 0 → Valid W H D P) := by
  have hw : ∀ a b c : Int, wigmakerref03_within.f a b c = some (decide (b ≤ a ∧ a ≤ c)) := by
    intro a b c
    unfold wigmakerref03_within.f
    split
    · rw [Option.some.injEq, decide_eq_decide]; omega
    · rw [Option.some.injEq]; symm; rw [decide_eq_false_iff_not]; omega
  have fj : ∀ b : Bool, b = true → Ev (fun k => flow_Validate.j0 k b W H D P) 1 := fun b hb => by
    refine Ev.succ ?_
    simp only [flow_Validate.j0]
    exact Ev.pos hb (Ev.pure _)
  have rj : ∀ b : Bool, b = true → Ev (fun k => wigmakerref03_Validate.j0 k b W H D P) 1 := fun b hb => by
    refine Ev.succ ?_
    simp only [wigmakerref03_Validate.j0]
    exact Ev.pos hb (Ev.pure _)
  unfold flow_Validate.f wigmakerref03_Validate.f
  simp only [hw, Option.bind_some, decide_eq_true_eq]
  by_cases hW : 1 ≤ W ∧ W ≤ 12
  case neg =>
    refine ⟨1, ?_, ?_, fun h => absurd h (by decide)⟩
    · by_cases h1 : W < 1
      · exact Ev.pos h1 (fj _ rfl)
      · exact Ev.neg h1 (Ev.pos (by omega) (fj _ rfl))
    · exact Ev.neg hW (rj _ rfl)
  by_cases hH : 1 ≤ H ∧ H ≤ 12
  case neg =>
    refine ⟨1, ?_, ?_, fun h => absurd h (by decide)⟩
    · refine Ev.neg (by omega) (Ev.neg (by omega) ?_)
      by_cases h1 : H < 1
      · exact Ev.pos h1 (fj _ rfl)
      · exact Ev.neg h1 (Ev.pos (by omega) (fj _ rfl))
    · exact Ev.pos hW (Ev.neg hH (rj _ rfl))
  have hWH : 0 ≤ W * H ∧ W * H ≤ 12 * 12 := ⟨Int.mul_nonneg (by omega) (by omega), Int.mul_le_mul hW.2 hH.2 (by omega) (by omega)⟩
  rw [w64 (W * H) (by omega)]
  suffices hs : ∃ e : Int, Ev (fun k => flow_Validate.j0 k ((D.length : Int) != W * H) W H D P) e ∧ Ev (fun k => wigmakerref03_Validate.j0 k ((D.length : Int) != W * H) W H D P) e ∧ (e = 0 → Valid W H D P) by
    obtain ⟨e, h1, h2, h3⟩ := hs
    exact ⟨e, Ev.neg (by omega) (Ev.neg (by omega) (Ev.neg (by omega) (Ev.neg (by omega) h1))), Ev.pos hW (Ev.pos hH h2), h3⟩
  by_cases hn : (D.length : Int) = W * H
  case neg => exact ⟨1, fj _ (bne_iff_ne.2 hn), rj _ (bne_iff_ne.2 hn), fun h => absurd h (by decide)⟩
  have hb : ((D.length : Int) != W * H) = false := bne_eq_false_iff_eq.2 hn
  rw [hb]
  suffices hs : ∃ e : Int, Ev (fun k => flow_Validate.l0 k D (D.length : Int) ((0 : Nat) : Int) W H D P) e ∧ Ev (fun k => wigmakerref03_Validate.l0 k ((0 : Nat) : Int) W H D P) e ∧ (e = 0 → Valid W H D P) by
    obtain ⟨e, h1, h2, h3⟩ := hs
    refine ⟨e, Ev.succ ?_, Ev.succ ?_, h3⟩
    · simp only [flow_Validate.j0]
      exact Ev.neg (by decide) h1
    · simp only [wigmakerref03_Validate.j0]
      exact Ev.neg (by decide) h2
  by_cases hd : ∀ x ∈ D.drop 0, 0 ≤ x ∧ x ≤ 7
  case neg => exact ⟨1, fl0 hD D.length 0 (by omega) (fun h => absurd h hd) (fun _ => rfl), rl0 hD D.length 0 (by omega) (fun h => absurd h hd) (fun _ => rfl), fun h => absurd h (by decide)⟩
  have F : Fld W H D := ⟨hW, hH, hn, hd⟩
  by_cases h60 : (P.length : Int) > 60
  case pos => exact ⟨4, fl0 hD D.length 0 (by omega) (fun _ => Ev.pos h60 (Ev.pure _)) (fun h => absurd hd h), rl0 hD D.length 0 (by omega) (fun _ => Ev.pos h60 (Ev.pure _)) (fun h => absurd hd h), fun h => absurd h (by decide)⟩
  suffices hs : ∃ e : Int, Ev (fun k => flow_Validate.l1 k P (P.length : Int) ((0 : Nat) : Int) W H D P) e ∧ Ev (fun k => wigmakerref03_Validate.l1 k ((0 : Nat) : Int) W H D P) e ∧ (e = 0 → Valid W H D P) by
    obtain ⟨e, h1, h2, h3⟩ := hs
    exact ⟨e, fl0 hD D.length 0 (by omega) (fun _ => Ev.neg h60 h1) (fun h => absurd hd h), rl0 hD D.length 0 (by omega) (fun _ => Ev.neg h60 h2) (fun h => absurd hd h), h3⟩
  by_cases hg : ∀ j, 0 ≤ j → j < P.length → goodP W H P j
  case neg => exact ⟨1, fl1 hW hH hP P.length 0 (by omega) (fun h => absurd h hg) (fun _ => rfl), rl1 hW hH hP P.length 0 (by omega) (fun h => absurd h hg) (fun _ => rfl), fun h => absurd h (by decide)⟩
  have ho := ordered_of hg
  obtain ⟨w, rfl⟩ : ∃ w : Nat, W = w := ⟨W.toNat, by omega⟩
  obtain ⟨h, rfl⟩ : ∃ h : Nat, H = h := ⟨H.toNat, by omega⟩
  obtain ⟨L, L', hL, hL', hm, hm', hl, hl'⟩ := edges_both (D := D) (P := P) hW hH
  refine ⟨if (∀ e, onF w h e.f0 e.f1 e.f2 = true → turnV w D P e ≠ 4) then 0 else 9, fl1 hW hH hP P.length 0 (by omega) (fun _ => Ev.bind hL ?_) (fun h => absurd hg h), rl1 hW hH hP P.length 0 (by omega) (fun _ => Ev.bind hL' ?_) (fun h => absurd hg h), fun _ => ⟨F, by omega, hg⟩⟩
  · refine fl2 F hP ho L hl (fun e he => (hm e).1 he) L.length 0 (by omega) (fun c => if_pos ?_) (fun c => if_neg ?_)
    · exact fun e he => c e (by rw [List.drop_zero]; exact (hm e).2 he)
    · exact fun h => c (fun e he => h e ((hm e).1 (by rwa [List.drop_zero] at he)))
  · refine rl2 F hP ho L' hl' (fun e he => (hm' e).1 he) L'.length 0 (by omega) (fun c => if_pos ?_) (fun c => if_neg ?_)
    · exact fun e he => c e (by rw [List.drop_zero]; exact (hm' e).2 he)
    · exact fun h => c (fun e he => h e ((hm' e).1 (by rwa [List.drop_zero] at he)))
end Go.Proofs.YtfpikmeiooangaaDoor.PFlowTexts
end
section
namespace Go.Proofs.YtfpikmeiooangaaDoor.PFlowTexts
open Go.RowKit Go.Proofs.YtfpikmeiooangaaDoorW.PrintWords Go.Proofs.YtfpikmeiooangaaDoorW.PrintLast Go.Proofs.YtfpikmeiooangaaDoorW.PrintMore
def flow_hasSquare.f (a0_0 : Int) (a0_1 : Int) (l0_2 : List Int) (l0_3 : List (S50)) (a1 : Int) (a2 : Int) : Option (Bool) := if a1 ≥ 0 then (if a1 < (wrap64 (a0_0 - 1)) then (if a2 ≥ 0 then (some (decide (a2 < (wrap64 (a0_1 - 1))))) else (some false)) else (some false)) else (some false)
set_option maxHeartbeats 8000000 in
set_option maxRecDepth 100000 in
theorem flow_hasSquare.calls (a0_0 : Int) (a0_1 : Int) (A0_2 : Option Addr) (c0_2 : Nat) (l0_2 : List Int) (A0_3 : Option Addr) (c0_3 : Nat) (l0_3 : List (S50)) (a1 : Int) (a2 : Int) (r : Bool) (w : World) (hr0_2 : Kd.C (Kd.int .i64) w A0_2 l0_2.length l0_2) (hc0_2 : l0_2.length ≤ c0_2) (hr0_3 : Kd.C k50 w A0_3 l0_3.length l0_3) (hc0_3 : l0_3.length ≤ c0_3) (h : flow_hasSquare.f a0_0 a0_1 l0_2 l0_3 a1 a2 = some r) :
    Calls Tryd.prog 26 #[.agg #[.int .i64 a0_0, .int .i64 a0_1, .slice A0_2 l0_2.length c0_2, .slice A0_3 l0_3.length c0_3], .int .i64 a1, .int .i64 a2] w fun e w' => e = .returned (.bool r) ∧ Below w.heap.size w w' := by
  have hu25 := Tryd.underlying25; have HR0_2 := Aside0.mk hr0_2; have HC0_2 := Aside0.mk hc0_2; clear hr0_2 hc0_2; have HR0_3 := Aside0.mk hr0_3; have HC0_3 := Aside0.mk hc0_3; clear hr0_3 hc0_3; have HB := Aside0.mk (Below.refl w.heap.size w); have H : (if a1 ≥ 0 then (if a1 < (wrap64 (a0_0 - 1)) then (if a2 ≥ 0 then (some (decide (a2 < (wrap64 (a0_1 - 1))))) else (some false)) else (some false)) else (some false)) = some r := h; clear h; by_cases c4 : a1 ≥ 0
  · rw [if_pos c4] at H
    have c4b0 : decide (0 ≤ a1) = true := decide_eq_true c4; clear c4; by_cases c5 : a1 < (wrap64 (a0_0 - 1))
    · rw [if_pos c5] at H
      have c5b0 : decide (a1 < (wrap64 (a0_0 - 1))) = true := decide_eq_true c5; clear c5; by_cases c6 : a2 ≥ 0
      · rw [if_pos c6] at H
        have c6b0 : decide (0 ≤ a2) = true := decide_eq_true c6; clear c6; obtain rfl := Option.some.inj H; go_enter Tryd.func26, Tryd.ntmps26; (go_wp2_with (first | ((with_reducible refine gate_dst (N := 3) rfl ?_); refine box_event ?hg (N := 3) ?hd (cs := #[.int .i64 a0_0, .int .i64 a0_1, .slice A0_2 l0_2.length c0_2, .slice A0_3 l0_3.length c0_3]) (t := 25) ?hr ?_; (case hd => rfl); (case hg => rfl); (case hr => first | (go_simp; done) | (go_simp; rfl)); intro gb150 hg w7 hbox hb; have n0_ := Aside0.mk (below_step Bq hb); have n1_ := Aside0.mk (hbox); have n2_ := Aside0.mk ((by rw [hg]; exact (below_size Bq) : w.heap.size ≤ gb150)); have n3_ := Aside0.mk ((by rw [hg]; exact (below_size Bq) : w.heap.size ≤ gb150)); clear HB; have HB := n0_; have BK150 := n1_; have GW150 := n2_; have GE150 := n3_; clear n0_ n1_ n2_ n3_; clear hb hbox hg; have hcz8_0 : w7.cell? ⟨gb150, 0, none⟩ = some (.int .i64 a0_0) := (blk_cell BK150.out 0).trans rfl; have hcz8_1 : w7.cell? ⟨gb150, 1, none⟩ = some (.int .i64 a0_1) := (blk_cell BK150.out 1).trans rfl; have hcz8_2 : w7.cell? ⟨gb150, 2, none⟩ = some (.slice A0_2 l0_2.length c0_2) := (blk_cell BK150.out 2).trans rfl; have hcz8_3 : w7.cell? ⟨gb150, 3, none⟩ = some (.slice A0_3 l0_3.length c0_3) := (blk_cell BK150.out 3).trans rfl; have hfz8_0 := blk_frozen BK150.out 0; have hfz8_1 := blk_frozen BK150.out 1; have hfz8_2 := blk_frozen BK150.out 2; have hfz8_3 := blk_frozen BK150.out 3))); go_ret; (exact ⟨by first | rfl | (simp [errW_none, errW_some] <;> rfl) | (simp [*, errW_none, errW_some] <;> rfl), (Bg GE150.out)⟩)
      · rw [if_neg c6] at H
        have c6b0 : decide (0 ≤ a2) = false := decide_eq_false c6; clear c6; obtain rfl := Option.some.inj H; go_enter Tryd.func26, Tryd.ntmps26; (go_wp2_with (first | ((with_reducible refine gate_dst (N := 3) rfl ?_); refine box_event ?hg (N := 3) ?hd (cs := #[.int .i64 a0_0, .int .i64 a0_1, .slice A0_2 l0_2.length c0_2, .slice A0_3 l0_3.length c0_3]) (t := 25) ?hr ?_; (case hd => rfl); (case hg => rfl); (case hr => first | (go_simp; done) | (go_simp; rfl)); intro gb150 hg w9 hbox hb; have n0_ := Aside0.mk (below_step Bq hb); have n1_ := Aside0.mk (hbox); have n2_ := Aside0.mk ((by rw [hg]; exact (below_size Bq) : w.heap.size ≤ gb150)); have n3_ := Aside0.mk ((by rw [hg]; exact (below_size Bq) : w.heap.size ≤ gb150)); clear HB; have HB := n0_; have BK150 := n1_; have GW150 := n2_; have GE150 := n3_; clear n0_ n1_ n2_ n3_; clear hb hbox hg; have hcz10_0 : w9.cell? ⟨gb150, 0, none⟩ = some (.int .i64 a0_0) := (blk_cell BK150.out 0).trans rfl; have hcz10_1 : w9.cell? ⟨gb150, 1, none⟩ = some (.int .i64 a0_1) := (blk_cell BK150.out 1).trans rfl; have hcz10_2 : w9.cell? ⟨gb150, 2, none⟩ = some (.slice A0_2 l0_2.length c0_2) := (blk_cell BK150.out 2).trans rfl; have hcz10_3 : w9.cell? ⟨gb150, 3, none⟩ = some (.slice A0_3 l0_3.length c0_3) := (blk_cell BK150.out 3).trans rfl; have hfz10_0 := blk_frozen BK150.out 0; have hfz10_1 := blk_frozen BK150.out 1; have hfz10_2 := blk_frozen BK150.out 2; have hfz10_3 := blk_frozen BK150.out 3))); go_ret; (exact ⟨by first | rfl | (simp [errW_none, errW_some] <;> rfl) | (simp [*, errW_none, errW_some] <;> rfl), (Bg GE150.out)⟩)
    · rw [if_neg c5] at H
      have c5b0 : decide (a1 < (wrap64 (a0_0 - 1))) = false := decide_eq_false c5; clear c5; obtain rfl := Option.some.inj H; go_enter Tryd.func26, Tryd.ntmps26; (go_wp2_with (first | ((with_reducible refine gate_dst (N := 3) rfl ?_); refine box_event ?hg (N := 3) ?hd (cs := #[.int .i64 a0_0, .int .i64 a0_1, .slice A0_2 l0_2.length c0_2, .slice A0_3 l0_3.length c0_3]) (t := 25) ?hr ?_; (case hd => rfl); (case hg => rfl); (case hr => first | (go_simp; done) | (go_simp; rfl)); intro gb150 hg w11 hbox hb; have n0_ := Aside0.mk (below_step Bq hb); have n1_ := Aside0.mk (hbox); have n2_ := Aside0.mk ((by rw [hg]; exact (below_size Bq) : w.heap.size ≤ gb150)); have n3_ := Aside0.mk ((by rw [hg]; exact (below_size Bq) : w.heap.size ≤ gb150)); clear HB; have HB := n0_; have BK150 := n1_; have GW150 := n2_; have GE150 := n3_; clear n0_ n1_ n2_ n3_; clear hb hbox hg; have hcz12_0 : w11.cell? ⟨gb150, 0, none⟩ = some (.int .i64 a0_0) := (blk_cell BK150.out 0).trans rfl; have hcz12_1 : w11.cell? ⟨gb150, 1, none⟩ = some (.int .i64 a0_1) := (blk_cell BK150.out 1).trans rfl; have hcz12_2 : w11.cell? ⟨gb150, 2, none⟩ = some (.slice A0_2 l0_2.length c0_2) := (blk_cell BK150.out 2).trans rfl; have hcz12_3 : w11.cell? ⟨gb150, 3, none⟩ = some (.slice A0_3 l0_3.length c0_3) := (blk_cell BK150.out 3).trans rfl; have hfz12_0 := blk_frozen BK150.out 0; have hfz12_1 := blk_frozen BK150.out 1; have hfz12_2 := blk_frozen BK150.out 2; have hfz12_3 := blk_frozen BK150.out 3))); go_ret; (exact ⟨by first | rfl | (simp [errW_none, errW_some] <;> rfl) | (simp [*, errW_none, errW_some] <;> rfl), (Bg GE150.out)⟩)
  · rw [if_neg c4] at H
    have c4b0 : decide (0 ≤ a1) = false := decide_eq_false c4; clear c4; obtain rfl := Option.some.inj H; go_enter Tryd.func26, Tryd.ntmps26; (go_wp2_with (first | ((with_reducible refine gate_dst (N := 3) rfl ?_); refine box_event ?hg (N := 3) ?hd (cs := #[.int .i64 a0_0, .int .i64 a0_1, .slice A0_2 l0_2.length c0_2, .slice A0_3 l0_3.length c0_3]) (t := 25) ?hr ?_; (case hd => rfl); (case hg => rfl); (case hr => first | (go_simp; done) | (go_simp; rfl)); intro gb150 hg w13 hbox hb; have n0_ := Aside0.mk (below_step Bq hb); have n1_ := Aside0.mk (hbox); have n2_ := Aside0.mk ((by rw [hg]; exact (below_size Bq) : w.heap.size ≤ gb150)); have n3_ := Aside0.mk ((by rw [hg]; exact (below_size Bq) : w.heap.size ≤ gb150)); clear HB; have HB := n0_; have BK150 := n1_; have GW150 := n2_; have GE150 := n3_; clear n0_ n1_ n2_ n3_; clear hb hbox hg))); go_ret; (exact ⟨by first | rfl | (simp [errW_none, errW_some] <;> rfl) | (simp [*, errW_none, errW_some] <;> rfl), (Bg GE150.out)⟩)
end Go.Proofs.YtfpikmeiooangaaDoor.PFlowTexts
end
section
namespace Go.Proofs.YtfpikmeiooangaaDoor.PFlowTexts
open Go.RowKit Go.Proofs.YtfpikmeiooangaaDoorW.PrintWords Go.Proofs.YtfpikmeiooangaaDoorW.PrintLast Go.Proofs.YtfpikmeiooangaaDoorW.PrintMore
def wigmakerlaw03_outward.f  : Option (Int × Int × List Int × (List (S50))) := some (2, 2, (([5, 7, 3, 1] : List Int)), ([] : List (S50)))
set_option maxHeartbeats 8000000 in
set_option maxRecDepth 100000 in
theorem wigmakerlaw03_outward.calls  (r1 : Int) (r2 : Int) (r3 : List Int) (r4 : List (S50)) (w : World) (h : wigmakerlaw03_outward.f  = some (r1, r2, r3, r4)) :
    Calls Tryd.prog 12 #[] w fun e w' => ∃ v2_ v3_ : Value, e = .returned (.agg #[.int .i64 r1, .int .i64 r2, v2_, v3_]) ∧ Kd.R (Kd.int .i64) 3 w' w.heap.size (fun _ => True) v2_ r3 ∧ Kd.R k50 50 w' w.heap.size (fun _ => True) v3_ r4 ∧ Below w.heap.size w w' := by
  have hu25 := Tryd.underlying25; have HB := Aside0.mk (Below.refl w.heap.size w); have H : (some (2, 2, (([5, 7, 3, 1] : List Int)), ([] : List (S50)))) = some (r1, r2, r3, r4) := h; clear h; obtain ⟨y156, hy156⟩ : ∃ y_ : List Int, y_ = (([5, 7, 3, 1] : List Int)) := ⟨_, rfl⟩; (replace H : (some (2, 2, y156, ([] : List (S50)))) = some (r1, r2, r3, r4) := by first | (rw [hy156]; with_reducible exact H) | (have H2_ := (Option.bind_some _ _).symm.trans H; rw [hy156]; with_reducible exact H2_) | (have H2_ := (Option.bind_some _ _).symm.trans H; with_reducible exact H2_) | with_reducible exact H | (rw [hy156]; exact H) | exact H); have Ny156 := Aside0.mk hy156; clear hy156; simp only [Option.some.injEq, Prod.mk.injEq] at H; obtain ⟨rfl, rfl, rfl, rfl⟩ := H; go_enter Tryd.func12, Tryd.ntmps12; (go_wp2_with (first | ((with_reducible refine gate_dst (N := 0) rfl ?_); refine box_event ?hg (N := 0) ?hd (cs := #[.int .i64 0, .int .i64 0, .slice none 0 0, .slice none 0 0]) (t := 25) ?hr ?_; (case hd => rfl); (case hg => rfl); (case hr => first | (go_simp; done) | (go_simp; rfl)); intro gb155 hg w1 hbox hb; have n0_ := Aside0.mk (below_step Bq hb); have n1_ := Aside0.mk (hbox); have n2_ := Aside0.mk ((by rw [hg]; exact (below_size Bq) : w.heap.size ≤ gb155)); have n3_ := Aside0.mk ((by rw [hg]; exact (below_size Bq) : w.heap.size ≤ gb155)); clear HB; have HB := n0_; have BK155 := n1_; have GW155 := n2_; have GE155 := n3_; clear n0_ n1_ n2_ n3_; clear hb hbox hg) | ((with_reducible refine gate_dst (N := 1) rfl ?_); refine Kd.R_lit (Kd.int .i64) _ 3 ?hg (N := 1) ?hd (xs := ([5, 7, 3, 1] : List Int)) (inner := [.int .i64 5, .int .i64 7, .int .i64 3, .int .i64 1]) (ok := fun _ => True) (okp := fun _ => True) ?hr ?hp (fun _ hk => hk) trivial (Below.refl _ _) (Nat.le_refl _) (by simp) ?_; (case hd => rfl); (case hg => rfl); (case hr => first | (go_simp; done) | (go_simp; rfl)); (case hp => exact (Reps.one (show Kd.M (Kd.int .i64) _ _ _ 5 [.int .i64 5] from rfl) (Reps.one (show Kd.M (Kd.int .i64) _ _ _ 7 [.int .i64 7] from rfl) (Reps.one (show Kd.M (Kd.int .i64) _ _ _ 3 [.int .i64 3] from rfl) (Reps.one (show Kd.M (Kd.int .i64) _ _ _ 1 [.int .i64 1] from rfl) (Reps.none _ _)))))); intro v157 w2 ho3 hb hg_ hnew_; clear hg_ hnew_; (first | rw [← Ny156.out] at ho3 | (simp only [Int.reduceToNat] at ho3; rw [← Ny156.out] at ho3)); have n0_ := Aside0.mk (Kd.R_lower ho3 (below_size (Bg GE155.out))); have n1_ := Aside0.mk (blk_below (g := gb155) (o := .cells #[.int .i64 0, .int .i64 0, .slice none 0 0, .slice none 0 0] 25 (0, 0)) (Bk BK155.out) hb); have n2_ := Aside0.mk (below_step (Bg GE155.out) hb); clear BK155; clear HB; have HO158 := n0_; have BK155 := n1_; have HB := n2_; clear n0_ n1_ n2_; clear hb ho3; obtain ⟨Ao4, co4, eo4⟩ := Kd.R_slice HO158.out; subst eo4; have hcz5_0 : w2.cell? ⟨gb155, 0, none⟩ = some (.int .i64 0) := (blk_cell BK155.out 0).trans rfl; have hcz5_1 : w2.cell? ⟨gb155, 1, none⟩ = some (.int .i64 0) := (blk_cell BK155.out 1).trans rfl; have hcz5_2 : w2.cell? ⟨gb155, 2, none⟩ = some (.slice none 0 0) := (blk_cell BK155.out 2).trans rfl; have hcz5_3 : w2.cell? ⟨gb155, 3, none⟩ = some (.slice none 0 0) := (blk_cell BK155.out 3).trans rfl; have hfz5_0 := blk_frozen BK155.out 0; have hfz5_1 := blk_frozen BK155.out 1; have hfz5_2 := blk_frozen BK155.out 2; have hfz5_3 := blk_frozen BK155.out 3)))
  (refine bodyPost_ret (results_cell_row rfl _ _ gb155 25 #[.int .i64 2, .int .i64 2, .slice Ao4 y156.length co4, .slice none 0 0] (0, 0) _ rfl (by (with_reducible repeat (first | refine blk_drewN ?_ _ | refine blk_drew ?_ | refine blk_alloc ?_ _)); refine blk_put (cs := #[.int .i64 2, .int .i64 2, .slice Ao4 y156.length co4, .slice none 0 0]) ?_ 3 _ rfl; (with_reducible repeat (first | refine blk_drewN ?_ _ | refine blk_drew ?_ | refine blk_alloc ?_ _)); refine blk_put (cs := #[.int .i64 2, .int .i64 2, .slice none 0 0, .slice none 0 0]) ?_ 2 _ rfl; (with_reducible repeat (first | refine blk_drewN ?_ _ | refine blk_drew ?_ | refine blk_alloc ?_ _)); refine blk_put (cs := #[.int .i64 2, .int .i64 0, .slice none 0 0, .slice none 0 0]) ?_ 1 _ rfl; (with_reducible repeat (first | refine blk_drewN ?_ _ | refine blk_drew ?_ | refine blk_alloc ?_ _)); refine blk_put (cs := #[.int .i64 0, .int .i64 0, .slice none 0 0, .slice none 0 0]) ?_ 0 _ rfl; (with_reducible repeat (first | refine blk_drewN ?_ _ | refine blk_drew ?_ | refine blk_alloc ?_ _)); exact BK155.out) Tryd.underlying25 rfl (by kernel_rfl)) rfl ?_); (exact ⟨_, _, by first | rfl | (simp [errW_none, errW_some] <;> rfl) | (simp [*, errW_none, errW_some] <;> rfl), by (with_reducible repeat (first | apply Kd.R_alloc | apply Kd.R_drewN | apply Kd.R_drew)); exact Kd.R_mono (Kd.R_far (p := ⟨gb155, 3, none⟩) (Kd.R_far (p := ⟨gb155, 2, none⟩) (Kd.R_far (p := ⟨gb155, 1, none⟩) (Kd.R_far (p := ⟨gb155, 0, none⟩) (Kd.R_types HO158.out BK155.out (by decide)) (fun _ hk => hk.2) (.int .i64 2)) (fun _ hk => hk.2) (.int .i64 2)) (fun _ hk => hk.2) (.slice Ao4 y156.length co4)) (fun _ hk => hk.2) (.slice none 0 0)) (fun _ hk => trivial), by first | exact Kd.R_nil _ _ _ _ _ | exact Kd.N_nil _ _ _ _ _ | exact Kd.V_nil _ _ _ _ _ | exact Kd.Q_nil _ _ _ _ _ | exact Kd.S_nil _ _ _ _ _, (Bg GE155.out)⟩)
end Go.Proofs.YtfpikmeiooangaaDoor.PFlowTexts
end
section
namespace Go.Proofs.YtfpikmeiooangaaDoor.PFlowTexts
open Go.RowKit Go.Proofs.YtfpikmeiooangaaDoorW.PrintWords Go.Proofs.YtfpikmeiooangaaDoorW.PrintLast Go.Proofs.YtfpikmeiooangaaDoorW.PrintMore
def wigmakerref01_SameInts.l0 : Nat → List Int → List Int → Int → Option (Bool)
  | 0, _, _, _ => none
  | k + 1, x0, x1, x5 => if x5 < (x0.length : Int) then (if 0 ≤ x5 then (if x5 < (x1.length : Int) then (if (rd x0 x5) = (rd x1 x5) then (wigmakerref01_SameInts.l0 k x0 x1 (wrap64 (x5 + 1))) else (some false)) else (none)) else (none)) else (some true)
def wigmakerref01_SameInts.f (k : Nat) (l0 : List Int) (l1 : List Int) : Option (Bool) := if (l0.length : Int) = (l1.length : Int) then (wigmakerref01_SameInts.l0 k l0 l1 0) else (some false)
set_option maxHeartbeats 8000000 in
set_option maxRecDepth 100000 in
theorem wigmakerref01_SameInts.calls (k : Nat) (A0 : Option Addr) (c0 : Nat) (l0 : List Int) (A1 : Option Addr) (c1 : Nat) (l1 : List Int) (r : Bool) (w : World) (hr0 : Kd.C (Kd.int .i64) w A0 l0.length l0) (hc0 : l0.length ≤ c0) (hr1 : Kd.C (Kd.int .i64) w A1 l1.length l1) (hc1 : l1.length ≤ c1) (h : wigmakerref01_SameInts.f k l0 l1 = some r) :
    Calls Tryd.prog 25 #[.slice A0 l0.length c0, .slice A1 l1.length c1] w fun e w' => e = .returned (.bool r) ∧ Drawn0 w w' := by
  have HR0 := Aside0.mk hr0; have HC0 := Aside0.mk hc0; clear hr0 hc0; have HR1 := Aside0.mk hr1; have HC1 := Aside0.mk hc1; clear hr1 hc1; have H : (if (l0.length : Int) = (l1.length : Int) then (wigmakerref01_SameInts.l0 k l0 l1 0) else (some false)) = some r := h; clear h; by_cases c3 : (l0.length : Int) = (l1.length : Int)
  · rw [if_pos c3] at H
    have c3b0 : ((l0.length : Int) == (l1.length : Int)) = true := beq_iff_eq.mpr c3; have c3b1 : ((l0.length : Int) != (l1.length : Int)) = false := bne_eq_false_iff_eq.mpr c3; (have c3b2 : (l0.length == l1.length) = true := by first | simpa using c3 | (simp at c3 ⊢; omega)); clear c3; have H' := Aside0.mk H; clear H; go_enter Tryd.func25, Tryd.ntmps25; go_wp2; (repeat (go_quiet (fail); try go_wp2)); (go_loopg [5] k (fun kq v5 w' => ∃ (x5_1 : Int), v5 = .int .i64 x5_1 ∧ Aside0 (wigmakerref01_SameInts.l0 kq l0 l1 x5_1 = some r) ∧ Aside0 (kq ≤ k) ∧ Drawn0 w w'))
    case atStart => exact ⟨(0), Rf, H', ⟨Nat.le_refl _⟩, by repeat (first | exact Drawn0.refl _ | apply Drawn0.step)⟩
    case round =>
      clear H'; (try clear c1); (try clear c2); (try clear p2); (try clear c3); (try clear c3b0); (try clear c3b1); (try clear c3b2); obtain ⟨x5_1, rfl, HA, HK1, ⟨m1, rfl⟩⟩ := hrel
      cases gk with
      | zero => exact absurd HA.out (by simp [wigmakerref01_SameInts.l0])
      | succ k1 =>
        have H := HA.out; clear HA; simp only [wigmakerref01_SameInts.l0] at H; by_cases c4 : x5_1 < (l0.length : Int)
        · rw [if_pos c4] at H
          have c4b0 : decide (x5_1 < (l0.length : Int)) = true := decide_eq_true c4; clear c4; by_cases c5 : 0 ≤ x5_1
          · rw [if_pos c5] at H
            have c5b0 : decide (0 ≤ x5_1) = true := decide_eq_true c5; clear c5; by_cases c6 : x5_1 < (l1.length : Int)
            · rw [if_pos c6] at H
              have c6b0 : decide (x5_1 < (l1.length : Int)) = true := decide_eq_true c6; clear c6; by_cases c7 : (rd l0 x5_1) = (rd l1 x5_1)
              · rw [if_pos c7] at H
                have c7b0 : ((rd l0 x5_1) == (rd l1 x5_1)) = true := beq_iff_eq.mpr c7; have c7b1 : ((rd l0 x5_1) != (rd l1 x5_1)) = false := bne_eq_false_iff_eq.mpr c7; clear c7; have H' := Aside0.mk H; clear H; (have p290 : 0 ≤ (x5_1 : Int) := of_decide_eq_true (by first | (with_reducible assumption) | assumption)); (have q290 : x5_1 < (l0.length : Int) := of_decide_eq_true (by first | (with_reducible assumption) | assumption)); obtain ⟨ad290, e290, hx290_0⟩ := Kd.at_int HR0.out x5_1 p290 q290; cases e290; replace p290 := eq_true p290; replace q290 := eq_true q290; (have p291 : 0 ≤ (x5_1 : Int) := of_decide_eq_true (by first | (with_reducible assumption) | assumption)); (have q291 : x5_1 < (l1.length : Int) := of_decide_eq_true (by first | (with_reducible assumption) | assumption)); obtain ⟨ad291, e291, hx291_0⟩ := Kd.at_int HR1.out x5_1 p291 q291; cases e291; replace p291 := eq_true p291; replace q291 := eq_true q291; go_wp2; (repeat (go_quiet (fail); try go_wp2)); go_roundg k1
                case measure => have := HK1.out; omega
                case rel => exact ⟨(wrap64 (x5_1 + 1)), Rf, H', ⟨by have := HK1.out; omega⟩, by repeat (first | exact Drawn0.refl _ | apply Drawn0.step)⟩
              · rw [if_neg c7] at H
                have c7b0 : ((rd l0 x5_1) == (rd l1 x5_1)) = false := beq_eq_false_iff_ne.mpr c7; have c7b1 : ((rd l0 x5_1) != (rd l1 x5_1)) = true := bne_iff_ne.mpr c7; obtain rfl := Option.some.inj H; (have p290 : 0 ≤ (x5_1 : Int) := of_decide_eq_true (by first | (with_reducible assumption) | assumption)); (have q290 : x5_1 < (l0.length : Int) := of_decide_eq_true (by first | (with_reducible assumption) | assumption)); obtain ⟨ad290, e290, hx290_0⟩ := Kd.at_int HR0.out x5_1 p290 q290; cases e290; replace p290 := eq_true p290; replace q290 := eq_true q290; (have p291 : 0 ≤ (x5_1 : Int) := of_decide_eq_true (by first | (with_reducible assumption) | assumption)); (have q291 : x5_1 < (l1.length : Int) := of_decide_eq_true (by first | (with_reducible assumption) | assumption)); obtain ⟨ad291, e291, hx291_0⟩ := Kd.at_int HR1.out x5_1 p291 q291; cases e291; replace p291 := eq_true p291; replace q291 := eq_true q291; go_wp2; (repeat (go_quiet (fail); try go_wp2)); go_ret; (exact ⟨by first | rfl | (simp; done) | (simp [*]; done), by repeat (first | exact Drawn0.refl _ | apply Drawn0.step)⟩)
            · rw [if_neg c6] at H
              exact absurd H (by simp)
          · rw [if_neg c5] at H
            exact absurd H (by simp)
        · rw [if_neg c4] at H
          have c4b0 : decide (x5_1 < (l0.length : Int)) = false := decide_eq_false c4; clear c4; obtain rfl := Option.some.inj H; go_wp2; (repeat (go_quiet (fail); try go_wp2)); go_ret; (exact ⟨by first | rfl | (simp; done) | (simp [*]; done), by repeat (first | exact Drawn0.refl _ | apply Drawn0.step)⟩)
  · rw [if_neg c3] at H
    have c3b0 : ((l0.length : Int) == (l1.length : Int)) = false := beq_eq_false_iff_ne.mpr c3; have c3b1 : ((l0.length : Int) != (l1.length : Int)) = true := bne_iff_ne.mpr c3; (have c3b2 : (l0.length == l1.length) = false := by first | simpa using c3 | (simp at c3 ⊢; omega)); obtain rfl := Option.some.inj H; go_enter Tryd.func25, Tryd.ntmps25; go_wp2; (repeat (go_quiet (fail); try go_wp2)); go_ret; (exact ⟨by first | rfl | (simp; done) | (simp [*]; done), by repeat (first | exact Drawn0.refl _ | apply Drawn0.step)⟩)
end Go.Proofs.YtfpikmeiooangaaDoor.PFlowTexts
end
section
namespace Go.Proofs.YtfpikmeiooangaaDoor.PFlowTexts
open Go.RowKit Go.Proofs.YtfpikmeiooangaaDoorW.PrintWords Go.Proofs.YtfpikmeiooangaaDoorW.PrintLast Go.Proofs.YtfpikmeiooangaaDoorW.PrintMore
attribute [local go_sem high] eqA50
mutual
def wigmakerref03_Same.j0 : Nat → Bool → Int → Int → List Int → List (S50) → Int → Int → List Int → List (S50) → Option (Bool)
  | 0, _, _, _, _, _, _, _, _, _ => none
  | k + 1, x34, x293000, x293001, x293002, x293003, x294000, x294001, x294002, x294003 => if x34 = true then (some false) else (wigmakerref03_Same.l0 k 0 x293000 x293001 x293002 x293003 x294000 x294001 x294002 x294003)
def wigmakerref03_Same.l0 : Nat → Int → Int → Int → List Int → List (S50) → Int → Int → List Int → List (S50) → Option (Bool)
  | 0, _, _, _, _, _, _, _, _, _ => none
  | k + 1, x5, x293000, x293001, x293002, x293003, x294000, x294001, x294002, x294003 => if x5 < (x293003.length : Int) then (if 0 ≤ x5 then (if x5 < (x294003.length : Int) then (if (!(((rd_T50 x293003 x5).f0) == ((rd_T50 x294003 x5).f0)) || (!(((rd_T50 x293003 x5).f1) == ((rd_T50 x294003 x5).f1)) || (!(((rd_T50 x293003 x5).f2) == ((rd_T50 x294003 x5).f2))))) = true then (some false) else (wigmakerref03_Same.l0 k (wrap64 (x5 + 1)) x293000 x293001 x293002 x293003 x294000 x294001 x294002 x294003)) else (none)) else (none)) else (some true)
end
def wigmakerref03_Same.f (k : Nat) (a0_0 : Int) (a0_1 : Int) (l0_2 : List Int) (l0_3 : List (S50)) (a1_0 : Int) (a1_1 : Int) (l1_2 : List Int) (l1_3 : List (S50)) : Option (Bool) := if a0_0 = a1_0 then (if a0_1 = a1_1 then ((wigmakerref01_SameInts.f k l0_2 l1_2).bind fun t294 => (if t294 = true then (wigmakerref03_Same.j0 k ((l0_3.length : Int) != (l1_3.length : Int)) a0_0 a0_1 l0_2 l0_3 a1_0 a1_1 l1_2 l1_3) else (wigmakerref03_Same.j0 k true a0_0 a0_1 l0_2 l0_3 a1_0 a1_1 l1_2 l1_3))) else (wigmakerref03_Same.j0 k true a0_0 a0_1 l0_2 l0_3 a1_0 a1_1 l1_2 l1_3)) else (wigmakerref03_Same.j0 k true a0_0 a0_1 l0_2 l0_3 a1_0 a1_1 l1_2 l1_3)
set_option maxHeartbeats 8000000 in
set_option maxRecDepth 100000 in
theorem wigmakerref03_Same.calls (k : Nat) (a0_0 : Int) (a0_1 : Int) (A0_2 : Option Addr) (c0_2 : Nat) (l0_2 : List Int) (A0_3 : Option Addr) (c0_3 : Nat) (l0_3 : List (S50)) (a1_0 : Int) (a1_1 : Int) (A1_2 : Option Addr) (c1_2 : Nat) (l1_2 : List Int) (A1_3 : Option Addr) (c1_3 : Nat) (l1_3 : List (S50)) (r : Bool) (w : World) (hr0_2 : Kd.C (Kd.int .i64) w A0_2 l0_2.length l0_2) (hc0_2 : l0_2.length ≤ c0_2) (hr0_3 : Kd.C k50 w A0_3 l0_3.length l0_3) (hc0_3 : l0_3.length ≤ c0_3) (hr1_2 : Kd.C (Kd.int .i64) w A1_2 l1_2.length l1_2) (hc1_2 : l1_2.length ≤ c1_2) (hr1_3 : Kd.C k50 w A1_3 l1_3.length l1_3) (hc1_3 : l1_3.length ≤ c1_3) (h : wigmakerref03_Same.f k a0_0 a0_1 l0_2 l0_3 a1_0 a1_1 l1_2 l1_3 = some r) :
    Calls Tryd.prog 10 #[.agg #[.int .i64 a0_0, .int .i64 a0_1, .slice A0_2 l0_2.length c0_2, .slice A0_3 l0_3.length c0_3], .agg #[.int .i64 a1_0, .int .i64 a1_1, .slice A1_2 l1_2.length c1_2, .slice A1_3 l1_3.length c1_3]] w fun e w' => e = .returned (.bool r) ∧ Below w.heap.size w w' := by
  have hu25 := Tryd.underlying25; have hu50 := Tryd.underlying50; have HR0_2 := Aside0.mk hr0_2; have HC0_2 := Aside0.mk hc0_2; clear hr0_2 hc0_2; have HR0_3 := Aside0.mk hr0_3; have HC0_3 := Aside0.mk hc0_3; clear hr0_3 hc0_3; have HR1_2 := Aside0.mk hr1_2; have HC1_2 := Aside0.mk hc1_2; clear hr1_2 hc1_2; have HR1_3 := Aside0.mk hr1_3; have HC1_3 := Aside0.mk hc1_3; clear hr1_3 hc1_3; have HB := Aside0.mk (Below.refl w.heap.size w); (have H : (if a0_0 = a1_0 then (if a0_1 = a1_1 then ((wigmakerref01_SameInts.f k l0_2 l1_2).bind fun t294 => (if t294 = true then (wigmakerref03_Same.j0 k ((l0_3.length : Int) != (l1_3.length : Int)) a0_0 a0_1 l0_2 l0_3 a1_0 a1_1 l1_2 l1_3) else (wigmakerref03_Same.j0 k true a0_0 a0_1 l0_2 l0_3 a1_0 a1_1 l1_2 l1_3))) else (wigmakerref03_Same.j0 k true a0_0 a0_1 l0_2 l0_3 a1_0 a1_1 l1_2 l1_3)) else (wigmakerref03_Same.j0 k true a0_0 a0_1 l0_2 l0_3 a1_0 a1_1 l1_2 l1_3)) = some r := h); clear h; have HC3 := Aside0.mk H; clear H; go_enter Tryd.func10, Tryd.ntmps10; (go_upto_region 1 with (first | ((with_reducible refine gate_dst (N := 2) rfl ?_); (try (refine gate_guard (by rfl) ?_; dsimp only)); refine box_event ?hg (N := 2) ?hd (cs := #[.int .i64 a0_0, .int .i64 a0_1, .slice A0_2 l0_2.length c0_2, .slice A0_3 l0_3.length c0_3]) (t := 25) ?hr ?_; (case hd => rfl); (case hg => rfl); (case hr => first | (go_simp; done) | (go_simp; rfl)); intro gb292 hg w4 hbox hb; have n0_ := Aside0.mk (below_step Bq hb); have n1_ := Aside0.mk (hbox); have n2_ := Aside0.mk ((by rw [hg]; exact (below_size Bq) : w.heap.size ≤ gb292)); have n3_ := Aside0.mk ((by rw [hg]; exact (below_size Bq) : w.heap.size ≤ gb292)); clear HB; have HB := n0_; have BK292 := n1_; have GW292 := n2_; have GE292 := n3_; clear n0_ n1_ n2_ n3_; clear hb hbox hg) | ((with_reducible refine gate_dst (N := 3) rfl ?_); (try (refine gate_guard (by rfl) ?_; dsimp only)); refine box_event ?hg (N := 3) ?hd (cs := #[.int .i64 a1_0, .int .i64 a1_1, .slice A1_2 l1_2.length c1_2, .slice A1_3 l1_3.length c1_3]) (t := 25) ?hr ?_; (case hd => rfl); (case hg => rfl); (case hr => first | (go_simp; done) | (go_simp; rfl)); intro gb293 hg w5 hbox hb; have n0_ := Aside0.mk (blk_below (g := gb292) (o := .cells #[.int .i64 a0_0, .int .i64 a0_1, .slice A0_2 l0_2.length c0_2, .slice A0_3 l0_3.length c0_3] 25 (0, 0)) (Bk BK292.out) hb); have n1_ := Aside0.mk (below_step (Bg GE292.out) hb); have n2_ := Aside0.mk (hbox); have n3_ := Aside0.mk ((by rw [hg]; exact (below_size (Bg GE292.out)) : w.heap.size ≤ gb293)); have n4_ := Aside0.mk ((by rw [hg]; exact (below_size (Bg GE292.out)) : w.heap.size ≤ gb293)); have n5_ := Aside0.mk ((by rw [hg]; exact Nat.ne_of_lt (blk_lt (g := gb292) (o := .cells #[.int .i64 a0_0, .int .i64 a0_1, .slice A0_2 l0_2.length c0_2, .slice A0_3 l0_3.length c0_3] 25 (0, 0)) (Bk BK292.out)) : gb292 ≠ gb293)); have n6_ := Aside0.mk ((by rw [hg]; exact Nat.ne_of_gt (blk_lt (g := gb292) (o := .cells #[.int .i64 a0_0, .int .i64 a0_1, .slice A0_2 l0_2.length c0_2, .slice A0_3 l0_3.length c0_3] 25 (0, 0)) (Bk BK292.out)) : gb293 ≠ gb292)); clear BK292; clear HB; have BK292 := n0_; have HB := n1_; have BK293 := n2_; have GW293 := n3_; have GE293 := n4_; have NB292_293 := n5_; have NB293_292 := n6_; clear n0_ n1_ n2_ n3_ n4_ n5_ n6_; clear hb hbox hg)))
  repeat (go_quiet (first | ((with_reducible refine gate_dst (N := 2) rfl ?_); (try (refine gate_guard (by rfl) ?_; dsimp only)); refine box_event ?hg (N := 2) ?hd (cs := #[.int .i64 a0_0, .int .i64 a0_1, .slice A0_2 l0_2.length c0_2, .slice A0_3 l0_3.length c0_3]) (t := 25) ?hr ?_; (case hd => rfl); (case hg => rfl); (case hr => first | (go_simp; done) | (go_simp; rfl)); intro gb292 hg w4 hbox hb; have n0_ := Aside0.mk (below_step Bq hb); have n1_ := Aside0.mk (hbox); have n2_ := Aside0.mk ((by rw [hg]; exact (below_size Bq) : w.heap.size ≤ gb292)); have n3_ := Aside0.mk ((by rw [hg]; exact (below_size Bq) : w.heap.size ≤ gb292)); clear HB; have HB := n0_; have BK292 := n1_; have GW292 := n2_; have GE292 := n3_; clear n0_ n1_ n2_ n3_; clear hb hbox hg) | ((with_reducible refine gate_dst (N := 3) rfl ?_); (try (refine gate_guard (by rfl) ?_; dsimp only)); refine box_event ?hg (N := 3) ?hd (cs := #[.int .i64 a1_0, .int .i64 a1_1, .slice A1_2 l1_2.length c1_2, .slice A1_3 l1_3.length c1_3]) (t := 25) ?hr ?_; (case hd => rfl); (case hg => rfl); (case hr => first | (go_simp; done) | (go_simp; rfl)); intro gb293 hg w5 hbox hb; have n0_ := Aside0.mk (blk_below (g := gb292) (o := .cells #[.int .i64 a0_0, .int .i64 a0_1, .slice A0_2 l0_2.length c0_2, .slice A0_3 l0_3.length c0_3] 25 (0, 0)) (Bk BK292.out) hb); have n1_ := Aside0.mk (below_step (Bg GE292.out) hb); have n2_ := Aside0.mk (hbox); have n3_ := Aside0.mk ((by rw [hg]; exact (below_size (Bg GE292.out)) : w.heap.size ≤ gb293)); have n4_ := Aside0.mk ((by rw [hg]; exact (below_size (Bg GE292.out)) : w.heap.size ≤ gb293)); have n5_ := Aside0.mk ((by rw [hg]; exact Nat.ne_of_lt (blk_lt (g := gb292) (o := .cells #[.int .i64 a0_0, .int .i64 a0_1, .slice A0_2 l0_2.length c0_2, .slice A0_3 l0_3.length c0_3] 25 (0, 0)) (Bk BK292.out)) : gb292 ≠ gb293)); have n6_ := Aside0.mk ((by rw [hg]; exact Nat.ne_of_gt (blk_lt (g := gb292) (o := .cells #[.int .i64 a0_0, .int .i64 a0_1, .slice A0_2 l0_2.length c0_2, .slice A0_3 l0_3.length c0_3] 25 (0, 0)) (Bk BK292.out)) : gb293 ≠ gb292)); clear BK292; clear HB; have BK292 := n0_; have HB := n1_; have BK293 := n2_; have GW293 := n3_; have GE293 := n4_; have NB292_293 := n5_; have NB293_292 := n6_; clear n0_ n1_ n2_ n3_ n4_ n5_ n6_; clear hb hbox hg)); go_upto_region 1 with (first | ((with_reducible refine gate_dst (N := 2) rfl ?_); (try (refine gate_guard (by rfl) ?_; dsimp only)); refine box_event ?hg (N := 2) ?hd (cs := #[.int .i64 a0_0, .int .i64 a0_1, .slice A0_2 l0_2.length c0_2, .slice A0_3 l0_3.length c0_3]) (t := 25) ?hr ?_; (case hd => rfl); (case hg => rfl); (case hr => first | (go_simp; done) | (go_simp; rfl)); intro gb292 hg w4 hbox hb; have n0_ := Aside0.mk (below_step Bq hb); have n1_ := Aside0.mk (hbox); have n2_ := Aside0.mk ((by rw [hg]; exact (below_size Bq) : w.heap.size ≤ gb292)); have n3_ := Aside0.mk ((by rw [hg]; exact (below_size Bq) : w.heap.size ≤ gb292)); clear HB; have HB := n0_; have BK292 := n1_; have GW292 := n2_; have GE292 := n3_; clear n0_ n1_ n2_ n3_; clear hb hbox hg) | ((with_reducible refine gate_dst (N := 3) rfl ?_); (try (refine gate_guard (by rfl) ?_; dsimp only)); refine box_event ?hg (N := 3) ?hd (cs := #[.int .i64 a1_0, .int .i64 a1_1, .slice A1_2 l1_2.length c1_2, .slice A1_3 l1_3.length c1_3]) (t := 25) ?hr ?_; (case hd => rfl); (case hg => rfl); (case hr => first | (go_simp; done) | (go_simp; rfl)); intro gb293 hg w5 hbox hb; have n0_ := Aside0.mk (blk_below (g := gb292) (o := .cells #[.int .i64 a0_0, .int .i64 a0_1, .slice A0_2 l0_2.length c0_2, .slice A0_3 l0_3.length c0_3] 25 (0, 0)) (Bk BK292.out) hb); have n1_ := Aside0.mk (below_step (Bg GE292.out) hb); have n2_ := Aside0.mk (hbox); have n3_ := Aside0.mk ((by rw [hg]; exact (below_size (Bg GE292.out)) : w.heap.size ≤ gb293)); have n4_ := Aside0.mk ((by rw [hg]; exact (below_size (Bg GE292.out)) : w.heap.size ≤ gb293)); have n5_ := Aside0.mk ((by rw [hg]; exact Nat.ne_of_lt (blk_lt (g := gb292) (o := .cells #[.int .i64 a0_0, .int .i64 a0_1, .slice A0_2 l0_2.length c0_2, .slice A0_3 l0_3.length c0_3] 25 (0, 0)) (Bk BK292.out)) : gb292 ≠ gb293)); have n6_ := Aside0.mk ((by rw [hg]; exact Nat.ne_of_gt (blk_lt (g := gb292) (o := .cells #[.int .i64 a0_0, .int .i64 a0_1, .slice A0_2 l0_2.length c0_2, .slice A0_3 l0_3.length c0_3] 25 (0, 0)) (Bk BK292.out)) : gb293 ≠ gb292)); clear BK292; clear HB; have BK292 := n0_; have HB := n1_; have BK293 := n2_; have GW293 := n3_; have GE293 := n4_; have NB292_293 := n5_; have NB293_292 := n6_; clear n0_ n1_ n2_ n3_ n4_ n5_ n6_; clear hb hbox hg)))
  (try simp only [Act.put, List.setIfInBounds_toArray, List.set_cons_zero, List.set_cons_succ]); (go_cut [34] (fun v34 wc => ∃ (kq : Nat) (x34_2 : Bool), v34 = .bool x34_2 ∧ Aside0 (wigmakerref03_Same.j0 kq x34_2 a0_0 a0_1 l0_2 l0_3 a1_0 a1_1 l1_2 l1_3 = some r) ∧ Aside0 (kq ≤ k) ∧ Aside0 (wc.heap[gb292]? = some (.cells #[.int .i64 a0_0, .int .i64 a0_1, (.slice A0_2 l0_2.length c0_2), (.slice A0_3 l0_3.length c0_3)] 25 (0, 0))) ∧ Aside0 (wc.heap[gb293]? = some (.cells #[.int .i64 a1_0, .int .i64 a1_1, (.slice A1_2 l1_2.length c1_2), (.slice A1_3 l1_3.length c1_3)] 25 (0, 0))) ∧ Aside0 (Below w.heap.size w wc)))
  case first =>
    have H := HC3.out; clear HC3; by_cases c6 : a0_0 = a1_0
    · rw [if_pos c6] at H
      have c6b0 : (a0_0 == a1_0) = true := beq_iff_eq.mpr c6; have c6b1 : (a0_0 != a1_0) = false := bne_eq_false_iff_eq.mpr c6; clear c6; (first | rw [c6b0] | (simp only [i64_w, i32_w]; rw [c6b0]) | skip); by_cases c7 : a0_1 = a1_1
      · rw [if_pos c7] at H
        have c7b0 : (a0_1 == a1_1) = true := beq_iff_eq.mpr c7; have c7b1 : (a0_1 != a1_1) = false := bne_eq_false_iff_eq.mpr c7; clear c7; replace H := Option.bind_eq_some_iff.mp H; obtain ⟨t294, A80, H⟩ := H; replace H : (if t294 = true then (wigmakerref03_Same.j0 k ((l0_3.length : Int) != (l1_3.length : Int)) a0_0 a0_1 l0_2 l0_3 a1_0 a1_1 l1_2 l1_3) else (wigmakerref03_Same.j0 k true a0_0 a0_1 l0_2 l0_3 a1_0 a1_1 l1_2 l1_3)) = some r := H; have A8 := Aside0.mk A80; clear A80; by_cases c9 : t294 = true
        · subst c9
          (have H1 : (wigmakerref03_Same.j0 k ((l0_3.length : Int) != (l1_3.length : Int)) a0_0 a0_1 l0_2 l0_3 a1_0 a1_1 l1_2 l1_3) = some r := by rw [if_pos rfl] at H; exact H); clear H; have H := H1; clear H1; have H' := Aside0.mk H; clear H; have hnb10 := NB292_293.out; have hnc10 := NB293_292.out; have hcz11_0 : w5.cell? ⟨gb292, 0, none⟩ = some (.int .i64 a0_0) := (blk_cell BK292.out 0).trans rfl; have hcz11_1 : w5.cell? ⟨gb292, 1, none⟩ = some (.int .i64 a0_1) := (blk_cell BK292.out 1).trans rfl; have hcz11_2 : w5.cell? ⟨gb292, 2, none⟩ = some (.slice A0_2 l0_2.length c0_2) := (blk_cell BK292.out 2).trans rfl; have hcz11_3 : w5.cell? ⟨gb292, 3, none⟩ = some (.slice A0_3 l0_3.length c0_3) := (blk_cell BK292.out 3).trans rfl; have hfz11_0 := blk_frozen BK292.out 0; have hfz11_1 := blk_frozen BK292.out 1; have hfz11_2 := blk_frozen BK292.out 2; have hfz11_3 := blk_frozen BK292.out 3; have hcz12_0 : w5.cell? ⟨gb293, 0, none⟩ = some (.int .i64 a1_0) := (blk_cell BK293.out 0).trans rfl; have hcz12_1 : w5.cell? ⟨gb293, 1, none⟩ = some (.int .i64 a1_1) := (blk_cell BK293.out 1).trans rfl; have hcz12_2 : w5.cell? ⟨gb293, 2, none⟩ = some (.slice A1_2 l1_2.length c1_2) := (blk_cell BK293.out 2).trans rfl; have hcz12_3 : w5.cell? ⟨gb293, 3, none⟩ = some (.slice A1_3 l1_3.length c1_3) := (blk_cell BK293.out 3).trans rfl; have hfz12_0 := blk_frozen BK293.out 0; have hfz12_1 := blk_frozen BK293.out 1; have hfz12_2 := blk_frozen BK293.out 2; have hfz12_3 := blk_frozen BK293.out 3; (go_wp2_with (first | (go_at_call 25; (with_reducible refine (wigmakerref01_SameInts.calls k _ _ l0_2 _ _ l1_2 true _ ?side1 ?side2 ?side3 ?side4 A8.out).mono ?_); (case side1 => repeat (first | exact (Kd.C_below HR0_2.out HB.out) | (with_reducible refine Kd.C_alloc ?_ _) | (with_reducible refine Kd.C_drewN ?_ _) | (with_reducible refine Kd.C_drew ?_))); (case side2 => exact HC0_2.out); (case side3 => repeat (first | exact (Kd.C_below HR1_2.out HB.out) | (with_reducible refine Kd.C_alloc ?_ _) | (with_reducible refine Kd.C_drewN ?_ _) | (with_reducible refine Kd.C_drew ?_))); (case side4 => exact HC1_2.out); rintro e w' ⟨rfl, ⟨nd, rfl⟩⟩; (try first | exact ⟨rfl, _, World.drewN_drewN _ _ _⟩ | exact ⟨rfl, _, Eq.trans (World.drewN_drewN _ _ _) (congrArg (World.drewN _) (Nat.add_assoc _ _ _))⟩)))); (repeat (go_quiet (first | (go_at_call 25; (with_reducible refine (wigmakerref01_SameInts.calls k _ _ l0_2 _ _ l1_2 true _ ?side1 ?side2 ?side3 ?side4 A8.out).mono ?_); (case side1 => repeat (first | exact (Kd.C_below HR0_2.out HB.out) | (with_reducible refine Kd.C_alloc ?_ _) | (with_reducible refine Kd.C_drewN ?_ _) | (with_reducible refine Kd.C_drew ?_))); (case side2 => exact HC0_2.out); (case side3 => repeat (first | exact (Kd.C_below HR1_2.out HB.out) | (with_reducible refine Kd.C_alloc ?_ _) | (with_reducible refine Kd.C_drewN ?_ _) | (with_reducible refine Kd.C_drew ?_))); (case side4 => exact HC1_2.out); rintro e w' ⟨rfl, ⟨nd, rfl⟩⟩; (try first | exact ⟨rfl, _, World.drewN_drewN _ _ _⟩ | exact ⟨rfl, _, Eq.trans (World.drewN_drewN _ _ _) (congrArg (World.drewN _) (Nat.add_assoc _ _ _))⟩))); try go_wp2_with (first | (go_at_call 25; (with_reducible refine (wigmakerref01_SameInts.calls k _ _ l0_2 _ _ l1_2 true _ ?side1 ?side2 ?side3 ?side4 A8.out).mono ?_); (case side1 => repeat (first | exact (Kd.C_below HR0_2.out HB.out) | (with_reducible refine Kd.C_alloc ?_ _) | (with_reducible refine Kd.C_drewN ?_ _) | (with_reducible refine Kd.C_drew ?_))); (case side2 => exact HC0_2.out); (case side3 => repeat (first | exact (Kd.C_below HR1_2.out HB.out) | (with_reducible refine Kd.C_alloc ?_ _) | (with_reducible refine Kd.C_drewN ?_ _) | (with_reducible refine Kd.C_drew ?_))); (case side4 => exact HC1_2.out); rintro e w' ⟨rfl, ⟨nd, rfl⟩⟩; (try first | exact ⟨rfl, _, World.drewN_drewN _ _ _⟩ | exact ⟨rfl, _, Eq.trans (World.drewN_drewN _ _ _) (congrArg (World.drewN _) (Nat.add_assoc _ _ _))⟩)))))
          go_meet
          case rel => exact ⟨_, (((l0_3.length : Int) != (l1_3.length : Int))), Rf, H', ⟨by first | omega | exact Nat.le_refl _⟩, ⟨by (with_reducible repeat (first | refine blk_drewN ?_ _ | refine blk_drew ?_ | refine blk_alloc ?_ _)); exact BK292.out⟩, ⟨by (with_reducible repeat (first | refine blk_drewN ?_ _ | refine blk_drew ?_ | refine blk_alloc ?_ _)); exact BK293.out⟩, ⟨(Bh GE292.out GE293.out)⟩⟩
        · replace c9 := Bool.eq_false_iff.mpr c9
          subst c9; (have H1 : (wigmakerref03_Same.j0 k true a0_0 a0_1 l0_2 l0_3 a1_0 a1_1 l1_2 l1_3) = some r := by rw [if_neg (show ¬ (false = true) by decide)] at H; exact H); clear H; have H := H1; clear H1; have H' := Aside0.mk H; clear H; have hnb13 := NB292_293.out; have hnc13 := NB293_292.out; have hcz14_0 : w5.cell? ⟨gb292, 0, none⟩ = some (.int .i64 a0_0) := (blk_cell BK292.out 0).trans rfl; have hcz14_1 : w5.cell? ⟨gb292, 1, none⟩ = some (.int .i64 a0_1) := (blk_cell BK292.out 1).trans rfl; have hcz14_2 : w5.cell? ⟨gb292, 2, none⟩ = some (.slice A0_2 l0_2.length c0_2) := (blk_cell BK292.out 2).trans rfl; have hcz14_3 : w5.cell? ⟨gb292, 3, none⟩ = some (.slice A0_3 l0_3.length c0_3) := (blk_cell BK292.out 3).trans rfl; have hfz14_0 := blk_frozen BK292.out 0; have hfz14_1 := blk_frozen BK292.out 1; have hfz14_2 := blk_frozen BK292.out 2; have hfz14_3 := blk_frozen BK292.out 3; have hcz15_0 : w5.cell? ⟨gb293, 0, none⟩ = some (.int .i64 a1_0) := (blk_cell BK293.out 0).trans rfl; have hcz15_1 : w5.cell? ⟨gb293, 1, none⟩ = some (.int .i64 a1_1) := (blk_cell BK293.out 1).trans rfl; have hcz15_2 : w5.cell? ⟨gb293, 2, none⟩ = some (.slice A1_2 l1_2.length c1_2) := (blk_cell BK293.out 2).trans rfl; have hcz15_3 : w5.cell? ⟨gb293, 3, none⟩ = some (.slice A1_3 l1_3.length c1_3) := (blk_cell BK293.out 3).trans rfl; have hfz15_0 := blk_frozen BK293.out 0; have hfz15_1 := blk_frozen BK293.out 1; have hfz15_2 := blk_frozen BK293.out 2; have hfz15_3 := blk_frozen BK293.out 3; (go_wp2_with (first | (go_at_call 25; (with_reducible refine (wigmakerref01_SameInts.calls k _ _ l0_2 _ _ l1_2 false _ ?side1 ?side2 ?side3 ?side4 A8.out).mono ?_); (case side1 => repeat (first | exact (Kd.C_below HR0_2.out HB.out) | (with_reducible refine Kd.C_alloc ?_ _) | (with_reducible refine Kd.C_drewN ?_ _) | (with_reducible refine Kd.C_drew ?_))); (case side2 => exact HC0_2.out); (case side3 => repeat (first | exact (Kd.C_below HR1_2.out HB.out) | (with_reducible refine Kd.C_alloc ?_ _) | (with_reducible refine Kd.C_drewN ?_ _) | (with_reducible refine Kd.C_drew ?_))); (case side4 => exact HC1_2.out); rintro e w' ⟨rfl, ⟨nd, rfl⟩⟩; (try first | exact ⟨rfl, _, World.drewN_drewN _ _ _⟩ | exact ⟨rfl, _, Eq.trans (World.drewN_drewN _ _ _) (congrArg (World.drewN _) (Nat.add_assoc _ _ _))⟩)))); (repeat (go_quiet (first | (go_at_call 25; (with_reducible refine (wigmakerref01_SameInts.calls k _ _ l0_2 _ _ l1_2 false _ ?side1 ?side2 ?side3 ?side4 A8.out).mono ?_); (case side1 => repeat (first | exact (Kd.C_below HR0_2.out HB.out) | (with_reducible refine Kd.C_alloc ?_ _) | (with_reducible refine Kd.C_drewN ?_ _) | (with_reducible refine Kd.C_drew ?_))); (case side2 => exact HC0_2.out); (case side3 => repeat (first | exact (Kd.C_below HR1_2.out HB.out) | (with_reducible refine Kd.C_alloc ?_ _) | (with_reducible refine Kd.C_drewN ?_ _) | (with_reducible refine Kd.C_drew ?_))); (case side4 => exact HC1_2.out); rintro e w' ⟨rfl, ⟨nd, rfl⟩⟩; (try first | exact ⟨rfl, _, World.drewN_drewN _ _ _⟩ | exact ⟨rfl, _, Eq.trans (World.drewN_drewN _ _ _) (congrArg (World.drewN _) (Nat.add_assoc _ _ _))⟩))); try go_wp2_with (first | (go_at_call 25; (with_reducible refine (wigmakerref01_SameInts.calls k _ _ l0_2 _ _ l1_2 false _ ?side1 ?side2 ?side3 ?side4 A8.out).mono ?_); (case side1 => repeat (first | exact (Kd.C_below HR0_2.out HB.out) | (with_reducible refine Kd.C_alloc ?_ _) | (with_reducible refine Kd.C_drewN ?_ _) | (with_reducible refine Kd.C_drew ?_))); (case side2 => exact HC0_2.out); (case side3 => repeat (first | exact (Kd.C_below HR1_2.out HB.out) | (with_reducible refine Kd.C_alloc ?_ _) | (with_reducible refine Kd.C_drewN ?_ _) | (with_reducible refine Kd.C_drew ?_))); (case side4 => exact HC1_2.out); rintro e w' ⟨rfl, ⟨nd, rfl⟩⟩; (try first | exact ⟨rfl, _, World.drewN_drewN _ _ _⟩ | exact ⟨rfl, _, Eq.trans (World.drewN_drewN _ _ _) (congrArg (World.drewN _) (Nat.add_assoc _ _ _))⟩)))))
          go_meet
          case rel => exact ⟨_, (true), Rf, H', ⟨by first | omega | exact Nat.le_refl _⟩, ⟨by (with_reducible repeat (first | refine blk_drewN ?_ _ | refine blk_drew ?_ | refine blk_alloc ?_ _)); exact BK292.out⟩, ⟨by (with_reducible repeat (first | refine blk_drewN ?_ _ | refine blk_drew ?_ | refine blk_alloc ?_ _)); exact BK293.out⟩, ⟨(Bh GE292.out GE293.out)⟩⟩
      · rw [if_neg c7] at H
        have c7b0 : (a0_1 == a1_1) = false := beq_eq_false_iff_ne.mpr c7; have c7b1 : (a0_1 != a1_1) = true := bne_iff_ne.mpr c7; have H' := Aside0.mk H; clear H; have hnb16 := NB292_293.out; have hnc16 := NB293_292.out; have hcz17_0 : w5.cell? ⟨gb292, 0, none⟩ = some (.int .i64 a0_0) := (blk_cell BK292.out 0).trans rfl; have hcz17_1 : w5.cell? ⟨gb292, 1, none⟩ = some (.int .i64 a0_1) := (blk_cell BK292.out 1).trans rfl; have hcz17_2 : w5.cell? ⟨gb292, 2, none⟩ = some (.slice A0_2 l0_2.length c0_2) := (blk_cell BK292.out 2).trans rfl; have hcz17_3 : w5.cell? ⟨gb292, 3, none⟩ = some (.slice A0_3 l0_3.length c0_3) := (blk_cell BK292.out 3).trans rfl; have hfz17_0 := blk_frozen BK292.out 0; have hfz17_1 := blk_frozen BK292.out 1; have hfz17_2 := blk_frozen BK292.out 2; have hfz17_3 := blk_frozen BK292.out 3; have hcz18_0 : w5.cell? ⟨gb293, 0, none⟩ = some (.int .i64 a1_0) := (blk_cell BK293.out 0).trans rfl; have hcz18_1 : w5.cell? ⟨gb293, 1, none⟩ = some (.int .i64 a1_1) := (blk_cell BK293.out 1).trans rfl; have hcz18_2 : w5.cell? ⟨gb293, 2, none⟩ = some (.slice A1_2 l1_2.length c1_2) := (blk_cell BK293.out 2).trans rfl; have hcz18_3 : w5.cell? ⟨gb293, 3, none⟩ = some (.slice A1_3 l1_3.length c1_3) := (blk_cell BK293.out 3).trans rfl; have hfz18_0 := blk_frozen BK293.out 0; have hfz18_1 := blk_frozen BK293.out 1; have hfz18_2 := blk_frozen BK293.out 2; have hfz18_3 := blk_frozen BK293.out 3; go_wp2; (repeat (go_quiet (fail); try go_wp2)); go_meet
        case rel => exact ⟨_, (true), Rf, H', ⟨by first | omega | exact Nat.le_refl _⟩, ⟨by (with_reducible repeat (first | refine blk_drewN ?_ _ | refine blk_drew ?_ | refine blk_alloc ?_ _)); exact BK292.out⟩, ⟨by (with_reducible repeat (first | refine blk_drewN ?_ _ | refine blk_drew ?_ | refine blk_alloc ?_ _)); exact BK293.out⟩, ⟨(Bh GE292.out GE293.out)⟩⟩
    · rw [if_neg c6] at H
      have c6b0 : (a0_0 == a1_0) = false := beq_eq_false_iff_ne.mpr c6; have c6b1 : (a0_0 != a1_0) = true := bne_iff_ne.mpr c6; (first | rw [c6b0] | (simp only [i64_w, i32_w]; rw [c6b0]) | skip); have H' := Aside0.mk H; clear H; have hnb19 := NB292_293.out; have hnc19 := NB293_292.out; have hcz20_0 : w5.cell? ⟨gb292, 0, none⟩ = some (.int .i64 a0_0) := (blk_cell BK292.out 0).trans rfl; have hcz20_1 : w5.cell? ⟨gb292, 1, none⟩ = some (.int .i64 a0_1) := (blk_cell BK292.out 1).trans rfl; have hcz20_2 : w5.cell? ⟨gb292, 2, none⟩ = some (.slice A0_2 l0_2.length c0_2) := (blk_cell BK292.out 2).trans rfl; have hcz20_3 : w5.cell? ⟨gb292, 3, none⟩ = some (.slice A0_3 l0_3.length c0_3) := (blk_cell BK292.out 3).trans rfl; have hfz20_0 := blk_frozen BK292.out 0; have hfz20_1 := blk_frozen BK292.out 1; have hfz20_2 := blk_frozen BK292.out 2; have hfz20_3 := blk_frozen BK292.out 3; have hcz21_0 : w5.cell? ⟨gb293, 0, none⟩ = some (.int .i64 a1_0) := (blk_cell BK293.out 0).trans rfl; have hcz21_1 : w5.cell? ⟨gb293, 1, none⟩ = some (.int .i64 a1_1) := (blk_cell BK293.out 1).trans rfl; have hcz21_2 : w5.cell? ⟨gb293, 2, none⟩ = some (.slice A1_2 l1_2.length c1_2) := (blk_cell BK293.out 2).trans rfl; have hcz21_3 : w5.cell? ⟨gb293, 3, none⟩ = some (.slice A1_3 l1_3.length c1_3) := (blk_cell BK293.out 3).trans rfl; have hfz21_0 := blk_frozen BK293.out 0; have hfz21_1 := blk_frozen BK293.out 1; have hfz21_2 := blk_frozen BK293.out 2; have hfz21_3 := blk_frozen BK293.out 3; go_wp2; (repeat (go_quiet (fail); try go_wp2)); go_meet
      case rel => exact ⟨_, (true), Rf, H', ⟨by first | omega | exact Nat.le_refl _⟩, ⟨by (with_reducible repeat (first | refine blk_drewN ?_ _ | refine blk_drew ?_ | refine blk_alloc ?_ _)); exact BK292.out⟩, ⟨by (with_reducible repeat (first | refine blk_drewN ?_ _ | refine blk_drew ?_ | refine blk_alloc ?_ _)); exact BK293.out⟩, ⟨(Bh GE292.out GE293.out)⟩⟩
  case rest =>
    clear HC3; (try clear c1); (try clear p2); (try clear c6); (try clear c6b0); (try clear c6b1); (try clear c7); (try clear c7b0); (try clear c7b1); (try clear c9); (try clear c10); (try clear c13); (try clear c16); (try clear c19); (try clear hcz11_0); (try clear hcz11_1); (try clear hcz11_2); (try clear hcz11_3); (try clear hcz12_0); (try clear hcz12_1); (try clear hcz12_2); (try clear hcz12_3); (try clear hcz14_0); (try clear hcz14_1); (try clear hcz14_2); (try clear hcz14_3); (try clear hcz15_0); (try clear hcz15_1); (try clear hcz15_2); (try clear hcz15_3); (try clear hcz17_0); (try clear hcz17_1); (try clear hcz17_2); (try clear hcz17_3); (try clear hcz18_0); (try clear hcz18_1); (try clear hcz18_2); (try clear hcz18_3); (try clear hcz20_0); (try clear hcz20_1); (try clear hcz20_2); (try clear hcz20_3); (try clear hcz21_0); (try clear hcz21_1); (try clear hcz21_2); (try clear hcz21_3); (try clear hfz11_0); (try clear hfz11_1); (try clear hfz11_2); (try clear hfz11_3); (try clear hfz12_0); (try clear hfz12_1); (try clear hfz12_2); (try clear hfz12_3); (try clear hfz14_0); (try clear hfz14_1); (try clear hfz14_2); (try clear hfz14_3); (try clear hfz15_0); (try clear hfz15_1); (try clear hfz15_2); (try clear hfz15_3); (try clear hfz17_0); (try clear hfz17_1); (try clear hfz17_2); (try clear hfz17_3); (try clear hfz18_0); (try clear hfz18_1); (try clear hfz18_2); (try clear hfz18_3); (try clear hfz20_0); (try clear hfz20_1); (try clear hfz20_2); (try clear hfz20_3); (try clear hfz21_0); (try clear hfz21_1); (try clear hfz21_2); (try clear hfz21_3); obtain ⟨kq, x34_2, rfl, HA, HJ2, BK292, BK293, HB⟩ := hcut
    cases kq with
    | zero => exact absurd HA.out (by simp [wigmakerref03_Same.j0])
    | succ kj2 =>
      have H := HA.out; clear HA; simp only [wigmakerref03_Same.j0] at H; by_cases c22 : x34_2 = true
      · subst c22
        (have H1 : (some false) = some r := by rw [if_pos rfl] at H; exact H); clear H; have H := H1; clear H1; obtain rfl := Option.some.inj H; go_wp2; (repeat (go_quiet (fail); try go_wp2)); go_ret; (exact ⟨by first | rfl | (simp [errW_none, errW_some] <;> rfl) | (simp [*, errW_none, errW_some] <;> rfl), (Bh GE292.out GE293.out)⟩)
      · replace c22 := Bool.eq_false_iff.mpr c22
        subst c22; (have H1 : (wigmakerref03_Same.l0 kj2 0 a0_0 a0_1 l0_2 l0_3 a1_0 a1_1 l1_2 l1_3) = some r := by rw [if_neg (show ¬ (false = true) by decide)] at H; exact H); clear H; have H := H1; clear H1; have H' := Aside0.mk H; clear H; go_wp2; (repeat (go_quiet (fail); try go_wp2)); (go_loopg [5] kj2 (fun kq v5 w' => ∃ (x5_2 : Int), v5 = .int .i64 x5_2 ∧ Aside0 (wigmakerref03_Same.l0 kq x5_2 a0_0 a0_1 l0_2 l0_3 a1_0 a1_1 l1_2 l1_3 = some r) ∧ Aside0 (kq ≤ kj2) ∧ Aside0 (w'.heap[gb292]? = some (.cells #[.int .i64 a0_0, .int .i64 a0_1, (.slice A0_2 l0_2.length c0_2), (.slice A0_3 l0_3.length c0_3)] 25 (0, 0))) ∧ Aside0 (w'.heap[gb293]? = some (.cells #[.int .i64 a1_0, .int .i64 a1_1, (.slice A1_2 l1_2.length c1_2), (.slice A1_3 l1_3.length c1_3)] 25 (0, 0))) ∧ Aside0 (Below w.heap.size w w')))
        case atStart => exact ⟨(0), Rf, H', ⟨Nat.le_refl _⟩, ⟨by (with_reducible repeat (first | refine blk_drewN ?_ _ | refine blk_drew ?_ | refine blk_alloc ?_ _)); exact BK292.out⟩, ⟨by (with_reducible repeat (first | refine blk_drewN ?_ _ | refine blk_drew ?_ | refine blk_alloc ?_ _)); exact BK293.out⟩, ⟨(Bh GE292.out GE293.out)⟩⟩
        case round =>
          clear H'; (try clear c1); (try clear c2); (try clear p2); (try clear c6); (try clear c6b0); (try clear c6b1); (try clear c7); (try clear c7b0); (try clear c7b1); (try clear c9); (try clear c10); (try clear c13); (try clear c16); (try clear c19); (try clear c22); (try clear hcz11_0); (try clear hcz11_1); (try clear hcz11_2); (try clear hcz11_3); (try clear hcz12_0); (try clear hcz12_1); (try clear hcz12_2); (try clear hcz12_3); (try clear hcz14_0); (try clear hcz14_1); (try clear hcz14_2); (try clear hcz14_3); (try clear hcz15_0); (try clear hcz15_1); (try clear hcz15_2); (try clear hcz15_3); (try clear hcz17_0); (try clear hcz17_1); (try clear hcz17_2); (try clear hcz17_3); (try clear hcz18_0); (try clear hcz18_1); (try clear hcz18_2); (try clear hcz18_3); (try clear hcz20_0); (try clear hcz20_1); (try clear hcz20_2); (try clear hcz20_3); (try clear hcz21_0); (try clear hcz21_1); (try clear hcz21_2); (try clear hcz21_3); (try clear hfz11_0); (try clear hfz11_1); (try clear hfz11_2); (try clear hfz11_3); (try clear hfz12_0); (try clear hfz12_1); (try clear hfz12_2); (try clear hfz12_3); (try clear hfz14_0); (try clear hfz14_1); (try clear hfz14_2); (try clear hfz14_3); (try clear hfz15_0); (try clear hfz15_1); (try clear hfz15_2); (try clear hfz15_3); (try clear hfz17_0); (try clear hfz17_1); (try clear hfz17_2); (try clear hfz17_3); (try clear hfz18_0); (try clear hfz18_1); (try clear hfz18_2); (try clear hfz18_3); (try clear hfz20_0); (try clear hfz20_1); (try clear hfz20_2); (try clear hfz20_3); (try clear hfz21_0); (try clear hfz21_1); (try clear hfz21_2); (try clear hfz21_3); (try clear p2); obtain ⟨x5_2, rfl, HA, HK2, BK292, BK293, HB⟩ := hrel
          cases gk with
          | zero => exact absurd HA.out (by simp [wigmakerref03_Same.l0])
          | succ k2 =>
            have H := HA.out; clear HA; simp only [wigmakerref03_Same.l0] at H; by_cases c23 : x5_2 < (l0_3.length : Int)
            · rw [if_pos c23] at H
              have c23b0 : decide (x5_2 < (l0_3.length : Int)) = true := decide_eq_true c23; clear c23; by_cases c24 : 0 ≤ x5_2
              · rw [if_pos c24] at H
                have c24b0 : decide (0 ≤ x5_2) = true := decide_eq_true c24; clear c24; by_cases c25 : x5_2 < (l1_3.length : Int)
                · rw [if_pos c25] at H
                  have c25b0 : decide (x5_2 < (l1_3.length : Int)) = true := decide_eq_true c25; clear c25; by_cases c26 : (!(((rd_T50 l0_3 x5_2).f0) == ((rd_T50 l1_3 x5_2).f0)) || (!(((rd_T50 l0_3 x5_2).f1) == ((rd_T50 l1_3 x5_2).f1)) || (!(((rd_T50 l0_3 x5_2).f2) == ((rd_T50 l1_3 x5_2).f2))))) = true
                  · rw [if_pos c26] at H
                    have c26b0 : (!(((rd_T50 l0_3 x5_2).f0) == ((rd_T50 l1_3 x5_2).f0)) || (!(((rd_T50 l0_3 x5_2).f1) == ((rd_T50 l1_3 x5_2).f1)) || (!(((rd_T50 l0_3 x5_2).f2) == ((rd_T50 l1_3 x5_2).f2))))) = true := c26; clear c26; obtain rfl := Option.some.inj H; have hnb27 := NB292_293.out; have hnc27 := NB293_292.out; have hcz28_0 : wr.cell? ⟨gb292, 0, none⟩ = some (.int .i64 a0_0) := (blk_cell BK292.out 0).trans rfl; have hcz28_1 : wr.cell? ⟨gb292, 1, none⟩ = some (.int .i64 a0_1) := (blk_cell BK292.out 1).trans rfl; have hcz28_2 : wr.cell? ⟨gb292, 2, none⟩ = some (.slice A0_2 l0_2.length c0_2) := (blk_cell BK292.out 2).trans rfl; have hcz28_3 : wr.cell? ⟨gb292, 3, none⟩ = some (.slice A0_3 l0_3.length c0_3) := (blk_cell BK292.out 3).trans rfl; have hfz28_0 := blk_frozen BK292.out 0; have hfz28_1 := blk_frozen BK292.out 1; have hfz28_2 := blk_frozen BK292.out 2; have hfz28_3 := blk_frozen BK292.out 3; (have p295 : 0 ≤ (x5_2 : Int) := of_decide_eq_true (by first | (with_reducible assumption) | assumption)); (have q295 : x5_2 < (l0_3.length : Int) := of_decide_eq_true (by first | (with_reducible assumption) | assumption)); obtain ⟨ad295, e295, hx295_0, hx295_1, hx295_2⟩ := at_T50 HR0_3.out x5_2 p295 q295; cases e295; replace hx295_0 := (HB.out.cell (World.block_lt_of_cell? w _ hx295_0)).trans hx295_0; replace hx295_1 := (HB.out.cell (World.block_lt_of_cell? w _ hx295_1)).trans hx295_1; replace hx295_2 := (HB.out.cell (World.block_lt_of_cell? w _ hx295_2)).trans hx295_2; replace p295 := eq_true p295; replace q295 := eq_true q295; have hcz29_0 : wr.cell? ⟨gb293, 0, none⟩ = some (.int .i64 a1_0) := (blk_cell BK293.out 0).trans rfl; have hcz29_1 : wr.cell? ⟨gb293, 1, none⟩ = some (.int .i64 a1_1) := (blk_cell BK293.out 1).trans rfl; have hcz29_2 : wr.cell? ⟨gb293, 2, none⟩ = some (.slice A1_2 l1_2.length c1_2) := (blk_cell BK293.out 2).trans rfl; have hcz29_3 : wr.cell? ⟨gb293, 3, none⟩ = some (.slice A1_3 l1_3.length c1_3) := (blk_cell BK293.out 3).trans rfl; have hfz29_0 := blk_frozen BK293.out 0; have hfz29_1 := blk_frozen BK293.out 1; have hfz29_2 := blk_frozen BK293.out 2; have hfz29_3 := blk_frozen BK293.out 3; (have p296 : 0 ≤ (x5_2 : Int) := of_decide_eq_true (by first | (with_reducible assumption) | assumption)); (have q296 : x5_2 < (l1_3.length : Int) := of_decide_eq_true (by first | (with_reducible assumption) | assumption)); obtain ⟨ad296, e296, hx296_0, hx296_1, hx296_2⟩ := at_T50 HR1_3.out x5_2 p296 q296; cases e296; replace hx296_0 := (HB.out.cell (World.block_lt_of_cell? w _ hx296_0)).trans hx296_0; replace hx296_1 := (HB.out.cell (World.block_lt_of_cell? w _ hx296_1)).trans hx296_1; replace hx296_2 := (HB.out.cell (World.block_lt_of_cell? w _ hx296_2)).trans hx296_2; replace p296 := eq_true p296; replace q296 := eq_true q296; go_wp2; (repeat (go_quiet (fail); try go_wp2)); go_ret; (exact ⟨by first | rfl | (simp [errW_none, errW_some] <;> rfl) | (simp [*, errW_none, errW_some] <;> rfl), (Bh GE292.out GE293.out)⟩)
                  · rw [if_neg c26] at H
                    (have c26b0 : (!(((rd_T50 l0_3 x5_2).f0) == ((rd_T50 l1_3 x5_2).f0)) || (!(((rd_T50 l0_3 x5_2).f1) == ((rd_T50 l1_3 x5_2).f1)) || (!(((rd_T50 l0_3 x5_2).f2) == ((rd_T50 l1_3 x5_2).f2))))) = false := by simpa using c26); clear c26; have H' := Aside0.mk H; clear H; have hnb30 := NB292_293.out; have hnc30 := NB293_292.out; have hcz31_0 : wr.cell? ⟨gb292, 0, none⟩ = some (.int .i64 a0_0) := (blk_cell BK292.out 0).trans rfl; have hcz31_1 : wr.cell? ⟨gb292, 1, none⟩ = some (.int .i64 a0_1) := (blk_cell BK292.out 1).trans rfl; have hcz31_2 : wr.cell? ⟨gb292, 2, none⟩ = some (.slice A0_2 l0_2.length c0_2) := (blk_cell BK292.out 2).trans rfl; have hcz31_3 : wr.cell? ⟨gb292, 3, none⟩ = some (.slice A0_3 l0_3.length c0_3) := (blk_cell BK292.out 3).trans rfl; have hfz31_0 := blk_frozen BK292.out 0; have hfz31_1 := blk_frozen BK292.out 1; have hfz31_2 := blk_frozen BK292.out 2; have hfz31_3 := blk_frozen BK292.out 3; (have p295 : 0 ≤ (x5_2 : Int) := of_decide_eq_true (by first | (with_reducible assumption) | assumption)); (have q295 : x5_2 < (l0_3.length : Int) := of_decide_eq_true (by first | (with_reducible assumption) | assumption)); obtain ⟨ad295, e295, hx295_0, hx295_1, hx295_2⟩ := at_T50 HR0_3.out x5_2 p295 q295; cases e295; replace hx295_0 := (HB.out.cell (World.block_lt_of_cell? w _ hx295_0)).trans hx295_0; replace hx295_1 := (HB.out.cell (World.block_lt_of_cell? w _ hx295_1)).trans hx295_1; replace hx295_2 := (HB.out.cell (World.block_lt_of_cell? w _ hx295_2)).trans hx295_2; replace p295 := eq_true p295; replace q295 := eq_true q295; have hcz32_0 : wr.cell? ⟨gb293, 0, none⟩ = some (.int .i64 a1_0) := (blk_cell BK293.out 0).trans rfl; have hcz32_1 : wr.cell? ⟨gb293, 1, none⟩ = some (.int .i64 a1_1) := (blk_cell BK293.out 1).trans rfl; have hcz32_2 : wr.cell? ⟨gb293, 2, none⟩ = some (.slice A1_2 l1_2.length c1_2) := (blk_cell BK293.out 2).trans rfl; have hcz32_3 : wr.cell? ⟨gb293, 3, none⟩ = some (.slice A1_3 l1_3.length c1_3) := (blk_cell BK293.out 3).trans rfl; have hfz32_0 := blk_frozen BK293.out 0; have hfz32_1 := blk_frozen BK293.out 1; have hfz32_2 := blk_frozen BK293.out 2; have hfz32_3 := blk_frozen BK293.out 3; (have p296 : 0 ≤ (x5_2 : Int) := of_decide_eq_true (by first | (with_reducible assumption) | assumption)); (have q296 : x5_2 < (l1_3.length : Int) := of_decide_eq_true (by first | (with_reducible assumption) | assumption)); obtain ⟨ad296, e296, hx296_0, hx296_1, hx296_2⟩ := at_T50 HR1_3.out x5_2 p296 q296; cases e296; replace hx296_0 := (HB.out.cell (World.block_lt_of_cell? w _ hx296_0)).trans hx296_0; replace hx296_1 := (HB.out.cell (World.block_lt_of_cell? w _ hx296_1)).trans hx296_1; replace hx296_2 := (HB.out.cell (World.block_lt_of_cell? w _ hx296_2)).trans hx296_2; replace p296 := eq_true p296; replace q296 := eq_true q296; go_wp2; (repeat (go_quiet (fail); try go_wp2)); go_roundg k2
                    case measure => have := HJ2.out; have := HK2.out; omega
                    case rel => exact ⟨(wrap64 (x5_2 + 1)), Rf, H', ⟨by have := HJ2.out; have := HK2.out; omega⟩, ⟨by (with_reducible repeat (first | refine blk_drewN ?_ _ | refine blk_drew ?_ | refine blk_alloc ?_ _)); exact BK292.out⟩, ⟨by (with_reducible repeat (first | refine blk_drewN ?_ _ | refine blk_drew ?_ | refine blk_alloc ?_ _)); exact BK293.out⟩, ⟨(Bh GE292.out GE293.out)⟩⟩
                · rw [if_neg c25] at H
                  exact absurd H (by simp)
              · rw [if_neg c24] at H
                exact absurd H (by simp)
            · rw [if_neg c23] at H
              have c23b0 : decide (x5_2 < (l0_3.length : Int)) = false := decide_eq_false c23; clear c23; obtain rfl := Option.some.inj H; have hnb33 := NB292_293.out; have hnc33 := NB293_292.out; have hcz34_0 : wr.cell? ⟨gb292, 0, none⟩ = some (.int .i64 a0_0) := (blk_cell BK292.out 0).trans rfl; have hcz34_1 : wr.cell? ⟨gb292, 1, none⟩ = some (.int .i64 a0_1) := (blk_cell BK292.out 1).trans rfl; have hcz34_2 : wr.cell? ⟨gb292, 2, none⟩ = some (.slice A0_2 l0_2.length c0_2) := (blk_cell BK292.out 2).trans rfl; have hcz34_3 : wr.cell? ⟨gb292, 3, none⟩ = some (.slice A0_3 l0_3.length c0_3) := (blk_cell BK292.out 3).trans rfl; have hfz34_0 := blk_frozen BK292.out 0; have hfz34_1 := blk_frozen BK292.out 1; have hfz34_2 := blk_frozen BK292.out 2; have hfz34_3 := blk_frozen BK292.out 3; go_wp2; (repeat (go_quiet (fail); try go_wp2)); go_ret; (exact ⟨by first | rfl | (simp [errW_none, errW_some] <;> rfl) | (simp [*, errW_none, errW_some] <;> rfl), (Bh GE292.out GE293.out)⟩)
end Go.Proofs.YtfpikmeiooangaaDoor.PFlowTexts
end
section
namespace Go.Proofs.YtfpikmeiooangaaDoor.PFlowTexts
open Go.RowKit Go.Proofs.YtfpikmeiooangaaDoorW.PrintWords Go.Proofs.YtfpikmeiooangaaDoorW.PrintLast Go.Proofs.YtfpikmeiooangaaDoorW.PrintMore
def wigmakerref01_Digits.f : Nat → Int → Option (ByteArray)
  | 0, _ => none
  | k + 1, a0 => if a0 < 10 then (if 0 ≤ a0 then (if a0 ≤ (wrap64 (a0 + 1)) then (if (wrap64 (a0 + 1)) ≤ 10 then (some ((⟨#[48, 49, 50, 51, 52, 53, 54, 55, 56, 57]⟩ : ByteArray).extract (a0 : Int).toNat ((wrap64 (a0 + 1)) : Int).toNat)) else (none)) else (none)) else (none)) else ((wigmakerref01_Digits.f k (wrap64 (Int.tdiv a0 10))).bind fun t233 => ((wigmakerref01_Digits.f k (Int.tmod a0 10)).bind fun t234 => (if t233.size + t234.size ≤ 9223372036854775807 then (some (t233 ++ t234)) else (none))))
theorem wigmakerref01_Digits.mono_l : ∀ k, (∀ y0, LeO (wigmakerref01_Digits.f k y0) (wigmakerref01_Digits.f (k + 1) y0))
  | 0 => fun _ r h => by simp [wigmakerref01_Digits.f] at h
  | k + 1 => by
    have ih0 := wigmakerref01_Digits.mono_l k
    · intro y0
      unfold wigmakerref01_Digits.f
      repeat' first
      | (with_reducible exact ih0 _)
      | (with_reducible exact LeO.refl _)
      | (with_reducible exact LeO.none _)
      | (with_reducible refine LeO.ite ?_ ?_)
      | (with_reducible refine LeO.bind ?_ (fun _ => ?_))
      | exact ih0 _
      | exact LeO.none _
      | refine LeO.ite ?_ ?_
      | refine LeO.bind ?_ (fun _ => ?_)
theorem wigmakerref01_Digits.mono : ∀ a0 k, LeO (wigmakerref01_Digits.f k a0) (wigmakerref01_Digits.f (k + 1) a0) := by
  intro a0 k; have ih0 := wigmakerref01_Digits.mono_l k; exact ih0 a0
set_option maxHeartbeats 8000000 in
set_option maxRecDepth 100000 in
theorem wigmakerref01_Digits.calls (k : Nat) : ∀ (a0 : Int) (r : ByteArray) (w : World) (h : wigmakerref01_Digits.f k a0 = some r),
    Calls Tryd.prog 19 #[.int .i64 a0] w fun e w' => e = .returned (.string r) ∧ Drawn0 w w' := by
  induction k using Nat.strongRecOn with
  | _ k ih =>
  intro a0 r w h
  cases k with
  | zero => exact absurd h (by simp [wigmakerref01_Digits.f])
  | succ k =>
  simp only [wigmakerref01_Digits.f] at h; (have H : (if a0 < 10 then (if 0 ≤ a0 then (if a0 ≤ (wrap64 (a0 + 1)) then (if (wrap64 (a0 + 1)) ≤ 10 then (some ((⟨#[48, 49, 50, 51, 52, 53, 54, 55, 56, 57]⟩ : ByteArray).extract (a0 : Int).toNat ((wrap64 (a0 + 1)) : Int).toNat)) else (none)) else (none)) else (none)) else ((wigmakerref01_Digits.f k (wrap64 (Int.tdiv a0 10))).bind fun t233 => ((wigmakerref01_Digits.f k (Int.tmod a0 10)).bind fun t234 => (if t233.size + t234.size ≤ 9223372036854775807 then (some (t233 ++ t234)) else (none))))) = some r := h); clear h; by_cases c2 : a0 < 10
  · rw [if_pos c2] at H
    have c2b0 : decide (a0 < 10) = true := decide_eq_true c2; clear c2; by_cases c3 : 0 ≤ a0
    · rw [if_pos c3] at H
      have c3b0 := eq_true c3; have c3b1 : decide (0 ≤ a0) = true := decide_eq_true c3; clear c3; by_cases c4 : a0 ≤ (wrap64 (a0 + 1))
      · rw [if_pos c4] at H
        have c4b0 := eq_true c4; have c4b1 : decide (a0 ≤ (wrap64 (a0 + 1))) = true := decide_eq_true c4; by_cases c5 : (wrap64 (a0 + 1)) ≤ 10
        · rw [if_pos c5] at H
          have c5b0 := eq_true c5; have c5b1 : decide ((wrap64 (a0 + 1)) ≤ 10) = true := decide_eq_true c5; obtain rfl := Option.some.inj H; go_enter Tryd.func19, Tryd.ntmps19; go_wp2; go_ret; (exact ⟨by first | rfl | (simp; done) | (simp [*]; done), by repeat (first | exact Drawn0.refl _ | apply Drawn0.step)⟩)
        · rw [if_neg c5] at H
          exact absurd H (by simp)
      · rw [if_neg c4] at H
        exact absurd H (by simp)
    · rw [if_neg c3] at H
      exact absurd H (by simp)
  · rw [if_neg c2] at H
    have c2b0 : decide (a0 < 10) = false := decide_eq_false c2; clear c2; replace H := Option.bind_eq_some_iff.mp H; obtain ⟨t233, A60, H⟩ := H; (replace H : ((wigmakerref01_Digits.f k (Int.tmod a0 10)).bind fun t234 => (if t233.size + t234.size ≤ 9223372036854775807 then (some (t233 ++ t234)) else (none))) = some r := H); have A6 := Aside0.mk A60; clear A60; replace H := Option.bind_eq_some_iff.mp H; obtain ⟨t234, A70, H⟩ := H; replace H : (if t233.size + t234.size ≤ 9223372036854775807 then (some (t233 ++ t234)) else (none)) = some r := H; have A7 := Aside0.mk A70; clear A70; by_cases c8 : t233.size + t234.size ≤ 9223372036854775807
    · rw [if_pos c8] at H
      have c8b0 := eq_true c8; have c8b1 : decide (t233.size + t234.size ≤ 9223372036854775807) = true := decide_eq_true c8; (try have c8b2 : (9223372036854775807 < t233.size + t234.size) = False := eq_false (Nat.not_lt.2 c8)); obtain rfl := Option.some.inj H; go_enter Tryd.func19, Tryd.ntmps19; (go_wp2_with (first | ((with_reducible refine gate_callee (f := 19) rfl ?_); refine goesL_ (some 11) rfl rfl Tryd.func19 (by kernel_rfl) rfl #[.int .i64 (wrap64 (Int.tdiv a0 10))] rfl Mp ?_; (with_reducible refine (ih k (by omega) (wrap64 (Int.tdiv a0 10)) t233 _ A6.out).mono ?_); rintro e w' ⟨rfl, ⟨nd, rfl⟩⟩; refine ⟨_, rfl, ?_⟩) | ((with_reducible refine gate_callee (f := 19) rfl ?_); refine goesL_ (some 14) rfl rfl Tryd.func19 (by kernel_rfl) rfl #[.int .i64 (Int.tmod a0 10)] rfl Mp ?_; (with_reducible refine (ih k (by omega) (Int.tmod a0 10) t234 _ A7.out).mono ?_); rintro e w' ⟨rfl, ⟨nd, rfl⟩⟩; refine ⟨_, rfl, ?_⟩))); go_ret; (exact ⟨by first | rfl | (simp; done) | (simp [*]; done), by repeat (first | exact Drawn0.refl _ | apply Drawn0.step)⟩)
    · rw [if_neg c8] at H
      exact absurd H (by simp)
end Go.Proofs.YtfpikmeiooangaaDoor.PFlowTexts
end
