/- A part of a proof: LLaw. -/
import Derived.Test.YtfpikmeiooangaaDoorT16
import Derived.Test.YtfpikmeiooangaaDoorT18
set_option linter.unusedVariables false
set_option linter.unusedSimpArgs false
namespace Go.Proofs.YtfpikmeiooangaaDoor.PFlowTexts
open Go.RowKit Go.Proofs.YtfpikmeiooangaaDoorW.PrintWords Go.Proofs.YtfpikmeiooangaaDoorW.PrintLast Go.Proofs.YtfpikmeiooangaaDoorW.PrintMore
theorem long_f (W H : Int) (D : List Int) (P : List S50) : ∃ b, wigmakerlaw03_Long.f W H D P = some b ∧ (b = false → D.length ≤ 400 ∧ P.length ≤ 200) := by
  unfold wigmakerlaw03_Long.f
  split
  · exact ⟨_, rfl, fun h => by simp at h⟩
  · refine ⟨_, rfl, fun h => ?_⟩
    simp at h
    omega
/-- Both read every text alike; the text of a field, as that field. -/
theorem parse_both (s : ByteArray) (hs : s.size ≤ 100000) : ∃ W H D P e, Ev (fun k => flow_Parse.f k s) (W, H, D, P, e) ∧ Ev (fun k => wigmakerref03_Parse.f k s) (W, H, D, P, e) ∧ D.length ≤ 1000 ∧ P.length ≤ 1000 := by
  by_cases h : ∃ W H D P, Valid W H D P ∧ Ev (fun k => flow_Validate.f k W H D P) 0 ∧ s = txt W H D P
  · obtain ⟨W, H, D, P, V, hv, rfl⟩ := h
    have hl := V.len
    have hf := V.few
    obtain ⟨e, h1, h2, _⟩ := validate_both W H D P (by omega) (by omega)
    obtain rfl : e = 0 := Ev.unique h1 hv
    exact ⟨W, H, D, P, 0, parse_flow_yes hv V, parse_ref_yes h2 V, by omega, by omega⟩
  · have hno : ∀ W H D P, Valid W H D P → Ev (fun k => flow_Validate.f k W H D P) 0 → s ≠ txt W H D P := fun W H D P V hv e => h ⟨W, H, D, P, V, hv, e⟩
    exact ⟨_, _, _, _, _, parse_flow_no s hs hno, parse_ref_no s hs hno, by simp, by simp⟩
theorem law_pure (W H : Int) (D : List Int) (P : List S50) (s : ByteArray) : ∃ k, wigmakerlaw03_FlowTexts.f k W H D P s = some true := by
  refine Ev.some_of (F := fun k => wigmakerlaw03_FlowTexts.f k W H D P s) ?_
  obtain ⟨b, hb, hbl⟩ := long_f W H D P
  have known : Ev (fun k => wigmakerlaw03_FlowTexts.j0 k s true W H D P) true := by
    refine Ev.succ ?_
    simp only [wigmakerlaw03_FlowTexts.j0]
    exact Ev.pos (by trivial) (Ev.bind known_ev (Ev.pure _))
  unfold wigmakerlaw03_FlowTexts.f
  rw [hb]
  simp only [Option.bind_some]
  cases b with
  | true => exact Ev.pos rfl known
  | false =>
    refine Ev.neg (by simp) ?_
    by_cases hs : (s.size : Int) > 5000
    · rw [decide_eq_true hs]
      exact known
    rw [decide_eq_false hs]
    obtain ⟨hD, hP⟩ := hbl rfl
    obtain ⟨W', H', D', P', e', p1, p2, lD, lP⟩ := parse_both s (by omega)
    obtain ⟨e, hv, hr, hz⟩ := validate_both W H D P (by omega) (by omega)
    have fin : ∀ t : ByteArray, (e = 0 → t = txt W H D P ∧ Valid W H D P) → Ev (fun k => wigmakerlaw03_FlowTexts.j1 k t e (e' != e') W H D P) true := by
      intro t ht
      refine Ev.succ ?_
      simp only [wigmakerlaw03_FlowTexts.j1, bne_self_eq_false]
      refine Ev.neg (by simp) ?_
      by_cases he : e = 0
      · obtain ⟨rfl, V⟩ := ht he
        subst he
        exact Ev.pos rfl (Ev.bind (parse_flow_yes hv V) (Ev.pos rfl (Ev.bind (same_ev W H D P (by omega) (by omega)) (Ev.pos rfl (Ev.bind known_ev (Ev.pure _))))))
      · exact Ev.neg he (Ev.bind known_ev (Ev.pure _))
    refine Ev.succ ?_
    simp only [wigmakerlaw03_FlowTexts.j0]
    refine Ev.neg (by simp) ?_
    obtain ⟨t, f1, f2, ht⟩ : ∃ t, Ev (fun k => flow_Format.f k W H D P) (t, e) ∧ Ev (fun k => wigmakerref03_Format.f k W H D P) (t, e) ∧ (e = 0 → t = txt W H D P ∧ Valid W H D P) := by
      by_cases he : e = 0
      · subst he
        exact ⟨_, format_flow hv (hz rfl), format_ref hr (hz rfl), fun _ => ⟨rfl, hz rfl⟩⟩
      · exact ⟨_, (format_bad he hv hr).1, (format_bad he hv hr).2, fun c => absurd c he⟩
    exact Ev.bind f1 (Ev.bind f2 (Ev.bind p1 (Ev.bind p2 (Ev.pos rfl (Ev.pos rfl (Ev.bind (same_ev W' H' D' P' (by omega) (by omega)) (Ev.pos rfl (fin t ht))))))))
end Go.Proofs.YtfpikmeiooangaaDoor.PFlowTexts
