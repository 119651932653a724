/- The pure statement of IntersectionProves: a configuration with intersection has a search tree that is accepted, and one without has none; conditions: none beyond the given ones. -/
import Derived.Test.YtkkbdimegpdbgaaQpM5
import Derived.Test.YtkkbdimegpdbgaaQpM14
import Derived.Test.YtkkbdimegpdbgaaQpM16
import Derived.Test.YtkkbdimegpdbgaaQpPx28
namespace Go.Proofs.Ytkkbdimegpdbgaa.Pure
open Go.RowKit Go.Proofs.Ytkkbdimegpdbgaa.P Go.Proofs.YtkkbdimegpdbgaaW.PrintWords Go.Proofs.YtkkbdimegpdbgaaW.PrintLast
set_option linter.unusedVariables false
open Classical in
theorem prove_api_tot {ms : List S58} (hs : SizedC ms) (hl : ms.length ≤ 10) (hv : validC ms = 0) :
    Tot (fun k => intersection_Prove.f k ms) (fun r => (Meets ms ∧ r.2.2.2 = 0 ∧ rightX ms (mkX4 r) 0 0 = true ∧ sizeX (mkX4 r) ≤ 2047) ∨ (¬ Meets ms ∧ r = (0, 0, [], 11))) := by
  unfold intersection_Prove.f
  refine Tot.bindE (holds_ev hs hl hv) (Tot.pos rfl ?_)
  refine Tot.ite (fun h => ?_) (fun h => Tot.now (.inr ⟨fun hm => h (decide_eq_true hm), rfl⟩))
  have hm : Meets ms := of_decide_eq_true h
  refine Tot.bind (prove0_tot (sized_small hs (by omega)) hl hm) ?_
  rintro ⟨a, b, c⟩ ⟨h1, h2⟩
  exact Tot.now (.inl ⟨hm, rfl, h1, h2⟩)
theorem checkX_right {ms : List S58} (hv : validC ms = 0) {x : S28} (h : rightX ms x 0 0 = true) (hx : sizeX x ≤ 2047) : checkX ms x = true := by
  unfold checkX
  rw [decide_eq_true hv, decide_eq_true (by omega), h]; rfl
theorem IntersectionProves : trustquorumlaw12_IntersectionProves.Pure := by
  intro l0 _ _ _
  classical
  refine Tot.rounds ?_
  unfold trustquorumlaw12_IntersectionProves.f
  refine Tot.bindP (tape_new l0) ?_
  rintro ⟨l, p⟩ ht
  simp only at ht ⊢
  refine Tot.bind (config_ok (n := 9) (by decide) (by decide) ht) ?_
  rintro ⟨ms, p2⟩ ⟨hcfg, ht2⟩
  simp only at hcfg ht2 ⊢
  have hc := cfg_small hcfg (by decide)
  have hs := cfg_sized hcfg
  have hv := cfg_valid hcfg (by decide)
  have hl0 := hcfg.1
  have hlen := hcfg.2.1
  have hl : ms.length ≤ 10 := by omega
  refine Tot.bind (prove_api_tot hs hl hv) ?_
  intro r hr
  refine Tot.bindE (ref_holds_ev hs hl hv) (Tot.pos rfl ?_)
  refine Tot.ite (fun h => ?_) (fun h => ?_)
  · rcases hr with ⟨hm, h1, h2, h3⟩ | ⟨hm, _⟩
    · have hok := checkX_right hv h2 h3
      refine Tot.pos h1 ?_
      refine Tot.bindE (ref_x_check_ev hs (by omega) (x := mkX4 r) (by omega)) (Tot.pos hok ?_)
      refine Tot.bindE (x_check_ev hs (by omega) (x := mkX4 r) (by omega)) (Tot.pos hok ?_)
      refine Tot.bind (made_tot hc hl hl0 false ht2) ?_
      rintro y ⟨⟨h4, h5⟩, _⟩
      refine Tot.bindE (x_check_ev hs (by omega) (x := mkX4 y) (by omega)) (Tot.pos (checkX_right hv (h5 rfl hm) h4) ?_)
      exact Tot.bindE awake_ev (Tot.now rfl)
    · exact absurd (of_decide_eq_true h) hm
  · rcases hr with ⟨hm, _⟩ | ⟨hm, rfl⟩
    · exact absurd (decide_eq_true hm) h
    · have no : ∀ x, ¬ checkX ms x = true := fun x hx => hm (check_sound hx)
      refine Tot.pos rfl ?_
      refine Tot.bind (made_tot hc hl hl0 false ht2) ?_
      rintro y ⟨⟨h4, h5⟩, ht3⟩
      refine Tot.bindE (x_check_ev hs (by omega) (x := mkX4 y) (by omega)) (Tot.neg (no _) ?_)
      refine Tot.bind (made_tot hc hl hl0 true ht3) ?_
      rintro z ⟨⟨h6, h7⟩, ht4⟩
      refine Tot.bindE (x_check_ev hs (by omega) (x := mkX4 z) (by omega)) (Tot.neg (no _) ?_)
      exact Tot.bindE awake_ev (Tot.now rfl)
end Go.Proofs.Ytkkbdimegpdbgaa.Pure
