/- The pure statement of IntersectionSound: where a search tree is accepted, the configuration has intersection; conditions: none beyond the given ones. -/
import Derived.Test.YtkkbdimegpdbgaaQsM5
import Derived.Test.YtkkbdimegpdbgaaQsM14
import Derived.Test.YtkkbdimegpdbgaaQsM16
import Derived.Test.YtkkbdimegpdbgaaQsM17
import Derived.Test.YtkkbdimegpdbgaaQsPx41
namespace Go.Proofs.Ytkkbdimegpdbgaa.Pure
open Go.RowKit Go.Proofs.Ytkkbdimegpdbgaa.P Go.Proofs.YtkkbdimegpdbgaaW.PrintWords Go.Proofs.YtkkbdimegpdbgaaW.PrintLast
set_option linter.unusedVariables false
open Classical in
theorem sound_l0 {ms : List S58} (hs : SizedC ms) (hl : ms.length ≤ 10) (L : List S28) (hL : L.length ≤ 1000) (hx : ∀ x ∈ L, sizeX x ≤ 4000) :
    ∀ (d i : Nat), L.length - i = d → i ≤ L.length → Tot (fun k => trustquorumlaw12_IntersectionSound.l0 k (decide (Meets ms)) L (L.length : Int) (i : Int) ms) (fun r => r = true) := by
  intro d
  induction d with
  | zero =>
    intro i hd hi
    refine Tot.step (fun k => by rw [trustquorumlaw12_IntersectionSound.l0]) ?_
    exact Tot.neg (by omega) (Tot.bindE awake_ev (Tot.now rfl))
  | succ d ih =>
    intro i hd hi
    have hlt : i < L.length := by omega
    refine Tot.step (fun k => by rw [trustquorumlaw12_IntersectionSound.l0]) ?_
    refine Tot.pos (by omega) (Tot.pos (by omega) (Tot.pos (by omega) ?_))
    rw [rdK_get hlt, succ64 (by omega)]
    have := hx _ (List.getElem_mem hlt)
    refine Tot.bindE (x_check_ev hs (by omega) (x := L[i]) (by omega)) ?_
    refine Tot.ite (fun h => ?_) (fun h => ih (i + 1) (by omega) (by omega))
    exact Tot.pos (decide_eq_true (check_sound h)) (ih (i + 1) (by omega) (by omega))
theorem IntersectionSound : trustquorumlaw12_IntersectionSound.Pure := by
  intro l0 x _ _ _
  classical
  refine Tot.rounds ?_
  unfold trustquorumlaw12_IntersectionSound.f
  refine Tot.bind (smallTrace_tot x) ?_
  intro b hb
  refine Tot.ite (fun h => ?_) (fun _ => Tot.bindE awake_ev (Tot.now rfl))
  have hx := hb h
  refine Tot.bindP (tape_new l0) ?_
  rintro ⟨l, p⟩ ht
  simp only at ht ⊢
  refine Tot.bind (config_ok (n := 7) (by decide) (by decide) ht) ?_
  rintro ⟨ms, p2⟩ ⟨hcfg, ht2⟩
  simp only at hcfg ht2 ⊢
  have hc := cfg_small hcfg (by decide)
  have hs := cfg_sized hcfg
  have hv := cfg_valid hcfg (by decide)
  have hl0 := hcfg.1
  have hlen := hcfg.2.1
  have hl : ms.length ≤ 10 := by omega
  refine Tot.bindE (ref_holds_ev hs hl hv) ?_
  refine Tot.bind (made_tot hc hl hl0 true ht2) ?_
  rintro y ⟨⟨h4, _⟩, ht3⟩
  refine Tot.bind (made_tot hc hl hl0 true ht3) ?_
  rintro z ⟨⟨h5, _⟩, ht4⟩
  refine Tot.bindP (P := fun L => L = [mkX4 y, mkX4 z, x, ⟨1, 0, []⟩, ⟨2, 0, []⟩]) ⟨[mkX4 y, mkX4 z, x, ⟨1, 0, []⟩, ⟨2, 0, []⟩], rfl, by obtain ⟨x0, x1, x2⟩ := x; rfl⟩ ?_
  rintro _ rfl
  refine sound_l0 hs hl _ (by simp) (fun t ht => ?_) _ 0 rfl (by simp)
  simp only [List.mem_cons, List.not_mem_nil, or_false] at ht
  rcases ht with rfl | rfl | rfl | rfl | rfl
  · omega
  · omega
  · omega
  · simp [sizeX, sizeXL]
  · simp [sizeX, sizeXL]
end Go.Proofs.Ytkkbdimegpdbgaa.Pure
