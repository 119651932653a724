/- The pure statement of IntersectionDecides: Holds and Disjoint agree with the tries of all pairs of sets of nodes; conditions: none beyond the given ones. -/
import Derived.Test.YtkkbdimegpdbgaaQdM8
import Derived.Test.YtkkbdimegpdbgaaQdM9
import Derived.Test.YtkkbdimegpdbgaaQdPx18
namespace Go.Proofs.Ytkkbdimegpdbgaa.Pure
open Go.RowKit Go.Proofs.Ytkkbdimegpdbgaa.P Go.Proofs.YtkkbdimegpdbgaaW.PrintWords Go.Proofs.YtkkbdimegpdbgaaW.PrintLast
set_option linter.unusedVariables false
theorem disjoint_tot {ms : List S58} (hs : SizedC ms) (hl : ms.length ≤ 10) (hv : validC ms = 0) :
    Tot (fun k => intersection_Disjoint.f k ms) (fun r => (Meets ms ∧ r = (0, 0, 11)) ∨ (¬ Meets ms ∧ ∃ a b : Nat, IsQ ms a ∧ IsQ ms b ∧ a &&& b = 0 ∧ r = ((a : Int), (b : Int), 0))) := by
  have hc := sized_small hs (by omega)
  have h10 := two_pow_le10 hl
  unfold intersection_Disjoint.f
  refine Tot.bindE (validC_ev hs (by omega)) ?_
  refine Tot.pos hv ?_
  refine Tot.bind (find_tot hc hl) ?_
  rintro r (⟨s, h1, h2, h3, rfl⟩ | ⟨rfl, h1⟩)
  · obtain ⟨q1, q2, q3⟩ := disjoint_of_bad hl h2 (by omega)
    have := q1.1
    refine Tot.neg (by simp only; omega) (Tot.now (.inr ⟨fun hm => hm s h1 h2, s, _, q1, q2, q3, rfl⟩))
  · exact Tot.pos rfl (Tot.now (.inl ⟨h1, rfl⟩))
open Classical in
theorem decides_l1 {ms : List S58} (hc : SmallC ms) (hl : ms.length ≤ 6) {x : Nat} (hx : x < 2 ^ ms.length)
    (next : Tot (fun k => trustquorumlaw12_IntersectionDecides.l0 k (decide (Meets ms)) (wrap64 ((x : Int) + 1)) ms) (fun r => r = true)) : ∀ (d y : Nat), x - y = d → y ≤ x →
    Tot (fun k => trustquorumlaw12_IntersectionDecides.l1 k (decide (Meets ms)) (x : Int) (y : Int) ms) (fun r => r = true) := by
  have hp : 2 ^ ms.length ≤ 64 := Nat.pow_le_pow_right (n := 2) (by decide) hl
  intro d
  induction d with
  | zero =>
    intro y hd hy
    refine Tot.step (fun k => by rw [trustquorumlaw12_IntersectionDecides.l1]) ?_
    exact Tot.neg (by omega) next
  | succ d ih =>
    intro y hd hy
    have hx1 : x < 1024 := by omega
    have hy1 : y < 1024 := by omega
    have more : Tot (fun k => trustquorumlaw12_IntersectionDecides.l1 k (decide (Meets ms)) (x : Int) (wrap64 ((y : Int) + 1)) ms) (fun r => r = true) := by
      rw [succ64 (by omega)]
      exact ih (y + 1) (by omega) (by omega)
    refine Tot.step (fun k => by rw [trustquorumlaw12_IntersectionDecides.l1]) ?_
    refine Tot.pos (by omega) (Tot.ite (fun h1 => ?_) (fun _ => more))
    rw [bits_and_nat (lt1024 hx1) (lt1024 hy1)]
    refine Tot.ite (fun h2 => ?_) (fun _ => more)
    refine Tot.bindE (ref_quorum_ev hc hx1) (Tot.ite (fun h3 => ?_) (fun _ => more))
    refine Tot.bindE (ref_quorum_ev hc hy1) (Tot.ite (fun h4 => ?_) (fun _ => more))
    exfalso
    exact (meets_iff (by omega)).1 (of_decide_eq_true h1) x y ((isQ_iff hx1).1 h3) ((isQ_iff hy1).1 h4) (by omega)
open Classical in
theorem decides_l0 {ms : List S58} (hc : SmallC ms) (hl : ms.length ≤ 6) : ∀ (d x : Nat), 2 ^ ms.length - x = d → x ≤ 2 ^ ms.length →
    Tot (fun k => trustquorumlaw12_IntersectionDecides.l0 k (decide (Meets ms)) (x : Int) ms) (fun r => r = true) := by
  have hp : 2 ^ ms.length ≤ 64 := Nat.pow_le_pow_right (n := 2) (by decide) hl
  intro d
  induction d with
  | zero =>
    intro x hd hx
    refine Tot.step (fun k => by rw [trustquorumlaw12_IntersectionDecides.l0]) ?_
    rw [shl_one (by omega)]
    exact Tot.neg (by omega) (Tot.bindE awake_ev (Tot.now rfl))
  | succ d ih =>
    intro x hd hx
    refine Tot.step (fun k => by rw [trustquorumlaw12_IntersectionDecides.l0]) ?_
    rw [shl_one (by omega)]
    refine Tot.pos (by omega) ?_
    refine decides_l1 hc hl (by omega) ?_ x 0 (by omega) (by omega)
    rw [succ64 (by omega)]
    exact ih (x + 1) (by omega) (by omega)
theorem IntersectionDecides : trustquorumlaw12_IntersectionDecides.Pure := by
  intro l0 _ _ _
  classical
  refine Tot.rounds ?_
  unfold trustquorumlaw12_IntersectionDecides.f
  refine Tot.bindP (tape_new l0) ?_
  rintro ⟨l, p⟩ ht
  simp only at ht ⊢
  refine Tot.bind (config_ok (n := 6) (by decide) (by decide) ht) ?_
  rintro ⟨ms, p2⟩ ⟨hcfg, ht2⟩
  simp only at hcfg ht2 ⊢
  have hc := cfg_small hcfg (by decide)
  have hs := cfg_sized hcfg
  have hv := cfg_valid hcfg (by decide)
  have hlen := hcfg.2.1
  refine Tot.bindE (holds_ev hs (by omega) hv) ?_
  refine Tot.bind (disjoint_tot hs (by omega) hv) ?_
  have fin : Tot (fun k => trustquorumlaw12_IntersectionDecides.j1 k (decide (Meets ms)) false ms) (fun r => r = true) := by
    refine Tot.step (fun k => by rw [trustquorumlaw12_IntersectionDecides.j1]) ?_
    exact Tot.neg (by simp) (decides_l0 hc hlen _ 0 rfl (Nat.zero_le _))
  rintro r (⟨h1, rfl⟩ | ⟨h1, a, b, ha, hb, hab, rfl⟩)
  · refine Tot.pos rfl (Tot.neg (by simp [h1]) (Tot.neg (by decide) ?_))
    refine Tot.step (fun k => by rw [trustquorumlaw12_IntersectionDecides.j0]) ?_
    exact Tot.neg (by decide) (Tot.pos (decide_eq_true h1) fin)
  · refine Tot.pos rfl (Tot.neg (by simp [h1]) (Tot.pos rfl ?_))
    refine Tot.step (fun k => by rw [trustquorumlaw12_IntersectionDecides.j0]) ?_
    refine Tot.neg (by decide) (Tot.neg (by simp [h1]) ?_)
    have la := ha.lt
    have lb := hb.lt
    rw [bits_and_nat (lt1024 la) (lt1024 lb), hab]
    refine Tot.pos rfl ?_
    refine Tot.bindE (ref_quorum_ev hc la) (Tot.pos ((isQ_iff la).2 ha) ?_)
    refine Tot.bindE (ref_quorum_ev hc lb) ?_
    rw [(isQ_iff lb).2 hb]
    exact fin
end Go.Proofs.Ytkkbdimegpdbgaa.Pure
