/- The pure statement of ClosureGreatest: Greatest is empty or a quorum, lies in the set, and has every quorum in the set as a subset; conditions: none beyond the given ones. -/
import Derived.Test.YtoofabolcbbjnaaGM5
import Derived.Test.YtoofabolcbbjnaaGPx9
namespace Go.Proofs.Ytoofabolcbbjnaa.Pure
open Go.RowKit Go.Proofs.Ytoofabolcbbjnaa.P Go.Proofs.YtoofabolcbbjnaaW.PrintWords Go.Proofs.YtoofabolcbbjnaaW.PrintLast
set_option linter.unusedVariables false
theorem greatest_loop {ms : List S51} (hc : SmallC ms) (hlen : ms.length ≤ 7) {x : Nat} (hx : x < 1024) : ∀ (d y : Nat), 2 ^ ms.length - y = d → y ≤ 2 ^ ms.length →
    Tot (fun k => trustquorumlaw09_ClosureGreatest.l0 k (x : Int) (greatN ms x : Int) (y : Int) ms) (fun r => r = true) := by
  have hp : 2 ^ ms.length ≤ 128 := Nat.pow_le_pow_right (n := 2) (by decide) hlen
  have g1 := great_lt ms x
  intro d
  induction d with
  | zero =>
    intro y hd hy
    refine Tot.step (fun k => by rw [trustquorumlaw09_ClosureGreatest.l0]) ?_
    rw [shl_one (by omega)]
    exact Tot.neg (by omega) (Tot.bindE awake_ev (Tot.now rfl))
  | succ d ih =>
    intro y hd hy
    have hy1 : y < 1024 := by omega
    have next : Tot (fun k => trustquorumlaw09_ClosureGreatest.l0 k (x : Int) (greatN ms x : Int) (wrap64 ((y : Int) + 1)) ms) (fun r => r = true) := by
      rw [succ64 (by omega)]
      exact ih (y + 1) (by omega) (by omega)
    refine Tot.step (fun k => by rw [trustquorumlaw09_ClosureGreatest.l0]) ?_
    rw [shl_one (by omega), bits_and_nat (lt1024 hy1) (lt1024 hx), bits_and_nat (lt1024 hy1) (lt1024 g1)]
    refine Tot.pos (by omega) (Tot.ite (fun h1 => ?_) (fun _ => next))
    refine Tot.bindE (quorum_ev hc hy1) (Tot.ite (fun h2 => ?_) (fun _ => next))
    have h3 := (quorumN_iff hy1).1 h2
    have h4 : Sub y (greatN ms x) := great_max (sub_of_and_eq (by omega)) h3.2.1 h3.2.2
    exact Tot.pos (by rw [h4.and_eq]) next
theorem ClosureGreatest : trustquorumlaw09_ClosureGreatest.Pure := by
  intro l0 _ _ _
  refine Tot.rounds ?_
  unfold trustquorumlaw09_ClosureGreatest.f
  refine Tot.bindP (tape_new l0) ?_
  rintro ⟨l, p⟩ ht
  simp only at ht ⊢
  refine Tot.bind (config_ok (n := 7) (by decide) (by decide) ht) ?_
  rintro ⟨ms, p2⟩ ⟨hcfg, ht2⟩
  simp only at hcfg ht2 ⊢
  have hc := cfg_small hcfg (by decide)
  have hlen := hcfg.2.1
  have hp : 2 ^ ms.length ≤ 128 := Nat.pow_le_pow_right (n := 2) (by decide) hlen
  have hp1 : 1 ≤ 2 ^ ms.length := Nat.two_pow_pos _
  rw [shl_one (by omega)]
  refine Tot.bindP (tapeN ht2 (n := ((2 ^ ms.length : Nat) : Int)) (by omega) (by omega)) ?_
  rintro ⟨x, q⟩ ⟨h1, h2, h3⟩
  obtain ⟨x, rfl⟩ := Int.eq_ofNat_of_zero_le h1
  simp only at h2 h3 ⊢
  have hx : x < 1024 := by omega
  have g1 := great_lt ms x
  refine Tot.bindE (greatest_ev hc hx) ?_
  rw [bits_and_nat (lt1024 g1) (lt1024 hx), (great_sub ms x).and_eq]
  have fin : Tot (fun k => trustquorumlaw09_ClosureGreatest.j0 k (x : Int) (greatN ms x : Int) false ms) (fun r => r = true) := by
    refine Tot.step (fun k => by rw [trustquorumlaw09_ClosureGreatest.j0]) ?_
    exact Tot.neg (by simp) (greatest_loop hc hlen hx _ 0 rfl (by omega))
  refine Tot.pos rfl (Tot.ite (fun _ => fin) (fun h0 => ?_))
  refine Tot.bindE (quorum_ev hc g1) ?_
  rw [great_quorum ms x (by omega)]
  exact fin
end Go.Proofs.Ytoofabolcbbjnaa.Pure
