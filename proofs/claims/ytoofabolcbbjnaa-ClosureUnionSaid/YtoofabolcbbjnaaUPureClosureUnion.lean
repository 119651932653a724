/- The pure statement of ClosureUnion: the union of two quorums is a quorum, Greatest grows with the set, and Greatest of Greatest is Greatest; conditions: none beyond the given ones. -/
import Derived.Test.YtoofabolcbbjnaaUM5
import Derived.Test.YtoofabolcbbjnaaUPx10
namespace Go.Proofs.Ytoofabolcbbjnaa.Pure
open Go.RowKit Go.Proofs.Ytoofabolcbbjnaa.P Go.Proofs.YtoofabolcbbjnaaW.PrintWords Go.Proofs.YtoofabolcbbjnaaW.PrintLast
set_option linter.unusedVariables false
theorem union_rest {l : List Int} {ms : List S51} (hc : SmallC ms) (a b : Nat) (ha : greatN ms a = a) (hb : greatN ms b = b) (had : a < 1024) (hbd : b < 1024) (hab : greatN ms (a ||| b) = a ||| b) {p : Int} (ht : TapeOk l p) :
    Tot (fun k => trustquorumlaw09_ClosureUnion.j0 k (a : Int) (b : Int) false l p ms) (fun r => r = true) := by
  refine Tot.step (fun k => by rw [trustquorumlaw09_ClosureUnion.j0]) ?_
  refine Tot.neg (by simp) ?_
  refine Tot.bindP (tapeN ht (n := 1024) (by decide) (by decide)) ?_
  rintro ⟨x, q⟩ ⟨h1, h2, h3⟩
  obtain ⟨x, rfl⟩ := Int.eq_ofNat_of_zero_le h1
  simp only at h2 h3 ⊢
  have hx : x < 1024 := by omega
  refine Tot.bindP (tapeN h3 (n := 1024) (by decide) (by decide)) ?_
  rintro ⟨y, q2⟩ ⟨h4, h5, h6⟩
  obtain ⟨y, rfl⟩ := Int.eq_ofNat_of_zero_le h4
  simp only at h5 h6 ⊢
  have hy : y < 1024 := by omega
  refine Tot.bindE (greatest_ev hc hx) ?_
  have hxy : x ||| y < 1024 := Nat.or_lt_two_pow (n := 10) hx hy
  rw [bits_or_nat (lt1024 hx) (lt1024 hy), bits_or_nat (lt1024 had) (lt1024 hbd)]
  refine Tot.bindE (greatest_ev hc hxy) ?_
  have g1 := great_lt ms x
  have g2 := great_lt ms (x ||| y)
  rw [bits_and_nat (lt1024 g1) (lt1024 g2), (great_mono (Sub.or_left x y)).and_eq]
  refine Tot.pos rfl ?_
  refine Tot.bindE (greatest_ev hc g1) ?_
  rw [great_great]
  refine Tot.pos rfl ?_
  refine Tot.bindE (greatest_ev hc (Nat.or_lt_two_pow (n := 10) had hbd)) ?_
  rw [hab]
  refine Tot.pos rfl ?_
  exact Tot.bindE awake_ev (Tot.now rfl)
theorem ClosureUnion : trustquorumlaw09_ClosureUnion.Pure := by
  intro l0 _ _ _
  refine Tot.rounds ?_
  unfold trustquorumlaw09_ClosureUnion.f
  refine Tot.bindP (tape_new l0) ?_
  rintro ⟨l, p⟩ ht
  simp only at ht ⊢
  refine Tot.bind (config_ok (n := 10) (by decide) (by decide) ht) ?_
  rintro ⟨ms, p2⟩ ⟨hcfg, ht2⟩
  simp only at hcfg ht2 ⊢
  have hc := cfg_small hcfg (by decide)
  refine Tot.bindP (tapeN ht2 (n := 1024) (by decide) (by decide)) ?_
  rintro ⟨x, q⟩ ⟨h1, h2, h3⟩
  obtain ⟨x, rfl⟩ := Int.eq_ofNat_of_zero_le h1
  simp only at h2 h3 ⊢
  have hx : x < 1024 := by omega
  refine Tot.bindE (greatest_ev hc hx) ?_
  refine Tot.bindP (tapeN h3 (n := 1024) (by decide) (by decide)) ?_
  rintro ⟨y, q2⟩ ⟨h4, h5, h6⟩
  obtain ⟨y, rfl⟩ := Int.eq_ofNat_of_zero_le h4
  simp only at h5 h6 ⊢
  have hy : y < 1024 := by omega
  refine Tot.bindE (greatest_ev hc hy) ?_
  have g1 := great_lt ms x
  have g2 := great_lt ms y
  have g12 : greatN ms x ||| greatN ms y < 1024 := Nat.or_lt_two_pow (n := 10) g1 g2
  have hd : Sub (greatN ms x ||| greatN ms y) (declN ms) := (great_decl ms x).or_le (great_decl ms y)
  have hf : Fix ms (greatN ms x ||| greatN ms y) := fix_or (great_fix ms x) (great_fix ms y)
  have hab := great_of_fix hd hf
  have fin := union_rest (l := l) hc (greatN ms x) (greatN ms y) (great_great ms x) (great_great ms y) g1 g2 hab h6
  refine Tot.ite (fun _ => fin) (fun hx0 => Tot.ite (fun _ => fin) (fun hy0 => ?_))
  rw [bits_or_nat (lt1024 g1) (lt1024 g2)]
  refine Tot.bindE (quorum_ev hc g12) ?_
  have hq : quorumN ms (greatN ms x ||| greatN ms y) = true := (quorumN_iff g12).2 ⟨fun e => hx0 (by
    have : greatN ms x = 0 := eq_zero_of_no_bit fun i => by
      have h := congrArg (fun n => n.testBit i) e
      simp only [Nat.testBit_or, Nat.zero_testBit, Bool.or_eq_false_iff] at h
      exact h.1
    rw [this]; rfl), hd, hf⟩
  rw [hq]
  exact fin
end Go.Proofs.Ytoofabolcbbjnaa.Pure
