/- The pure statement of ClosureAnswers: what the program's functions answer is what the reference answers, for configurations, sets and lists of all sorts; conditions: none beyond the given ones. -/
import Derived.Test.YtoofabolcbbjnaaQaM5
import Derived.Test.YtoofabolcbbjnaaQaM18
import Derived.Test.YtoofabolcbbjnaaQaM19
import Derived.Test.YtoofabolcbbjnaaQaPx20
namespace Go.Proofs.Ytoofabolcbbjnaa.Pure
open Go.RowKit Go.Proofs.Ytoofabolcbbjnaa.P Go.Proofs.YtoofabolcbbjnaaW.PrintWords Go.Proofs.YtoofabolcbbjnaaW.PrintLast
set_option linter.unusedVariables false
theorem rdL2_get {xs : List (List Int)} {i : Nat} (h : i < xs.length) : rd_L2 xs (i : Int) = xs[i] := by
  unfold rd_L2; rw [Int.toNat_natCast, List.getD_eq_getElem?_getD, List.getElem?_eq_getElem h]; rfl
theorem rd25_get {xs : List S25} {i : Nat} (h : i < xs.length) : rd_T25 xs (i : Int) = xs[i] := by
  unfold rd_T25; rw [Int.toNat_natCast, List.getD_eq_getElem?_getD, List.getElem?_eq_getElem h]; rfl
section
variable {l : List Int} {x2 : Int} {x3 : List Int} {Y : List S25}
structure Same (ms : List S51) (z : Int) : Prop where
  q : ∃ b, Ev (fun k => closure_Quorum.f k ms z) b ∧ Ev (fun k => trustquorumref09_Quorum.f k ms z) b
  g : ∃ b, Ev (fun k => closure_Greatest.f k ms z) b ∧ Ev (fun k => trustquorumref09_Greatest.f k ms z) b
  e : ∃ b : List Int, b.length ≤ 1024 ∧ Ev (fun k => closure_Elimination.f k ms z) b ∧ Ev (fun k => trustquorumref09_Elimination.f k ms z) b
  c : ∀ w : List Int, w.length ≤ 1099511627776 → ∃ b, Ev (fun k => closure_Check.f k ms z w) b ∧ Ev (fun k => trustquorumref09_Check.f k ms z w) b
theorem same {ms : List S51} (hc : SmallC ms) (z : Int) : Same ms z := by
  by_cases h : 0 ≤ z ∧ z < 1024
  · obtain ⟨s, rfl⟩ := Int.eq_ofNat_of_zero_le h.1
    have hs : s < 1024 := by omega
    refine ⟨⟨_, quorum_ev hc hs, ref_quorum_ev hc hs⟩, ⟨_, greatest_ev hc hs, ref_greatest_ev hc hs⟩, ⟨_, ?_, elimination_ev hc hs, ref_elimination_ev hc hs⟩, fun w hw => ⟨_, check_ev' hc hs w hw, ref_check_ev hc hs w hw⟩⟩
    have := elim_len ms _ (s &&& declN ms) (Nat.le_refl _)
    have := and_decl_lt ms s
    simp [casts]; omega
  · exact ⟨⟨_, quorum_not h, ref_quorum_not h⟩, ⟨_, greatest_not h, ref_greatest_not h⟩, ⟨_, by simp, elimination_not h, ref_elimination_not h⟩, fun w _ => ⟨_, check_not h w, ref_check_not h w⟩⟩
theorem ans_l2 {ms : List S51} {z : Int} (hS : Same ms z) (x40 x42 : Int) (x51 : List Int) (x52 x53 a b : Int) (L : List (List Int)) (hL : L.length ≤ 1000) (hw : ∀ w ∈ L, w.length ≤ 100000) (back : Tot (fun k => trustquorumlaw09_ClosureAnswers.l1 k x2 x3 Y x40 x42 x51 x52 (wrap64 (x53 + 1)) l b ms) (fun r => r = true)) :
    ∀ (d i : Nat), L.length - i = d → i ≤ L.length → Tot (fun k => trustquorumlaw09_ClosureAnswers.l2 k x2 x3 z Y x40 x42 x51 x52 x53 L (L.length : Int) (i : Int) l b ms) (fun r => r = true) := by
  intro d
  induction d with
  | zero =>
    intro i hd hi
    refine Tot.step (fun k => by rw [trustquorumlaw09_ClosureAnswers.l2]) ?_
    exact Tot.neg (by omega) back
  | succ d ih =>
    intro i hd hi
    have hlt : i < L.length := by omega
    refine Tot.step (fun k => by rw [trustquorumlaw09_ClosureAnswers.l2]) ?_
    refine Tot.pos (by omega) (Tot.pos (by omega) (Tot.pos (by omega) ?_))
    rw [rdL2_get hlt, succ64 (by omega)]
    obtain ⟨c, h1, h2⟩ := hS.c L[i] (by have := hw _ (List.getElem_mem hlt); omega)
    exact Tot.bindE h1 (Tot.bindE h2 (Tot.pos rfl (Tot.pos rfl (ih (i + 1) (by omega) (by omega)))))
theorem ans_l1 {ms : List S51} (hc : SmallC ms) (h3 : x3.length ≤ 40) (x40 x42 : Int) (Z : List Int) (hZ : Z.length ≤ 1000) (back : ∀ b, TapeOk l b → Tot (fun k => trustquorumlaw09_ClosureAnswers.l0 k x2 x3 Y x40 (wrap64 (x42 + 1)) l b) (fun r => r = true)) :
    ∀ (d i : Nat) (b : Int), TapeOk l b → Z.length - i = d → i ≤ Z.length → Tot (fun k => trustquorumlaw09_ClosureAnswers.l1 k x2 x3 Y x40 x42 Z (Z.length : Int) (i : Int) l b ms) (fun r => r = true) := by
  intro d
  induction d with
  | zero =>
    intro i b ht hd hi
    refine Tot.step (fun k => by rw [trustquorumlaw09_ClosureAnswers.l1]) ?_
    exact Tot.neg (by omega) (back b ht)
  | succ d ih =>
    intro i b ht hd hi
    have hlt : i < Z.length := by omega
    refine Tot.step (fun k => by rw [trustquorumlaw09_ClosureAnswers.l1]) ?_
    refine Tot.pos (by omega) (Tot.pos (by omega) (Tot.pos (by omega) ?_))
    rw [rd_get hlt]
    have hS := same hc Z[i]
    obtain ⟨o, ho, e1, e2⟩ := hS.e
    obtain ⟨q, q1, q2⟩ := hS.q
    obtain ⟨g, g1, g2⟩ := hS.g
    refine Tot.bindE e2 (Tot.bindE q1 (Tot.bindE q2 (Tot.neg (by simp) (Tot.bindE g1 (Tot.bindE g2 (Tot.pos rfl (Tot.bindE e1 ?_)))))))
    refine Tot.bindE (ints_ev (by omega)) (Tot.pos (by simp) ?_)
    refine Tot.bind (order_big (n := o.length) (by omega) ht) ?_
    rintro ⟨p, b1⟩ ⟨hp, ht1⟩
    dsimp only at hp ht1 ⊢
    refine Tot.bindP (P := fun y => y = []) ⟨[], rfl, rfl⟩ ?_
    intro y hy; subst hy
    refine Tot.pos (by simp only [List.length_nil]; omega) ?_
    refine Tot.bindP (P := fun y => y = o) ⟨o, rfl, by simp⟩ ?_
    intro y hy; subst hy
    refine Tot.bindP (tapeN ht1 (n := 10) (by omega) (by omega)) ?_
    rintro ⟨t, b2⟩ ⟨_, _, ht2⟩
    dsimp only at ht2 ⊢
    refine Tot.pos (by omega) ?_
    refine Tot.bindP (P := fun L => L = [x3, y, p, y ++ [t]]) ⟨_, rfl, rfl⟩ ?_
    intro L hL; subst hL
    refine ans_l2 hS x40 x42 Z _ _ b2 b2 _ (by simp) (fun w hw => ?_) ?_ _ 0 rfl (by simp)
    · simp only [List.mem_cons, List.not_mem_nil, or_false] at hw
      rcases hw with rfl | rfl | rfl | rfl
      · omega
      · omega
      · omega
      · simp; omega
    · rw [succ64 (by omega)]
      exact ih (i + 1) b2 ht2 (by omega) (by omega)
theorem ans_l0 (h3 : x3.length ≤ 40) (hY : Y.length ≤ 1000) (hc : ∀ y ∈ Y, SmallC y.f0) :
    ∀ (d i : Nat) (b : Int), TapeOk l b → Y.length - i = d → i ≤ Y.length → Tot (fun k => trustquorumlaw09_ClosureAnswers.l0 k x2 x3 Y (Y.length : Int) (i : Int) l b) (fun r => r = true) := by
  intro d
  induction d with
  | zero =>
    intro i b ht hd hi
    refine Tot.step (fun k => by rw [trustquorumlaw09_ClosureAnswers.l0]) ?_
    exact Tot.neg (by omega) (Tot.bindE awake_ev (Tot.now rfl))
  | succ d ih =>
    intro i b ht hd hi
    have hlt : i < Y.length := by omega
    refine Tot.step (fun k => by rw [trustquorumlaw09_ClosureAnswers.l0]) ?_
    refine Tot.pos (by omega) (Tot.pos (by omega) (Tot.pos (by omega) ?_))
    rw [rd25_get hlt]
    refine Tot.bindP (tapeN ht (n := 1024) (by omega) (by omega)) ?_
    rintro ⟨u, b1⟩ ⟨_, _, ht1⟩
    dsimp only at ht1 ⊢
    refine Tot.bindP (tapeN ht1 (n := 1024) (by omega) (by omega)) ?_
    rintro ⟨v, b2⟩ ⟨_, _, ht2⟩
    dsimp only at ht2 ⊢
    refine Tot.bindP (P := fun Z => Z = [x2, u, v, 1023]) ⟨_, rfl, rfl⟩ ?_
    intro Z hZ; subst hZ
    refine ans_l1 (hc _ (List.getElem_mem hlt)) h3 _ _ _ (by simp) (fun b hb => ?_) _ 0 b2 ht2 rfl (by simp)
    rw [succ64 (by omega)]
    exact ih (i + 1) b hb (by omega) (by omega)
end
theorem ClosureAnswers : trustquorumlaw09_ClosureAnswers.Pure := by
  intro l0 ms x l3 _ _ _ hms hbt
  refine Tot.rounds ?_
  unfold trustquorumlaw09_ClosureAnswers.f
  refine Tot.bind (smallConfig_tot hbt (by unfold maxLen at hms; omega)) ?_
  intro s hs
  refine Tot.ite (fun h => ?_) (fun _ => Tot.bindE awake_ev (Tot.now rfl))
  have hraw := hs h
  refine Tot.ite (fun _ => Tot.bindE awake_ev (Tot.now rfl)) (fun h3 => ?_)
  refine Tot.bindP (tape_new l0) ?_
  rintro ⟨l, p⟩ ht
  dsimp only at ht ⊢
  refine Tot.bind (config_ok (n := 10) (by decide) (by decide) ht) ?_
  rintro ⟨c, p2⟩ ⟨hcfg, ht2⟩
  dsimp only at hcfg ht2 ⊢
  have hcB : SmallB 43 c := ⟨by have := hcfg.2.1; omega, fun m hm => by
    rcases hcfg.2.2 m hm with rfl | ⟨_, h2⟩
    · decide
    · exact gen_size h2⟩
  refine Tot.bind (bentc_tot ht2 (by omega) hcB hcfg.1) ?_
  rintro ⟨y, p3⟩ ⟨hb, ht3⟩
  dsimp only at hb ht3 ⊢
  refine Tot.bindP (P := fun Y => Y = [⟨c⟩, ⟨y⟩, ⟨ms⟩]) ⟨_, rfl, rfl⟩ ?_
  intro Y hY; subst hY
  refine ans_l0 (by omega) (by simp) (fun t ht => ?_) _ 0 p3 ht3 rfl (by simp)
  simp only [List.mem_cons, List.not_mem_nil, or_false] at ht
  rcases ht with rfl | rfl | rfl
  · exact hcB.sized (by decide)
  · exact hb.sized (by decide)
  · exact hraw.sized (by decide)
end Go.Proofs.Ytoofabolcbbjnaa.Pure
