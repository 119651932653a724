/- The pure statement of IntersectionUniform: n nodes which all trust in k of them have intersection exactly if k is more than half of n; conditions: none beyond the given ones. -/
import Derived.Test.YtkkbdimegpdbgaaQuM8
import Derived.Test.YtkkbdimegpdbgaaQuM5
import Derived.Test.YtkkbdimegpdbgaaQuPx11
namespace Go.Proofs.Ytkkbdimegpdbgaa.Pure
open Go.RowKit Go.Proofs.Ytkkbdimegpdbgaa.P Go.Proofs.YtkkbdimegpdbgaaW.PrintWords Go.Proofs.YtkkbdimegpdbgaaW.PrintLast
set_option linter.unusedVariables false
def uMem (n : Nat) (k : Int) : S58 := ⟨true, ⟨k, casts (List.range n), []⟩⟩
theorem same_l1 {n : Nat} (hn : n ≤ 10) (k : Int) (ns : List Int) : ∀ (d i : Nat), n - i = d → i ≤ n →
    Ev (fun q => trustquorumlaw12_same.l1 q (n : Int) (i : Int) k ns (List.replicate i ⟨true, ⟨k, ns, []⟩⟩)) (List.replicate n ⟨true, ⟨k, ns, []⟩⟩) := by
  intro d
  induction d with
  | zero =>
    intro i hd hi
    obtain rfl : i = n := by omega
    refine Ev.step (fun k => by rw [trustquorumlaw12_same.l1]) ?_
    exact Ev.neg (by omega) (Ev.now _)
  | succ d ih =>
    intro i hd hi
    refine Ev.step (fun k => by rw [trustquorumlaw12_same.l1]) ?_
    refine Ev.pos (by omega) (Ev.pos (by simp; omega) ?_)
    rw [succ64 (by omega), ← List.replicate_succ']
    exact ih (i + 1) (by omega) (by omega)
theorem same_l0 {n : Nat} (hn : n ≤ 10) (k : Int) : ∀ (d i : Nat), n - i = d → i ≤ n →
    Ev (fun q => trustquorumlaw12_same.l0 q (n : Int) (i : Int) k (casts (List.range i))) (List.replicate n (uMem n k)) := by
  intro d
  induction d with
  | zero =>
    intro i hd hi
    obtain rfl : i = n := by omega
    refine Ev.step (fun k => by rw [trustquorumlaw12_same.l0]) ?_
    refine Ev.neg (by omega) ?_
    exact same_l1 hn k _ i 0 (by omega) (by omega)
  | succ d ih =>
    intro i hd hi
    refine Ev.step (fun k => by rw [trustquorumlaw12_same.l0]) ?_
    refine Ev.pos (by omega) (Ev.pos (by simp [casts]; omega) ?_)
    rw [succ64 (by omega)]
    have := ih (i + 1) (by omega) (by omega)
    rwa [List.range_succ, casts_append] at this
theorem same_ev {n : Nat} (hn : n ≤ 10) (k : Int) : Ev (fun q => trustquorumlaw12_same.f q (n : Int) k) (List.replicate n (uMem n k)) := by
  unfold trustquorumlaw12_same.f
  exact same_l0 hn k n 0 (by omega) (by omega)
theorem usesI_casts {n : Nat} (hn : n ≤ 10) : usesI (casts (List.range n)) 0 < 2 ^ n := usesI_lt hn _ _ (Nat.two_pow_pos n) fun k hk => by
  simp only [casts, List.mem_map, List.mem_range] at hk
  obtain ⟨y, hy, rfl⟩ := hk
  omega
theorem u_valid {n k : Nat} (hn : n ≤ 10) (hk : 1 ≤ k) (hkn : k ≤ n) : validC (List.replicate n (uMem n (k : Int))) = 0 := by
  unfold validC
  rw [if_neg (by simp; omega), List.length_replicate]
  have hmem : memE n (uMem n (k : Int)) = 0 := by
    unfold memE
    have hv : validT (uMem n (k : Int)).f1 = 0 := by
      have hlen : (casts (List.range n)).length = n := by simp [casts]
      have hd : depthT (uMem n (k : Int)).f1 = 1 := by unfold uMem; simp only [depthT, depthL]
      have hs : sizeT (uMem n (k : Int)).f1 = n := by unfold uMem; simp only [sizeT, sizeL, hlen, List.length_nil]; omega
      have hc : checkT (uMem n (k : Int)).f1 = 0 := by
        unfold uMem
        simp only [checkT, checkL, hlen]
        rw [if_neg (by simp; omega)]
        have hany : (casts (List.range n)).any (fun k => decide (k < 0) || decide (k ≥ 10)) = false := by
          rw [List.any_eq_false]
          intro x hx
          simp only [casts, List.mem_map, List.mem_range] at hx
          obtain ⟨y, hy, rfl⟩ := hx
          simp; omega
        rw [hany, if_neg (by simp)]
        have hdup : dupOf (casts (List.range n)) = false := by
          rw [dupOf_false]
          unfold casts
          refine List.pairwise_iff_getElem.2 fun p q hp hq hpq => ?_
          simp at hp hq ⊢
          omega
        rw [hdup, if_neg (by simp)]
      unfold validT
      rw [if_neg (by rw [hd]; omega), if_neg (by rw [hs]; omega), hc]
    rw [if_pos (show (uMem n (k : Int)).f0 = true from rfl), if_pos hv]
    have hu : usesT (uMem n (k : Int)).f1 < 2 ^ n := by
      unfold uMem
      simp only [usesT, usesL]
      exact usesI_casts hn
    rw [if_neg (by omega)]
  have hall : ∀ m, memL n (List.replicate m (uMem n (k : Int))) = 0 := by
    intro m
    induction m with
    | zero => rfl
    | succ m ih => rw [List.replicate_succ, memL, if_pos hmem, ih]
  exact hall n
theorem u_sized {n : Nat} (hn : n ≤ 10) (k : Int) : SizedC (List.replicate n (uMem n k)) := by
  intro m hm
  rw [List.eq_of_mem_replicate hm]
  unfold uMem
  simp only [sizeT, sizeL, casts, List.length_map, List.length_range, List.length_nil]
  omega
theorem filter_range {s n : Nat} (hs : s < 2 ^ n) : ∀ m, n ≤ m → ((List.range m).filter s.testBit).length = ((List.range n).filter s.testBit).length := by
  intro m hm
  induction m with
  | zero => obtain rfl : n = 0 := by omega
            rfl
  | succ m ih =>
    by_cases e : n = m + 1
    · rw [e]
    · have hb : s.testBit m = false := Nat.testBit_lt_two_pow (Nat.lt_of_lt_of_le hs (Nat.pow_le_pow_right (by decide) (by omega)))
      rw [List.range_succ, List.filter_append, List.length_append, ih (by omega)]
      simp [hb]
theorem u_sat {n s : Nat} (hn : n ≤ 10) (hs : s < 2 ^ n) (k : Int) : satT s ⟨k, casts (List.range n), []⟩ = decide (k ≤ (pop s : Int)) := by
  simp only [satT, satL]
  have e : ((casts (List.range n)).filter (hasI s)).length = pop s := by
    unfold pop nodesL
    rw [filter_range hs 10 hn]
    unfold casts
    rw [List.filter_map, List.length_map]
    congr 2
  rw [e]
  exact decide_eq_decide.2 (by omega)
theorem u_decl {n : Nat} (hn : n ≤ 10) (k : Int) (i : Nat) : (declN (List.replicate n (uMem n k))).testBit i = decide (i < n) := by
  rw [declN_bit]
  unfold isDecl
  rw [List.length_replicate]
  by_cases h : i < n
  · have h10 : i < 10 := by omega
    rw [List.getD_eq_getElem?_getD, List.getElem?_replicate, if_pos h]
    simp [h, h10, uMem]
  · simp [h]
theorem u_isQ {n k : Nat} (hn : n ≤ 10) (hk : 1 ≤ k) (q : Nat) : IsQ (List.replicate n (uMem n (k : Int))) q ↔ q < 2 ^ n ∧ k ≤ pop q := by
  have hlen : (List.replicate n (uMem n (k : Int))).length = n := List.length_replicate
  have hcont : ∀ i, i < n → q < 2 ^ n → (content (List.replicate n (uMem n (k : Int))) i q = true ↔ k ≤ pop q) := by
    intro i hi hq
    unfold content
    rw [List.getD_eq_getElem?_getD, List.getElem?_replicate, if_pos hi]
    show satT q ⟨(k : Int), casts (List.range n), []⟩ = true ↔ _
    rw [u_sat hn hq, decide_eq_true_eq]
    omega
  constructor
  · intro h
    have h1 := h.lt_all
    rw [hlen] at h1
    refine ⟨h1, ?_⟩
    obtain ⟨i, hi⟩ : ∃ i, q.testBit i = true := by
      by_cases hx : ∃ i, q.testBit i = true
      · exact hx
      · exact absurd (eq_zero_of_no_bit fun i => by
          cases e : q.testBit i with
          | false => rfl
          | true => exact absurd ⟨i, e⟩ hx) h.1
    have h2 := h.2.1 i hi
    rw [u_decl hn, decide_eq_true_eq] at h2
    exact (hcont i h2 h1).1 (h.2.2 i hi)
  · rintro ⟨h1, h2⟩
    have hb : ∀ i, q.testBit i = true → i < n := fun i hi => by
      by_cases e : i < n
      · exact e
      · rw [Nat.testBit_lt_two_pow (Nat.lt_of_lt_of_le h1 (Nat.pow_le_pow_right (by decide) (by omega)))] at hi
        cases hi
    refine ⟨?_, fun i hi => ?_, fun i hi => (hcont i (hb i hi) h1).2 h2⟩
    · rintro rfl
      have : pop 0 = 0 := by decide +kernel
      omega
    · rw [u_decl hn]; exact decide_eq_true (hb i hi)
theorem filter_disjoint {p q : Nat → Bool} : ∀ (l : List Nat), (∀ x, p x = true → q x = false) → (l.filter p).length + (l.filter q).length = (l.filter fun x => p x || q x).length
  | [], _ => rfl
  | x :: l, h => by
    have ih := filter_disjoint l h
    by_cases hp : p x = true
    · have hq := h x hp
      simp only [List.filter_cons, hp, hq, Bool.true_or, if_true, List.length_cons]
      simp
      omega
    · have hp' : p x = false := Bool.eq_false_iff.2 hp
      by_cases hq : q x = true
      · simp only [List.filter_cons, hp', hq, Bool.false_or, if_true, List.length_cons]
        simp
        omega
      · have hq' : q x = false := Bool.eq_false_iff.2 hq
        simp only [List.filter_cons, hp', hq', Bool.or_self]
        simpa using ih
theorem pop_or {a b : Nat} (h : a &&& b = 0) : pop a + pop b = pop (a ||| b) := by
  unfold pop nodesL
  rw [filter_disjoint (List.range 10) (p := a.testBit) (q := b.testBit) fun x hx => by
    have := congrArg (fun n => n.testBit x) h
    simp only [Nat.testBit_and, Nat.zero_testBit, hx, Bool.true_and] at this
    exact this]
  congr 2
  funext x
  exact (Nat.testBit_or a b x).symm
theorem u_meets {n k : Nat} (hn : n ≤ 9) (hk : 1 ≤ k) (hkn : k ≤ n) : Meets (List.replicate n (uMem n (k : Int))) ↔ n < 2 * k := by
  have hlen : (List.replicate n (uMem n (k : Int))).length = n := List.length_replicate
  rw [meets_iff (by rw [hlen]; omega)]
  constructor
  · intro h
    by_cases e : n < 2 * k
    · exact e
    · exfalso
      have hfin : ∀ m : Fin 6, pop ((2 ^ m.1 - 1) <<< m.1) = m.1 ∧ (2 ^ m.1 - 1) &&& ((2 ^ m.1 - 1) <<< m.1) = 0 ∧ (2 ^ m.1 - 1) <<< m.1 < 2 ^ (2 * m.1) ∧ pop (2 ^ m.1 - 1) = m.1 ∧ 2 ^ m.1 - 1 < 2 ^ (2 * m.1) := by decide +kernel
      obtain ⟨h1, h2, h3, h4, h5⟩ := hfin ⟨k, by omega⟩
      simp only at h1 h2 h3 h4 h5
      have hle : 2 ^ (2 * k) ≤ 2 ^ n := Nat.pow_le_pow_right (by decide) (by omega)
      exact h _ _ ((u_isQ (by omega) hk _).2 ⟨Nat.lt_of_lt_of_le h5 hle, by omega⟩) ((u_isQ (by omega) hk _).2 ⟨Nat.lt_of_lt_of_le h3 hle, by omega⟩) h2
  · intro h a b ha hb e
    have h1 := (u_isQ (by omega) hk a).1 ha
    have h2 := (u_isQ (by omega) hk b).1 hb
    have h3 := pop_or e
    have h4 := pop_le (n := n) (by omega) (Nat.or_lt_two_pow h1.1 h2.1)
    omega
theorem IntersectionUniform : trustquorumlaw12_IntersectionUniform.Pure := by
  intro a0 a1 h0 h1
  have b0 : 0 ≤ a0 ∧ a0 ≤ 255 := by
    simp [Lit.wf, show IntKind.u8.min = 0 from rfl, show IntKind.u8.max = 255 from rfl] at h0
    exact h0
  have b1 : 0 ≤ a1 ∧ a1 ≤ 255 := by
    simp [Lit.wf, show IntKind.u8.min = 0 from rfl, show IntKind.u8.max = 255 from rfl] at h1
    exact h1
  refine Tot.rounds ?_
  unfold trustquorumlaw12_IntersectionUniform.f
  have e0 : wrap64 a0 = a0 := wrap64_id (by omega) (by omega)
  have e1 : wrap64 a1 = a1 := wrap64_id (by omega) (by omega)
  rw [e0, e1]
  have m0 : Int.tmod a0 9 = a0 % 9 := Int.tmod_eq_emod_of_nonneg b0.1
  rw [m0]
  obtain ⟨n, hn⟩ := Int.eq_ofNat_of_zero_le (show 0 ≤ 1 + a0 % 9 by omega)
  have hw : wrap64 (1 + a0 % 9) = (n : Int) := by rw [wrap64_id (by omega) (by omega)]; exact hn
  rw [hw]
  have m1 : Int.tmod a1 (n : Int) = a1 % (n : Int) := Int.tmod_eq_emod_of_nonneg b1.1
  have hpos : (0 : Int) < (n : Int) := by omega
  have l1 := Int.emod_nonneg a1 (show (n : Int) ≠ 0 by omega)
  have l2 := Int.emod_lt_of_pos a1 hpos
  rw [m1]
  obtain ⟨k, hk⟩ := Int.eq_ofNat_of_zero_le (show 0 ≤ 1 + a1 % (n : Int) by omega)
  have hw1 : wrap64 (1 + a1 % (n : Int)) = (k : Int) := by rw [wrap64_id (by omega) (by omega)]; exact hk
  rw [hw1]
  have hn9 : n ≤ 9 := by omega
  have hk1 : 1 ≤ k := by omega
  have hkn : k ≤ n := by omega
  refine Tot.neg (by omega) ?_
  refine Tot.bindE (same_ev (by omega) _) ?_
  have hlen : (List.replicate n (uMem n (k : Int))).length = n := List.length_replicate
  refine Tot.bindE (holds_ev (u_sized (by omega) _) (by rw [hlen]; omega) (u_valid (by omega) hk1 hkn)) ?_
  refine Tot.pos rfl ?_
  rw [wrap64_id (i := 2 * (k : Int)) (by omega) (by omega)]
  refine Tot.pos ?_ (Tot.bindE awake_ev (Tot.now rfl))
  rw [beq_iff_eq]
  exact decide_eq_decide.2 ((u_meets hn9 hk1 hkn).trans (by omega))
end Go.Proofs.Ytkkbdimegpdbgaa.Pure
