/- The order of sets, the next set, and the search for two disjoint quorums come to the pure answers; conditions: at most ten members, trusts of no more than 2^40 entries. -/
import Derived.Test.YtkkbdimegpdbgaaQsM7
import Derived.Test.YtkkbdimegpdbgaaQsPx3
import Derived.Test.YtkkbdimegpdbgaaQsPx5
namespace Go.Proofs.Ytkkbdimegpdbgaa.P
open Go.RowKit Go.Proofs.YtkkbdimegpdbgaaW.PrintWords Go.Proofs.YtkkbdimegpdbgaaW.PrintLast Go.Proofs.YtkkbdimegpdbgaaW.PrintMore
set_option linter.unusedVariables false
set_option linter.unusedSimpArgs false
def pop (s : Nat) : Nat := (nodesL s).length
set_option maxRecDepth 100000 in
theorem pop_fin : ∀ n : Fin 1024, 2 ^ pop n.1 ≤ n.1 + 1 := by decide +kernel
theorem pop_ge {s : Nat} (h : s < 1024) : 2 ^ pop s ≤ s + 1 := pop_fin ⟨s, h⟩
theorem pop_full : ∀ m : Fin 11, pop (2 ^ m.1 - 1) = m.1 := by decide +kernel
theorem two_pow_le10 {n : Nat} (h : n ≤ 10) : 2 ^ n ≤ 1024 := by
  have := Nat.pow_le_pow_right (n := 2) (by decide) h
  omega
theorem pop_le {n s : Nat} (hn : n ≤ 10) (h : s < 2 ^ n) : pop s ≤ n := by
  have h1 := pop_ge (Nat.lt_of_lt_of_le h (two_pow_le10 hn))
  have h2 : 2 ^ pop s ≤ 2 ^ n := by omega
  exact (Nat.pow_le_pow_iff_right (by decide)).1 h2
def key (s : Nat) : Nat := pop s * 1024 + s
def allN (ms : List S58) : Nat := 2 ^ ms.length - 1
theorem allN_bit (ms : List S58) (i : Nat) : (allN ms).testBit i = decide (i < ms.length) := Nat.testBit_two_pow_sub_one _ _
theorem allN_lt {ms : List S58} (hl : ms.length ≤ 10) : allN ms < 1024 := by
  have := two_pow_le10 hl
  have := Nat.two_pow_pos ms.length
  unfold allN; omega
theorem members_eq {ms : List S58} (hl : ms.length ≤ 10) : vK.f ms = some (allN ms : Int) := by
  have h1 := two_pow_le10 hl
  have h2 := Nat.two_pow_pos ms.length
  unfold vK.f allN
  rw [shl_one (by omega)]
  congr 1
  generalize 2 ^ ms.length = q at h1 h2
  rw [wrap64_id (by omega) (by omega)]; omega
theorem decl_sub_all (ms : List S58) : Sub (declN ms) (allN ms) := fun i h => by
  rw [allN_bit]; exact decide_eq_true (declN_len h)
theorem sub_all_lt {ms : List S58} {q : Nat} (h : Sub q (allN ms)) : q < 2 ^ ms.length := by
  have h1 := le_of_bits h
  have h2 := Nat.two_pow_pos ms.length
  unfold allN at h1; omega
theorem lt_sub_all {ms : List S58} {q : Nat} (h : q < 2 ^ ms.length) : Sub q (allN ms) := fun i hi => by
  rw [allN_bit]
  by_cases h1 : i < ms.length
  · exact decide_eq_true h1
  · rw [Nat.testBit_lt_two_pow (Nat.lt_of_lt_of_le h (Nat.pow_le_pow_right (by decide) (by omega)))] at hi
    cases hi
def IsQ (ms : List S58) (q : Nat) : Prop := q ≠ 0 ∧ Sub q (declN ms) ∧ Fix ms q
theorem IsQ.lt {ms : List S58} {q : Nat} (h : IsQ ms q) : q < 1024 := Sub.lt10 h.2.1 (declN_lt ms)
theorem isQ_iff {ms : List S58} {q : Nat} (h : q < 1024) : quorumN ms q = true ↔ IsQ ms q := quorumN_iff h
theorem IsQ.lt_all {ms : List S58} {q : Nat} (h : IsQ ms q) : q < 2 ^ ms.length := sub_all_lt (h.2.1.trans (decl_sub_all ms))
def Bad (ms : List S58) (x : Nat) : Prop := quorumN ms x = true ∧ greatN ms (sdiff (allN ms) x) ≠ 0
instance (ms : List S58) (x : Nat) : Decidable (Bad ms x) := inferInstanceAs (Decidable (_ ∧ _))
def Meets (ms : List S58) : Prop := ∀ x, x < 2 ^ ms.length → ¬ Bad ms x
theorem bad_of_disjoint {ms : List S58} {a b : Nat} (ha : IsQ ms a) (hb : IsQ ms b) (h : a &&& b = 0) : Bad ms a := by
  refine ⟨(isQ_iff ha.lt).2 ha, fun e => ?_⟩
  have h1 : Sub b (sdiff (allN ms) a) := fun i hi => by
    rw [sdiff_bit, lt_sub_all hb.lt_all i hi]
    have := congrArg (fun n => n.testBit i) h
    simp only [Nat.testBit_and, Nat.zero_testBit, hi, Bool.and_true] at this
    simp [this]
  have h2 := great_max h1 hb.2.1 hb.2.2
  rw [e] at h2
  exact hb.1 (Sub.antisymm h2 (zero_sub b))
theorem and_zero_of {a b : Nat} (h : ∀ i, a.testBit i = true → b.testBit i = false) : a &&& b = 0 := eq_zero_of_no_bit fun i => by
  rw [Nat.testBit_and]
  cases e : a.testBit i with
  | false => rfl
  | true => rw [h i e]; rfl
theorem disjoint_of_bad {ms : List S58} (hl : ms.length ≤ 10) {a : Nat} (h : Bad ms a) (ha : a < 1024) : IsQ ms a ∧ IsQ ms (greatN ms (sdiff (allN ms) a)) ∧ a &&& greatN ms (sdiff (allN ms) a) = 0 := by
  refine ⟨(isQ_iff ha).1 h.1, ⟨h.2, great_decl _ _, great_fix _ _⟩, and_zero_of fun i hi => ?_⟩
  cases e : (greatN ms (sdiff (allN ms) a)).testBit i with
  | false => rfl
  | true =>
    have := great_sub _ _ i e
    rw [sdiff_bit, hi] at this
    simp at this
theorem meets_iff {ms : List S58} (hl : ms.length ≤ 10) : Meets ms ↔ ∀ a b, IsQ ms a → IsQ ms b → a &&& b ≠ 0 := by
  constructor
  · intro h a b ha hb e
    exact h a ha.lt_all (bad_of_disjoint ha hb e)
  · intro h x hx hb
    have h10 := two_pow_le10 hl
    obtain ⟨h1, h2, h3⟩ := disjoint_of_bad hl hb (by omega)
    exact h _ _ h1 h2 h3
def FindP (ms : List S58) (r : Int × Int) : Prop :=
  (∃ s : Nat, s < 2 ^ ms.length ∧ Bad ms s ∧ (∀ x, x < 2 ^ ms.length → key x < key s → ¬ Bad ms x) ∧ r = ((s : Int), (greatN ms (sdiff (allN ms) s) : Int))) ∨ (r = (0, 0) ∧ Meets ms)
end Go.Proofs.Ytkkbdimegpdbgaa.P
