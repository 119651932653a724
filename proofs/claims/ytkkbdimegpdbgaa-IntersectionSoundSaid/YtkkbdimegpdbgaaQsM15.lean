/- A configuration in which no two quorums are disjoint has a search tree: the program's own is right, and so is one that is made without mistakes; conditions: at most ten members. -/
import Derived.Test.YtkkbdimegpdbgaaQsM13
import Derived.Test.YtkkbdimegpdbgaaQsPx7
namespace Go.Proofs.Ytkkbdimegpdbgaa.P
open Go.RowKit Go.Proofs.YtkkbdimegpdbgaaW.PrintWords Go.Proofs.YtkkbdimegpdbgaaW.PrintLast Go.Proofs.YtkkbdimegpdbgaaW.PrintMore
set_option linter.unusedVariables false
set_option linter.unusedSimpArgs false
theorem filter_two {p q r : Nat → Bool} : ∀ (l : List Nat), (∀ x, p x = true → q x = false) → (∀ x, r x = (p x || q x)) → (l.filter p).length + (l.filter q).length = (l.filter r).length
  | [], _, _ => rfl
  | x :: l, h, hr => by
    have ih := filter_two l h hr
    have h1 := h x
    have h2 := hr x
    simp only [List.filter_cons]
    cases hp : p x <;> cases hq : q x <;> rw [hp, hq] at h2 <;> simp [hp, hq] at h1 h2 <;> simp [h2] <;> omega
theorem pop_minus {s k : Nat} (hs : s < 1024) (h : s.testBit k = true) : pop (sdiff s (2 ^ k)) + 1 = pop s := by
  have hk := bit_lt10 hs h
  have h1 : pop (2 ^ k) = 1 := by
    have : ∀ j : Fin 10, pop (2 ^ j.1) = 1 := by decide +kernel
    exact this ⟨k, hk⟩
  rw [← h1]
  unfold pop nodesL
  refine filter_two _ (fun x hx => ?_) (fun x => ?_)
  · rw [sdiff_pow_bit, Bool.and_eq_true, decide_eq_true_eq] at hx
    rw [Nat.testBit_two_pow]
    exact decide_eq_false fun e => hx.2 e.symm
  · rw [sdiff_pow_bit, Nat.testBit_two_pow]
    by_cases e : x = k
    · subst e; simp [h]
    · have e' : ¬ k = x := fun x => e x.symm
      simp [e, e']
def freeN (ms : List S58) (R E : Nat) : Nat := sdiff (sdiff (allN ms) R) E
theorem freeN_bit {ms : List S58} {R E i : Nat} : (freeN ms R E).testBit i = (decide (i < ms.length) && !R.testBit i && !E.testBit i) := by
  unfold freeN; rw [sdiff_bit, sdiff_bit, allN_bit]
theorem freeN_or1 {ms : List S58} {R E k : Nat} : freeN ms (R ||| 2 ^ k) E = sdiff (freeN ms R E) (2 ^ k) := by
  apply Nat.eq_of_testBit_eq
  intro i
  rw [sdiff_pow_bit, freeN_bit, freeN_bit, or_pow_bit]
  by_cases e : i = k <;> simp [e] <;> cases decide (i < ms.length) <;> cases R.testBit i <;> cases E.testBit i <;> rfl
theorem freeN_or2 {ms : List S58} {R E k : Nat} : freeN ms R (E ||| 2 ^ k) = sdiff (freeN ms R E) (2 ^ k) := by
  apply Nat.eq_of_testBit_eq
  intro i
  rw [sdiff_pow_bit, freeN_bit, freeN_bit, or_pow_bit]
  by_cases e : i = k <;> simp [e] <;> cases decide (i < ms.length) <;> cases R.testBit i <;> cases E.testBit i <;> rfl
theorem freeN_lt {ms : List S58} (hl : ms.length ≤ 10) (R E : Nat) : freeN ms R E < 1024 := Sub.lt10 ((Sub.sdiff _ _).trans (Sub.sdiff _ _)) (allN_lt hl)
theorem split_node {ms : List S58} (hl : ms.length ≤ 10) (hm : Meets ms) {R E : Nat} (h1 : noneN ms R E = false) (h2 : aloneN ms R = false) : sdiff (greatN ms (sdiff (allN ms) E)) R ≠ 0 := by
  intro h0
  unfold noneN at h1
  unfold aloneN at h2
  rw [Bool.or_eq_false_iff, decide_eq_false_iff_not, decide_eq_false_iff_not] at h1
  rw [decide_eq_false_iff_not] at h2
  obtain ⟨h3, h4⟩ := h1
  have h5 : Sub R (greatN ms (sdiff (allN ms) E)) := sdiff_zero.1 (by omega)
  have h6 := Sub.antisymm (sdiff_zero.1 h0) h5
  refine (meets_iff hl).1 hm (greatN ms (sdiff (allN ms) E)) (greatN ms (sdiff (allN ms) R)) ⟨h3, great_decl _ _, great_fix _ _⟩ ⟨h2, great_decl _ _, great_fix _ _⟩ ?_
  rw [h6]
  refine and_zero_of fun i hi => ?_
  cases e : (greatN ms (sdiff (allN ms) R)).testBit i with
  | false => rfl
  | true =>
    have := great_sub _ _ i e
    rw [sdiff_bit, hi] at this
    simp at this
theorem two_up {a b n : Nat} (ha : a + 1 ≤ 2 ^ n) (hb : b + 1 ≤ 2 ^ n) : 1 + (a + (b + 0)) + 1 ≤ 2 ^ (n + 1) := by rw [Nat.pow_succ]; omega
theorem free_zero {ms : List S58} (hl : ms.length ≤ 10) : pop (freeN ms 0 0) = ms.length := by
  have : freeN ms 0 0 = allN ms := by
    apply Nat.eq_of_testBit_eq
    intro i
    rw [freeN_bit, allN_bit]; simp
  rw [this]
  exact pop_full ⟨ms.length, by omega⟩
end Go.Proofs.Ytkkbdimegpdbgaa.P
