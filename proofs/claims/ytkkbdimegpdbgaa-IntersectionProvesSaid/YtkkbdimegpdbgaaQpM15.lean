/- A configuration in which no two quorums are disjoint has a search tree: the program's own is right, and so is one that is made without mistakes; conditions: at most ten members. -/
import Derived.Test.YtkkbdimegpdbgaaQpM13
import Derived.Test.YtkkbdimegpdbgaaQpPx7
namespace Go.Proofs.Ytkkbdimegpdbgaa.P
open Go.RowKit Go.Proofs.YtkkbdimegpdbgaaW.PrintWords Go.Proofs.YtkkbdimegpdbgaaW.PrintLast Go.Proofs.YtkkbdimegpdbgaaW.PrintMore
set_option linter.unusedVariables false
set_option linter.unusedSimpArgs false
theorem filter_two {p q r : Nat → Bool} : ∀ (l : List Nat), (∀ x, p x = true → q x = false) → (∀ x, r x = (p x || q x)) → (l.filter p).length + (l.filter q).length = (l.filter r).length
  | [], _, _ => rfl
  | x :: l, h, hr => by
    have ih := filter_two l h hr
    have h1 := h x
    have h2 := hr x
    simp only [List.filter_cons]
    cases hp : p x <;> cases hq : q x <;> rw [hp, hq] at h2 <;> simp [hp, hq] at h1 h2 <;> simp [h2] <;> omega
theorem pop_minus {s k : Nat} (hs : s < 1024) (h : s.testBit k = true) : pop (sdiff s (2 ^ k)) + 1 = pop s := by
  have hk := bit_lt10 hs h
  have h1 : pop (2 ^ k) = 1 := by
    have : ∀ j : Fin 10, pop (2 ^ j.1) = 1 := by decide +kernel
    exact this ⟨k, hk⟩
  rw [← h1]
  unfold pop nodesL
  refine filter_two _ (fun x hx => ?_) (fun x => ?_)
  · rw [sdiff_pow_bit, Bool.and_eq_true, decide_eq_true_eq] at hx
    rw [Nat.testBit_two_pow]
    exact decide_eq_false fun e => hx.2 e.symm
  · rw [sdiff_pow_bit, Nat.testBit_two_pow]
    by_cases e : x = k
    · subst e; simp [h]
    · have e' : ¬ k = x := fun x => e x.symm
      simp [e, e']
def freeN (ms : List S58) (R E : Nat) : Nat := sdiff (sdiff (allN ms) R) E
theorem freeN_bit {ms : List S58} {R E i : Nat} : (freeN ms R E).testBit i = (decide (i < ms.length) && !R.testBit i && !E.testBit i) := by
  unfold freeN; rw [sdiff_bit, sdiff_bit, allN_bit]
theorem freeN_or1 {ms : List S58} {R E k : Nat} : freeN ms (R ||| 2 ^ k) E = sdiff (freeN ms R E) (2 ^ k) := by
  apply Nat.eq_of_testBit_eq
  intro i
  rw [sdiff_pow_bit, freeN_bit, freeN_bit, or_pow_bit]
  by_cases e : i = k <;> simp [e] <;> cases decide (i < ms.length) <;> cases R.testBit i <;> cases E.testBit i <;> rfl
theorem freeN_or2 {ms : List S58} {R E k : Nat} : freeN ms R (E ||| 2 ^ k) = sdiff (freeN ms R E) (2 ^ k) := by
  apply Nat.eq_of_testBit_eq
  intro i
  rw [sdiff_pow_bit, freeN_bit, freeN_bit, or_pow_bit]
  by_cases e : i = k <;> simp [e] <;> cases decide (i < ms.length) <;> cases R.testBit i <;> cases E.testBit i <;> rfl
theorem freeN_lt {ms : List S58} (hl : ms.length ≤ 10) (R E : Nat) : freeN ms R E < 1024 := Sub.lt10 ((Sub.sdiff _ _).trans (Sub.sdiff _ _)) (allN_lt hl)
theorem split_node {ms : List S58} (hl : ms.length ≤ 10) (hm : Meets ms) {R E : Nat} (h1 : noneN ms R E = false) (h2 : aloneN ms R = false) : sdiff (greatN ms (sdiff (allN ms) E)) R ≠ 0 := by
  intro h0
  unfold noneN at h1
  unfold aloneN at h2
  rw [Bool.or_eq_false_iff, decide_eq_false_iff_not, decide_eq_false_iff_not] at h1
  rw [decide_eq_false_iff_not] at h2
  obtain ⟨h3, h4⟩ := h1
  have h5 : Sub R (greatN ms (sdiff (allN ms) E)) := sdiff_zero.1 (by omega)
  have h6 := Sub.antisymm (sdiff_zero.1 h0) h5
  refine (meets_iff hl).1 hm (greatN ms (sdiff (allN ms) E)) (greatN ms (sdiff (allN ms) R)) ⟨h3, great_decl _ _, great_fix _ _⟩ ⟨h2, great_decl _ _, great_fix _ _⟩ ?_
  rw [h6]
  refine and_zero_of fun i hi => ?_
  cases e : (greatN ms (sdiff (allN ms) R)).testBit i with
  | false => rfl
  | true =>
    have := great_sub _ _ i e
    rw [sdiff_bit, hi] at this
    simp at this
def mkX (r : Int × Int × List S28) : S28 := ⟨r.1, r.2.1, r.2.2⟩
theorem two_up {a b n : Nat} (ha : a + 1 ≤ 2 ^ n) (hb : b + 1 ≤ 2 ^ n) : 1 + (a + (b + 0)) + 1 ≤ 2 ^ (n + 1) := by rw [Nat.pow_succ]; omega
theorem prove_tot {ms : List S58} (hc : SmallC ms) (hl : ms.length ≤ 10) (hm : Meets ms) : ∀ (d R E : Nat), pop (freeN ms R E) < d → R < 1024 → E < 1024 →
    Tot (fun k => zN.f k ms (R : Int) (E : Int)) (fun r => rightX ms (mkX r) R E = true ∧ sizeX (mkX r) + 1 ≤ 2 ^ (pop (freeN ms R E) + 1)) := by
  have ha := allN_lt hl
  intro d
  induction d with
  | zero => intro R E hd; omega
  | succ d ih =>
    intro R E hd hR hE
    have hsE : sdiff (allN ms) E < 1024 := Sub.lt10 (Sub.sdiff _ _) ha
    have hg := great_lt ms (sdiff (allN ms) E)
    have hone : 2 ≤ 2 ^ (pop (freeN ms R E) + 1) := by
      have := Nat.two_pow_pos (pop (freeN ms R E))
      rw [Nat.pow_succ]; omega
    refine Tot.step (fun k => by rw [zN.f]) ?_
    refine Tot.bindE (none_ev hc hl hR hE) (Tot.ite (fun h1 => Tot.now ⟨?_, ?_⟩) (fun h1 => ?_))
    · rw [mkX, rightX_def]; simpa using h1
    · simpa [mkX, sizeX, sizeXL] using hone
    refine Tot.bindE (alone_ev hc hl hR) (Tot.ite (fun h2 => Tot.now ⟨?_, ?_⟩) (fun h2 => ?_))
    · rw [mkX, rightX_def]; simpa using h2
    · simpa [mkX, sizeX, sizeXL] using hone
    refine Tot.bindP (P := fun b => b = (allN ms : Int)) ⟨_, rfl, members_eq hl⟩ ?_
    rintro _ rfl
    rw [bits_andNot_nat (lt1024 ha) (lt1024 hE)]
    refine Tot.bindE (greatest_ev hc hsE) ?_
    rw [bits_andNot_nat (lt1024 hg) (lt1024 hR)]
    have hq : sdiff (greatN ms (sdiff (allN ms) E)) R < 1024 := Sub.lt10 (Sub.sdiff _ _) hg
    refine Tot.bindE (nodes_ev hq) ?_
    have h3 := split_node hl hm (Bool.eq_false_iff.2 h1) (Bool.eq_false_iff.2 h2)
    cases hnl : nodesL (sdiff (greatN ms (sdiff (allN ms) E)) R) with
    | nil =>
      exfalso
      refine h3 (eq_zero_of_no_bit fun i => ?_)
      cases e : (sdiff (greatN ms (sdiff (allN ms) E)) R).testBit i with
      | false => rfl
      | true =>
        have := (mem_nodesL hq).2 e
        rw [hnl] at this; cases this
    | cons j l =>
      have hj : (sdiff (greatN ms (sdiff (allN ms) E)) R).testBit j = true := (mem_nodesL hq).1 (by rw [hnl]; exact List.mem_cons_self)
      rw [sdiff_bit, Bool.and_eq_true] at hj
      have hj2 := great_sub _ _ j hj.1
      rw [sdiff_bit, allN_bit, Bool.and_eq_true, decide_eq_true_eq] at hj2
      have hfree : (freeN ms R E).testBit j = true := by
        rw [freeN_bit, decide_eq_true hj2.1, hj.2, hj2.2]; rfl
      have hj10 : j < 10 := by omega
      have hp := pow_lt1024 hj10
      have hpop := pop_minus (freeN_lt hl R E) hfree
      have e0 : rd (casts (j :: l)) 0 = (j : Int) := rfl
      rw [e0]
      refine Tot.pos (by simp [casts]) (Tot.pos (Int.natCast_nonneg j) ?_)
      rw [shl_one (by omega), bits_or_nat (lt1024 hE) (lt1024 hp), bits_or_nat (lt1024 hR) (lt1024 hp)]
      have hE' : E ||| 2 ^ j < 1024 := Nat.or_lt_two_pow (n := 10) hE hp
      have hR' : R ||| 2 ^ j < 1024 := Nat.or_lt_two_pow (n := 10) hR hp
      refine Tot.bind (ih R (E ||| 2 ^ j) (by rw [freeN_or2]; omega) hR hE') ?_
      rintro ⟨k1, n1, x1⟩ ⟨r1, s1⟩
      refine Tot.bind (ih (R ||| 2 ^ j) E (by rw [freeN_or1]; omega) hR' hE) ?_
      rintro ⟨k2, n2, x2⟩ ⟨r2, s2⟩
      rw [freeN_or2] at s1
      rw [freeN_or1] at s2
      simp only [mkX] at r1 r2 s1 s2
      refine Tot.now ⟨?_, ?_⟩
      · rw [mkX, rightX_def, if_neg (by simp), if_neg (by simp), if_pos rfl, rightK]
        simp only [Bool.and_eq_true]
        refine ⟨⟨?_, by rw [Int.toNat_natCast]; exact r1⟩, by rw [Int.toNat_natCast]; exact r2⟩
        rw [hasI_nat]; exact hfree
      · simp only [mkX, sizeX, sizeXL] at s1 s2 ⊢
        rw [hpop] at s1 s2
        exact two_up s1 s2
theorem free_zero {ms : List S58} (hl : ms.length ≤ 10) : pop (freeN ms 0 0) = ms.length := by
  have : freeN ms 0 0 = allN ms := by
    apply Nat.eq_of_testBit_eq
    intro i
    rw [freeN_bit, allN_bit]; simp
  rw [this]
  exact pop_full ⟨ms.length, by omega⟩
theorem prove0_tot {ms : List S58} (hc : SmallC ms) (hl : ms.length ≤ 10) (hm : Meets ms) : Tot (fun k => zN.f k ms 0 0) (fun r => rightX ms (mkX r) 0 0 = true ∧ sizeX (mkX r) ≤ 2047) := by
  refine (prove_tot hc hl hm _ 0 0 (Nat.lt_succ_self _) (by decide) (by decide)).mono fun r h => ⟨h.1, ?_⟩
  have h2 := h.2
  rw [free_zero hl] at h2
  have : 2 ^ (ms.length + 1) ≤ 2 ^ 11 := Nat.pow_le_pow_right (by decide) (by omega)
  omega
end Go.Proofs.Ytkkbdimegpdbgaa.P
