/- Search trees: their size, and what the program's check of them answers; what is accepted shows that no two quorums are disjoint; conditions: at most ten members, sizes below 2^40. -/
import Derived.Test.YtkkbdimegpdbgaaQsM8
import Derived.Test.YtkkbdimegpdbgaaQsPx7
import Derived.Test.YtkkbdimegpdbgaaQsPx8
import Derived.Test.YtkkbdimegpdbgaaQsPx6
import Derived.Test.YtkkbdimegpdbgaaQsPx9
namespace Go.Proofs.Ytkkbdimegpdbgaa.P
open Go.RowKit Go.Proofs.YtkkbdimegpdbgaaW.PrintWords Go.Proofs.YtkkbdimegpdbgaaW.PrintLast Go.Proofs.YtkkbdimegpdbgaaW.PrintMore
set_option linter.unusedVariables false
set_option linter.unusedSimpArgs false
theorem rdK_get {xs : List S28} {i : Nat} (h : i < xs.length) : zJ xs (i : Int) = xs[i] := by
  unfold zJ; rw [Int.toNat_natCast, List.getD_eq_getElem?_getD, List.getElem?_eq_getElem h]; rfl
mutual

def sizeX : S28 → Nat
  | ⟨_, _, kids⟩ => 1 + sizeXL kids
def sizeXL : List S28 → Nat
  | [] => 0
  | x :: xs => sizeX x + sizeXL xs
end
theorem sizeX_pos (x : S28) : 1 ≤ sizeX x := by obtain ⟨a, b, c⟩ := x; rw [sizeX]; omega
theorem sizeXL_append : ∀ a b : List S28, sizeXL (a ++ b) = sizeXL a + sizeXL b
  | [], b => by simp [sizeXL]
  | x :: a, b => by rw [List.cons_append, sizeXL, sizeXL_append a b, sizeXL]; omega
theorem sizeXL_drop (xs : List S28) (i : Nat) (h : i < xs.length) : sizeXL (xs.drop i) = sizeX xs[i] + sizeXL (xs.drop (i + 1)) := by rw [List.drop_eq_getElem_cons h, sizeXL]
theorem sizeXL_drop_le (xs : List S28) (i : Nat) : sizeXL (xs.drop i) ≤ sizeXL xs := by
  have := sizeXL_append (xs.take i) (xs.drop i)
  rw [List.take_append_drop] at this
  omega
theorem sizeXL_len : ∀ xs : List S28, xs.length ≤ sizeXL xs
  | [] => by simp
  | x :: xs => by rw [sizeXL, List.length_cons]; have := sizeXL_len xs; have := sizeX_pos x; omega
theorem x_size_l0 {xs : List S28} (hs : sizeXL xs ≤ 1099511627776) (hx : ∀ x ∈ xs, Ev (fun k => zQ.f k x.f0 x.f1 x.f2) (sizeX x : Int)) :
    ∀ (d i c : Nat), xs.length - i = d → i ≤ xs.length → c ≤ 2199023255552 + (sizeXL xs - sizeXL (xs.drop i)) → Ev (fun k => zQ.l0 k (c : Int) xs (xs.length : Int) (i : Int)) ((c + sizeXL (xs.drop i) : Nat) : Int) := by
  have hn := sizeXL_len xs
  intro d
  induction d with
  | zero =>
    intro i c hd' hi hc
    refine Ev.step (fun k => by rw [zQ.l0]) ?_
    rw [List.drop_eq_nil_of_le (by omega)]
    exact Ev.neg (by omega) (Ev.eq (by simp [sizeXL]))
  | succ d ih =>
    intro i c hd' hi hc
    have hlt : i < xs.length := by omega
    have he := sizeXL_drop xs i hlt
    have hle := sizeXL_drop_le xs i
    refine Ev.step (fun k => by rw [zQ.l0]) ?_
    refine Ev.pos (by omega) (Ev.pos (by omega) (Ev.pos (by omega) ?_))
    rw [rdK_get hlt]
    refine Ev.bind (hx _ (List.getElem_mem hlt)) ?_
    rw [wrap64_id (by omega) (by omega), succ64 (by omega), he]
    have := ih (i + 1) (c + sizeX xs[i]) (by omega) (by omega) (by omega)
    rw [← Nat.add_assoc, show (c : Int) + (sizeX xs[i] : Int) = ((c + sizeX xs[i] : Nat) : Int) by omega]
    exact this
mutual
theorem x_size_ev : ∀ x : S28, sizeX x ≤ 1099511627776 → Ev (fun k => zQ.f k x.f0 x.f1 x.f2) (sizeX x : Int)
  | ⟨a, b, kids⟩, h => by
    rw [sizeX] at h
    refine Ev.step (fun k => by rw [zQ.f]) ?_
    have := x_size_l0 (xs := kids) (by omega) (x_size_evL kids (by omega)) kids.length 0 1 (by omega) (by omega) (by omega)
    simpa [sizeX] using this
theorem x_size_evL : ∀ xs : List S28, sizeXL xs ≤ 1099511627776 → ∀ x ∈ xs, Ev (fun k => zQ.f k x.f0 x.f1 x.f2) (sizeX x : Int)
  | [], _, x, hx => by cases hx
  | y :: ys, h, x, hx => by
    rw [sizeXL] at h
    rcases List.mem_cons.1 hx with e | hx
    · rw [e]; exact x_size_ev y (by omega)
    · exact x_size_evL ys (by omega) x hx
end
def noneN (ms : List S58) (R E : Nat) : Bool := decide (greatN ms (sdiff (allN ms) E) = 0) || decide (sdiff R (greatN ms (sdiff (allN ms) E)) ≠ 0)
def aloneN (ms : List S58) (R : Nat) : Bool := decide (greatN ms (sdiff (allN ms) R) = 0)
def rightX (ms : List S58) : S28 → Nat → Nat → Bool
  | ⟨kd, nd, kids⟩, R, E =>
    if kd = 1 then decide (nd = 0) && kids.isEmpty && noneN ms R E
    else if kd = 2 then decide (nd = 0) && kids.isEmpty && aloneN ms R
    else if kd = 3 then
      match h : kids with
      | [a, b] => hasI (sdiff (sdiff (allN ms) R) E) nd && rightX ms a R (E ||| 2 ^ nd.toNat) && rightX ms b (R ||| 2 ^ nd.toNat) E
      | _ => false
    else false
termination_by x => sizeX x
decreasing_by
  all_goals
    simp only [sizeX, sizeXL]
    have := sizeX_pos a
    have := sizeX_pos b
    omega
def rightK (ms : List S58) (kids : List S28) (nd : Int) (R E : Nat) : Bool :=
  match kids with
  | [a, b] => hasI (sdiff (sdiff (allN ms) R) E) nd && rightX ms a R (E ||| 2 ^ nd.toNat) && rightX ms b (R ||| 2 ^ nd.toNat) E
  | _ => false
theorem rightX_def (ms : List S58) (kd nd : Int) (kids : List S28) (R E : Nat) : rightX ms ⟨kd, nd, kids⟩ R E =
    if kd = 1 then decide (nd = 0) && kids.isEmpty && noneN ms R E
    else if kd = 2 then decide (nd = 0) && kids.isEmpty && aloneN ms R
    else if kd = 3 then rightK ms kids nd R E else false := by
  match kids with
  | [] => rw [rightX] <;> simp [rightK]
  | [a] => rw [rightX] <;> simp [rightK]
  | [a, b] => rw [rightX]; simp only [rightK]
  | a :: b :: c :: l => rw [rightX] <;> simp [rightK]
theorem none_ev {ms : List S58} (hc : SmallC ms) (hl : ms.length ≤ 10) {R E : Nat} (hR : R < 1024) (hE : E < 1024) : Ev (fun k => vH.f k ms (R : Int) (E : Int)) (noneN ms R E) := by
  have ha := allN_lt hl
  have hs : sdiff (allN ms) E < 1024 := Sub.lt10 (Sub.sdiff _ _) ha
  have hg := great_lt ms (sdiff (allN ms) E)
  unfold vH.f noneN
  refine Ev.bindP (members_eq hl) ?_
  rw [bits_andNot_nat (lt1024 ha) (lt1024 hE)]
  refine Ev.bind (greatest_ev hc hs) ?_
  by_cases h : greatN ms (sdiff (allN ms) E) = 0
  · rw [decide_eq_true h, Bool.true_or]
    exact Ev.pos (by omega) (Ev.now _)
  · rw [decide_eq_false h, Bool.false_or]
    refine Ev.neg (by omega) (Ev.eq ?_)
    rw [bits_andNot_nat (lt1024 hR) (lt1024 hg)]
    by_cases h2 : sdiff R (greatN ms (sdiff (allN ms) E)) = 0
    · rw [h2]; rfl
    · rw [decide_eq_true h2, bne_iff_ne]; omega
theorem alone_ev {ms : List S58} (hc : SmallC ms) (hl : ms.length ≤ 10) {R : Nat} (hR : R < 1024) : Ev (fun k => jD.f k ms (R : Int)) (aloneN ms R) := by
  have ha := allN_lt hl
  have hs : sdiff (allN ms) R < 1024 := Sub.lt10 (Sub.sdiff _ _) ha
  unfold jD.f aloneN
  refine Ev.bindP (members_eq hl) ?_
  rw [bits_andNot_nat (lt1024 ha) (lt1024 hR)]
  refine Ev.bind (greatest_ev hc hs) (Ev.eq ?_)
  by_cases h : greatN ms (sdiff (allN ms) R) = 0
  · rw [h]; rfl
  · rw [decide_eq_false h, beq_eq_false_iff_ne]; omega
theorem hasI_bit {s : Nat} {k : Int} (hs : s < 1024) (h : hasI s k = true) : 0 ≤ k ∧ k < 10 ∧ s.testBit k.toNat = true := by
  unfold hasI at h
  simp only [Bool.and_eq_true, decide_eq_true_eq] at h
  have := bit_lt10 hs h.2
  exact ⟨h.1, by omega, h.2⟩
theorem right_ev {ms : List S58} (hc : SmallC ms) (hl : ms.length ≤ 10) : ∀ (n : Nat) (x : S28) (R E : Nat), sizeX x ≤ n → R < 1024 → E < 1024 → Ev (fun k => qL.f k ms x.f0 x.f1 x.f2 (R : Int) (E : Int)) (rightX ms x R E) := by
  have ha := allN_lt hl
  intro n
  induction n with
  | zero => intro x R E h; have := sizeX_pos x; omega
  | succ n ih =>
    rintro ⟨kd, nd, kids⟩ R E hn hR hE
    have hs : sdiff (sdiff (allN ms) R) E < 1024 := Sub.lt10 ((Sub.sdiff _ _).trans (Sub.sdiff _ _)) ha
    have no (b : Bool) (hb : b = true) : Ev (fun k => qL.j1 k (R : Int) (E : Int) b ms kd nd kids) false := by
      refine Ev.step (fun k => by rw [qL.j1]) ?_
      exact Ev.pos hb (Ev.now _)
    have main (b : Bool) (hb : b = (decide (nd = 0) && kids.isEmpty)) : Ev (fun k => qL.j0 k (R : Int) (E : Int) b ms kd nd kids) (rightX ms ⟨kd, nd, kids⟩ R E) := by
      refine Ev.step (fun k => by rw [qL.j0]) ?_
      rw [rightX_def]
      by_cases h1 : kd = 1
      · rw [if_pos h1, ← hb]
        refine Ev.pos h1 ?_
        cases b with
        | true => exact Ev.pos rfl (Ev.bind (none_ev hc hl hR hE) (Ev.eq (by simp)))
        | false => exact Ev.neg (by simp) (Ev.now _)
      · rw [if_neg h1]
        refine Ev.neg h1 ?_
        by_cases h2 : kd = 2
        · rw [if_pos h2, ← hb]
          refine Ev.pos h2 ?_
          cases b with
          | true => exact Ev.pos rfl (Ev.bind (alone_ev hc hl hR) (Ev.eq (by simp)))
          | false => exact Ev.neg (by simp) (Ev.now _)
        · rw [if_neg h2]
          refine Ev.neg h2 ?_
          by_cases h3 : kd = 3
          · rw [if_pos h3]
            refine Ev.pos h3 ?_
            match kids, hn, no with
            | [], hn, no => exact Ev.neg (by simp) (no true rfl)
            | [a], hn, no => exact Ev.neg (by simp) (no true rfl)
            | a :: b :: c :: l, hn, no => exact Ev.neg (by simp; omega) (no true rfl)
            | [a, b], hn, no =>
              refine Ev.pos rfl (Ev.bindP (members_eq hl) ?_)
              rw [bits_andNot_nat (lt1024 ha) (lt1024 hR), bits_andNot_nat (lt1024 (Sub.lt10 (Sub.sdiff _ _) ha)) (lt1024 hE)]
              refine Ev.bindP (has_nat hs nd) ?_
              by_cases h4 : hasI (sdiff (sdiff (allN ms) R) E) nd = true
              · obtain ⟨b1, b2, b3⟩ := hasI_bit hs h4
                rw [rightK, h4, Bool.true_and]
                refine Ev.step (fun k => by rw [qL.j1]) ?_
                refine Ev.neg (by simp) (Ev.pos (by simp) (Ev.pos b1 ?_))
                have hp := pow_lt1024 (k := nd.toNat) (by omega)
                rw [shl_oneI b1 (by omega), bits_or_nat (lt1024 hE) (lt1024 hp), bits_or_nat (lt1024 hR) (lt1024 hp)]
                have e0 : zJ [a, b] 0 = a := rfl
                have e1 : zJ [a, b] 1 = b := rfl
                rw [e0, e1]
                simp only [sizeX, sizeXL] at hn
                have hE' : E ||| 2 ^ nd.toNat < 1024 := Nat.or_lt_two_pow (n := 10) hE hp
                have hR' : R ||| 2 ^ nd.toNat < 1024 := Nat.or_lt_two_pow (n := 10) hR hp
                have := sizeX_pos a
                have := sizeX_pos b
                refine Ev.bind (ih a R _ (by omega) hR hE') ?_
                cases h5 : rightX ms a R (E ||| 2 ^ nd.toNat) with
                | false => exact Ev.neg (by simp) (Ev.now _)
                | true =>
                  refine Ev.pos rfl (Ev.pos (by simp) (Ev.bind (ih b _ E (by omega) hR' hE) (Ev.eq (by simp))))
              · rw [rightK, Bool.eq_false_iff.2 h4, Bool.false_and, Bool.false_and]
                exact no true rfl
          · rw [if_neg h3]
            exact Ev.neg h3 (Ev.now _)
    refine Ev.step (fun k => by rw [qL.f]) ?_
    by_cases h0 : nd = 0
    · refine Ev.pos h0 (main _ ?_)
      rw [decide_eq_true h0, Bool.true_and]
      cases kids <;> simp; omega
    · exact Ev.neg h0 (main _ (by rw [decide_eq_false h0]; rfl))
def checkX (ms : List S58) (x : S28) : Bool := decide (validC ms = 0) && decide (sizeX x ≤ 20000) && rightX ms x 0 0
theorem x_check_ev {ms : List S58} (hs : SizedC ms) (hl : ms.length ≤ 1099511627776) {x : S28} (hx : sizeX x ≤ 1099511627776) : Ev (fun k => vT.f k ms x.f0 x.f1 x.f2) (checkX ms x) := by
  unfold vT.f checkX
  refine Ev.bind (validC_ev hs hl) ?_
  by_cases hv : validC ms = 0
  · rw [decide_eq_true hv, Bool.true_and]
    refine Ev.pos hv (Ev.bind (x_size_ev x hx) ?_)
    have h10 : ms.length ≤ 10 := by
      by_cases h : ms.length > 10
      · unfold validC at hv; rw [if_pos h] at hv; cases hv
      · omega
    by_cases h2 : sizeX x ≤ 20000
    · rw [decide_eq_true h2, Bool.true_and]
      refine Ev.pos (by omega) (Ev.bind (right_ev (sized_small hs hl) h10 _ x 0 0 (Nat.le_refl _) (by decide) (by decide)) (Ev.now _))
    · rw [decide_eq_false h2, Bool.false_and]
      exact Ev.neg (by omega) (Ev.now _)
  · rw [decide_eq_false hv, Bool.false_and]
    exact Ev.neg hv (Ev.now _)
theorem isQ_great {ms : List S58} {q s : Nat} (hq : IsQ ms q) (h : Sub q s) : Sub q (greatN ms s) := great_max h hq.2.1 hq.2.2
theorem right_sound {ms : List S58} (hl : ms.length ≤ 10) : ∀ (n : Nat) (x : S28) (R E : Nat), sizeX x ≤ n → R < 1024 → E < 1024 → rightX ms x R E = true →
    ∀ a b, IsQ ms a → IsQ ms b → a &&& b = 0 → Sub R a → a &&& E = 0 → False := by
  have ha := allN_lt hl
  intro n
  induction n with
  | zero => intro x R E h; have := sizeX_pos x; omega
  | succ n ih =>
    rintro ⟨kd, nd, kids⟩ R E hn hR hE h a b qa qb hab hRa hEa
    have dis : ∀ {c d : Nat}, c &&& d = 0 → ∀ i, c.testBit i = true → d.testBit i = false := fun {c d} e i hi => by
      have := congrArg (fun n => n.testBit i) e
      simpa only [Nat.testBit_and, Nat.zero_testBit, hi, Bool.true_and] using this
    rw [rightX_def] at h
    by_cases h1 : kd = 1
    · rw [if_pos h1, Bool.and_eq_true] at h
      have h2 := h.2
      have hsub : Sub a (sdiff (allN ms) E) := fun i hi => by
        rw [sdiff_bit, lt_sub_all qa.lt_all i hi, dis hEa i hi]; rfl
      have hg := isQ_great qa hsub
      unfold noneN at h2
      rw [Bool.or_eq_true, decide_eq_true_eq, decide_eq_true_eq] at h2
      rcases h2 with h2 | h2
      · rw [h2] at hg
        exact qa.1 (Sub.antisymm hg (zero_sub _))
      · exact h2 (sdiff_zero.2 (hRa.trans hg))
    · rw [if_neg h1] at h
      by_cases h2 : kd = 2
      · rw [if_pos h2, Bool.and_eq_true] at h
        have h3 := h.2
        unfold aloneN at h3
        rw [decide_eq_true_eq] at h3
        have hsub : Sub b (sdiff (allN ms) R) := fun i hi => by
          rw [sdiff_bit, lt_sub_all qb.lt_all i hi]
          cases e : R.testBit i with
          | false => rfl
          | true =>
            have := dis hab i (hRa i e)
            rw [hi] at this; cases this
        have hg := isQ_great qb hsub
        rw [h3] at hg
        exact qb.1 (Sub.antisymm hg (zero_sub _))
      · rw [if_neg h2] at h
        by_cases h3 : kd = 3
        · rw [if_pos h3] at h
          match kids, hn, h with
          | [], hn, h => cases h
          | [c], hn, h => cases h
          | c :: d :: e :: l, hn, h => cases h
          | [c, d], hn, h =>
            simp only [rightK, Bool.and_eq_true] at h
            obtain ⟨⟨h4, h5⟩, h6⟩ := h
            have hs : sdiff (sdiff (allN ms) R) E < 1024 := Sub.lt10 ((Sub.sdiff _ _).trans (Sub.sdiff _ _)) ha
            obtain ⟨b1, b2, b3⟩ := hasI_bit hs h4
            have hp := pow_lt1024 (k := nd.toNat) (by omega)
            simp only [sizeX, sizeXL] at hn
            have hE' : E ||| 2 ^ nd.toNat < 1024 := Nat.or_lt_two_pow (n := 10) hE hp
            have hR' : R ||| 2 ^ nd.toNat < 1024 := Nat.or_lt_two_pow (n := 10) hR hp
            have := sizeX_pos c
            have := sizeX_pos d
            cases e : a.testBit nd.toNat with
            | true =>
              refine ih d _ E (by omega) hR' hE h6 a b qa qb hab (Sub.or_le hRa fun i hi => ?_) hEa
              rw [Nat.testBit_two_pow, decide_eq_true_eq] at hi
              rw [← hi]; exact e
            | false =>
              refine ih c R _ (by omega) hR hE' h5 a b qa qb hab hRa (and_zero_of fun i hi => ?_)
              rw [Nat.testBit_or, dis hEa i hi, Bool.false_or, Nat.testBit_two_pow]
              refine decide_eq_false fun e' => ?_
              rw [e'] at e
              rw [e] at hi; cases hi
        · rw [if_neg h3] at h; cases h
theorem check_sound {ms : List S58} {x : S28} (h : checkX ms x = true) : Meets ms := by
  unfold checkX at h
  simp only [Bool.and_eq_true, decide_eq_true_eq] at h
  have h10 : ms.length ≤ 10 := by
    by_cases h' : ms.length > 10
    · have hv := h.1.1; unfold validC at hv; rw [if_pos h'] at hv; cases hv
    · omega
  refine (meets_iff h10).2 fun a b qa qb hab => ?_
  exact right_sound h10 _ x 0 0 (Nat.le_refl _) (by decide) (by decide) h.2 a b qa qb hab (zero_sub _) (Nat.and_zero a)
end Go.Proofs.Ytkkbdimegpdbgaa.P
