/- The reference's check of a search tree comes to the same answers; conditions: as for the program's. -/
import Derived.Test.YtkkbdimegpdbgaaQpM12
import Derived.Test.YtkkbdimegpdbgaaQpM13
import Derived.Test.YtkkbdimegpdbgaaQpPx25
import Derived.Test.YtkkbdimegpdbgaaQpPx26
import Derived.Test.YtkkbdimegpdbgaaQpPx27
namespace Go.Proofs.Ytkkbdimegpdbgaa.P
open Go.RowKit Go.Proofs.YtkkbdimegpdbgaaW.PrintWords Go.Proofs.YtkkbdimegpdbgaaW.PrintLast Go.Proofs.YtkkbdimegpdbgaaW.PrintMore
set_option linter.unusedVariables false
set_option linter.unusedSimpArgs false
theorem ref_x_size_l0 {xs : List S28} (hs : sizeXL xs ≤ 1099511627776) (hx : ∀ x ∈ xs, Ev (fun k => jW.f k x.f0 x.f1 x.f2) (sizeX x : Int)) :
    ∀ (d i c : Nat), xs.length - i = d → i ≤ xs.length → c ≤ 2199023255552 + (sizeXL xs - sizeXL (xs.drop i)) → Ev (fun k => jW.l0 k (c : Int) xs (xs.length : Int) (i : Int)) ((c + sizeXL (xs.drop i) : Nat) : Int) := by
  have hn := sizeXL_len xs
  intro d
  induction d with
  | zero =>
    intro i c hd' hi hc
    refine Ev.step (fun k => by rw [jW.l0]) ?_
    rw [List.drop_eq_nil_of_le (by omega)]
    exact Ev.neg (by omega) (Ev.eq (by simp [sizeXL]))
  | succ d ih =>
    intro i c hd' hi hc
    have hlt : i < xs.length := by omega
    have he := sizeXL_drop xs i hlt
    have hle := sizeXL_drop_le xs i
    refine Ev.step (fun k => by rw [jW.l0]) ?_
    refine Ev.pos (by omega) (Ev.pos (by omega) (Ev.pos (by omega) ?_))
    rw [rdK_get hlt]
    refine Ev.bind (hx _ (List.getElem_mem hlt)) ?_
    rw [wrap64_id (by omega) (by omega), succ64 (by omega), he]
    have := ih (i + 1) (c + sizeX xs[i]) (by omega) (by omega) (by omega)
    rw [← Nat.add_assoc, show (c : Int) + (sizeX xs[i] : Int) = ((c + sizeX xs[i] : Nat) : Int) by omega]
    exact this
mutual
theorem ref_x_size_ev : ∀ x : S28, sizeX x ≤ 1099511627776 → Ev (fun k => jW.f k x.f0 x.f1 x.f2) (sizeX x : Int)
  | ⟨a, b, kids⟩, h => by
    rw [sizeX] at h
    refine Ev.step (fun k => by rw [jW.f]) ?_
    have := ref_x_size_l0 (xs := kids) (by omega) (ref_x_size_evL kids (by omega)) kids.length 0 1 (by omega) (by omega) (by omega)
    simpa [sizeX] using this
theorem ref_x_size_evL : ∀ xs : List S28, sizeXL xs ≤ 1099511627776 → ∀ x ∈ xs, Ev (fun k => jW.f k x.f0 x.f1 x.f2) (sizeX x : Int)
  | [], _, x, hx => by cases hx
  | y :: ys, h, x, hx => by
    rw [sizeXL] at h
    rcases List.mem_cons.1 hx with e | hx
    · rw [e]; exact ref_x_size_ev y (by omega)
    · exact ref_x_size_evL ys (by omega) x hx
end
theorem free_bit {ms : List S58} {R E i : Nat} : (sdiff (sdiff (allN ms) R) E).testBit i = (decide (i < ms.length) && !(R ||| E).testBit i) := by
  rw [sdiff_bit, sdiff_bit, allN_bit, Nat.testBit_or]
  cases decide (i < ms.length) <;> cases R.testBit i <;> cases E.testBit i <;> rfl
theorem ref_right_ev {ms : List S58} (hc : SmallC ms) (hl : ms.length ≤ 10) : ∀ (n : Nat) (x : S28) (R E : Nat), sizeX x ≤ n → R < 1024 → E < 1024 → Ev (fun k => qR.f k ms x.f0 x.f1 x.f2 (R : Int) (E : Int)) (rightX ms x R E) := by
  have ha := allN_lt hl
  intro n
  induction n with
  | zero => intro x R E h; have := sizeX_pos x; omega
  | succ n ih =>
    rintro ⟨kd, nd, kids⟩ R E hn hR hE
    have hRE : R ||| E < 1024 := Nat.or_lt_two_pow (n := 10) hR hE
    have hsE : sdiff (allN ms) E < 1024 := Sub.lt10 (Sub.sdiff _ _) ha
    have hsR : sdiff (allN ms) R < 1024 := Sub.lt10 (Sub.sdiff _ _) ha
    have no (b : Bool) (hb : b = true) : Ev (fun k => qR.j0 k (R : Int) (E : Int) b ms kd nd kids) false := by
      refine Ev.step (fun k => by rw [qR.j0]) ?_
      exact Ev.pos hb (Ev.now _)
    have hemp : ((kids.length : Int) = 0) ↔ kids.isEmpty = true := by cases kids <;> simp; omega
    refine Ev.step (fun k => by rw [qR.f]) ?_
    rw [rightX_def]
    by_cases h1 : kd = 1
    · rw [if_pos h1]
      refine Ev.pos h1 (Ev.bindP (ref_members_eq hl) ?_)
      rw [bits_andNot_nat (lt1024 ha) (lt1024 hE)]
      refine Ev.bind (ref_greatest_ev hc hsE) ?_
      by_cases h0 : nd = 0
      · rw [decide_eq_true h0, Bool.true_and]
        refine Ev.pos h0 ?_
        by_cases hk : (kids.length : Int) = 0
        · rw [hemp.1 hk, Bool.true_and]
          refine Ev.pos hk ?_
          have hg := great_lt ms (sdiff (allN ms) E)
          unfold noneN
          by_cases h : greatN ms (sdiff (allN ms) E) = 0
          · rw [decide_eq_true h, Bool.true_or]
            exact Ev.pos (by omega) (Ev.now _)
          · rw [decide_eq_false h, Bool.false_or]
            refine Ev.neg (by omega) (Ev.eq ?_)
            rw [bits_and_nat (lt1024 hg) (lt1024 hR)]
            by_cases h2 : sdiff R (greatN ms (sdiff (allN ms) E)) = 0
            · have := (sdiff_zero.1 h2).and_eq
              rw [Nat.and_comm, this, h2]; simp
            · rw [decide_eq_true h2, bne_iff_ne]
              intro e
              refine h2 (sdiff_zero.2 (sub_of_and_eq ?_))
              rw [Nat.and_comm]; omega
        · rw [Bool.eq_false_iff.2 (fun e => hk (hemp.2 e)), Bool.false_and]
          exact Ev.neg hk (Ev.now _)
      · rw [decide_eq_false h0, Bool.false_and, Bool.false_and]
        exact Ev.neg h0 (Ev.now _)
    · rw [if_neg h1]
      refine Ev.neg h1 ?_
      by_cases h2 : kd = 2
      · rw [if_pos h2]
        refine Ev.pos h2 ?_
        by_cases h0 : nd = 0
        · rw [decide_eq_true h0, Bool.true_and]
          refine Ev.pos h0 ?_
          by_cases hk : (kids.length : Int) = 0
          · rw [hemp.1 hk, Bool.true_and]
            refine Ev.pos hk (Ev.bindP (ref_members_eq hl) ?_)
            rw [bits_andNot_nat (lt1024 ha) (lt1024 hR)]
            refine Ev.bind (ref_greatest_ev hc hsR) (Ev.eq ?_)
            unfold aloneN
            by_cases h : greatN ms (sdiff (allN ms) R) = 0
            · rw [h]; rfl
            · rw [decide_eq_false h, beq_eq_false_iff_ne]; omega
          · rw [Bool.eq_false_iff.2 (fun e => hk (hemp.2 e)), Bool.false_and]
            exact Ev.neg hk (Ev.now _)
        · rw [decide_eq_false h0, Bool.false_and, Bool.false_and]
          exact Ev.neg h0 (Ev.now _)
      · rw [if_neg h2]
        refine Ev.neg h2 ?_
        by_cases h3 : kd = 3
        · rw [if_pos h3]
          refine Ev.pos h3 ?_
          have hno : hasI (sdiff (sdiff (allN ms) R) E) nd = false → rightK ms kids nd R E = false := fun h => by
            match kids with
            | [] => rfl
            | [a] => rfl
            | [a, b] => simp only [rightK, h, Bool.false_and]
            | a :: b :: c :: l => rfl
          by_cases c0 : nd < 0
          · rw [hno (by unfold hasI; simp; omega)]
            exact Ev.pos c0 (no true rfl)
          · refine Ev.neg c0 ?_
            obtain ⟨j, rfl⟩ := Int.eq_ofNat_of_zero_le (show 0 ≤ nd by omega)
            by_cases c1 : (j : Int) ≥ (ms.length : Int)
            · rw [hno (by rw [hasI_nat, free_bit, decide_eq_false (by omega), Bool.false_and])]
              exact Ev.pos c1 (no true rfl)
            · refine Ev.neg c1 (Ev.pos (Int.natCast_nonneg j) ?_)
              rw [bits_or_nat (lt1024 hR) (lt1024 hE), shr_bit hRE (by omega)]
              by_cases c2 : (R ||| E).testBit j = true
              · rw [hno (by rw [hasI_nat, free_bit, c2]; simp)]
                exact Ev.pos (by rw [c2]; rfl) (no true rfl)
              · have c3 := Bool.eq_false_iff.2 c2
                refine Ev.neg (by rw [c3]; decide) ?_
                have hh : hasI (sdiff (sdiff (allN ms) R) E) (j : Int) = true := by rw [hasI_nat, free_bit, c3, decide_eq_true (by omega)]; rfl
                match kids, hn, no with
                | [], hn, no => exact no _ rfl
                | [a], hn, no => exact no _ rfl
                | a :: b :: c :: l, hn, no => exact no _ (by simp; omega)
                | [a, b], hn, no =>
                  refine Ev.step (fun k => by rw [qR.j0]) ?_
                  rw [rightK, hh, Bool.true_and]
                  refine Ev.neg (by simp) (Ev.pos (by simp) (Ev.pos (Int.natCast_nonneg j) ?_))
                  have hp := pow_lt1024 (k := j) (by omega)
                  rw [shl_one (by omega), bits_or_nat (lt1024 hE) (lt1024 hp), bits_or_nat (lt1024 hR) (lt1024 hp)]
                  have e0 : jP [a, b] 0 = a := rfl
                  have e1 : jP [a, b] 1 = b := rfl
                  rw [e0, e1]
                  simp only [sizeX, sizeXL] at hn
                  have hE' : E ||| 2 ^ j < 1024 := Nat.or_lt_two_pow (n := 10) hE hp
                  have hR' : R ||| 2 ^ j < 1024 := Nat.or_lt_two_pow (n := 10) hR hp
                  have := sizeX_pos a
                  have := sizeX_pos b
                  refine Ev.bind (ih a R _ (by omega) hR hE') ?_
                  rw [Int.toNat_natCast]
                  cases h5 : rightX ms a R (E ||| 2 ^ j) with
                  | false => exact Ev.neg (by simp) (Ev.now _)
                  | true => exact Ev.pos rfl (Ev.pos (by simp) (Ev.bind (ih b _ E (by omega) hR' hE) (Ev.eq (by simp))))
        · rw [if_neg h3]
          exact Ev.neg h3 (Ev.now _)
theorem ref_x_check_ev {ms : List S58} (hs : SizedC ms) (hl : ms.length ≤ 1099511627776) {x : S28} (hx : sizeX x ≤ 1099511627776) : Ev (fun k => kS.f k ms x.f0 x.f1 x.f2) (checkX ms x) := by
  unfold kS.f checkX
  refine Ev.bind (ref_validC_ev hs hl) ?_
  by_cases hv : validC ms = 0
  · rw [decide_eq_true hv, Bool.true_and]
    refine Ev.pos hv (Ev.bind (ref_x_size_ev x hx) ?_)
    have h10 : ms.length ≤ 10 := by
      by_cases h : ms.length > 10
      · unfold validC at hv; rw [if_pos h] at hv; cases hv
      · omega
    by_cases h2 : sizeX x ≤ 20000
    · rw [decide_eq_true h2, Bool.true_and]
      refine Ev.pos (by omega) (Ev.bind (ref_right_ev (sized_small hs hl) h10 _ x 0 0 (Nat.le_refl _) (by decide) (by decide)) (Ev.now _))
    · rw [decide_eq_false h2, Bool.false_and]
      exact Ev.neg (by omega) (Ev.now _)
  · rw [decide_eq_false hv, Bool.false_and]
    exact Ev.neg hv (Ev.now _)
end Go.Proofs.Ytkkbdimegpdbgaa.P
