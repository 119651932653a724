/- What Check answers for any list, in the program and in the reference; conditions: sets below 1024, short lists. -/
import Derived.Test.YtoofabolcbbjnaaQaM11
import Derived.Test.YtoofabolcbbjnaaQaPx2
import Derived.Test.YtoofabolcbbjnaaQaPx19
namespace Go.Proofs.Ytoofabolcbbjnaa.P
open Go.RowKit Go.Proofs.YtoofabolcbbjnaaW.PrintWords Go.Proofs.YtoofabolcbbjnaaW.PrintLast Go.Proofs.YtoofabolcbbjnaaW.PrintMore
set_option linter.unusedVariables false
set_option linter.unusedSimpArgs false
def checkS (ms : List S51) : Nat → List Int → Int × Int
  | s, [] => if s = 0 ∨ quorumN ms s = true then ((s : Int), 0) else (0, 12)
  | s, k :: l => if hasI s k = true then (if content ms k.toNat s = true then (0, 12) else checkS ms (sdiff s (2 ^ k.toNat)) l) else (0, 12)
theorem hasI_range {s : Nat} {k : Int} (hs : s < 1024) (h : hasI s k = true) : ∃ j : Nat, k = (j : Int) ∧ j < 10 ∧ s.testBit j = true := by
  unfold hasI at h
  simp only [Bool.and_eq_true, decide_eq_true_eq] at h
  exact ⟨k.toNat, by omega, bit_lt10 hs h.2, h.2⟩
theorem checkC_l0_ev {ms : List S51} (hc : SmallC ms) (l : List Int) (hl : l.length ≤ 1099511627776) : ∀ (d i s : Nat), l.length - i = d → i ≤ l.length → s < 1024 → Sub s (declN ms) →
    Ev (fun k => closure_Check.l0 k (s : Int) l (l.length : Int) (i : Int) ms) (checkS ms s (l.drop i)) := by
  intro d
  induction d with
  | zero =>
    intro i s hd hi hs hsub
    refine Ev.step (fun k => by rw [closure_Check.l0]) ?_
    rw [List.drop_eq_nil_of_le (by omega), checkS]
    refine Ev.neg (by omega) ?_
    by_cases h0 : s = 0
    · rw [if_pos (.inl h0)]
      exact Ev.pos (by omega) (Ev.now _)
    · refine Ev.neg (by omega) (Ev.bind (quorum_ev hc hs) ?_)
      by_cases hq : quorumN ms s = true
      · rw [if_pos (show s = 0 ∨ quorumN ms s = true from .inr hq)]
        exact Ev.pos hq (Ev.now _)
      · rw [if_neg (show ¬ (s = 0 ∨ quorumN ms s = true) from fun h => h.elim h0 hq)]
        exact Ev.neg hq (Ev.now _)
  | succ d ih =>
    intro i s hd hi hs hsub
    have hlt : i < l.length := by omega
    refine Ev.step (fun k => by rw [closure_Check.l0]) ?_
    refine Ev.pos (by omega) (Ev.pos (by omega) (Ev.pos (by omega) ?_))
    rw [rd_get hlt, List.drop_eq_getElem_cons hlt, checkS]
    refine Ev.bindP (has_nat hs _) ?_
    by_cases h : hasI s l[i] = true
    · obtain ⟨j, hj, hj10, hb⟩ := hasI_range hs h
      rw [if_pos h, hj, Int.toNat_natCast]
      refine Ev.pos (hj ▸ h) (Ev.bind (content_ev hc hs (declN_len (hsub j hb))) ?_)
      by_cases h2 : content ms j s = true
      · rw [if_pos h2]; exact Ev.pos h2 (Ev.now _)
      · rw [if_neg h2]
        refine Ev.neg h2 (Ev.pos (by omega) ?_)
        rw [shl_one (by omega), bits_andNot_nat (lt1024 hs) (lt1024 (pow_lt1024 hj10)), succ64 (by omega)]
        exact ih (i + 1) _ (by omega) (by omega) (sdiff_lt (n := 10) hs) ((Sub.sdiff _ _).trans hsub)
    · rw [if_neg h]; exact Ev.neg h (Ev.now _)
theorem check_ev' {ms : List S51} (hc : SmallC ms) {s : Nat} (hs : s < 1024) (l : List Int) (hl : l.length ≤ 1099511627776) : Ev (fun k => closure_Check.f k ms (s : Int) l) (checkS ms (s &&& declN ms) l) := by
  unfold closure_Check.f
  refine Ev.bindP (valid_nat hs) (Ev.pos rfl (Ev.bind (decl_ev hc.1) ?_))
  rw [bits_and_nat (lt1024 hs) (lt1024 (declN_lt ms))]
  have := checkC_l0_ev hc l hl _ 0 (s &&& declN ms) rfl (Nat.zero_le _) (and_decl_lt ms s) (Sub.and_right _ _)
  rwa [List.drop_zero] at this
theorem check_not {ms : List S51} {s : Int} (hs : ¬ (0 ≤ s ∧ s < 1024)) (l : List Int) : Ev (fun k => closure_Check.f k ms s l) (0, 1) := by
  unfold closure_Check.f
  exact Ev.bindP (valid_not hs) (Ev.neg (by decide) (Ev.now _))
theorem ref_check_l0_ev {ms : List S51} (hc : SmallC ms) (l : List Int) (hl : l.length ≤ 1099511627776) : ∀ (d i s : Nat), l.length - i = d → i ≤ l.length → s < 1024 → Sub s (declN ms) →
    Ev (fun k => trustquorumref09_Check.l0 k (s : Int) l (l.length : Int) (i : Int) ms) (checkS ms s (l.drop i)) := by
  intro d
  induction d with
  | zero =>
    intro i s hd hi hs hsub
    refine Ev.step (fun k => by rw [trustquorumref09_Check.l0]) ?_
    rw [List.drop_eq_nil_of_le (by omega), checkS]
    refine Ev.neg (by omega) ?_
    by_cases h0 : s = 0
    · rw [if_pos (.inl h0)]
      exact Ev.pos (by omega) (Ev.now _)
    · refine Ev.neg (by omega) (Ev.bind (ref_quorum_ev hc hs) ?_)
      by_cases hq : quorumN ms s = true
      · rw [if_pos (show s = 0 ∨ quorumN ms s = true from .inr hq)]
        exact Ev.pos hq (Ev.now _)
      · rw [if_neg (show ¬ (s = 0 ∨ quorumN ms s = true) from fun h => h.elim h0 hq)]
        exact Ev.neg hq (Ev.now _)
  | succ d ih =>
    intro i s hd hi hs hsub
    have hlt : i < l.length := by omega
    refine Ev.step (fun k => by rw [trustquorumref09_Check.l0]) ?_
    refine Ev.pos (by omega) (Ev.pos (by omega) (Ev.pos (by omega) ?_))
    rw [rd_get hlt, List.drop_eq_getElem_cons hlt, checkS]
    refine Ev.bindP (ref_has_nat hs _) ?_
    by_cases h : hasI s l[i] = true
    · obtain ⟨j, hj, hj10, hb⟩ := hasI_range hs h
      have hlen := declN_len (hsub j hb)
      rw [if_pos h, hj, Int.toNat_natCast]
      refine Ev.pos (hj ▸ h) (Ev.pos (by omega) (Ev.pos (by omega) ?_))
      rw [rdM_get hlen]
      have hcont : content ms j s = satT s (ms[j]).f1 := by
        unfold content
        rw [List.getD_eq_getElem?_getD, List.getElem?_eq_getElem hlen]; rfl
      refine Ev.bind (ref_sat_ev hs (hc.2 _ (List.getElem_mem hlen))) ?_
      rw [hcont]
      by_cases h2 : satT s (ms[j]).f1 = true
      · rw [if_pos h2]; exact Ev.pos h2 (Ev.now _)
      · rw [if_neg h2]
        refine Ev.neg h2 ?_
        rw [minus_pow hs hb, succ64 (by omega)]
        exact ih (i + 1) _ (by omega) (by omega) (sdiff_lt (n := 10) hs) ((Sub.sdiff _ _).trans hsub)
    · rw [if_neg h]; exact Ev.neg h (Ev.now _)
theorem ref_check_ev {ms : List S51} (hc : SmallC ms) {s : Nat} (hs : s < 1024) (l : List Int) (hl : l.length ≤ 1099511627776) : Ev (fun k => trustquorumref09_Check.f k ms (s : Int) l) (checkS ms (s &&& declN ms) l) := by
  unfold trustquorumref09_Check.f
  refine Ev.bindP (ref_valid_nat hs) (Ev.pos rfl (Ev.bind (ref_decl_ev hc.1) ?_))
  rw [bits_and_nat (lt1024 hs) (lt1024 (declN_lt ms))]
  have := ref_check_l0_ev hc l hl _ 0 (s &&& declN ms) rfl (Nat.zero_le _) (and_decl_lt ms s) (Sub.and_right _ _)
  rwa [List.drop_zero] at this
theorem ref_check_not {ms : List S51} {s : Int} (hs : ¬ (0 ≤ s ∧ s < 1024)) (l : List Int) : Ev (fun k => trustquorumref09_Check.f k ms s l) (0, 1) := by
  unfold trustquorumref09_Check.f
  exact Ev.bindP (ref_valid_not hs) (Ev.neg (by decide) (Ev.now _))
theorem elimination_not {ms : List S51} {s : Int} (hs : ¬ (0 ≤ s ∧ s < 1024)) : Ev (fun k => closure_Elimination.f k ms s) [] := by
  unfold closure_Elimination.f
  exact Ev.bind (eliminate_not hs) (Ev.now _)
theorem greatest_not {ms : List S51} {s : Int} (hs : ¬ (0 ≤ s ∧ s < 1024)) : Ev (fun k => closure_Greatest.f k ms s) 0 := by
  unfold closure_Greatest.f
  exact Ev.bind (eliminate_not hs) (Ev.now _)
theorem ref_elimination_not {ms : List S51} {s : Int} (hs : ¬ (0 ≤ s ∧ s < 1024)) : Ev (fun k => trustquorumref09_Elimination.f k ms s) [] := by
  unfold trustquorumref09_Elimination.f
  exact Ev.bindP (ref_valid_not hs) (Ev.neg (by decide) (Ev.now _))
theorem ref_quorum_not {ms : List S51} {s : Int} (hs : ¬ (0 ≤ s ∧ s < 1024)) : Ev (fun k => trustquorumref09_Quorum.f k ms s) false := by
  unfold trustquorumref09_Quorum.f
  refine Ev.bindP (ref_valid_not hs) ?_
  first
    | exact Ev.neg (by decide) (Ev.now _)
    | exact Ev.neg (by decide) (Ev.step (fun k => by rw [trustquorumref09_Quorum.j0]) (Ev.pos rfl (Ev.now _)))
end Go.Proofs.Ytoofabolcbbjnaa.P
