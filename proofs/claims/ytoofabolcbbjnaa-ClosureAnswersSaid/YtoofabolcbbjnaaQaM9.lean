/- A configuration that was made is right; the reference's test of a quorum comes to the pure answer; conditions: sets below 1024. -/
import Derived.Test.YtoofabolcbbjnaaQaM6
import Derived.Test.YtoofabolcbbjnaaQaPx18
namespace Go.Proofs.Ytoofabolcbbjnaa.P
open Go.RowKit Go.Proofs.YtoofabolcbbjnaaW.PrintWords Go.Proofs.YtoofabolcbbjnaaW.PrintLast Go.Proofs.YtoofabolcbbjnaaW.PrintMore
set_option linter.unusedVariables false
set_option linter.unusedSimpArgs false
theorem ref_quorum_l0_ev {ms : List S51} (hc : SmallC ms) {s : Nat} (hs : s < 1024) : ∀ (ns : List Nat), ns.length ≤ 1099511627776 → (∀ k ∈ ns, k < ms.length) → ∀ (d i : Nat), ns.length - i = d → i ≤ ns.length →
    Ev (fun k => trustquorumref09_Quorum.l0 k (s : Int) (casts ns) ((casts ns).length : Int) (i : Int) ms) ((ns.drop i).all fun x => content ms x s) := by
  intro ns hn hk d
  have hlen : (casts ns).length = ns.length := by simp [casts]
  rw [hlen]
  induction d with
  | zero =>
    intro i hd hi
    refine Ev.step (fun k => by rw [trustquorumref09_Quorum.l0]) ?_
    rw [List.drop_eq_nil_of_le (by omega)]
    exact Ev.neg (by omega) (Ev.now _)
  | succ d ih =>
    intro i hd hi
    have hlt : i < ns.length := by omega
    have hlt' : i < (casts ns).length := by omega
    have hkk := hk _ (List.getElem_mem hlt)
    refine Ev.step (fun k => by rw [trustquorumref09_Quorum.l0]) ?_
    refine Ev.pos (by omega) (Ev.pos (by omega) (Ev.pos (by omega) ?_))
    rw [rd_get hlt']
    have e : (casts ns)[i] = (ns[i] : Int) := by simp [casts]
    rw [e]
    refine Ev.pos (by omega) (Ev.pos (by omega) ?_)
    rw [rdM_get hkk]
    refine Ev.bind (ref_sat_ev hs (hc.2 _ (List.getElem_mem hkk))) ?_
    have hcont : content ms ns[i] s = satT s (ms[ns[i]]).f1 := by
      unfold content
      rw [List.getD_eq_getElem?_getD, List.getElem?_eq_getElem hkk]; rfl
    rw [List.drop_eq_getElem_cons hlt, List.all_cons, hcont]
    by_cases h : satT s (ms[ns[i]]).f1 = true
    · refine Ev.pos h ?_
      rw [h, Bool.true_and, succ64 (by omega)]
      exact ih (i + 1) (by omega) (by omega)
    · refine Ev.neg h ?_
      rw [Bool.eq_false_iff.2 h, Bool.false_and]
      exact Ev.now _
theorem ref_quorum_ev {ms : List S51} (hc : SmallC ms) {s : Nat} (hs : s < 1024) : Ev (fun k => trustquorumref09_Quorum.f k ms (s : Int)) (quorumN ms s) := by
  have hd := declN_lt ms
  have hj : ∀ b : Bool, (b = false → Sub s (declN ms)) → Ev (fun k => trustquorumref09_Quorum.j0 k (s : Int) b ms) (!b && (nodesL s).all fun x => content ms x s) := by
    intro b hb
    refine Ev.step (fun k => by rw [trustquorumref09_Quorum.j0]) ?_
    cases b with
    | true => exact Ev.pos rfl (Ev.now _)
    | false =>
      refine Ev.neg (by simp) ?_
      refine Ev.bind (ref_nodes_ev hs) ?_
      have hlen : (nodesL s).length ≤ 10 := by
        unfold nodesL
        exact Nat.le_trans (List.length_filter_le _ _) (by simp)
      have := ref_quorum_l0_ev hc hs (nodesL s) (by omega) (fun k hk => by
        have h1 := hb rfl k ((mem_nodesL hs).1 hk)
        rw [declN_bit] at h1
        unfold isDecl at h1
        simp only [Bool.and_eq_true, decide_eq_true_eq] at h1
        exact h1.1.2) (nodesL s).length 0 (by omega) (by omega)
      simpa using this
  have hfix : (nodesL s).all (fun x => content ms x s) = true ↔ Fix ms s := by
    rw [List.all_eq_true]
    exact ⟨fun h k hk => h k ((mem_nodesL hs).2 hk), fun h k hk => h k ((mem_nodesL hs).1 hk)⟩
  unfold trustquorumref09_Quorum.f
  refine Ev.bindP (ref_valid_nat hs) (Ev.pos rfl ?_)
  by_cases h0 : s = 0
  · refine Ev.pos (by omega) ?_
    have e : quorumN ms s = false := by unfold quorumN; simp [h0]
    rw [e]
    exact hj true (by simp)
  · refine Ev.neg (by omega) ?_
    refine Ev.bind (ref_decl_ev hc.1) ?_
    rw [bits_and_nat (lt1024 hs) (lt1024 hd)]
    by_cases h1 : Sub s (declN ms)
    · have e : (((s &&& declN ms : Nat) : Int) != (s : Int)) = false := by rw [h1.and_eq]; simp
      rw [e]
      have := hj false (fun _ => h1)
      have e2 : quorumN ms s = (!false && (nodesL s).all fun x => content ms x s) := by
        rw [Bool.eq_iff_iff, quorumN_iff hs, Bool.not_false, Bool.true_and, hfix]
        exact ⟨fun h => h.2.2, fun h => ⟨h0, h1, h⟩⟩
      rw [e2]
      exact this
    · have e : (((s &&& declN ms : Nat) : Int) != (s : Int)) = true := by
        rw [bne_iff_ne]
        intro h
        exact h1 (sub_of_and_eq (by omega))
      rw [e]
      have e2 : quorumN ms s = false := by
        rw [Bool.eq_false_iff]
        intro h
        exact h1 ((quorumN_iff hs).1 h).2.1
      rw [e2]
      exact hj true (by simp)
end Go.Proofs.Ytoofabolcbbjnaa.P
