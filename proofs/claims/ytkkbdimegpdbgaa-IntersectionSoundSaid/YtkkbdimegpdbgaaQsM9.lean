/- A configuration that was made is right; the reference's test of a quorum comes to the pure answer; conditions: sets below 1024. -/
import Derived.Test.YtkkbdimegpdbgaaQsM6
import Derived.Test.YtkkbdimegpdbgaaQsM7
import Derived.Test.YtkkbdimegpdbgaaQsPx17
namespace Go.Proofs.Ytkkbdimegpdbgaa.P
open Go.RowKit Go.Proofs.YtkkbdimegpdbgaaW.PrintWords Go.Proofs.YtkkbdimegpdbgaaW.PrintLast Go.Proofs.YtkkbdimegpdbgaaW.PrintMore
set_option linter.unusedVariables false
set_option linter.unusedSimpArgs false
theorem nodes_check {m : Nat} (hm : m ≤ 10) {ns : List Int} (h : NodesOk m ns) : ns.any (fun k => decide (k < 0) || decide (k ≥ 10)) = false ∧ dupOf ns = false := by
  refine ⟨?_, dupOf_false.2 h.2.2⟩
  rw [List.any_eq_false]
  intro k hk
  have := h.2.1 k hk
  simp; omega
theorem flat_check {m : Nat} (hm : m ≤ 10) {t : S56} (h : FlatT m t) : checkT t = 0 := by
  obtain ⟨th, ns, inner⟩ := t
  obtain ⟨h1, h2, h3, h4⟩ := h
  simp only at h1 h2 h3 h4
  subst h1
  obtain ⟨e1, e2⟩ := nodes_check hm h4
  rw [checkT, if_neg (by simp; omega), e1, if_neg (by simp), e2, if_neg (by simp), checkL]
theorem flat_checkL {m : Nat} (hm : m ≤ 10) : ∀ {xs : List S56}, (∀ x ∈ xs, FlatT m x) → checkL xs = 0
  | [], _ => by rw [checkL]
  | x :: xs, h => by rw [checkL, if_pos (flat_check hm (h x List.mem_cons_self))]; exact flat_checkL hm fun y hy => h y (List.mem_cons_of_mem _ hy)
theorem flat_depthL {m : Nat} : ∀ {xs : List S56}, (∀ x ∈ xs, FlatT m x) → depthL xs ≤ 1
  | [], _ => by rw [depthL]; omega
  | x :: xs, h => by
    have h1 := flat_depthL fun y hy => h y (List.mem_cons_of_mem _ hy)
    have h2 := h x List.mem_cons_self
    obtain ⟨th, ns, inner⟩ := x
    have e : inner = [] := h2.1
    subst e
    rw [depthL, depthT, depthL]; omega
theorem gen_valid {m : Nat} (hm : m ≤ 10) {t : S56} (h : GenT m t) : validT t = 0 := by
  have hs := gen_size h
  obtain ⟨th, ns, inner⟩ := t
  obtain ⟨h1, h2, h3, h4, h5⟩ := h
  simp only at h1 h2 h3 h4 h5
  have hd := flat_depthL h5
  obtain ⟨e1, e2⟩ := nodes_check hm h3
  unfold validT
  rw [if_neg (by rw [depthT]; omega), if_neg (by omega), checkT, if_neg (by omega), e1, if_neg (by simp), e2, if_neg (by simp), flat_checkL hm h5]
theorem nodes_uses {m : Nat} (hm : m ≤ 10) {ns : List Int} (h : NodesOk m ns) : usesI ns 0 < 2 ^ m := usesI_lt hm _ _ (Nat.two_pow_pos m) fun k hk => .inl (h.2.1 k hk).2
theorem flat_usesL {m : Nat} (hm : m ≤ 10) : ∀ {xs : List S56} {a : Nat}, (∀ x ∈ xs, FlatT m x) → a < 2 ^ m → usesL xs a < 2 ^ m
  | [], a, _, h => by rw [usesL]; exact h
  | x :: xs, a, h, ha => by
    rw [usesL]
    refine flat_usesL hm (fun y hy => h y (List.mem_cons_of_mem _ hy)) (Nat.or_lt_two_pow ha ?_)
    have h2 := h x List.mem_cons_self
    obtain ⟨th, ns, inner⟩ := x
    have e : inner = [] := h2.1
    subst e
    rw [usesT, usesL]
    exact nodes_uses hm h2.2.2.2
theorem gen_uses {m : Nat} (hm : m ≤ 10) {t : S56} (h : GenT m t) : usesT t < 2 ^ m := by
  obtain ⟨th, ns, inner⟩ := t
  rw [usesT]
  exact flat_usesL hm h.2.2.2.2 (nodes_uses hm h.2.2.1)
theorem mem_valid {m : Nat} (hm : m ≤ 10) {x : S58} (h : MemOk m x) : memE m x = 0 := by
  unfold memE
  rcases h with rfl | ⟨h1, h2⟩
  · rw [if_neg (by simp [z58]), if_pos (by decide)]
  · rw [if_pos h1, if_pos (gen_valid hm h2), if_neg (by have := gen_uses hm h2; omega)]
theorem cfg_valid {n : Nat} {ms : List S58} (h : CfgOk n ms) (hn : n ≤ 10) : validC ms = 0 := by
  obtain ⟨h1, h2, h3⟩ := h
  have hm : ms.length ≤ 10 := by omega
  have : ∀ xs : List S58, (∀ x ∈ xs, MemOk ms.length x) → memL ms.length xs = 0 := by
    intro xs
    induction xs with
    | nil => intro _; rw [memL]
    | cons x xs ih =>
      intro h
      rw [memL, if_pos (mem_valid hm (h x List.mem_cons_self))]
      exact ih fun y hy => h y (List.mem_cons_of_mem _ hy)
  unfold validC
  rw [if_neg (by omega), this ms h3]
theorem cfg_sized {n : Nat} {ms : List S58} (h : CfgOk n ms) : SizedC ms := by
  intro x hx
  rcases h.2.2 x hx with rfl | ⟨_, h2⟩
  · decide
  · exact Nat.le_trans (gen_size h2) (by decide)
theorem ref_quorum_l0_ev {ms : List S58} (hc : SmallC ms) {s : Nat} (hs : s < 1024) : ∀ (ns : List Nat), ns.length ≤ 1099511627776 → (∀ k ∈ ns, k < ms.length) → ∀ (d i : Nat), ns.length - i = d → i ≤ ns.length →
    Ev (fun k => zW.l0 k (s : Int) (casts ns) ((casts ns).length : Int) (i : Int) ms) ((ns.drop i).all fun x => content ms x s) := by
  intro ns hn hk d
  have hlen : (casts ns).length = ns.length := by simp [casts]
  rw [hlen]
  induction d with
  | zero =>
    intro i hd hi
    refine Ev.step (fun k => by rw [zW.l0]) ?_
    rw [List.drop_eq_nil_of_le (by omega)]
    exact Ev.neg (by omega) (Ev.now _)
  | succ d ih =>
    intro i hd hi
    have hlt : i < ns.length := by omega
    have hlt' : i < (casts ns).length := by omega
    have hkk := hk _ (List.getElem_mem hlt)
    refine Ev.step (fun k => by rw [zW.l0]) ?_
    refine Ev.pos (by omega) (Ev.pos (by omega) (Ev.pos (by omega) ?_))
    rw [rd_get hlt']
    have e : (casts ns)[i] = (ns[i] : Int) := by simp [casts]
    rw [e]
    refine Ev.pos (by omega) (Ev.pos (by omega) ?_)
    rw [rdM_get hkk]
    refine Ev.bind (ref_sat_ev hs (hc.2 _ (List.getElem_mem hkk))) ?_
    have hcont : content ms ns[i] s = satT s (ms[ns[i]]).f1 := by
      unfold content
      rw [List.getD_eq_getElem?_getD, List.getElem?_eq_getElem hkk]; rfl
    rw [List.drop_eq_getElem_cons hlt, List.all_cons, hcont]
    by_cases h : satT s (ms[ns[i]]).f1 = true
    · refine Ev.pos h ?_
      rw [h, Bool.true_and, succ64 (by omega)]
      exact ih (i + 1) (by omega) (by omega)
    · refine Ev.neg h ?_
      rw [Bool.eq_false_iff.2 h, Bool.false_and]
      exact Ev.now _
theorem ref_quorum_ev {ms : List S58} (hc : SmallC ms) {s : Nat} (hs : s < 1024) : Ev (fun k => zW.f k ms (s : Int)) (quorumN ms s) := by
  have hd := declN_lt ms
  have hj : ∀ b : Bool, (b = false → Sub s (declN ms)) → Ev (fun k => zW.j0 k (s : Int) b ms) (!b && (nodesL s).all fun x => content ms x s) := by
    intro b hb
    refine Ev.step (fun k => by rw [zW.j0]) ?_
    cases b with
    | true => exact Ev.pos rfl (Ev.now _)
    | false =>
      refine Ev.neg (by simp) ?_
      refine Ev.bind (ref_nodes_ev hs) ?_
      have hlen : (nodesL s).length ≤ 10 := by
        unfold nodesL
        exact Nat.le_trans (List.length_filter_le _ _) (by simp)
      have := ref_quorum_l0_ev hc hs (nodesL s) (by omega) (fun k hk => by
        have h1 := hb rfl k ((mem_nodesL hs).1 hk)
        rw [declN_bit] at h1
        unfold isDecl at h1
        simp only [Bool.and_eq_true, decide_eq_true_eq] at h1
        exact h1.1.2) (nodesL s).length 0 (by omega) (by omega)
      simpa using this
  have hfix : (nodesL s).all (fun x => content ms x s) = true ↔ Fix ms s := by
    rw [List.all_eq_true]
    exact ⟨fun h k hk => h k ((mem_nodesL hs).2 hk), fun h k hk => h k ((mem_nodesL hs).1 hk)⟩
  unfold zW.f
  refine Ev.bindP (ref_valid_nat hs) (Ev.pos rfl ?_)
  by_cases h0 : s = 0
  · refine Ev.pos (by omega) ?_
    have e : quorumN ms s = false := by unfold quorumN; simp [h0]
    rw [e]
    exact hj true (by simp)
  · refine Ev.neg (by omega) ?_
    refine Ev.bind (ref_decl_ev hc.1) ?_
    rw [bits_and_nat (lt1024 hs) (lt1024 hd)]
    by_cases h1 : Sub s (declN ms)
    · have e : (((s &&& declN ms : Nat) : Int) != (s : Int)) = false := by rw [h1.and_eq]; simp
      rw [e]
      have := hj false (fun _ => h1)
      have e2 : quorumN ms s = (!false && (nodesL s).all fun x => content ms x s) := by
        rw [Bool.eq_iff_iff, quorumN_iff hs, Bool.not_false, Bool.true_and, hfix]
        exact ⟨fun h => h.2.2, fun h => ⟨h0, h1, h⟩⟩
      rw [e2]
      exact this
    · have e : (((s &&& declN ms : Nat) : Int) != (s : Int)) = true := by
        rw [bne_iff_ne]
        intro h
        exact h1 (sub_of_and_eq (by omega))
      rw [e]
      have e2 : quorumN ms s = false := by
        rw [Bool.eq_false_iff]
        intro h
        exact h1 ((quorumN_iff hs).1 h).2.1
      rw [e2]
      exact hj true (by simp)
end Go.Proofs.Ytkkbdimegpdbgaa.P
