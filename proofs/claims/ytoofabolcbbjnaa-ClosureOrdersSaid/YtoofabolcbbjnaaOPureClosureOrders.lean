/- The pure statement of ClosureOrders: every right order of elimination is accepted and leads to the greatest quorum, and no shorter beginning of it is accepted; conditions: none beyond the given ones. -/
import Derived.Test.YtoofabolcbbjnaaOM6
import Derived.Test.YtoofabolcbbjnaaOPx12
namespace Go.Proofs.Ytoofabolcbbjnaa.Pure
open Go.RowKit Go.Proofs.Ytoofabolcbbjnaa.P Go.Proofs.YtoofabolcbbjnaaW.PrintWords Go.Proofs.YtoofabolcbbjnaaW.PrintLast
set_option linter.unusedVariables false
inductive Goes (ms : List S51) : Nat → List Nat → Nat → Prop
  | nil (s : Nat) : Goes ms s [] s
  | cons {s k t : Nat} {o : List Nat} : s.testBit k = true → content ms k s = false → Goes ms (sdiff s (2 ^ k)) o t → Goes ms s (k :: o) t
theorem Goes.snoc {ms : List S51} {s t k : Nat} {o : List Nat} (h : Goes ms s o t) (hk : t.testBit k = true) (hc : content ms k t = false) : Goes ms s (o ++ [k]) (sdiff t (2 ^ k)) := by
  induction h with
  | nil s => exact Goes.cons hk hc (Goes.nil _)
  | cons h1 h2 _ ih => exact Goes.cons h1 h2 (ih hk hc)
theorem Goes.sub {ms : List S51} {s t : Nat} {o : List Nat} (h : Goes ms s o t) : Sub t s := by
  induction h with
  | nil s => exact Sub.refl s
  | cons h1 h2 _ ih => exact ih.trans (Sub.sdiff _ _)
theorem Goes.keeps {ms : List S51} {s t q : Nat} {o : List Nat} (h : Goes ms s o t) (hq : Sub q s) (hf : Fix ms q) : Sub q t := by
  induction h with
  | nil s => exact hq
  | @cons s k t o h1 h2 _ ih =>
    refine ih fun i hi => ?_
    rw [sdiff_pow_bit, hq i hi]
    by_cases e : i = k
    · subst e
      have := content_mono ms hq (hf i hi)
      rw [h2] at this; cases this
    · simp [e]
theorem Goes.len {ms : List S51} {s t : Nat} {o : List Nat} (h : Goes ms s o t) : o.length + t ≤ s := by
  induction h with
  | nil s => simp
  | cons h1 h2 _ ih =>
    have := sdiff_pow_lt h1
    simp only [List.length_cons]; omega
theorem Goes.elim (ms : List S51) : ∀ (n s : Nat), s ≤ n → Goes ms s (elimS ms s).2 (elimS ms s).1 := by
  intro n
  induction n with
  | zero =>
    intro s h
    obtain rfl : s = 0 := by omega
    have hu : unhap ms 0 = none := (unhap_none (by decide)).2 fun k hk => by rw [Nat.zero_testBit] at hk; cases hk
    rw [elimS_none hu]; exact Goes.nil 0
  | succ n ih =>
    intro s h
    cases hu : unhap ms s with
    | none => rw [elimS_none hu]; exact Goes.nil s
    | some k =>
      obtain ⟨h1, h2, _⟩ := unhap_some hu
      have := sdiff_pow_lt h1
      rw [elimS_some hu]
      exact Goes.cons h1 h2 (ih _ (by omega))
theorem check_l0_goes {ms : List S51} (hc : SmallC ms) (o : List Nat) (ho : o.length ≤ 2000) {s0 t : Nat} (hs0 : s0 < 1024) (hd0 : Sub s0 (declN ms)) (h : Goes ms s0 o t) : ∀ (i : Nat) (s : Nat), i ≤ o.length → Goes ms s (o.drop i) t → s < 1024 → Sub s (declN ms) →
    Ev (fun k => closure_Check.l0 k (s : Int) (casts o) ((casts o).length : Int) (i : Int) ms) (if t = 0 ∨ quorumN ms t = true then ((t : Int), 0) else (0, 12)) := by
  have hcl : (casts o).length = o.length := by simp [casts]
  intro i s hi hg
  generalize hoi : o.drop i = oi at hg
  induction hg generalizing i with
  | nil s =>
    intro hs hd
    have hi' : i = o.length := by
      have := congrArg List.length hoi
      rw [List.length_drop, List.length_nil] at this
      omega
    refine Ev.step (fun k => by rw [closure_Check.l0]) ?_
    refine Ev.neg (by omega) ?_
    by_cases h0 : s = 0
    · rw [if_pos (.inl h0)]
      exact Ev.pos (by omega) (Ev.now _)
    · refine Ev.neg (by omega) ?_
      refine Ev.bind (quorum_ev hc hs) ?_
      by_cases hq : quorumN ms s = true
      · refine Ev.pos hq ?_
        rw [if_pos (show s = 0 ∨ quorumN ms s = true from .inr hq)]
        exact Ev.now _
      · refine Ev.neg hq ?_
        rw [if_neg (show ¬ (s = 0 ∨ quorumN ms s = true) from fun h => h.elim h0 hq)]
        exact Ev.now _
  | @cons s k t o' h1 h2 h3 ih =>
    intro hs hd
    have hlt : i < o.length := by
      have := congrArg List.length hoi
      rw [List.length_drop, List.length_cons] at this
      omega
    have hk : o[i] = k ∧ o.drop (i + 1) = o' := by
      rw [List.drop_eq_getElem_cons hlt] at hoi
      exact ⟨(List.cons.inj hoi).1, (List.cons.inj hoi).2⟩
    have hg : rd (casts o) (i : Int) = (k : Int) := by rw [rd_get (by omega)]; simp [casts, hk.1]
    have hk10 := bit_lt10 hs h1
    refine Ev.step (fun k => by rw [closure_Check.l0]) ?_
    refine Ev.pos (by omega) (Ev.pos (by omega) (Ev.pos (by omega) ?_))
    rw [hg]
    refine Ev.bindP (has_nat hs _) ?_
    rw [hasI_nat]
    refine Ev.pos h1 ?_
    refine Ev.bind (content_ev hc hs (declN_len (hd k h1))) ?_
    refine Ev.neg (by simp [h2]) (Ev.pos (by omega) ?_)
    rw [shl_one (by omega), bits_andNot_nat (lt1024 hs) (lt1024 (pow_lt1024 hk10)), succ64 (by omega)]
    exact ih h (i + 1) (by omega) hk.2 (sdiff_lt (n := 10) hs) ((Sub.sdiff _ _).trans hd)
theorem check_goes {ms : List S51} (hc : SmallC ms) {x t : Nat} (hx : x < 1024) {o : List Nat} (h : Goes ms (x &&& declN ms) o t) :
    Ev (fun k => closure_Check.f k ms (x : Int) (casts o)) (if t = 0 ∨ quorumN ms t = true then ((t : Int), 0) else (0, 12)) := by
  have hl := and_decl_lt ms x
  have hlen := h.len
  unfold closure_Check.f
  refine Ev.bindP (valid_nat hx) (Ev.pos rfl ?_)
  refine Ev.bind (decl_ev hc.1) ?_
  rw [bits_and_nat (lt1024 hx) (lt1024 (declN_lt ms))]
  exact check_l0_goes hc o (by omega) hl (Sub.and_right _ _) h 0 _ (by omega) (by simpa using h) hl (Sub.and_right _ _)
theorem orders_j2 {ms : List S51} (hc : SmallC ms) {x t : Nat} (hx : x < 1024) {o : List Nat} (h : Goes ms (x &&& declN ms) o t) : Tot (fun k => trustquorumlaw09_ClosureOrders.j2 k (x : Int) (casts o) false ms) (fun r => r = true) := by
  have hcl : (casts o).length = o.length := by simp [casts]
  have hlen := h.len
  have hl := and_decl_lt ms x
  refine Tot.step (fun k => by rw [trustquorumlaw09_ClosureOrders.j2]) ?_
  refine Tot.neg (by simp) ?_
  refine Tot.ite (fun h0 => ?_) (fun _ => Tot.bindE awake_ev (Tot.now rfl))
  rw [wrap64_id (by omega) (by omega)]
  refine Tot.pos (by omega) (Tot.pos (by omega) ?_)
  rw [show (((casts o).length : Int) - 1).toNat = o.length - 1 by omega]
  have hinit : ∀ {s t : Nat} {o : List Nat}, Goes ms s o t → o ≠ [] → ∃ u k, Goes ms s (o.take (o.length - 1)) u ∧ u.testBit k = true ∧ content ms k u = false := by
    intro s t o h
    induction h with
    | nil s => intro h; exact absurd rfl h
    | @cons s k t o h1 h2 h3 ih =>
      intro _
      by_cases e : o = []
      · subst e
        exact ⟨s, k, Goes.nil s, h1, h2⟩
      · obtain ⟨u, k', h4, h5, h6⟩ := ih e
        refine ⟨u, k', ?_, h5, h6⟩
        have : (k :: o).take ((k :: o).length - 1) = k :: o.take (o.length - 1) := by
          cases o with
          | nil => exact absurd rfl e
          | cons a o => rfl
        rw [this]
        exact Goes.cons h1 h2 h4
  obtain ⟨u, k', h4, h5, h6⟩ := hinit h (by rintro rfl; simp [casts] at h0)
  have htake : (casts o).take (o.length - 1) = casts (o.take (o.length - 1)) := by unfold casts; rw [List.map_take]
  rw [htake]
  have hu : u < 1024 := Sub.lt10 h4.sub hl
  refine Tot.bindE (check_goes hc hx h4) ?_
  have hnq : ¬ (u = 0 ∨ quorumN ms u = true) := by
    rintro (e | e)
    · subst e; rw [Nat.zero_testBit] at h5; cases h5
    · have := ((quorumN_iff hu).1 e).2.2 k' h5
      rw [h6] at this; cases this
  rw [if_neg hnq]
  exact Tot.pos rfl (Tot.bindE awake_ev (Tot.now rfl))
def cans (ms : List S51) (s : Nat) (l : List Nat) : List Nat := l.filter fun k => !content ms k s
theorem orders_main {l : List Int} {ms : List S51} (hc : SmallC ms) {x : Nat} (hx : x < 1024) : ∀ (n s : Nat) (o : List Nat) (p : Int), s ≤ n → Goes ms (x &&& declN ms) o s → TapeOk l p →
    Tot (fun k => trustquorumlaw09_ClosureOrders.l0 k (x : Int) (s : Int) (casts o) l p ms) (fun r => r = true) := by
  have hl := and_decl_lt ms x
  intro n
  induction n with
  | zero =>
    intro s o p hn h ht
    obtain rfl : s = 0 := by omega
    exact stepO hc hx 0 o p h ht (fun k hk => by rw [Nat.zero_testBit] at hk; cases hk)
  | succ n ih =>
    intro s o p hn h ht
    exact stepO hc hx s o p h ht (fun k hk hcn q hq => ih _ _ _ (by have := sdiff_pow_lt hk; omega) (h.snoc hk hcn) hq)
where
  stepO {l : List Int} {ms : List S51} (hc : SmallC ms) {x : Nat} (hx : x < 1024) (s : Nat) (o : List Nat) (p : Int) (h : Goes ms (x &&& declN ms) o s) (ht : TapeOk l p)
      (next : ∀ k, s.testBit k = true → content ms k s = false → ∀ q, TapeOk l q → Tot (fun r => trustquorumlaw09_ClosureOrders.l0 r (x : Int) (sdiff s (2 ^ k) : Nat) (casts (o ++ [k])) l q ms) (fun r => r = true)) :
      Tot (fun k => trustquorumlaw09_ClosureOrders.l0 k (x : Int) (s : Int) (casts o) l p ms) (fun r => r = true) := by
    have hl := and_decl_lt ms x
    have hs : s < 1024 := Sub.lt10 h.sub hl
    have hsd : Sub s (declN ms) := h.sub.trans (Sub.and_right _ _)
    have hlen := h.len
    have hcl : (casts o).length = o.length := by simp [casts]
    refine Tot.step (fun k => by rw [trustquorumlaw09_ClosureOrders.l0]) ?_
    refine Tot.bindE (ref_nodes_ev hs) ?_
    have hnl := nodesL_len s
    have hcn : (casts (nodesL s)).length = (nodesL s).length := by simp [casts]
    have inner : ∀ (d i : Nat), (nodesL s).length - i = d → i ≤ (nodesL s).length →
        Tot (fun k => trustquorumlaw09_ClosureOrders.l1 k (x : Int) (s : Int) (casts o) (casts (cans ms s ((nodesL s).take i))) (casts (nodesL s)) ((casts (nodesL s)).length : Int) (i : Int) l p ms) (fun r => r = true) := by
      intro d
      induction d with
      | zero =>
        intro i hd hi
        refine Tot.step (fun k => by rw [trustquorumlaw09_ClosureOrders.l1]) ?_
        refine Tot.neg (by omega) ?_
        rw [List.take_of_length_le (by omega)]
        have hcc : (casts (cans ms s (nodesL s))).length = (cans ms s (nodesL s)).length := by simp [casts]
        have hcl2 : (cans ms s (nodesL s)).length ≤ 10 := Nat.le_trans (List.length_filter_le _ _) hnl
        refine Tot.ite (fun h0 => ?_) (fun h0 => ?_)
        ·
          have he : cans ms s (nodesL s) = [] := List.eq_nil_of_length_eq_zero (by omega)
          have hf : Fix ms s := fun k hk => by
            unfold cans at he
            rw [List.filter_eq_nil_iff] at he
            have := he k ((mem_nodesL hs).2 hk)
            simpa using this
          have hg : greatN ms x = s := Sub.antisymm (h.keeps (Sub.le_and (great_sub ms x) (great_decl ms x)) (great_fix ms x)) (great_max (h.sub.trans (Sub.and_left _ _)) hsd hf)
          have hok : s = 0 ∨ quorumN ms s = true := by
            by_cases e : s = 0
            · exact .inl e
            · exact .inr ((quorumN_iff hs).2 ⟨e, hsd, hf⟩)
          refine Tot.bindE (check_goes hc hx h) ?_
          rw [if_pos hok]
          refine Tot.bindE (elimination_ev hc hx) ?_
          refine Tot.bindE (check_goes hc hx (Goes.elim ms _ (x &&& declN ms) (Nat.le_refl _))) ?_
          have hg2 : (elimS ms (x &&& declN ms)).1 = s := hg
          rw [hg2, if_pos hok]
          refine Tot.pos rfl (Tot.pos rfl (Tot.pos rfl (Tot.pos rfl ?_)))
          refine Tot.bindE (greatest_ev hc hx) ?_
          rw [hg, show (((s : Nat) : Int) != (s : Int)) = false by simp]
          exact orders_j2 hc hx h
        · refine Tot.bindP (tapeN ht (n := ((casts (cans ms s (nodesL s))).length : Int)) (by omega) (by omega)) ?_
          rintro ⟨j, q⟩ ⟨h1, h2, h3⟩
          obtain ⟨j, rfl⟩ := Int.eq_ofNat_of_zero_le h1
          simp only at h2 h3 ⊢
          have hlt : j < (cans ms s (nodesL s)).length := by omega
          have hg : rd (casts (cans ms s (nodesL s))) (j : Int) = (((cans ms s (nodesL s))[j] : Nat) : Int) := by rw [rd_get (by omega)]; simp [casts]
          refine Tot.pos (by omega) (Tot.pos (by omega) (Tot.pos (by omega) ?_))
          rw [hg]
          have hmem := List.getElem_mem hlt
          generalize (cans ms s (nodesL s))[j] = k at hmem
          unfold cans at hmem
          rw [List.mem_filter, mem_nodesL hs] at hmem
          obtain ⟨hk, hkc⟩ := hmem
          have hk10 := bit_lt10 hs hk
          refine Tot.pos (by omega) ?_
          have hsub : sdiff s (2 ^ k) = s - 2 ^ k := by
            have e1 : s = sdiff s (2 ^ k) + 2 ^ k := by
              have e2 : sdiff s (2 ^ k) ||| 2 ^ k = s := Nat.eq_of_testBit_eq fun i => by
                rw [or_pow_bit, sdiff_pow_bit]
                by_cases e : i = k
                · subst e; simp [hk]
                · simp [e]
              have e3 : sdiff s (2 ^ k) &&& 2 ^ k = 0 := eq_zero_of_no_bit fun i => by
                rw [Nat.testBit_and, sdiff_pow_bit, Nat.testBit_two_pow]
                by_cases e : k = i
                · subst e; simp
                · simp [e]
              have e4 := add_of_and_zero e3
              rw [e2] at e4
              omega
            omega
          have hle : 2 ^ k ≤ s := Nat.ge_two_pow_of_testBit hk
          have hw : wrap64 ((s : Int) - ((2 ^ k : Nat) : Int)) = ((sdiff s (2 ^ k) : Nat) : Int) := by
            rw [hsub]
            generalize 2 ^ k = P at hle
            rw [wrap64_id (by omega) (by omega)]
            omega
          rw [shl_one (by omega), hw]
          have := next k hk (by simpa using hkc) q h3
          rw [casts_append] at this
          exact this
      | succ d ih =>
        intro i hd hi
        have hlt : i < (nodesL s).length := by omega
        have hmem := (mem_nodesL hs).1 (List.getElem_mem hlt)
        have hklen := declN_len (hsd _ hmem)
        have hg : rd (casts (nodesL s)) (i : Int) = (((nodesL s)[i] : Nat) : Int) := by rw [rd_get (by omega)]; simp [casts]
        refine Tot.step (fun k => by rw [trustquorumlaw09_ClosureOrders.l1]) ?_
        refine Tot.pos (by omega) (Tot.pos (by omega) (Tot.pos (by omega) ?_))
        rw [hg]
        refine Tot.pos (by omega) (Tot.pos (by omega) ?_)
        rw [rdM_nat, succ64 (by omega)]
        refine Tot.bindE (ref_sat_ev hs (smallC_get hc _)) ?_
        have hnext := ih (i + 1) (by omega) (by omega)
        rw [List.take_succ_eq_append_getElem hlt] at hnext
        have hcan : cans ms s ((nodesL s).take i ++ [(nodesL s)[i]]) = cans ms s ((nodesL s).take i) ++ (if content ms (nodesL s)[i] s = true then [] else [(nodesL s)[i]]) := by
          unfold cans
          rw [List.filter_append]
          congr 1
          by_cases e : content ms (nodesL s)[i] s = true <;> simp [e]
        rw [hcan] at hnext
        have hct : satT s (ms.getD (nodesL s)[i] z51).f1 = content ms (nodesL s)[i] s := rfl
        rw [hct]
        by_cases e : content ms (nodesL s)[i] s = true
        · rw [if_pos e, List.append_nil] at hnext
          exact Tot.pos e hnext
        · rw [if_neg e, casts_append] at hnext
          refine Tot.neg e (Tot.pos ?_ hnext)
          have : (cans ms s ((nodesL s).take i)).length ≤ 10 := by
            unfold cans
            exact Nat.le_trans (List.length_filter_le _ _) (by rw [List.length_take]; omega)
          simp only [casts, List.length_map]
          omega
    have := inner _ 0 rfl (by omega)
    simpa [cans, casts] using this
theorem ClosureOrders : trustquorumlaw09_ClosureOrders.Pure := by
  intro l0 _ _ _
  refine Tot.rounds ?_
  unfold trustquorumlaw09_ClosureOrders.f
  refine Tot.bindP (tape_new l0) ?_
  rintro ⟨l, p⟩ ht
  simp only at ht ⊢
  refine Tot.bind (config_ok (n := 10) (by decide) (by decide) ht) ?_
  rintro ⟨ms, p2⟩ ⟨hcfg, ht2⟩
  simp only at hcfg ht2 ⊢
  have hc := cfg_small hcfg (by decide)
  refine Tot.bindP (tapeN ht2 (n := 1024) (by decide) (by decide)) ?_
  rintro ⟨x, q⟩ ⟨h1, h2, h3⟩
  obtain ⟨x, rfl⟩ := Int.eq_ofNat_of_zero_le h1
  simp only at h2 h3 ⊢
  have hx : x < 1024 := by omega
  refine Tot.bindE (ref_decl_ev hc.1) ?_
  rw [bits_and_nat (lt1024 hx) (lt1024 (declN_lt ms))]
  exact orders_main hc hx _ _ [] q (Nat.le_refl _) (Goes.nil _) h3
end Go.Proofs.Ytoofabolcbbjnaa.Pure
