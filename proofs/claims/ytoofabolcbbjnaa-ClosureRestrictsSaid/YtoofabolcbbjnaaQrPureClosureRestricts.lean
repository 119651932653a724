/- The pure statement of ClosureRestricts: the quorums in a set are those of the configuration that is restricted to the set; conditions: none beyond the given ones. -/
import Derived.Test.YtoofabolcbbjnaaQrM5
import Derived.Test.YtoofabolcbbjnaaQrPx14
namespace Go.Proofs.Ytoofabolcbbjnaa.Pure
open Go.RowKit Go.Proofs.Ytoofabolcbbjnaa.P Go.Proofs.YtoofabolcbbjnaaW.PrintWords Go.Proofs.YtoofabolcbbjnaaW.PrintLast
set_option linter.unusedVariables false
def rMem (x i : Nat) (m : S51) : S51 := if i < 10 ∧ x.testBit i = true then m else z51
def rList (x : Nat) : Nat → List S51 → List S51
  | _, [] => []
  | i, m :: ms => rMem x i m :: rList x (i + 1) ms
theorem rList_len (x : Nat) : ∀ (ms : List S51) (i : Nat), (rList x i ms).length = ms.length
  | [], i => rfl
  | m :: ms, i => by simp [rList, rList_len x ms]
theorem rList_get (x : Nat) : ∀ (ms : List S51) (i j : Nat), (rList x i ms).getD j z51 = if j < ms.length then rMem x (i + j) (ms.getD j z51) else z51
  | [], i, j => by simp [rList]
  | m :: ms, i, 0 => by simp [rList]
  | m :: ms, i, j + 1 => by
    rw [rList, List.getD_cons_succ, rList_get x ms (i + 1) j, List.getD_cons_succ, show i + 1 + j = i + (j + 1) by omega]
    simp
theorem restrict_l0 {x : Nat} (hx : x < 1024) (ms : List S51) (hl : ms.length ≤ 1000) : ∀ (d i : Nat) (acc : List S51), ms.length - i = d → i ≤ ms.length → acc.length ≤ i →
    Ev (fun k => trustquorumref06_Restrict.l0 k (x : Int) ms (ms.length : Int) (i : Int) acc) (acc ++ rList x i (ms.drop i)) := by
  intro d
  induction d with
  | zero =>
    intro i acc hd hi ha
    refine Ev.step (fun k => by rw [trustquorumref06_Restrict.l0]) ?_
    rw [List.drop_eq_nil_of_le (by omega)]
    exact Ev.neg (by omega) (Ev.eq (by simp [rList]))
  | succ d ih =>
    intro i acc hd hi ha
    have hlt : i < ms.length := by omega
    have next (m : S51) (hm : rMem x i ms[i] = m) : Ev (fun k => trustquorumref06_Restrict.l0 k (x : Int) ms (ms.length : Int) (wrap64 ((i : Int) + 1)) (acc ++ [m])) (acc ++ rList x i (ms.drop i)) := by
      rw [succ64 (by omega), List.drop_eq_getElem_cons hlt, rList, hm]
      have := ih (i + 1) (acc ++ [m]) (by omega) (by omega) (by simp; omega)
      rwa [List.append_assoc] at this
    refine Ev.step (fun k => by rw [trustquorumref06_Restrict.l0]) ?_
    refine Ev.pos (by omega) (Ev.pos (by omega) (Ev.pos (by omega) ?_))
    refine Ev.neg (by omega) (Ev.neg (by omega) ?_)
    by_cases h10 : i < 10
    · refine Ev.neg (by omega) ?_
      rw [shr_bit hx h10]
      cases hb : x.testBit i with
      | false =>
        refine Ev.pos rfl (Ev.pos (by omega) ?_)
        exact next _ (by unfold rMem; rw [hb]; simp; rfl)
      | true =>
        refine Ev.neg (by decide) (Ev.pos (by omega) ?_)
        refine next _ ?_
        unfold rMem
        rw [if_pos ⟨h10, hb⟩, rdM_get hlt]
        exact (fun m : S51 => by rcases m with ⟨a, ⟨b, c, d⟩⟩; rfl : ∀ m : S51, m = ⟨m.f0, ⟨m.f1.f0, m.f1.f1, m.f1.f2⟩⟩) _
    · refine Ev.pos (by omega) (Ev.pos (by omega) ?_)
      exact next _ (by unfold rMem; rw [if_neg (by omega)]; rfl)
theorem restrict_ev {x : Nat} (hx : x < 1024) (ms : List S51) (hl : ms.length ≤ 1000) : Ev (fun k => trustquorumref06_Restrict.f k ms (x : Int)) (rList x 0 ms) := by
  unfold trustquorumref06_Restrict.f
  have := restrict_l0 hx ms hl ms.length 0 [] (by omega) (by omega) (by simp)
  simpa using this
theorem r_decl (x : Nat) (ms : List S51) : declN (rList x 0 ms) = x &&& declN ms := by
  refine Nat.eq_of_testBit_eq fun i => ?_
  rw [Nat.testBit_and, declN_bit, declN_bit]
  unfold isDecl
  rw [rList_len, rList_get]
  by_cases h1 : i < 10
  · by_cases h2 : i < ms.length
    · rw [if_pos h2, Nat.zero_add]
      unfold rMem
      cases hb : x.testBit i with
      | false => simp [h1, h2, z51]
      | true => simp [h1, h2]
    · simp [h2]
  · simp [h1]
theorem r_content (x : Nat) (ms : List S51) {k s : Nat} (hx : x < 1024) (hk : x.testBit k = true) (hl : k < ms.length) : content (rList x 0 ms) k s = content ms k s := by
  unfold content
  rw [rList_get, if_pos hl, Nat.zero_add]
  unfold rMem
  rw [if_pos ⟨bit_lt10 hx hk, hk⟩]
theorem r_fix {x : Nat} {ms : List S51} (hx : x < 1024) {q : Nat} (hq : Sub q x) (hd : Sub q (declN ms)) : Fix (rList x 0 ms) q ↔ Fix ms q := by
  constructor
  · intro h k hk
    have := h k hk
    rwa [r_content x ms hx (hq k hk) (declN_len (hd k hk))] at this
  · intro h k hk
    rw [r_content x ms hx (hq k hk) (declN_len (hd k hk))]
    exact h k hk
theorem r_great {x y : Nat} {ms : List S51} (hx : x < 1024) : greatN (rList x 0 ms) y = greatN ms (x &&& y) := by
  have h1 := great_sub (rList x 0 ms) y
  have h2 := great_decl (rList x 0 ms) y
  rw [r_decl] at h2
  have h3 : Sub (greatN (rList x 0 ms) y) x := h2.trans (Sub.and_left _ _)
  have h4 : Sub (greatN (rList x 0 ms) y) (declN ms) := h2.trans (Sub.and_right _ _)
  have h5 := great_sub ms (x &&& y)
  have h6 : Sub (greatN ms (x &&& y)) x := h5.trans (Sub.and_left _ _)
  refine Sub.antisymm (great_max (Sub.le_and h3 h1) h4 ((r_fix hx h3 h4).1 (great_fix _ _))) (great_max (h5.trans (Sub.and_right _ _)) ?_ ((r_fix hx h6 (great_decl _ _)).2 (great_fix _ _)))
  rw [r_decl]
  exact Sub.le_and h6 (great_decl _ _)
theorem r_quorum {x y : Nat} {ms : List S51} (hx : x < 1024) (hy : y < 1024) : quorumN (rList x 0 ms) y = (quorumN ms y && decide (x &&& y = y)) := by
  rw [Bool.eq_iff_iff, Bool.and_eq_true, decide_eq_true_eq, quorumN_iff hy, quorumN_iff hy, r_decl]
  have e : x &&& y = y ↔ Sub y x := by rw [Nat.and_comm]; exact sub_iff_and.symm
  rw [e]
  constructor
  · rintro ⟨h0, h1, h2⟩
    have h3 := h1.trans (Sub.and_left _ _)
    have h4 := h1.trans (Sub.and_right _ _)
    exact ⟨⟨h0, h4, (r_fix hx h3 h4).1 h2⟩, h3⟩
  · rintro ⟨⟨h0, h1, h2⟩, h3⟩
    exact ⟨h0, Sub.le_and h3 h1, (r_fix hx h3 h1).2 h2⟩
theorem r_small {x : Nat} {ms : List S51} (h : SmallC ms) : SmallC (rList x 0 ms) := by
  have hmem : ∀ (ms : List S51) (i : Nat), (∀ m ∈ ms, SmallT m.f1) → ∀ m ∈ rList x i ms, SmallT m.f1 := by
    intro ms
    induction ms with
    | nil => intro i _ m hm; cases hm
    | cons a ms ih =>
      intro i h m hm
      rw [rList] at hm
      rcases List.mem_cons.1 hm with rfl | hm
      · unfold rMem
        split
        · exact h a List.mem_cons_self
        · exact smallT_of_size _ (by decide)
      · exact ih (i + 1) (fun m hm => h m (List.mem_cons_of_mem _ hm)) m hm
  exact ⟨by rw [rList_len]; exact h.1, hmem ms 0 h.2⟩
theorem ClosureRestricts : trustquorumlaw09_ClosureRestricts.Pure := by
  intro l0 _ _ _
  refine Tot.rounds ?_
  unfold trustquorumlaw09_ClosureRestricts.f
  refine Tot.bindP (tape_new l0) ?_
  rintro ⟨l, p⟩ ht
  simp only at ht ⊢
  refine Tot.bind (config_ok (n := 8) (by decide) (by decide) ht) ?_
  rintro ⟨ms, p2⟩ ⟨hcfg, ht2⟩
  simp only at hcfg ht2 ⊢
  have hc := cfg_small hcfg (by decide)
  have hlen := hcfg.2.1
  refine Tot.bindP (tapeN ht2 (n := 256) (by decide) (by decide)) ?_
  rintro ⟨x, q⟩ ⟨h1, h2, h3⟩
  obtain ⟨x, rfl⟩ := Int.eq_ofNat_of_zero_le h1
  simp only at h2 h3 ⊢
  have hx : x < 1024 := by omega
  refine Tot.bindP (tapeN h3 (n := 256) (by decide) (by decide)) ?_
  rintro ⟨y, q2⟩ ⟨h4, h5, h6⟩
  obtain ⟨y, rfl⟩ := Int.eq_ofNat_of_zero_le h4
  simp only at h5 h6 ⊢
  have hy : y < 1024 := by omega
  have hxy : x &&& y < 1024 := Sub.lt10 (Sub.and_left _ _) hx
  refine Tot.bindE (restrict_ev hx ms (by omega)) ?_
  refine Tot.bindE (greatest_ev (r_small hc) hy) ?_
  rw [bits_and_nat (lt1024 hx) (lt1024 hy)]
  refine Tot.bindE (greatest_ev hc hxy) ?_
  rw [r_great hx]
  refine Tot.pos rfl ?_
  refine Tot.bindE (quorum_ev (r_small hc) hy) ?_
  refine Tot.bindE (quorum_ev hc hy) ?_
  rw [r_quorum hx hy]
  have e : ((((x &&& y : Nat) : Int)) == (y : Int)) = decide (x &&& y = y) := by
    by_cases h : x &&& y = y
    · rw [h]; simp
    · have : ¬ (((x &&& y : Nat) : Int) = (y : Int)) := by omega
      rw [beq_eq_false_iff_ne.2 this, decide_eq_false h]
  refine Tot.ite (fun h => ?_) (fun h => ?_)
  · rw [h, e]
    exact Tot.pos (by simp) (Tot.bindE awake_ev (Tot.now rfl))
  · rw [Bool.eq_false_iff.2 h]
    exact Tot.pos (by simp) (Tot.bindE awake_ev (Tot.now rfl))
end Go.Proofs.Ytoofabolcbbjnaa.Pure
