/- A search tree that came in is small if SmallTrace says so; conditions: none. -/
import Derived.Test.YtkkbdimegpdbgaaQsM13
import Derived.Test.YtkkbdimegpdbgaaQsPx18
namespace Go.Proofs.Ytkkbdimegpdbgaa.P
open Go.RowKit Go.Proofs.YtkkbdimegpdbgaaW.PrintWords Go.Proofs.YtkkbdimegpdbgaaW.PrintLast Go.Proofs.YtkkbdimegpdbgaaW.PrintMore
set_option linter.unusedVariables false
set_option linter.unusedSimpArgs false
def BrP (n s : Nat) (r : Int) : Prop := ∃ m : Nat, r = (m : Int) ∧ n ≤ m ∧ m ≤ 601 ∧ (m ≤ 600 → m = n + s)
theorem branches_l0 {kids : List S28} (a b : Int) (n : Nat) (ih : ∀ y ∈ kids, ∀ n : Nat, n ≤ 600 → Tot (fun k => jL.f k y.f0 y.f1 y.f2 (n : Int)) (fun r => BrP n (sizeX y) r ∧ (n : Int) < r)) :
    ∀ (d i m : Nat), kids.length - i = d → i ≤ kids.length → m ≤ 601 → i ≤ m → Tot (fun k => jL.l0 k (m : Int) (i : Int) a b kids) (BrP m (sizeXL (kids.drop i))) := by
  intro d
  induction d with
  | zero =>
    intro i m hd hi hm him
    refine Tot.step (fun k => by rw [jL.l0]) ?_
    rw [List.drop_eq_nil_of_le (by omega)]
    exact Tot.neg (by omega) (Tot.now ⟨m, rfl, Nat.le_refl _, hm, fun _ => by simp [sizeXL]⟩)
  | succ d ihd =>
    intro i m hd hi hm him
    have hlt : i < kids.length := by omega
    have he := sizeXL_drop kids i hlt
    refine Tot.step (fun k => by rw [jL.l0]) ?_
    refine Tot.pos (by omega) ?_
    by_cases h6 : m ≤ 600
    · refine Tot.pos (by omega) (Tot.pos (by omega) ?_)
      rw [rdK_get hlt]
      refine Tot.bind (ih _ (List.getElem_mem hlt) m h6) ?_
      rintro r ⟨⟨m', rfl, h1, h2, h3⟩, h4⟩
      rw [succ64 (by omega)]
      refine (ihd (i + 1) m' (by omega) (by omega) h2 (by omega)).mono ?_
      rintro r ⟨m2, rfl, g1, g2, g3⟩
      exact ⟨m2, rfl, by omega, g2, fun h => by have := g3 h; have := h3 (by omega); omega⟩
    · exact Tot.neg (by omega) (Tot.now ⟨m, rfl, Nat.le_refl _, hm, fun h => absurd h h6⟩)
theorem branches_tot : ∀ (N : Nat) (x : S28), sizeX x ≤ N → ∀ n : Nat, n ≤ 600 → Tot (fun k => jL.f k x.f0 x.f1 x.f2 (n : Int)) (fun r => BrP n (sizeX x) r ∧ (n : Int) < r) := by
  intro N
  induction N with
  | zero => intro x hx; have := sizeX_pos x; omega
  | succ N ih =>
    rintro ⟨a, b, kids⟩ hx n hn
    rw [sizeX] at hx
    refine Tot.step (fun k => by rw [jL.f]) ?_
    rw [succ64 (by omega)]
    have hk : ∀ y ∈ kids, sizeX y ≤ N := by
      intro y hy
      obtain ⟨i, hi, rfl⟩ := List.getElem_of_mem hy
      have h1 := sizeXL_drop kids i hi
      have h2 := sizeXL_drop_le kids i
      omega
    refine (branches_l0 a b n (fun y hy => ih y (hk y hy)) kids.length 0 (n + 1) (by omega) (by omega) (by omega) (by omega)).mono ?_
    rintro r ⟨m, rfl, h1, h2, h3⟩
    refine ⟨⟨m, rfl, by omega, h2, fun h => ?_⟩, by omega⟩
    have := h3 h
    rw [List.drop_zero] at this
    rw [sizeX]
    omega
theorem smallTrace_tot (x : S28) : Tot (fun k => uI.f k x.f0 x.f1 x.f2) (fun r => r = true → sizeX x ≤ 600) := by
  unfold uI.f
  refine Tot.bind (branches_tot _ x (Nat.le_refl _) 0 (by omega)) ?_
  rintro r ⟨⟨m, rfl, h1, h2, h3⟩, _⟩
  refine Tot.now fun h => ?_
  have : (m : Int) ≤ 600 := of_decide_eq_true h
  have := h3 (by omega)
  omega
end Go.Proofs.Ytkkbdimegpdbgaa.P
