/- The reference's check of a trust comes to the pure answer; conditions: no more than 2^40 entries. -/
import Derived.Test.YtkkbdimegpdbgaaQuM2
import Derived.Test.YtkkbdimegpdbgaaQuPx12
import Derived.Test.YtkkbdimegpdbgaaQuPx13
import Derived.Test.YtkkbdimegpdbgaaQuPx14
namespace Go.Proofs.Ytkkbdimegpdbgaa.P
open Go.RowKit Go.Proofs.YtkkbdimegpdbgaaW.PrintWords Go.Proofs.YtkkbdimegpdbgaaW.PrintLast Go.Proofs.YtkkbdimegpdbgaaW.PrintMore
set_option linter.unusedVariables false
set_option linter.unusedSimpArgs false
mutual

def sizeT : S56 → Nat
  | ⟨_, ns, inner⟩ => ns.length + inner.length + sizeL inner
def sizeL : List S56 → Nat
  | [] => 0
  | x :: xs => sizeT x + sizeL xs
end
mutual

def depthT : S56 → Nat
  | ⟨_, _, inner⟩ => depthL inner + 1
def depthL : List S56 → Nat
  | [] => 0
  | x :: xs => max (depthT x) (depthL xs)
end
theorem sizeL_append : ∀ a b : List S56, sizeL (a ++ b) = sizeL a + sizeL b
  | [], b => by simp [sizeL]
  | x :: a, b => by rw [List.cons_append, sizeL, sizeL_append a b, sizeL]; omega
theorem sizeL_drop (xs : List S56) (i : Nat) (h : i < xs.length) : sizeL (xs.drop i) = sizeT xs[i] + sizeL (xs.drop (i + 1)) := by rw [List.drop_eq_getElem_cons h, sizeL]
theorem sizeL_drop_le (xs : List S56) (i : Nat) : sizeL (xs.drop i) ≤ sizeL xs := by
  have := sizeL_append (xs.take i) (xs.drop i)
  rw [List.take_append_drop] at this
  omega
mutual
theorem smallT_of_size : ∀ t : S56, sizeT t ≤ 1099511627776 → SmallT t
  | ⟨th, ns, inner⟩, h => by
    rw [sizeT] at h
    exact SmallT.mk th ns inner (by omega) (by omega) (smallL_of_size inner (by omega))
theorem smallL_of_size : ∀ xs : List S56, sizeL xs ≤ 1099511627776 → ∀ x ∈ xs, SmallT x
  | [], _, x, hx => by cases hx
  | y :: ys, h, x, hx => by
    rw [sizeL] at h
    rcases List.mem_cons.1 hx with e | hx
    · rw [e]; exact smallT_of_size y (by omega)
    · exact smallL_of_size ys (by omega) x hx
end
mutual
theorem depthT_le : ∀ t : S56, depthT t ≤ sizeT t + 1
  | ⟨th, ns, inner⟩ => by
    rw [sizeT, depthT]
    have := depthL_le inner
    omega
theorem depthL_le : ∀ xs : List S56, depthL xs ≤ xs.length + sizeL xs
  | [] => by simp [depthL]
  | x :: xs => by
    rw [depthL, sizeL, List.length_cons]
    have h1 := depthT_le x
    have h2 := depthL_le xs
    omega
end
def dupOf : List Int → Bool
  | [] => false
  | x :: xs => xs.contains x || dupOf xs
theorem dupOf_false : ∀ {l : List Int}, dupOf l = false ↔ l.Nodup
  | [] => by simp [dupOf]
  | x :: xs => by
    rw [dupOf, Bool.or_eq_false_iff, dupOf_false, List.nodup_cons]
    simp
mutual

def checkT : S56 → Int
  | ⟨th, ns, inner⟩ => if th < 1 ∨ th > (ns.length : Int) + (inner.length : Int) then 4 else if ns.any (fun k => decide (k < 0) || decide (k ≥ 10)) = true then 5 else if dupOf ns = true then 6 else checkL inner
def checkL : List S56 → Int
  | [] => 0
  | x :: xs => if checkT x = 0 then checkL xs else checkT x
end
def validT (t : S56) : Int := if depthT t > 4 then 3 else if sizeT t > 200 then 3 else checkT t
theorem hasI_or {s : Nat} {k x : Int} (hk : 0 ≤ k) : hasI (s ||| 2 ^ k.toNat) x = (hasI s x || decide (x = k)) := by
  unfold hasI
  rw [or_pow_bit]
  by_cases h0 : 0 ≤ x
  · have : (x.toNat = k.toNat) ↔ x = k := by omega
    simp [h0, this]
  · have : ¬ x = k := by omega
    simp [h0, this]
end Go.Proofs.Ytkkbdimegpdbgaa.P
