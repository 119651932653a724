/- How an argument that is a trust, a member, a configuration or a search tree reads: out of the reading that the row gives, the row of the printed walks; conditions: none. -/
import Derived.Test.YtoofabolcbbjnaaQaPx0
import Derived.ChangeArms
import Derived.DataReads
import Derived.WideShapes
namespace Go.Proofs.Ytoofabolcbbjnaa.P
open Go.RowKit Go.Proofs.YtoofabolcbbjnaaW.PrintWords Go.Proofs.YtoofabolcbbjnaaW.PrintLast Go.Proofs.YtoofabolcbbjnaaW.PrintMore
open Go.WideShapes
set_option linter.unusedVariables false
set_option linter.unusedSimpArgs false
section
variable {H : Type} {enc : TypeId × Value → H} {w : World} {base : Nat} {spare : Nat → Bool} {held : Bool}
theorem add_add' (a : Addr) (i j : Nat) : (a.add i).add j = a.add (i + j) := by
  obtain ⟨b, o, r⟩ := a
  unfold Addr.add
  by_cases hi : i = 0
  · subst hi; simp
  · by_cases hj : j = 0
    · subst hj; simp [hi]
    · simp [hi, hj, Nat.add_assoc]
theorem int_each {n : Nat} {cs : List Value} {y : DataW H × List MemPlace} (h : DataW.trod enc Try.prog w base spare held n 3 cs = some y) : ∃ z : Int, (Kd.int .i64).K w z cs := by
  obtain ⟨m, rfl, _⟩ := DataW.trod_int Try.underlying3 h
  exact ⟨m, rfl⟩
theorem list3 {l : List Value} (h : l.length = 3) : ∃ a b c, l = [a, b, c] := by
  match l, h with
  | [a, b, c], _ => exact ⟨a, b, c, rfl⟩
theorem list4 {l : List Value} (h : l.length = 4) : ∃ a b c d, l = [a, b, c, d] := by
  match l, h with
  | [a, b, c, d], _ => exact ⟨a, b, c, d, rfl⟩
theorem list1 {l : List Value} (h : l.length = 1) : ∃ a, l = [a] := by
  match l, h with
  | [a], _ => exact ⟨a, rfl⟩
set_option maxRecDepth 100000 in
theorem bool_each {n : Nat} {a : Value} {y : DataW H × List MemPlace} (h : DataW.trod enc Try.prog w base spare held n 4 [a] = some y) : ∃ b : Bool, a = .bool b := by
  cases n with
  | zero => simp [DataW.trod] at h
  | succ n =>
    unfold DataW.trod at h
    rw [Try.underlying4] at h
    split at h <;> simp_all
end
theorem heap49 : Kd.Heap k49 := Kd.heap_fix (fun d hd => Kd.heap_iso _ (Kd.heap_pair (Kd.heap_int _) (Kd.heap_pair (Kd.heap_slice 3 (Kd.heap_int _)) (Kd.heap_slice 49 hd))))
theorem heap51 : Kd.Heap k51 := Kd.heap_iso _ (Kd.heap_pair Kd.heap_bool heap49)
end Go.Proofs.Ytoofabolcbbjnaa.P
