/-
  NARROWER THAN 'FOR EVERY INPUT', by the rows' own cells (each row's printed sentence says how): ClosureAnswers: loops.
  DERIVED. THE GIVEN ROWS OF THIS SEAT. 5 by the template 'for every input the law returns true; each argument reads behind the call as it read before'; 0 by the template 'total and deterministic' (their statements: YtoofabolcbbjnaaTotals.lean).
  GIVEN WITH THE SEED: the statements are not yours to turn. If you find one false, say at which input.
  Laid BY PROGRAM, IN A SANDBOX (cutbox-rows.mjs): the forced cells as the released guide's own fill.sh prints them over the translation d470819e40ce9daf… (all of the seat's roots in one cut). By AI agents, Wed Nov 11 2026. No macro, syntax, notation, axiom, sorry.
-/
import Derived.Test.YtoofabolcbbjnaaChecked
import GoSem.Claim
import GoSem.ClaimJoined
import GoSem.ClaimMapViews
import Derived.JoinedTies
import Derived.KernelRfl
namespace Go.Proofs.Ytoofabolcbbjnaa
/- THE CELL 'sum', in the pinned program and in every row, IS THE sha256 OF THE DUMP (.gsa) THAT YtoofabolcbbjnaaProg.lean LOADS. Nothing in Lean hashes anything: it is a label: what it is worth is what the hold of that sum in a sandbox is worth. -/
noncomputable def Try.pinned : Pinned := { name := "ytoofabolcbbjnaa", sum := "d470819e40ce9daf83bf5a713e055ae83cd4155d0104d9019e7f6b658a4dd161", checked := Try.checked }
namespace Rows
def none {H : Type} : Left H := { results := [], args := [] }

/-- 'trustquorumlaw09.ClosureAnswers': WHATEVER THE INPUT: true; the input reads as it did. -/
def closureAnswersSpec : ChangeSpec := { name := "closureAnswers", fn := fun _ => fun
  | [d1, d2, d3, d4] => { results := [.lit (.bool true)], args := [d1, d2, d3, d4] }
  | _ => none }
def closureAnswersRow : OpenClaim := { program := "ytoofabolcbbjnaa", sum := "d470819e40ce9daf83bf5a713e055ae83cd4155d0104d9019e7f6b658a4dd161", func := "trustquorum/trustquorumlaw09.ClosureAnswers", spec := "closureAnswers", recurses := true, loops := true, apart := false }
def ClosureAnswersSaid : Prop := closureAnswersRow.holds Try.pinned (OpenSpec.ofChange closureAnswersSpec)

/-- ITS FALSE NEIGHBOUR: 'it returns false'. Refute it at one input. -/
def closureAnswersWrong : ChangeSpec := { name := "closureAnswers", fn := fun _ => fun
  | [d1, d2, d3, d4] => { results := [.lit (.bool false)], args := [d1, d2, d3, d4] }
  | _ => none }
def ClosureAnswersWrongFalsely : Prop := closureAnswersRow.holds Try.pinned (OpenSpec.ofChange closureAnswersWrong)

/-- 'trustquorumlaw09.ClosureGreatest': WHATEVER THE INPUT: true; the input reads as it did. -/
def closureGreatestSpec : ChangeSpec := { name := "closureGreatest", fn := fun _ => fun
  | [d] => { results := [.lit (.bool true)], args := [d] }
  | _ => none }
def closureGreatestRow : OpenClaim := { program := "ytoofabolcbbjnaa", sum := "d470819e40ce9daf83bf5a713e055ae83cd4155d0104d9019e7f6b658a4dd161", func := "trustquorum/trustquorumlaw09.ClosureGreatest", spec := "closureGreatest", recurses := true, apart := false }
def ClosureGreatestSaid : Prop := closureGreatestRow.holds Try.pinned (OpenSpec.ofChange closureGreatestSpec)

/-- ITS FALSE NEIGHBOUR: 'it returns false'. Refute it at one input. -/
def closureGreatestWrong : ChangeSpec := { name := "closureGreatest", fn := fun _ => fun
  | [d] => { results := [.lit (.bool false)], args := [d] }
  | _ => none }
def ClosureGreatestWrongFalsely : Prop := closureGreatestRow.holds Try.pinned (OpenSpec.ofChange closureGreatestWrong)

/-- 'trustquorumlaw09.ClosureUnion': WHATEVER THE INPUT: true; the input reads as it did. -/
def closureUnionSpec : ChangeSpec := { name := "closureUnion", fn := fun _ => fun
  | [d] => { results := [.lit (.bool true)], args := [d] }
  | _ => none }
def closureUnionRow : OpenClaim := { program := "ytoofabolcbbjnaa", sum := "d470819e40ce9daf83bf5a713e055ae83cd4155d0104d9019e7f6b658a4dd161", func := "trustquorum/trustquorumlaw09.ClosureUnion", spec := "closureUnion", recurses := true, apart := false }
def ClosureUnionSaid : Prop := closureUnionRow.holds Try.pinned (OpenSpec.ofChange closureUnionSpec)

/-- ITS FALSE NEIGHBOUR: 'it returns false'. Refute it at one input. -/
def closureUnionWrong : ChangeSpec := { name := "closureUnion", fn := fun _ => fun
  | [d] => { results := [.lit (.bool false)], args := [d] }
  | _ => none }
def ClosureUnionWrongFalsely : Prop := closureUnionRow.holds Try.pinned (OpenSpec.ofChange closureUnionWrong)

/-- 'trustquorumlaw09.ClosureOrders': WHATEVER THE INPUT: true; the input reads as it did. -/
def closureOrdersSpec : ChangeSpec := { name := "closureOrders", fn := fun _ => fun
  | [d] => { results := [.lit (.bool true)], args := [d] }
  | _ => none }
def closureOrdersRow : OpenClaim := { program := "ytoofabolcbbjnaa", sum := "d470819e40ce9daf83bf5a713e055ae83cd4155d0104d9019e7f6b658a4dd161", func := "trustquorum/trustquorumlaw09.ClosureOrders", spec := "closureOrders", recurses := true, apart := false }
def ClosureOrdersSaid : Prop := closureOrdersRow.holds Try.pinned (OpenSpec.ofChange closureOrdersSpec)

/-- ITS FALSE NEIGHBOUR: 'it returns false'. Refute it at one input. -/
def closureOrdersWrong : ChangeSpec := { name := "closureOrders", fn := fun _ => fun
  | [d] => { results := [.lit (.bool false)], args := [d] }
  | _ => none }
def ClosureOrdersWrongFalsely : Prop := closureOrdersRow.holds Try.pinned (OpenSpec.ofChange closureOrdersWrong)

/-- 'trustquorumlaw09.ClosureRestricts': WHATEVER THE INPUT: true; the input reads as it did. -/
def closureRestrictsSpec : ChangeSpec := { name := "closureRestricts", fn := fun _ => fun
  | [d] => { results := [.lit (.bool true)], args := [d] }
  | _ => none }
def closureRestrictsRow : OpenClaim := { program := "ytoofabolcbbjnaa", sum := "d470819e40ce9daf83bf5a713e055ae83cd4155d0104d9019e7f6b658a4dd161", func := "trustquorum/trustquorumlaw09.ClosureRestricts", spec := "closureRestricts", recurses := true, apart := false }
def ClosureRestrictsSaid : Prop := closureRestrictsRow.holds Try.pinned (OpenSpec.ofChange closureRestrictsSpec)

/-- ITS FALSE NEIGHBOUR: 'it returns false'. Refute it at one input. -/
def closureRestrictsWrong : ChangeSpec := { name := "closureRestricts", fn := fun _ => fun
  | [d] => { results := [.lit (.bool false)], args := [d] }
  | _ => none }
def ClosureRestrictsWrongFalsely : Prop := closureRestrictsRow.holds Try.pinned (OpenSpec.ofChange closureRestrictsWrong)

/- THE SECOND FORM. 'bulk': how many values and letters a reading holds, each counted each time it is reached (what is shared counts as often as it is met; a slice's spare places count too). A statement '..UptoSaid' is the law's where the arguments, and the package variables that the reading takes, are together of bulk at most 1048576: NARROWER than '..Said'. Prove '..Said' where nothing that the law and all that it calls make is longer than what came in: it says more and counts as full. Else prove '..UptoSaid'. A law counts once. -/
mutual
def uptoBulk {H : Type} : DataW H → Nat
  | .lit (.string bytes) => bytes.length + 1
  | .lit _ => 1
  | .nil => 1
  | .ptr d => uptoBulk d + 1
  | .slice elems spare => uptoBulkAll elems + uptoBulkAll spare + 1
  | .agg parts => uptoBulkAll parts + 1
  | .iface _ d => uptoBulk d + 1
  | .map entries => uptoBulkEntries entries + 1
  | .held _ => 1
def uptoBulkAll {H : Type} : List (DataW H) → Nat
  | [] => 0
  | d :: r => uptoBulk d + uptoBulkAll r
def uptoBulkEntries {H : Type} : List (Lit × DataW H) → Nat
  | [] => 0
  | x :: r => uptoBulkEntry x + uptoBulkEntries r
def uptoBulkEntry {H : Type} : Lit × DataW H → Nat
  | (.string bytes, d) => bytes.length + uptoBulk d + 1
  | (_, d) => uptoBulk d + 1
 end
def uptoSmall : (H : Type) → List (DataW H) → Bool := fun _ ds => decide (uptoBulkAll ds ≤ 1048576)
def OpenSpec.upto (s : _root_.Go.ChangeSpec) : _root_.Go.OpenSpec := { _root_.Go.OpenSpec.ofChange s with cond := some uptoSmall }

/-- 'trustquorumlaw09.ClosureAnswers', WHERE WHAT IT READS IS OF BULK AT MOST 1048576: true; the input reads as it did. -/
def closureAnswersUptoRow : OpenClaim := { program := "ytoofabolcbbjnaa", sum := "d470819e40ce9daf83bf5a713e055ae83cd4155d0104d9019e7f6b658a4dd161", func := "trustquorum/trustquorumlaw09.ClosureAnswers", spec := "closureAnswers", recurses := true, loops := true, apart := false, narrowed := true }
def ClosureAnswersUptoSaid : Prop := closureAnswersUptoRow.holds Try.pinned (OpenSpec.upto closureAnswersSpec)

/-- 'trustquorumlaw09.ClosureGreatest', WHERE WHAT IT READS IS OF BULK AT MOST 1048576: true; the input reads as it did. -/
def closureGreatestUptoRow : OpenClaim := { program := "ytoofabolcbbjnaa", sum := "d470819e40ce9daf83bf5a713e055ae83cd4155d0104d9019e7f6b658a4dd161", func := "trustquorum/trustquorumlaw09.ClosureGreatest", spec := "closureGreatest", recurses := true, apart := false, narrowed := true }
def ClosureGreatestUptoSaid : Prop := closureGreatestUptoRow.holds Try.pinned (OpenSpec.upto closureGreatestSpec)

/-- 'trustquorumlaw09.ClosureUnion', WHERE WHAT IT READS IS OF BULK AT MOST 1048576: true; the input reads as it did. -/
def closureUnionUptoRow : OpenClaim := { program := "ytoofabolcbbjnaa", sum := "d470819e40ce9daf83bf5a713e055ae83cd4155d0104d9019e7f6b658a4dd161", func := "trustquorum/trustquorumlaw09.ClosureUnion", spec := "closureUnion", recurses := true, apart := false, narrowed := true }
def ClosureUnionUptoSaid : Prop := closureUnionUptoRow.holds Try.pinned (OpenSpec.upto closureUnionSpec)

/-- 'trustquorumlaw09.ClosureOrders', WHERE WHAT IT READS IS OF BULK AT MOST 1048576: true; the input reads as it did. -/
def closureOrdersUptoRow : OpenClaim := { program := "ytoofabolcbbjnaa", sum := "d470819e40ce9daf83bf5a713e055ae83cd4155d0104d9019e7f6b658a4dd161", func := "trustquorum/trustquorumlaw09.ClosureOrders", spec := "closureOrders", recurses := true, apart := false, narrowed := true }
def ClosureOrdersUptoSaid : Prop := closureOrdersUptoRow.holds Try.pinned (OpenSpec.upto closureOrdersSpec)

/-- 'trustquorumlaw09.ClosureRestricts', WHERE WHAT IT READS IS OF BULK AT MOST 1048576: true; the input reads as it did. -/
def closureRestrictsUptoRow : OpenClaim := { program := "ytoofabolcbbjnaa", sum := "d470819e40ce9daf83bf5a713e055ae83cd4155d0104d9019e7f6b658a4dd161", func := "trustquorum/trustquorumlaw09.ClosureRestricts", spec := "closureRestricts", recurses := true, apart := false, narrowed := true }
def ClosureRestrictsUptoSaid : Prop := closureRestrictsUptoRow.holds Try.pinned (OpenSpec.upto closureRestrictsSpec)

end Rows
end Go.Proofs.Ytoofabolcbbjnaa
