/-
  NARROWER THAN 'FOR EVERY INPUT', by the rows' own cells (each row's printed sentence says how): EvalExprTells: loops.
  DERIVED. THE GIVEN ROWS OF THIS SEAT. 7 by the template 'for every input the law returns true; each argument reads behind the call as it read before'; 0 by the template 'total and deterministic' (their statements: YtgoefoilghjfhaaTotals.lean).
  GIVEN WITH THE SEED: the statements are not yours to turn. If you find one false, say at which input.
  Laid BY PROGRAM, IN A SANDBOX (cutbox-rows.mjs): the forced cells as the released guide's own fill.sh prints them over the translation 94338ce45829dd01… (all of the seat's roots in one cut). By AI agents, Wed Nov 11 2026. No macro, syntax, notation, axiom, sorry.
-/
import Derived.Test.YtgoefoilghjfhaaChecked
import GoSem.Claim
import GoSem.ClaimJoined
import GoSem.ClaimMapViews
import Derived.JoinedTies
import Derived.KernelRfl
namespace Go.Proofs.Ytgoefoilghjfhaa
/- THE CELL 'sum', in the pinned program and in every row, IS THE sha256 OF THE DUMP (.gsa) THAT YtgoefoilghjfhaaProg.lean LOADS. Nothing in Lean hashes anything: it is a label: what it is worth is what the hold of that sum in a sandbox is worth. -/
noncomputable def Try.pinned : Pinned := { name := "ytgoefoilghjfhaa", sum := "94338ce45829dd016fe86fbfb84a1431c6305b7fd171140b400e5ed458362986", checked := Try.checked }
namespace Rows
def none {H : Type} : Left H := { results := [], args := [] }

/-- 'interleavelaw05.EvalQuotients': WHATEVER THE INPUT: true; the input reads as it did. -/
def evalQuotientsSpec : ChangeSpec := { name := "evalQuotients", fn := fun _ => fun
  | [d1, d2] => { results := [.lit (.bool true)], args := [d1, d2] }
  | _ => none }
def evalQuotientsRow : OpenClaim := { program := "ytgoefoilghjfhaa", sum := "94338ce45829dd016fe86fbfb84a1431c6305b7fd171140b400e5ed458362986", func := "interleave/interleavelaw05.EvalQuotients", spec := "evalQuotients", apart := false }
def EvalQuotientsSaid : Prop := evalQuotientsRow.holds Try.pinned (OpenSpec.ofChange evalQuotientsSpec)

/-- ITS FALSE NEIGHBOUR: 'it returns false'. Refute it at one input. -/
def evalQuotientsWrong : ChangeSpec := { name := "evalQuotients", fn := fun _ => fun
  | [d1, d2] => { results := [.lit (.bool false)], args := [d1, d2] }
  | _ => none }
def EvalQuotientsWrongFalsely : Prop := evalQuotientsRow.holds Try.pinned (OpenSpec.ofChange evalQuotientsWrong)

/-- 'interleavelaw05.EvalTells': WHATEVER THE INPUT: true; the input reads as it did. -/
def evalTellsSpec : ChangeSpec := { name := "evalTells", fn := fun _ => fun
  | [d1, d2, d3] => { results := [.lit (.bool true)], args := [d1, d2, d3] }
  | _ => none }
def evalTellsRow : OpenClaim := { program := "ytgoefoilghjfhaa", sum := "94338ce45829dd016fe86fbfb84a1431c6305b7fd171140b400e5ed458362986", func := "interleave/interleavelaw05.EvalTells", spec := "evalTells", apart := false }
def EvalTellsSaid : Prop := evalTellsRow.holds Try.pinned (OpenSpec.ofChange evalTellsSpec)

/-- ITS FALSE NEIGHBOUR: 'it returns false'. Refute it at one input. -/
def evalTellsWrong : ChangeSpec := { name := "evalTells", fn := fun _ => fun
  | [d1, d2, d3] => { results := [.lit (.bool false)], args := [d1, d2, d3] }
  | _ => none }
def EvalTellsWrongFalsely : Prop := evalTellsRow.holds Try.pinned (OpenSpec.ofChange evalTellsWrong)

/-- 'interleavelaw05.EvalOrders': WHATEVER THE INPUT: true; the input reads as it did. -/
def evalOrdersSpec : ChangeSpec := { name := "evalOrders", fn := fun _ => fun
  | [d1, d2] => { results := [.lit (.bool true)], args := [d1, d2] }
  | _ => none }
def evalOrdersRow : OpenClaim := { program := "ytgoefoilghjfhaa", sum := "94338ce45829dd016fe86fbfb84a1431c6305b7fd171140b400e5ed458362986", func := "interleave/interleavelaw05.EvalOrders", spec := "evalOrders", apart := false }
def EvalOrdersSaid : Prop := evalOrdersRow.holds Try.pinned (OpenSpec.ofChange evalOrdersSpec)

/-- ITS FALSE NEIGHBOUR: 'it returns false'. Refute it at one input. -/
def evalOrdersWrong : ChangeSpec := { name := "evalOrders", fn := fun _ => fun
  | [d1, d2] => { results := [.lit (.bool false)], args := [d1, d2] }
  | _ => none }
def EvalOrdersWrongFalsely : Prop := evalOrdersRow.holds Try.pinned (OpenSpec.ofChange evalOrdersWrong)

/-- 'interleavelaw05.EvalRing': WHATEVER THE INPUT: true; the input reads as it did. -/
def evalRingSpec : ChangeSpec := { name := "evalRing", fn := fun _ => fun
  | [d1, d2, d3] => { results := [.lit (.bool true)], args := [d1, d2, d3] }
  | _ => none }
def evalRingRow : OpenClaim := { program := "ytgoefoilghjfhaa", sum := "94338ce45829dd016fe86fbfb84a1431c6305b7fd171140b400e5ed458362986", func := "interleave/interleavelaw05.EvalRing", spec := "evalRing", apart := false }
def EvalRingSaid : Prop := evalRingRow.holds Try.pinned (OpenSpec.ofChange evalRingSpec)

/-- ITS FALSE NEIGHBOUR: 'it returns false'. Refute it at one input. -/
def evalRingWrong : ChangeSpec := { name := "evalRing", fn := fun _ => fun
  | [d1, d2, d3] => { results := [.lit (.bool false)], args := [d1, d2, d3] }
  | _ => none }
def EvalRingWrongFalsely : Prop := evalRingRow.holds Try.pinned (OpenSpec.ofChange evalRingWrong)

/-- 'interleavelaw05.EvalIndexes': WHATEVER THE INPUT: true; the input reads as it did. -/
def evalIndexesSpec : ChangeSpec := { name := "evalIndexes", fn := fun _ => fun
  | [d1, d2] => { results := [.lit (.bool true)], args := [d1, d2] }
  | _ => none }
def evalIndexesRow : OpenClaim := { program := "ytgoefoilghjfhaa", sum := "94338ce45829dd016fe86fbfb84a1431c6305b7fd171140b400e5ed458362986", func := "interleave/interleavelaw05.EvalIndexes", spec := "evalIndexes", apart := false }
def EvalIndexesSaid : Prop := evalIndexesRow.holds Try.pinned (OpenSpec.ofChange evalIndexesSpec)

/-- ITS FALSE NEIGHBOUR: 'it returns false'. Refute it at one input. -/
def evalIndexesWrong : ChangeSpec := { name := "evalIndexes", fn := fun _ => fun
  | [d1, d2] => { results := [.lit (.bool false)], args := [d1, d2] }
  | _ => none }
def EvalIndexesWrongFalsely : Prop := evalIndexesRow.holds Try.pinned (OpenSpec.ofChange evalIndexesWrong)

/-- 'interleavelaw05.EvalExprTells': WHATEVER THE INPUT: true; the input reads as it did. -/
def evalExprTellsSpec : ChangeSpec := { name := "evalExprTells", fn := fun _ => fun
  | [d1, d2, d3, d4] => { results := [.lit (.bool true)], args := [d1, d2, d3, d4] }
  | _ => none }
def evalExprTellsRow : OpenClaim := { program := "ytgoefoilghjfhaa", sum := "94338ce45829dd016fe86fbfb84a1431c6305b7fd171140b400e5ed458362986", func := "interleave/interleavelaw05.EvalExprTells", spec := "evalExprTells", recurses := true, loops := true, apart := false }
def EvalExprTellsSaid : Prop := evalExprTellsRow.holds Try.pinned (OpenSpec.ofChange evalExprTellsSpec)

/-- ITS FALSE NEIGHBOUR: 'it returns false'. Refute it at one input. -/
def evalExprTellsWrong : ChangeSpec := { name := "evalExprTells", fn := fun _ => fun
  | [d1, d2, d3, d4] => { results := [.lit (.bool false)], args := [d1, d2, d3, d4] }
  | _ => none }
def EvalExprTellsWrongFalsely : Prop := evalExprTellsRow.holds Try.pinned (OpenSpec.ofChange evalExprTellsWrong)

/-- 'interleavelaw05.EvalSubstitutes': WHATEVER THE INPUT: true; the input reads as it did. -/
def evalSubstitutesSpec : ChangeSpec := { name := "evalSubstitutes", fn := fun _ => fun
  | [d1, d2] => { results := [.lit (.bool true)], args := [d1, d2] }
  | _ => none }
def evalSubstitutesRow : OpenClaim := { program := "ytgoefoilghjfhaa", sum := "94338ce45829dd016fe86fbfb84a1431c6305b7fd171140b400e5ed458362986", func := "interleave/interleavelaw05.EvalSubstitutes", spec := "evalSubstitutes", recurses := true, apart := false }
def EvalSubstitutesSaid : Prop := evalSubstitutesRow.holds Try.pinned (OpenSpec.ofChange evalSubstitutesSpec)

/-- ITS FALSE NEIGHBOUR: 'it returns false'. Refute it at one input. -/
def evalSubstitutesWrong : ChangeSpec := { name := "evalSubstitutes", fn := fun _ => fun
  | [d1, d2] => { results := [.lit (.bool false)], args := [d1, d2] }
  | _ => none }
def EvalSubstitutesWrongFalsely : Prop := evalSubstitutesRow.holds Try.pinned (OpenSpec.ofChange evalSubstitutesWrong)

/- THE SECOND FORM. 'bulk': how many values and letters a reading holds, each counted each time it is reached (what is shared counts as often as it is met; a slice's spare places count too). A statement '..UptoSaid' is the law's where the arguments, and the package variables that the reading takes, are together of bulk at most 1048576: NARROWER than '..Said'. Prove '..Said' where nothing that the law and all that it calls make is longer than what came in: it says more and counts as full. Else prove '..UptoSaid'. A law counts once. -/
mutual
def uptoBulk {H : Type} : DataW H → Nat
  | .lit (.string bytes) => bytes.length + 1
  | .lit _ => 1
  | .nil => 1
  | .ptr d => uptoBulk d + 1
  | .slice elems spare => uptoBulkAll elems + uptoBulkAll spare + 1
  | .agg parts => uptoBulkAll parts + 1
  | .iface _ d => uptoBulk d + 1
  | .map entries => uptoBulkEntries entries + 1
  | .held _ => 1
def uptoBulkAll {H : Type} : List (DataW H) → Nat
  | [] => 0
  | d :: r => uptoBulk d + uptoBulkAll r
def uptoBulkEntries {H : Type} : List (Lit × DataW H) → Nat
  | [] => 0
  | x :: r => uptoBulkEntry x + uptoBulkEntries r
def uptoBulkEntry {H : Type} : Lit × DataW H → Nat
  | (.string bytes, d) => bytes.length + uptoBulk d + 1
  | (_, d) => uptoBulk d + 1
 end
def uptoSmall : (H : Type) → List (DataW H) → Bool := fun _ ds => decide (uptoBulkAll ds ≤ 1048576)
def OpenSpec.upto (s : _root_.Go.ChangeSpec) : _root_.Go.OpenSpec := { _root_.Go.OpenSpec.ofChange s with cond := some uptoSmall }

/-- 'interleavelaw05.EvalQuotients', WHERE WHAT IT READS IS OF BULK AT MOST 1048576: true; the input reads as it did. -/
def evalQuotientsUptoRow : OpenClaim := { program := "ytgoefoilghjfhaa", sum := "94338ce45829dd016fe86fbfb84a1431c6305b7fd171140b400e5ed458362986", func := "interleave/interleavelaw05.EvalQuotients", spec := "evalQuotients", apart := false, narrowed := true }
def EvalQuotientsUptoSaid : Prop := evalQuotientsUptoRow.holds Try.pinned (OpenSpec.upto evalQuotientsSpec)

/-- 'interleavelaw05.EvalTells', WHERE WHAT IT READS IS OF BULK AT MOST 1048576: true; the input reads as it did. -/
def evalTellsUptoRow : OpenClaim := { program := "ytgoefoilghjfhaa", sum := "94338ce45829dd016fe86fbfb84a1431c6305b7fd171140b400e5ed458362986", func := "interleave/interleavelaw05.EvalTells", spec := "evalTells", apart := false, narrowed := true }
def EvalTellsUptoSaid : Prop := evalTellsUptoRow.holds Try.pinned (OpenSpec.upto evalTellsSpec)

/-- 'interleavelaw05.EvalOrders', WHERE WHAT IT READS IS OF BULK AT MOST 1048576: true; the input reads as it did. -/
def evalOrdersUptoRow : OpenClaim := { program := "ytgoefoilghjfhaa", sum := "94338ce45829dd016fe86fbfb84a1431c6305b7fd171140b400e5ed458362986", func := "interleave/interleavelaw05.EvalOrders", spec := "evalOrders", apart := false, narrowed := true }
def EvalOrdersUptoSaid : Prop := evalOrdersUptoRow.holds Try.pinned (OpenSpec.upto evalOrdersSpec)

/-- 'interleavelaw05.EvalRing', WHERE WHAT IT READS IS OF BULK AT MOST 1048576: true; the input reads as it did. -/
def evalRingUptoRow : OpenClaim := { program := "ytgoefoilghjfhaa", sum := "94338ce45829dd016fe86fbfb84a1431c6305b7fd171140b400e5ed458362986", func := "interleave/interleavelaw05.EvalRing", spec := "evalRing", apart := false, narrowed := true }
def EvalRingUptoSaid : Prop := evalRingUptoRow.holds Try.pinned (OpenSpec.upto evalRingSpec)

/-- 'interleavelaw05.EvalIndexes', WHERE WHAT IT READS IS OF BULK AT MOST 1048576: true; the input reads as it did. -/
def evalIndexesUptoRow : OpenClaim := { program := "ytgoefoilghjfhaa", sum := "94338ce45829dd016fe86fbfb84a1431c6305b7fd171140b400e5ed458362986", func := "interleave/interleavelaw05.EvalIndexes", spec := "evalIndexes", apart := false, narrowed := true }
def EvalIndexesUptoSaid : Prop := evalIndexesUptoRow.holds Try.pinned (OpenSpec.upto evalIndexesSpec)

/-- 'interleavelaw05.EvalExprTells', WHERE WHAT IT READS IS OF BULK AT MOST 1048576: true; the input reads as it did. -/
def evalExprTellsUptoRow : OpenClaim := { program := "ytgoefoilghjfhaa", sum := "94338ce45829dd016fe86fbfb84a1431c6305b7fd171140b400e5ed458362986", func := "interleave/interleavelaw05.EvalExprTells", spec := "evalExprTells", recurses := true, loops := true, apart := false, narrowed := true }
def EvalExprTellsUptoSaid : Prop := evalExprTellsUptoRow.holds Try.pinned (OpenSpec.upto evalExprTellsSpec)

/-- 'interleavelaw05.EvalSubstitutes', WHERE WHAT IT READS IS OF BULK AT MOST 1048576: true; the input reads as it did. -/
def evalSubstitutesUptoRow : OpenClaim := { program := "ytgoefoilghjfhaa", sum := "94338ce45829dd016fe86fbfb84a1431c6305b7fd171140b400e5ed458362986", func := "interleave/interleavelaw05.EvalSubstitutes", spec := "evalSubstitutes", recurses := true, apart := false, narrowed := true }
def EvalSubstitutesUptoSaid : Prop := evalSubstitutesUptoRow.holds Try.pinned (OpenSpec.upto evalSubstitutesSpec)

end Rows
end Go.Proofs.Ytgoefoilghjfhaa
