/-
  No cell of these rows narrows 'for every input' (looked for: loops, veiled, ifaces, maps, wideKeys, modest, calm, conditions, laid).
  DERIVED. THE GIVEN ROWS OF THIS SEAT. 9 by the template 'for every input the law returns true; each argument reads behind the call as it read before'; 0 by the template 'total and deterministic' (their statements: YthdjddpomaendaaTotals.lean).
  GIVEN WITH THE SEED: the statements are not yours to turn. If you find one false, say at which input.
  Laid BY PROGRAM, IN A SANDBOX (cutbox-rows.mjs): the forced cells as the released guide's own fill.sh prints them over the translation c1da4a29cdb4e2e8… (all of the seat's roots in one cut). By AI agents, Wed Nov 11 2026. No macro, syntax, notation, axiom, sorry.
-/
import Derived.Test.YthdjddpomaendaaChecked
import GoSem.Claim
import GoSem.ClaimJoined
import GoSem.ClaimMapViews
import Derived.JoinedTies
import Derived.KernelRfl
namespace Go.Proofs.Ythdjddpomaendaa
/- THE CELL 'sum', in the pinned program and in every row, IS THE sha256 OF THE DUMP (.gsa) THAT YthdjddpomaendaaProg.lean LOADS. Nothing in Lean hashes anything: it is a label: what it is worth is what the hold of that sum in a sandbox is worth. -/
noncomputable def Try.pinned : Pinned := { name := "ythdjddpomaendaa", sum := "c1da4a29cdb4e2e8eb8ea96e3a81eb4e95e56a555f15a305d70a3b8c83800c12", checked := Try.checked }
namespace Rows
def none {H : Type} : Left H := { results := [], args := [] }

/-- 'bulkheadlaw1.WordSums': WHATEVER THE INPUT: true; the input reads as it did. -/
def wordSumsSpec : ChangeSpec := { name := "wordSums", fn := fun _ => fun
  | [d1, d2, d3] => { results := [.lit (.bool true)], args := [d1, d2, d3] }
  | _ => none }
def wordSumsRow : OpenClaim := { program := "ythdjddpomaendaa", sum := "c1da4a29cdb4e2e8eb8ea96e3a81eb4e95e56a555f15a305d70a3b8c83800c12", func := "bulkhead/bulkheadlaw1.WordSums", spec := "wordSums", apart := false }
def WordSumsSaid : Prop := wordSumsRow.holds Try.pinned (OpenSpec.ofChange wordSumsSpec)

/-- ITS FALSE NEIGHBOUR: 'it returns false'. Refute it at one input. -/
def wordSumsWrong : ChangeSpec := { name := "wordSums", fn := fun _ => fun
  | [d1, d2, d3] => { results := [.lit (.bool false)], args := [d1, d2, d3] }
  | _ => none }
def WordSumsWrongFalsely : Prop := wordSumsRow.holds Try.pinned (OpenSpec.ofChange wordSumsWrong)

/-- 'bulkheadlaw1.WordKin': WHATEVER THE INPUT: true; the input reads as it did. -/
def wordKinSpec : ChangeSpec := { name := "wordKin", fn := fun _ => fun
  | [d1, d2] => { results := [.lit (.bool true)], args := [d1, d2] }
  | _ => none }
def wordKinRow : OpenClaim := { program := "ythdjddpomaendaa", sum := "c1da4a29cdb4e2e8eb8ea96e3a81eb4e95e56a555f15a305d70a3b8c83800c12", func := "bulkhead/bulkheadlaw1.WordKin", spec := "wordKin", apart := false }
def WordKinSaid : Prop := wordKinRow.holds Try.pinned (OpenSpec.ofChange wordKinSpec)

/-- ITS FALSE NEIGHBOUR: 'it returns false'. Refute it at one input. -/
def wordKinWrong : ChangeSpec := { name := "wordKin", fn := fun _ => fun
  | [d1, d2] => { results := [.lit (.bool false)], args := [d1, d2] }
  | _ => none }
def WordKinWrongFalsely : Prop := wordKinRow.holds Try.pinned (OpenSpec.ofChange wordKinWrong)

/-- 'bulkheadlaw1.WordWrites': WHATEVER THE INPUT: true; the input reads as it did. -/
def wordWritesSpec : ChangeSpec := { name := "wordWrites", fn := fun _ => fun
  | [d] => { results := [.lit (.bool true)], args := [d] }
  | _ => none }
def wordWritesRow : OpenClaim := { program := "ythdjddpomaendaa", sum := "c1da4a29cdb4e2e8eb8ea96e3a81eb4e95e56a555f15a305d70a3b8c83800c12", func := "bulkhead/bulkheadlaw1.WordWrites", spec := "wordWrites", unfollowed := true, recurses := true, apart := false }
def WordWritesSaid : Prop := wordWritesRow.holds Try.pinned (OpenSpec.ofChange wordWritesSpec)

/-- ITS FALSE NEIGHBOUR: 'it returns false'. Refute it at one input. -/
def wordWritesWrong : ChangeSpec := { name := "wordWrites", fn := fun _ => fun
  | [d] => { results := [.lit (.bool false)], args := [d] }
  | _ => none }
def WordWritesWrongFalsely : Prop := wordWritesRow.holds Try.pinned (OpenSpec.ofChange wordWritesWrong)

/-- 'bulkheadlaw1.WordBursts': WHATEVER THE INPUT: true; the input reads as it did. -/
def wordBurstsSpec : ChangeSpec := { name := "wordBursts", fn := fun _ => fun
  | [d1, d2, d3] => { results := [.lit (.bool true)], args := [d1, d2, d3] }
  | _ => none }
def wordBurstsRow : OpenClaim := { program := "ythdjddpomaendaa", sum := "c1da4a29cdb4e2e8eb8ea96e3a81eb4e95e56a555f15a305d70a3b8c83800c12", func := "bulkhead/bulkheadlaw1.WordBursts", spec := "wordBursts", apart := false }
def WordBurstsSaid : Prop := wordBurstsRow.holds Try.pinned (OpenSpec.ofChange wordBurstsSpec)

/-- ITS FALSE NEIGHBOUR: 'it returns false'. Refute it at one input. -/
def wordBurstsWrong : ChangeSpec := { name := "wordBursts", fn := fun _ => fun
  | [d1, d2, d3] => { results := [.lit (.bool false)], args := [d1, d2, d3] }
  | _ => none }
def WordBurstsWrongFalsely : Prop := wordBurstsRow.holds Try.pinned (OpenSpec.ofChange wordBurstsWrong)

/-- 'bulkheadlaw1.WordReads': WHATEVER THE INPUT: true; the input reads as it did. -/
def wordReadsSpec : ChangeSpec := { name := "wordReads", fn := fun _ => fun
  | [d1, d2] => { results := [.lit (.bool true)], args := [d1, d2] }
  | _ => none }
def wordReadsRow : OpenClaim := { program := "ythdjddpomaendaa", sum := "c1da4a29cdb4e2e8eb8ea96e3a81eb4e95e56a555f15a305d70a3b8c83800c12", func := "bulkhead/bulkheadlaw1.WordReads", spec := "wordReads", unfollowed := true, recurses := true, apart := false }
def WordReadsSaid : Prop := wordReadsRow.holds Try.pinned (OpenSpec.ofChange wordReadsSpec)

/-- ITS FALSE NEIGHBOUR: 'it returns false'. Refute it at one input. -/
def wordReadsWrong : ChangeSpec := { name := "wordReads", fn := fun _ => fun
  | [d1, d2] => { results := [.lit (.bool false)], args := [d1, d2] }
  | _ => none }
def WordReadsWrongFalsely : Prop := wordReadsRow.holds Try.pinned (OpenSpec.ofChange wordReadsWrong)

/-- 'bulkheadlaw1.WordNames': WHATEVER THE INPUT: true; the input reads as it did. -/
def wordNamesSpec : ChangeSpec := { name := "wordNames", fn := fun _ => fun
  | [] => { results := [.lit (.bool true)], args := [] }
  | _ => none }
def wordNamesRow : OpenClaim := { program := "ythdjddpomaendaa", sum := "c1da4a29cdb4e2e8eb8ea96e3a81eb4e95e56a555f15a305d70a3b8c83800c12", func := "bulkhead/bulkheadlaw1.WordNames", spec := "wordNames", apart := false }
def WordNamesSaid : Prop := wordNamesRow.holds Try.pinned (OpenSpec.ofChange wordNamesSpec)

/-- ITS FALSE NEIGHBOUR: 'it returns false'. Refute it at one input. -/
def wordNamesWrong : ChangeSpec := { name := "wordNames", fn := fun _ => fun
  | [] => { results := [.lit (.bool false)], args := [] }
  | _ => none }
def WordNamesWrongFalsely : Prop := wordNamesRow.holds Try.pinned (OpenSpec.ofChange wordNamesWrong)

/-- 'bulkheadlaw1.WordForth': WHATEVER THE INPUT: true; the input reads as it did. -/
def wordForthSpec : ChangeSpec := { name := "wordForth", fn := fun _ => fun
  | [d1, d2] => { results := [.lit (.bool true)], args := [d1, d2] }
  | _ => none }
def wordForthRow : OpenClaim := { program := "ythdjddpomaendaa", sum := "c1da4a29cdb4e2e8eb8ea96e3a81eb4e95e56a555f15a305d70a3b8c83800c12", func := "bulkhead/bulkheadlaw1.WordForth", spec := "wordForth", apart := false }
def WordForthSaid : Prop := wordForthRow.holds Try.pinned (OpenSpec.ofChange wordForthSpec)

/-- ITS FALSE NEIGHBOUR: 'it returns false'. Refute it at one input. -/
def wordForthWrong : ChangeSpec := { name := "wordForth", fn := fun _ => fun
  | [d1, d2] => { results := [.lit (.bool false)], args := [d1, d2] }
  | _ => none }
def WordForthWrongFalsely : Prop := wordForthRow.holds Try.pinned (OpenSpec.ofChange wordForthWrong)

/-- 'bulkheadlaw1.WordBack': WHATEVER THE INPUT: true; the input reads as it did. -/
def wordBackSpec : ChangeSpec := { name := "wordBack", fn := fun _ => fun
  | [d] => { results := [.lit (.bool true)], args := [d] }
  | _ => none }
def wordBackRow : OpenClaim := { program := "ythdjddpomaendaa", sum := "c1da4a29cdb4e2e8eb8ea96e3a81eb4e95e56a555f15a305d70a3b8c83800c12", func := "bulkhead/bulkheadlaw1.WordBack", spec := "wordBack", apart := false }
def WordBackSaid : Prop := wordBackRow.holds Try.pinned (OpenSpec.ofChange wordBackSpec)

/-- ITS FALSE NEIGHBOUR: 'it returns false'. Refute it at one input. -/
def wordBackWrong : ChangeSpec := { name := "wordBack", fn := fun _ => fun
  | [d] => { results := [.lit (.bool false)], args := [d] }
  | _ => none }
def WordBackWrongFalsely : Prop := wordBackRow.holds Try.pinned (OpenSpec.ofChange wordBackWrong)

/-- 'bulkheadlaw1.WordCuts': WHATEVER THE INPUT: true; the input reads as it did. -/
def wordCutsSpec : ChangeSpec := { name := "wordCuts", fn := fun _ => fun
  | [d1, d2] => { results := [.lit (.bool true)], args := [d1, d2] }
  | _ => none }
def wordCutsRow : OpenClaim := { program := "ythdjddpomaendaa", sum := "c1da4a29cdb4e2e8eb8ea96e3a81eb4e95e56a555f15a305d70a3b8c83800c12", func := "bulkhead/bulkheadlaw1.WordCuts", spec := "wordCuts", apart := false }
def WordCutsSaid : Prop := wordCutsRow.holds Try.pinned (OpenSpec.ofChange wordCutsSpec)

/-- ITS FALSE NEIGHBOUR: 'it returns false'. Refute it at one input. -/
def wordCutsWrong : ChangeSpec := { name := "wordCuts", fn := fun _ => fun
  | [d1, d2] => { results := [.lit (.bool false)], args := [d1, d2] }
  | _ => none }
def WordCutsWrongFalsely : Prop := wordCutsRow.holds Try.pinned (OpenSpec.ofChange wordCutsWrong)

/- THE SECOND FORM. 'bulk': how many values and letters a reading holds, each counted each time it is reached (what is shared counts as often as it is met; a slice's spare places count too). A statement '..UptoSaid' is the law's where the arguments, and the package variables that the reading takes, are together of bulk at most 1048576: NARROWER than '..Said'. Prove '..Said' where nothing that the law and all that it calls make is longer than what came in: it says more and counts as full. Else prove '..UptoSaid'. A law counts once. -/
mutual
def uptoBulk {H : Type} : DataW H → Nat
  | .lit (.string bytes) => bytes.length + 1
  | .lit _ => 1
  | .nil => 1
  | .ptr d => uptoBulk d + 1
  | .slice elems spare => uptoBulkAll elems + uptoBulkAll spare + 1
  | .agg parts => uptoBulkAll parts + 1
  | .iface _ d => uptoBulk d + 1
  | .map entries => uptoBulkEntries entries + 1
  | .held _ => 1
def uptoBulkAll {H : Type} : List (DataW H) → Nat
  | [] => 0
  | d :: r => uptoBulk d + uptoBulkAll r
def uptoBulkEntries {H : Type} : List (Lit × DataW H) → Nat
  | [] => 0
  | x :: r => uptoBulkEntry x + uptoBulkEntries r
def uptoBulkEntry {H : Type} : Lit × DataW H → Nat
  | (.string bytes, d) => bytes.length + uptoBulk d + 1
  | (_, d) => uptoBulk d + 1
 end
def uptoSmall : (H : Type) → List (DataW H) → Bool := fun _ ds => decide (uptoBulkAll ds ≤ 1048576)
def OpenSpec.upto (s : _root_.Go.ChangeSpec) : _root_.Go.OpenSpec := { _root_.Go.OpenSpec.ofChange s with cond := some uptoSmall }

/-- 'bulkheadlaw1.WordSums', WHERE WHAT IT READS IS OF BULK AT MOST 1048576: true; the input reads as it did. -/
def wordSumsUptoRow : OpenClaim := { program := "ythdjddpomaendaa", sum := "c1da4a29cdb4e2e8eb8ea96e3a81eb4e95e56a555f15a305d70a3b8c83800c12", func := "bulkhead/bulkheadlaw1.WordSums", spec := "wordSums", apart := false, narrowed := true }
def WordSumsUptoSaid : Prop := wordSumsUptoRow.holds Try.pinned (OpenSpec.upto wordSumsSpec)

/-- 'bulkheadlaw1.WordKin', WHERE WHAT IT READS IS OF BULK AT MOST 1048576: true; the input reads as it did. -/
def wordKinUptoRow : OpenClaim := { program := "ythdjddpomaendaa", sum := "c1da4a29cdb4e2e8eb8ea96e3a81eb4e95e56a555f15a305d70a3b8c83800c12", func := "bulkhead/bulkheadlaw1.WordKin", spec := "wordKin", apart := false, narrowed := true }
def WordKinUptoSaid : Prop := wordKinUptoRow.holds Try.pinned (OpenSpec.upto wordKinSpec)

/-- 'bulkheadlaw1.WordWrites', WHERE WHAT IT READS IS OF BULK AT MOST 1048576: true; the input reads as it did. -/
def wordWritesUptoRow : OpenClaim := { program := "ythdjddpomaendaa", sum := "c1da4a29cdb4e2e8eb8ea96e3a81eb4e95e56a555f15a305d70a3b8c83800c12", func := "bulkhead/bulkheadlaw1.WordWrites", spec := "wordWrites", unfollowed := true, recurses := true, apart := false, narrowed := true }
def WordWritesUptoSaid : Prop := wordWritesUptoRow.holds Try.pinned (OpenSpec.upto wordWritesSpec)

/-- 'bulkheadlaw1.WordBursts', WHERE WHAT IT READS IS OF BULK AT MOST 1048576: true; the input reads as it did. -/
def wordBurstsUptoRow : OpenClaim := { program := "ythdjddpomaendaa", sum := "c1da4a29cdb4e2e8eb8ea96e3a81eb4e95e56a555f15a305d70a3b8c83800c12", func := "bulkhead/bulkheadlaw1.WordBursts", spec := "wordBursts", apart := false, narrowed := true }
def WordBurstsUptoSaid : Prop := wordBurstsUptoRow.holds Try.pinned (OpenSpec.upto wordBurstsSpec)

/-- 'bulkheadlaw1.WordReads', WHERE WHAT IT READS IS OF BULK AT MOST 1048576: true; the input reads as it did. -/
def wordReadsUptoRow : OpenClaim := { program := "ythdjddpomaendaa", sum := "c1da4a29cdb4e2e8eb8ea96e3a81eb4e95e56a555f15a305d70a3b8c83800c12", func := "bulkhead/bulkheadlaw1.WordReads", spec := "wordReads", unfollowed := true, recurses := true, apart := false, narrowed := true }
def WordReadsUptoSaid : Prop := wordReadsUptoRow.holds Try.pinned (OpenSpec.upto wordReadsSpec)

/-- 'bulkheadlaw1.WordNames', WHERE WHAT IT READS IS OF BULK AT MOST 1048576: true; the input reads as it did. -/
def wordNamesUptoRow : OpenClaim := { program := "ythdjddpomaendaa", sum := "c1da4a29cdb4e2e8eb8ea96e3a81eb4e95e56a555f15a305d70a3b8c83800c12", func := "bulkhead/bulkheadlaw1.WordNames", spec := "wordNames", apart := false, narrowed := true }
def WordNamesUptoSaid : Prop := wordNamesUptoRow.holds Try.pinned (OpenSpec.upto wordNamesSpec)

/-- 'bulkheadlaw1.WordForth', WHERE WHAT IT READS IS OF BULK AT MOST 1048576: true; the input reads as it did. -/
def wordForthUptoRow : OpenClaim := { program := "ythdjddpomaendaa", sum := "c1da4a29cdb4e2e8eb8ea96e3a81eb4e95e56a555f15a305d70a3b8c83800c12", func := "bulkhead/bulkheadlaw1.WordForth", spec := "wordForth", apart := false, narrowed := true }
def WordForthUptoSaid : Prop := wordForthUptoRow.holds Try.pinned (OpenSpec.upto wordForthSpec)

/-- 'bulkheadlaw1.WordBack', WHERE WHAT IT READS IS OF BULK AT MOST 1048576: true; the input reads as it did. -/
def wordBackUptoRow : OpenClaim := { program := "ythdjddpomaendaa", sum := "c1da4a29cdb4e2e8eb8ea96e3a81eb4e95e56a555f15a305d70a3b8c83800c12", func := "bulkhead/bulkheadlaw1.WordBack", spec := "wordBack", apart := false, narrowed := true }
def WordBackUptoSaid : Prop := wordBackUptoRow.holds Try.pinned (OpenSpec.upto wordBackSpec)

/-- 'bulkheadlaw1.WordCuts', WHERE WHAT IT READS IS OF BULK AT MOST 1048576: true; the input reads as it did. -/
def wordCutsUptoRow : OpenClaim := { program := "ythdjddpomaendaa", sum := "c1da4a29cdb4e2e8eb8ea96e3a81eb4e95e56a555f15a305d70a3b8c83800c12", func := "bulkhead/bulkheadlaw1.WordCuts", spec := "wordCuts", apart := false, narrowed := true }
def WordCutsUptoSaid : Prop := wordCutsUptoRow.holds Try.pinned (OpenSpec.upto wordCutsSpec)

end Rows
end Go.Proofs.Ythdjddpomaendaa
