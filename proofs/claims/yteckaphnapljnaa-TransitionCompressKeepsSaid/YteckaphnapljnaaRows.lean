/-
  No cell of these rows narrows 'for every input' (looked for: loops, veiled, ifaces, maps, wideKeys, modest, calm, conditions, laid).
  DERIVED. THE GIVEN ROWS OF THIS SEAT. 11 by the template 'for every input the law returns true; each argument reads behind the call as it read before'; 0 by the template 'total and deterministic' (their statements: YteckaphnapljnaaTotals.lean).
  GIVEN WITH THE SEED: the statements are not yours to turn. If you find one false, say at which input.
  Laid BY PROGRAM, IN A SANDBOX (cutbox-rows.mjs): the forced cells as the released guide's own fill.sh prints them over the translation fe15ff311f27a497… (all of the seat's roots in one cut). By AI agents, Wed Nov 11 2026. No macro, syntax, notation, axiom, sorry.
-/
import Derived.Test.YteckaphnapljnaaChecked
import GoSem.Claim
import GoSem.ClaimJoined
import GoSem.ClaimMapViews
import Derived.JoinedTies
import Derived.KernelRfl
namespace Go.Proofs.Yteckaphnapljnaa
/- THE CELL 'sum', in the pinned program and in every row, IS THE sha256 OF THE DUMP (.gsa) THAT YteckaphnapljnaaProg.lean LOADS. Nothing in Lean hashes anything: it is a label: what it is worth is what the hold of that sum in a sandbox is worth. -/
noncomputable def Try.pinned : Pinned := { name := "yteckaphnapljnaa", sum := "fe15ff311f27a497d8e3d0f4f896b35ad28a856635345bc478c425503708325d", checked := Try.checked }
namespace Rows
def none {H : Type} : Left H := { results := [], args := [] }

/-- 'pensionlaw23.TransitionRunAgrees': WHATEVER THE INPUT: true; the input reads as it did. -/
def transitionRunAgreesSpec : ChangeSpec := { name := "transitionRunAgrees", fn := fun _ => fun
  | [d1, d2] => { results := [.lit (.bool true)], args := [d1, d2] }
  | _ => none }
def transitionRunAgreesRow : OpenClaim := { program := "yteckaphnapljnaa", sum := "fe15ff311f27a497d8e3d0f4f896b35ad28a856635345bc478c425503708325d", func := "pension/pensionlaw23.TransitionRunAgrees", spec := "transitionRunAgrees", apart := false }
def TransitionRunAgreesSaid : Prop := transitionRunAgreesRow.holds Try.pinned (OpenSpec.ofChange transitionRunAgreesSpec)

/-- ITS FALSE NEIGHBOUR: 'it returns false'. Refute it at one input. -/
def transitionRunAgreesWrong : ChangeSpec := { name := "transitionRunAgrees", fn := fun _ => fun
  | [d1, d2] => { results := [.lit (.bool false)], args := [d1, d2] }
  | _ => none }
def TransitionRunAgreesWrongFalsely : Prop := transitionRunAgreesRow.holds Try.pinned (OpenSpec.ofChange transitionRunAgreesWrong)

/-- 'pensionlaw23.TransitionRunRejects': WHATEVER THE INPUT: true; the input reads as it did. -/
def transitionRunRejectsSpec : ChangeSpec := { name := "transitionRunRejects", fn := fun _ => fun
  | [d] => { results := [.lit (.bool true)], args := [d] }
  | _ => none }
def transitionRunRejectsRow : OpenClaim := { program := "yteckaphnapljnaa", sum := "fe15ff311f27a497d8e3d0f4f896b35ad28a856635345bc478c425503708325d", func := "pension/pensionlaw23.TransitionRunRejects", spec := "transitionRunRejects", apart := false }
def TransitionRunRejectsSaid : Prop := transitionRunRejectsRow.holds Try.pinned (OpenSpec.ofChange transitionRunRejectsSpec)

/-- ITS FALSE NEIGHBOUR: 'it returns false'. Refute it at one input. -/
def transitionRunRejectsWrong : ChangeSpec := { name := "transitionRunRejects", fn := fun _ => fun
  | [d] => { results := [.lit (.bool false)], args := [d] }
  | _ => none }
def TransitionRunRejectsWrongFalsely : Prop := transitionRunRejectsRow.holds Try.pinned (OpenSpec.ofChange transitionRunRejectsWrong)

/-- 'pensionlaw23.TransitionRunRejectsOneStage': WHATEVER THE INPUT: true; the input reads as it did. -/
def transitionRunRejectsOneStageSpec : ChangeSpec := { name := "transitionRunRejectsOneStage", fn := fun _ => fun
  | [d1, d2, d3, d4, d5] => { results := [.lit (.bool true)], args := [d1, d2, d3, d4, d5] }
  | _ => none }
def transitionRunRejectsOneStageRow : OpenClaim := { program := "yteckaphnapljnaa", sum := "fe15ff311f27a497d8e3d0f4f896b35ad28a856635345bc478c425503708325d", func := "pension/pensionlaw23.TransitionRunRejectsOneStage", spec := "transitionRunRejectsOneStage", apart := false }
def TransitionRunRejectsOneStageSaid : Prop := transitionRunRejectsOneStageRow.holds Try.pinned (OpenSpec.ofChange transitionRunRejectsOneStageSpec)

/-- ITS FALSE NEIGHBOUR: 'it returns false'. Refute it at one input. -/
def transitionRunRejectsOneStageWrong : ChangeSpec := { name := "transitionRunRejectsOneStage", fn := fun _ => fun
  | [d1, d2, d3, d4, d5] => { results := [.lit (.bool false)], args := [d1, d2, d3, d4, d5] }
  | _ => none }
def TransitionRunRejectsOneStageWrongFalsely : Prop := transitionRunRejectsOneStageRow.holds Try.pinned (OpenSpec.ofChange transitionRunRejectsOneStageWrong)

/-- 'pensionlaw23.TransitionProtects': WHATEVER THE INPUT: true; the input reads as it did. -/
def transitionProtectsSpec : ChangeSpec := { name := "transitionProtects", fn := fun _ => fun
  | [d1, d2] => { results := [.lit (.bool true)], args := [d1, d2] }
  | _ => none }
def transitionProtectsRow : OpenClaim := { program := "yteckaphnapljnaa", sum := "fe15ff311f27a497d8e3d0f4f896b35ad28a856635345bc478c425503708325d", func := "pension/pensionlaw23.TransitionProtects", spec := "transitionProtects", apart := false }
def TransitionProtectsSaid : Prop := transitionProtectsRow.holds Try.pinned (OpenSpec.ofChange transitionProtectsSpec)

/-- ITS FALSE NEIGHBOUR: 'it returns false'. Refute it at one input. -/
def transitionProtectsWrong : ChangeSpec := { name := "transitionProtects", fn := fun _ => fun
  | [d1, d2] => { results := [.lit (.bool false)], args := [d1, d2] }
  | _ => none }
def TransitionProtectsWrongFalsely : Prop := transitionProtectsRow.holds Try.pinned (OpenSpec.ofChange transitionProtectsWrong)

/-- 'pensionlaw23.TransitionNeverLess': WHATEVER THE INPUT: true; the input reads as it did. -/
def transitionNeverLessSpec : ChangeSpec := { name := "transitionNeverLess", fn := fun _ => fun
  | [d1, d2] => { results := [.lit (.bool true)], args := [d1, d2] }
  | _ => none }
def transitionNeverLessRow : OpenClaim := { program := "yteckaphnapljnaa", sum := "fe15ff311f27a497d8e3d0f4f896b35ad28a856635345bc478c425503708325d", func := "pension/pensionlaw23.TransitionNeverLess", spec := "transitionNeverLess", apart := false }
def TransitionNeverLessSaid : Prop := transitionNeverLessRow.holds Try.pinned (OpenSpec.ofChange transitionNeverLessSpec)

/-- ITS FALSE NEIGHBOUR: 'it returns false'. Refute it at one input. -/
def transitionNeverLessWrong : ChangeSpec := { name := "transitionNeverLess", fn := fun _ => fun
  | [d1, d2] => { results := [.lit (.bool false)], args := [d1, d2] }
  | _ => none }
def TransitionNeverLessWrongFalsely : Prop := transitionNeverLessRow.holds Try.pinned (OpenSpec.ofChange transitionNeverLessWrong)

/-- 'pensionlaw23.TransitionWithoutChange': WHATEVER THE INPUT: true; the input reads as it did. -/
def transitionWithoutChangeSpec : ChangeSpec := { name := "transitionWithoutChange", fn := fun _ => fun
  | [d1, d2] => { results := [.lit (.bool true)], args := [d1, d2] }
  | _ => none }
def transitionWithoutChangeRow : OpenClaim := { program := "yteckaphnapljnaa", sum := "fe15ff311f27a497d8e3d0f4f896b35ad28a856635345bc478c425503708325d", func := "pension/pensionlaw23.TransitionWithoutChange", spec := "transitionWithoutChange", apart := false }
def TransitionWithoutChangeSaid : Prop := transitionWithoutChangeRow.holds Try.pinned (OpenSpec.ofChange transitionWithoutChangeSpec)

/-- ITS FALSE NEIGHBOUR: 'it returns false'. Refute it at one input. -/
def transitionWithoutChangeWrong : ChangeSpec := { name := "transitionWithoutChange", fn := fun _ => fun
  | [d1, d2] => { results := [.lit (.bool false)], args := [d1, d2] }
  | _ => none }
def TransitionWithoutChangeWrongFalsely : Prop := transitionWithoutChangeRow.holds Try.pinned (OpenSpec.ofChange transitionWithoutChangeWrong)

/-- 'pensionlaw23.TransitionEndsForgets': WHATEVER THE INPUT: true; the input reads as it did. -/
def transitionEndsForgetsSpec : ChangeSpec := { name := "transitionEndsForgets", fn := fun _ => fun
  | [d1, d2, d3] => { results := [.lit (.bool true)], args := [d1, d2, d3] }
  | _ => none }
def transitionEndsForgetsRow : OpenClaim := { program := "yteckaphnapljnaa", sum := "fe15ff311f27a497d8e3d0f4f896b35ad28a856635345bc478c425503708325d", func := "pension/pensionlaw23.TransitionEndsForgets", spec := "transitionEndsForgets", apart := false }
def TransitionEndsForgetsSaid : Prop := transitionEndsForgetsRow.holds Try.pinned (OpenSpec.ofChange transitionEndsForgetsSpec)

/-- ITS FALSE NEIGHBOUR: 'it returns false'. Refute it at one input. -/
def transitionEndsForgetsWrong : ChangeSpec := { name := "transitionEndsForgets", fn := fun _ => fun
  | [d1, d2, d3] => { results := [.lit (.bool false)], args := [d1, d2, d3] }
  | _ => none }
def TransitionEndsForgetsWrongFalsely : Prop := transitionEndsForgetsRow.holds Try.pinned (OpenSpec.ofChange transitionEndsForgetsWrong)

/-- 'pensionlaw23.TransitionRunOfPrefix': WHATEVER THE INPUT: true; the input reads as it did. -/
def transitionRunOfPrefixSpec : ChangeSpec := { name := "transitionRunOfPrefix", fn := fun _ => fun
  | [d1, d2, d3] => { results := [.lit (.bool true)], args := [d1, d2, d3] }
  | _ => none }
def transitionRunOfPrefixRow : OpenClaim := { program := "yteckaphnapljnaa", sum := "fe15ff311f27a497d8e3d0f4f896b35ad28a856635345bc478c425503708325d", func := "pension/pensionlaw23.TransitionRunOfPrefix", spec := "transitionRunOfPrefix", apart := false }
def TransitionRunOfPrefixSaid : Prop := transitionRunOfPrefixRow.holds Try.pinned (OpenSpec.ofChange transitionRunOfPrefixSpec)

/-- ITS FALSE NEIGHBOUR: 'it returns false'. Refute it at one input. -/
def transitionRunOfPrefixWrong : ChangeSpec := { name := "transitionRunOfPrefix", fn := fun _ => fun
  | [d1, d2, d3] => { results := [.lit (.bool false)], args := [d1, d2, d3] }
  | _ => none }
def TransitionRunOfPrefixWrongFalsely : Prop := transitionRunOfPrefixRow.holds Try.pinned (OpenSpec.ofChange transitionRunOfPrefixWrong)

/-- 'pensionlaw23.TransitionIsMonotone': WHATEVER THE INPUT: true; the input reads as it did. -/
def transitionIsMonotoneSpec : ChangeSpec := { name := "transitionIsMonotone", fn := fun _ => fun
  | [d1, d2, d3, d4] => { results := [.lit (.bool true)], args := [d1, d2, d3, d4] }
  | _ => none }
def transitionIsMonotoneRow : OpenClaim := { program := "yteckaphnapljnaa", sum := "fe15ff311f27a497d8e3d0f4f896b35ad28a856635345bc478c425503708325d", func := "pension/pensionlaw23.TransitionIsMonotone", spec := "transitionIsMonotone", apart := false }
def TransitionIsMonotoneSaid : Prop := transitionIsMonotoneRow.holds Try.pinned (OpenSpec.ofChange transitionIsMonotoneSpec)

/-- ITS FALSE NEIGHBOUR: 'it returns false'. Refute it at one input. -/
def transitionIsMonotoneWrong : ChangeSpec := { name := "transitionIsMonotone", fn := fun _ => fun
  | [d1, d2, d3, d4] => { results := [.lit (.bool false)], args := [d1, d2, d3, d4] }
  | _ => none }
def TransitionIsMonotoneWrongFalsely : Prop := transitionIsMonotoneRow.holds Try.pinned (OpenSpec.ofChange transitionIsMonotoneWrong)

/-- 'pensionlaw23.TransitionCompressAgrees': WHATEVER THE INPUT: true; the input reads as it did. -/
def transitionCompressAgreesSpec : ChangeSpec := { name := "transitionCompressAgrees", fn := fun _ => fun
  | [d1, d2] => { results := [.lit (.bool true)], args := [d1, d2] }
  | _ => none }
def transitionCompressAgreesRow : OpenClaim := { program := "yteckaphnapljnaa", sum := "fe15ff311f27a497d8e3d0f4f896b35ad28a856635345bc478c425503708325d", func := "pension/pensionlaw23.TransitionCompressAgrees", spec := "transitionCompressAgrees", apart := false }
def TransitionCompressAgreesSaid : Prop := transitionCompressAgreesRow.holds Try.pinned (OpenSpec.ofChange transitionCompressAgreesSpec)

/-- ITS FALSE NEIGHBOUR: 'it returns false'. Refute it at one input. -/
def transitionCompressAgreesWrong : ChangeSpec := { name := "transitionCompressAgrees", fn := fun _ => fun
  | [d1, d2] => { results := [.lit (.bool false)], args := [d1, d2] }
  | _ => none }
def TransitionCompressAgreesWrongFalsely : Prop := transitionCompressAgreesRow.holds Try.pinned (OpenSpec.ofChange transitionCompressAgreesWrong)

/-- 'pensionlaw23.TransitionCompressKeeps': WHATEVER THE INPUT: true; the input reads as it did. -/
def transitionCompressKeepsSpec : ChangeSpec := { name := "transitionCompressKeeps", fn := fun _ => fun
  | [d1, d2] => { results := [.lit (.bool true)], args := [d1, d2] }
  | _ => none }
def transitionCompressKeepsRow : OpenClaim := { program := "yteckaphnapljnaa", sum := "fe15ff311f27a497d8e3d0f4f896b35ad28a856635345bc478c425503708325d", func := "pension/pensionlaw23.TransitionCompressKeeps", spec := "transitionCompressKeeps", apart := false }
def TransitionCompressKeepsSaid : Prop := transitionCompressKeepsRow.holds Try.pinned (OpenSpec.ofChange transitionCompressKeepsSpec)

/-- ITS FALSE NEIGHBOUR: 'it returns false'. Refute it at one input. -/
def transitionCompressKeepsWrong : ChangeSpec := { name := "transitionCompressKeeps", fn := fun _ => fun
  | [d1, d2] => { results := [.lit (.bool false)], args := [d1, d2] }
  | _ => none }
def TransitionCompressKeepsWrongFalsely : Prop := transitionCompressKeepsRow.holds Try.pinned (OpenSpec.ofChange transitionCompressKeepsWrong)

/- THE SECOND FORM. 'bulk': how many values and letters a reading holds, each counted each time it is reached (what is shared counts as often as it is met; a slice's spare places count too). A statement '..UptoSaid' is the law's where the arguments, and the package variables that the reading takes, are together of bulk at most 1048576: NARROWER than '..Said'. Prove '..Said' where nothing that the law and all that it calls make is longer than what came in: it says more and counts as full. Else prove '..UptoSaid'. A law counts once. -/
mutual
def uptoBulk {H : Type} : DataW H → Nat
  | .lit (.string bytes) => bytes.length + 1
  | .lit _ => 1
  | .nil => 1
  | .ptr d => uptoBulk d + 1
  | .slice elems spare => uptoBulkAll elems + uptoBulkAll spare + 1
  | .agg parts => uptoBulkAll parts + 1
  | .iface _ d => uptoBulk d + 1
  | .map entries => uptoBulkEntries entries + 1
  | .held _ => 1
def uptoBulkAll {H : Type} : List (DataW H) → Nat
  | [] => 0
  | d :: r => uptoBulk d + uptoBulkAll r
def uptoBulkEntries {H : Type} : List (Lit × DataW H) → Nat
  | [] => 0
  | x :: r => uptoBulkEntry x + uptoBulkEntries r
def uptoBulkEntry {H : Type} : Lit × DataW H → Nat
  | (.string bytes, d) => bytes.length + uptoBulk d + 1
  | (_, d) => uptoBulk d + 1
 end
def uptoSmall : (H : Type) → List (DataW H) → Bool := fun _ ds => decide (uptoBulkAll ds ≤ 1048576)
def OpenSpec.upto (s : _root_.Go.ChangeSpec) : _root_.Go.OpenSpec := { _root_.Go.OpenSpec.ofChange s with cond := some uptoSmall }

/-- 'pensionlaw23.TransitionRunAgrees', WHERE WHAT IT READS IS OF BULK AT MOST 1048576: true; the input reads as it did. -/
def transitionRunAgreesUptoRow : OpenClaim := { program := "yteckaphnapljnaa", sum := "fe15ff311f27a497d8e3d0f4f896b35ad28a856635345bc478c425503708325d", func := "pension/pensionlaw23.TransitionRunAgrees", spec := "transitionRunAgrees", apart := false, narrowed := true }
def TransitionRunAgreesUptoSaid : Prop := transitionRunAgreesUptoRow.holds Try.pinned (OpenSpec.upto transitionRunAgreesSpec)

/-- 'pensionlaw23.TransitionRunRejects', WHERE WHAT IT READS IS OF BULK AT MOST 1048576: true; the input reads as it did. -/
def transitionRunRejectsUptoRow : OpenClaim := { program := "yteckaphnapljnaa", sum := "fe15ff311f27a497d8e3d0f4f896b35ad28a856635345bc478c425503708325d", func := "pension/pensionlaw23.TransitionRunRejects", spec := "transitionRunRejects", apart := false, narrowed := true }
def TransitionRunRejectsUptoSaid : Prop := transitionRunRejectsUptoRow.holds Try.pinned (OpenSpec.upto transitionRunRejectsSpec)

/-- 'pensionlaw23.TransitionRunRejectsOneStage', WHERE WHAT IT READS IS OF BULK AT MOST 1048576: true; the input reads as it did. -/
def transitionRunRejectsOneStageUptoRow : OpenClaim := { program := "yteckaphnapljnaa", sum := "fe15ff311f27a497d8e3d0f4f896b35ad28a856635345bc478c425503708325d", func := "pension/pensionlaw23.TransitionRunRejectsOneStage", spec := "transitionRunRejectsOneStage", apart := false, narrowed := true }
def TransitionRunRejectsOneStageUptoSaid : Prop := transitionRunRejectsOneStageUptoRow.holds Try.pinned (OpenSpec.upto transitionRunRejectsOneStageSpec)

/-- 'pensionlaw23.TransitionProtects', WHERE WHAT IT READS IS OF BULK AT MOST 1048576: true; the input reads as it did. -/
def transitionProtectsUptoRow : OpenClaim := { program := "yteckaphnapljnaa", sum := "fe15ff311f27a497d8e3d0f4f896b35ad28a856635345bc478c425503708325d", func := "pension/pensionlaw23.TransitionProtects", spec := "transitionProtects", apart := false, narrowed := true }
def TransitionProtectsUptoSaid : Prop := transitionProtectsUptoRow.holds Try.pinned (OpenSpec.upto transitionProtectsSpec)

/-- 'pensionlaw23.TransitionNeverLess', WHERE WHAT IT READS IS OF BULK AT MOST 1048576: true; the input reads as it did. -/
def transitionNeverLessUptoRow : OpenClaim := { program := "yteckaphnapljnaa", sum := "fe15ff311f27a497d8e3d0f4f896b35ad28a856635345bc478c425503708325d", func := "pension/pensionlaw23.TransitionNeverLess", spec := "transitionNeverLess", apart := false, narrowed := true }
def TransitionNeverLessUptoSaid : Prop := transitionNeverLessUptoRow.holds Try.pinned (OpenSpec.upto transitionNeverLessSpec)

/-- 'pensionlaw23.TransitionWithoutChange', WHERE WHAT IT READS IS OF BULK AT MOST 1048576: true; the input reads as it did. -/
def transitionWithoutChangeUptoRow : OpenClaim := { program := "yteckaphnapljnaa", sum := "fe15ff311f27a497d8e3d0f4f896b35ad28a856635345bc478c425503708325d", func := "pension/pensionlaw23.TransitionWithoutChange", spec := "transitionWithoutChange", apart := false, narrowed := true }
def TransitionWithoutChangeUptoSaid : Prop := transitionWithoutChangeUptoRow.holds Try.pinned (OpenSpec.upto transitionWithoutChangeSpec)

/-- 'pensionlaw23.TransitionEndsForgets', WHERE WHAT IT READS IS OF BULK AT MOST 1048576: true; the input reads as it did. -/
def transitionEndsForgetsUptoRow : OpenClaim := { program := "yteckaphnapljnaa", sum := "fe15ff311f27a497d8e3d0f4f896b35ad28a856635345bc478c425503708325d", func := "pension/pensionlaw23.TransitionEndsForgets", spec := "transitionEndsForgets", apart := false, narrowed := true }
def TransitionEndsForgetsUptoSaid : Prop := transitionEndsForgetsUptoRow.holds Try.pinned (OpenSpec.upto transitionEndsForgetsSpec)

/-- 'pensionlaw23.TransitionRunOfPrefix', WHERE WHAT IT READS IS OF BULK AT MOST 1048576: true; the input reads as it did. -/
def transitionRunOfPrefixUptoRow : OpenClaim := { program := "yteckaphnapljnaa", sum := "fe15ff311f27a497d8e3d0f4f896b35ad28a856635345bc478c425503708325d", func := "pension/pensionlaw23.TransitionRunOfPrefix", spec := "transitionRunOfPrefix", apart := false, narrowed := true }
def TransitionRunOfPrefixUptoSaid : Prop := transitionRunOfPrefixUptoRow.holds Try.pinned (OpenSpec.upto transitionRunOfPrefixSpec)

/-- 'pensionlaw23.TransitionIsMonotone', WHERE WHAT IT READS IS OF BULK AT MOST 1048576: true; the input reads as it did. -/
def transitionIsMonotoneUptoRow : OpenClaim := { program := "yteckaphnapljnaa", sum := "fe15ff311f27a497d8e3d0f4f896b35ad28a856635345bc478c425503708325d", func := "pension/pensionlaw23.TransitionIsMonotone", spec := "transitionIsMonotone", apart := false, narrowed := true }
def TransitionIsMonotoneUptoSaid : Prop := transitionIsMonotoneUptoRow.holds Try.pinned (OpenSpec.upto transitionIsMonotoneSpec)

/-- 'pensionlaw23.TransitionCompressAgrees', WHERE WHAT IT READS IS OF BULK AT MOST 1048576: true; the input reads as it did. -/
def transitionCompressAgreesUptoRow : OpenClaim := { program := "yteckaphnapljnaa", sum := "fe15ff311f27a497d8e3d0f4f896b35ad28a856635345bc478c425503708325d", func := "pension/pensionlaw23.TransitionCompressAgrees", spec := "transitionCompressAgrees", apart := false, narrowed := true }
def TransitionCompressAgreesUptoSaid : Prop := transitionCompressAgreesUptoRow.holds Try.pinned (OpenSpec.upto transitionCompressAgreesSpec)

/-- 'pensionlaw23.TransitionCompressKeeps', WHERE WHAT IT READS IS OF BULK AT MOST 1048576: true; the input reads as it did. -/
def transitionCompressKeepsUptoRow : OpenClaim := { program := "yteckaphnapljnaa", sum := "fe15ff311f27a497d8e3d0f4f896b35ad28a856635345bc478c425503708325d", func := "pension/pensionlaw23.TransitionCompressKeeps", spec := "transitionCompressKeeps", apart := false, narrowed := true }
def TransitionCompressKeepsUptoSaid : Prop := transitionCompressKeepsUptoRow.holds Try.pinned (OpenSpec.upto transitionCompressKeepsSpec)

end Rows
end Go.Proofs.Yteckaphnapljnaa
