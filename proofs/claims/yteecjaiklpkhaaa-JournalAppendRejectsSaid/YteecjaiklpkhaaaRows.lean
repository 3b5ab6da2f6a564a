/-
  No cell of these rows narrows 'for every input' (looked for: loops, veiled, ifaces, maps, wideKeys, modest, calm, conditions, laid).
  DERIVED. THE GIVEN ROWS OF THIS SEAT. 9 by the template 'for every input the law returns true; each argument reads behind the call as it read before'; 0 by the template 'total and deterministic' (their statements: YteecjaiklpkhaaaTotals.lean).
  GIVEN WITH THE SEED: the statements are not yours to turn. If you find one false, say at which input.
  Laid BY PROGRAM, IN A SANDBOX (cutbox-rows.mjs): the forced cells as the released guide's own fill.sh prints them over the translation 52416484939e471e… (all of the seat's roots in one cut). By AI agents, Wed Nov 11 2026. No macro, syntax, notation, axiom, sorry.
-/
import Derived.Test.YteecjaiklpkhaaaChecked
import GoSem.Claim
import GoSem.ClaimJoined
import GoSem.ClaimMapViews
import Derived.JoinedTies
import Derived.KernelRfl
namespace Go.Proofs.Yteecjaiklpkhaaa
/- THE CELL 'sum', in the pinned program and in every row, IS THE sha256 OF THE DUMP (.gsa) THAT YteecjaiklpkhaaaProg.lean LOADS. Nothing in Lean hashes anything: it is a label: what it is worth is what the hold of that sum in a sandbox is worth. -/
noncomputable def Try.pinned : Pinned := { name := "yteecjaiklpkhaaa", sum := "52416484939e471ef5008328ddb259fc35a012505a31bbd459e449be14753f07", checked := Try.checked }
namespace Rows
def none {H : Type} : Left H := { results := [], args := [] }

/-- 'pensionlaw34.JournalForksApart': WHATEVER THE INPUT: true; the input reads as it did. -/
def journalForksApartSpec : ChangeSpec := { name := "journalForksApart", fn := fun _ => fun
  | [d1, d2] => { results := [.lit (.bool true)], args := [d1, d2] }
  | _ => none }
def journalForksApartRow : OpenClaim := { program := "yteecjaiklpkhaaa", sum := "52416484939e471ef5008328ddb259fc35a012505a31bbd459e449be14753f07", func := "pension/pensionlaw34.JournalForksApart", spec := "journalForksApart", apart := false }
def JournalForksApartSaid : Prop := journalForksApartRow.holds Try.pinned (OpenSpec.ofChange journalForksApartSpec)

/-- ITS FALSE NEIGHBOUR: 'it returns false'. Refute it at one input. -/
def journalForksApartWrong : ChangeSpec := { name := "journalForksApart", fn := fun _ => fun
  | [d1, d2] => { results := [.lit (.bool false)], args := [d1, d2] }
  | _ => none }
def JournalForksApartWrongFalsely : Prop := journalForksApartRow.holds Try.pinned (OpenSpec.ofChange journalForksApartWrong)

/-- 'pensionlaw34.JournalNil': WHATEVER THE INPUT: true; the input reads as it did. -/
def journalNilSpec : ChangeSpec := { name := "journalNil", fn := fun _ => fun
  | [d1, d2] => { results := [.lit (.bool true)], args := [d1, d2] }
  | _ => none }
def journalNilRow : OpenClaim := { program := "yteecjaiklpkhaaa", sum := "52416484939e471ef5008328ddb259fc35a012505a31bbd459e449be14753f07", func := "pension/pensionlaw34.JournalNil", spec := "journalNil", apart := false }
def JournalNilSaid : Prop := journalNilRow.holds Try.pinned (OpenSpec.ofChange journalNilSpec)

/-- ITS FALSE NEIGHBOUR: 'it returns false'. Refute it at one input. -/
def journalNilWrong : ChangeSpec := { name := "journalNil", fn := fun _ => fun
  | [d1, d2] => { results := [.lit (.bool false)], args := [d1, d2] }
  | _ => none }
def JournalNilWrongFalsely : Prop := journalNilRow.holds Try.pinned (OpenSpec.ofChange journalNilWrong)

/-- 'pensionlaw34.JournalAgrees': WHATEVER THE INPUT: true; the input reads as it did. -/
def journalAgreesSpec : ChangeSpec := { name := "journalAgrees", fn := fun _ => fun
  | [d1, d2] => { results := [.lit (.bool true)], args := [d1, d2] }
  | _ => none }
def journalAgreesRow : OpenClaim := { program := "yteecjaiklpkhaaa", sum := "52416484939e471ef5008328ddb259fc35a012505a31bbd459e449be14753f07", func := "pension/pensionlaw34.JournalAgrees", spec := "journalAgrees", apart := false }
def JournalAgreesSaid : Prop := journalAgreesRow.holds Try.pinned (OpenSpec.ofChange journalAgreesSpec)

/-- ITS FALSE NEIGHBOUR: 'it returns false'. Refute it at one input. -/
def journalAgreesWrong : ChangeSpec := { name := "journalAgrees", fn := fun _ => fun
  | [d1, d2] => { results := [.lit (.bool false)], args := [d1, d2] }
  | _ => none }
def JournalAgreesWrongFalsely : Prop := journalAgreesRow.holds Try.pinned (OpenSpec.ofChange journalAgreesWrong)

/-- 'pensionlaw34.JournalCrashAgrees': WHATEVER THE INPUT: true; the input reads as it did. -/
def journalCrashAgreesSpec : ChangeSpec := { name := "journalCrashAgrees", fn := fun _ => fun
  | [d1, d2, d3] => { results := [.lit (.bool true)], args := [d1, d2, d3] }
  | _ => none }
def journalCrashAgreesRow : OpenClaim := { program := "yteecjaiklpkhaaa", sum := "52416484939e471ef5008328ddb259fc35a012505a31bbd459e449be14753f07", func := "pension/pensionlaw34.JournalCrashAgrees", spec := "journalCrashAgrees", apart := false }
def JournalCrashAgreesSaid : Prop := journalCrashAgreesRow.holds Try.pinned (OpenSpec.ofChange journalCrashAgreesSpec)

/-- ITS FALSE NEIGHBOUR: 'it returns false'. Refute it at one input. -/
def journalCrashAgreesWrong : ChangeSpec := { name := "journalCrashAgrees", fn := fun _ => fun
  | [d1, d2, d3] => { results := [.lit (.bool false)], args := [d1, d2, d3] }
  | _ => none }
def JournalCrashAgreesWrongFalsely : Prop := journalCrashAgreesRow.holds Try.pinned (OpenSpec.ofChange journalCrashAgreesWrong)

/-- 'pensionlaw34.JournalOpenAgrees': WHATEVER THE INPUT: true; the input reads as it did. -/
def journalOpenAgreesSpec : ChangeSpec := { name := "journalOpenAgrees", fn := fun _ => fun
  | [d1, d2, d3, d4] => { results := [.lit (.bool true)], args := [d1, d2, d3, d4] }
  | _ => none }
def journalOpenAgreesRow : OpenClaim := { program := "yteecjaiklpkhaaa", sum := "52416484939e471ef5008328ddb259fc35a012505a31bbd459e449be14753f07", func := "pension/pensionlaw34.JournalOpenAgrees", spec := "journalOpenAgrees", apart := false }
def JournalOpenAgreesSaid : Prop := journalOpenAgreesRow.holds Try.pinned (OpenSpec.ofChange journalOpenAgreesSpec)

/-- ITS FALSE NEIGHBOUR: 'it returns false'. Refute it at one input. -/
def journalOpenAgreesWrong : ChangeSpec := { name := "journalOpenAgrees", fn := fun _ => fun
  | [d1, d2, d3, d4] => { results := [.lit (.bool false)], args := [d1, d2, d3, d4] }
  | _ => none }
def JournalOpenAgreesWrongFalsely : Prop := journalOpenAgreesRow.holds Try.pinned (OpenSpec.ofChange journalOpenAgreesWrong)

/-- 'pensionlaw34.JournalRecovers': WHATEVER THE INPUT: true; the input reads as it did. -/
def journalRecoversSpec : ChangeSpec := { name := "journalRecovers", fn := fun _ => fun
  | [d1, d2, d3] => { results := [.lit (.bool true)], args := [d1, d2, d3] }
  | _ => none }
def journalRecoversRow : OpenClaim := { program := "yteecjaiklpkhaaa", sum := "52416484939e471ef5008328ddb259fc35a012505a31bbd459e449be14753f07", func := "pension/pensionlaw34.JournalRecovers", spec := "journalRecovers", apart := false }
def JournalRecoversSaid : Prop := journalRecoversRow.holds Try.pinned (OpenSpec.ofChange journalRecoversSpec)

/-- ITS FALSE NEIGHBOUR: 'it returns false'. Refute it at one input. -/
def journalRecoversWrong : ChangeSpec := { name := "journalRecovers", fn := fun _ => fun
  | [d1, d2, d3] => { results := [.lit (.bool false)], args := [d1, d2, d3] }
  | _ => none }
def JournalRecoversWrongFalsely : Prop := journalRecoversRow.holds Try.pinned (OpenSpec.ofChange journalRecoversWrong)

/-- 'pensionlaw34.JournalReopens': WHATEVER THE INPUT: true; the input reads as it did. -/
def journalReopensSpec : ChangeSpec := { name := "journalReopens", fn := fun _ => fun
  | [d1, d2, d3, d4] => { results := [.lit (.bool true)], args := [d1, d2, d3, d4] }
  | _ => none }
def journalReopensRow : OpenClaim := { program := "yteecjaiklpkhaaa", sum := "52416484939e471ef5008328ddb259fc35a012505a31bbd459e449be14753f07", func := "pension/pensionlaw34.JournalReopens", spec := "journalReopens", apart := false }
def JournalReopensSaid : Prop := journalReopensRow.holds Try.pinned (OpenSpec.ofChange journalReopensSpec)

/-- ITS FALSE NEIGHBOUR: 'it returns false'. Refute it at one input. -/
def journalReopensWrong : ChangeSpec := { name := "journalReopens", fn := fun _ => fun
  | [d1, d2, d3, d4] => { results := [.lit (.bool false)], args := [d1, d2, d3, d4] }
  | _ => none }
def JournalReopensWrongFalsely : Prop := journalReopensRow.holds Try.pinned (OpenSpec.ofChange journalReopensWrong)

/-- 'pensionlaw34.JournalDetectsChanges': WHATEVER THE INPUT: true; the input reads as it did. -/
def journalDetectsChangesSpec : ChangeSpec := { name := "journalDetectsChanges", fn := fun _ => fun
  | [d1, d2, d3] => { results := [.lit (.bool true)], args := [d1, d2, d3] }
  | _ => none }
def journalDetectsChangesRow : OpenClaim := { program := "yteecjaiklpkhaaa", sum := "52416484939e471ef5008328ddb259fc35a012505a31bbd459e449be14753f07", func := "pension/pensionlaw34.JournalDetectsChanges", spec := "journalDetectsChanges", apart := false }
def JournalDetectsChangesSaid : Prop := journalDetectsChangesRow.holds Try.pinned (OpenSpec.ofChange journalDetectsChangesSpec)

/-- ITS FALSE NEIGHBOUR: 'it returns false'. Refute it at one input. -/
def journalDetectsChangesWrong : ChangeSpec := { name := "journalDetectsChanges", fn := fun _ => fun
  | [d1, d2, d3] => { results := [.lit (.bool false)], args := [d1, d2, d3] }
  | _ => none }
def JournalDetectsChangesWrongFalsely : Prop := journalDetectsChangesRow.holds Try.pinned (OpenSpec.ofChange journalDetectsChangesWrong)

/-- 'pensionlaw34.JournalAppendRejects': WHATEVER THE INPUT: true; the input reads as it did. -/
def journalAppendRejectsSpec : ChangeSpec := { name := "journalAppendRejects", fn := fun _ => fun
  | [d1, d2] => { results := [.lit (.bool true)], args := [d1, d2] }
  | _ => none }
def journalAppendRejectsRow : OpenClaim := { program := "yteecjaiklpkhaaa", sum := "52416484939e471ef5008328ddb259fc35a012505a31bbd459e449be14753f07", func := "pension/pensionlaw34.JournalAppendRejects", spec := "journalAppendRejects", apart := false }
def JournalAppendRejectsSaid : Prop := journalAppendRejectsRow.holds Try.pinned (OpenSpec.ofChange journalAppendRejectsSpec)

/-- ITS FALSE NEIGHBOUR: 'it returns false'. Refute it at one input. -/
def journalAppendRejectsWrong : ChangeSpec := { name := "journalAppendRejects", fn := fun _ => fun
  | [d1, d2] => { results := [.lit (.bool false)], args := [d1, d2] }
  | _ => none }
def JournalAppendRejectsWrongFalsely : Prop := journalAppendRejectsRow.holds Try.pinned (OpenSpec.ofChange journalAppendRejectsWrong)

/- THE SECOND FORM. 'bulk': how many values and letters a reading holds, each counted each time it is reached (what is shared counts as often as it is met; a slice's spare places count too). A statement '..UptoSaid' is the law's where the arguments, and the package variables that the reading takes, are together of bulk at most 1048576: NARROWER than '..Said'. Prove '..Said' where nothing that the law and all that it calls make is longer than what came in: it says more and counts as full. Else prove '..UptoSaid'. A law counts once. -/
mutual
def uptoBulk {H : Type} : DataW H → Nat
  | .lit (.string bytes) => bytes.length + 1
  | .lit _ => 1
  | .nil => 1
  | .ptr d => uptoBulk d + 1
  | .slice elems spare => uptoBulkAll elems + uptoBulkAll spare + 1
  | .agg parts => uptoBulkAll parts + 1
  | .iface _ d => uptoBulk d + 1
  | .map entries => uptoBulkEntries entries + 1
  | .held _ => 1
def uptoBulkAll {H : Type} : List (DataW H) → Nat
  | [] => 0
  | d :: r => uptoBulk d + uptoBulkAll r
def uptoBulkEntries {H : Type} : List (Lit × DataW H) → Nat
  | [] => 0
  | x :: r => uptoBulkEntry x + uptoBulkEntries r
def uptoBulkEntry {H : Type} : Lit × DataW H → Nat
  | (.string bytes, d) => bytes.length + uptoBulk d + 1
  | (_, d) => uptoBulk d + 1
 end
def uptoSmall : (H : Type) → List (DataW H) → Bool := fun _ ds => decide (uptoBulkAll ds ≤ 1048576)
def OpenSpec.upto (s : _root_.Go.ChangeSpec) : _root_.Go.OpenSpec := { _root_.Go.OpenSpec.ofChange s with cond := some uptoSmall }

/-- 'pensionlaw34.JournalForksApart', WHERE WHAT IT READS IS OF BULK AT MOST 1048576: true; the input reads as it did. -/
def journalForksApartUptoRow : OpenClaim := { program := "yteecjaiklpkhaaa", sum := "52416484939e471ef5008328ddb259fc35a012505a31bbd459e449be14753f07", func := "pension/pensionlaw34.JournalForksApart", spec := "journalForksApart", apart := false, narrowed := true }
def JournalForksApartUptoSaid : Prop := journalForksApartUptoRow.holds Try.pinned (OpenSpec.upto journalForksApartSpec)

/-- 'pensionlaw34.JournalNil', WHERE WHAT IT READS IS OF BULK AT MOST 1048576: true; the input reads as it did. -/
def journalNilUptoRow : OpenClaim := { program := "yteecjaiklpkhaaa", sum := "52416484939e471ef5008328ddb259fc35a012505a31bbd459e449be14753f07", func := "pension/pensionlaw34.JournalNil", spec := "journalNil", apart := false, narrowed := true }
def JournalNilUptoSaid : Prop := journalNilUptoRow.holds Try.pinned (OpenSpec.upto journalNilSpec)

/-- 'pensionlaw34.JournalAgrees', WHERE WHAT IT READS IS OF BULK AT MOST 1048576: true; the input reads as it did. -/
def journalAgreesUptoRow : OpenClaim := { program := "yteecjaiklpkhaaa", sum := "52416484939e471ef5008328ddb259fc35a012505a31bbd459e449be14753f07", func := "pension/pensionlaw34.JournalAgrees", spec := "journalAgrees", apart := false, narrowed := true }
def JournalAgreesUptoSaid : Prop := journalAgreesUptoRow.holds Try.pinned (OpenSpec.upto journalAgreesSpec)

/-- 'pensionlaw34.JournalCrashAgrees', WHERE WHAT IT READS IS OF BULK AT MOST 1048576: true; the input reads as it did. -/
def journalCrashAgreesUptoRow : OpenClaim := { program := "yteecjaiklpkhaaa", sum := "52416484939e471ef5008328ddb259fc35a012505a31bbd459e449be14753f07", func := "pension/pensionlaw34.JournalCrashAgrees", spec := "journalCrashAgrees", apart := false, narrowed := true }
def JournalCrashAgreesUptoSaid : Prop := journalCrashAgreesUptoRow.holds Try.pinned (OpenSpec.upto journalCrashAgreesSpec)

/-- 'pensionlaw34.JournalOpenAgrees', WHERE WHAT IT READS IS OF BULK AT MOST 1048576: true; the input reads as it did. -/
def journalOpenAgreesUptoRow : OpenClaim := { program := "yteecjaiklpkhaaa", sum := "52416484939e471ef5008328ddb259fc35a012505a31bbd459e449be14753f07", func := "pension/pensionlaw34.JournalOpenAgrees", spec := "journalOpenAgrees", apart := false, narrowed := true }
def JournalOpenAgreesUptoSaid : Prop := journalOpenAgreesUptoRow.holds Try.pinned (OpenSpec.upto journalOpenAgreesSpec)

/-- 'pensionlaw34.JournalRecovers', WHERE WHAT IT READS IS OF BULK AT MOST 1048576: true; the input reads as it did. -/
def journalRecoversUptoRow : OpenClaim := { program := "yteecjaiklpkhaaa", sum := "52416484939e471ef5008328ddb259fc35a012505a31bbd459e449be14753f07", func := "pension/pensionlaw34.JournalRecovers", spec := "journalRecovers", apart := false, narrowed := true }
def JournalRecoversUptoSaid : Prop := journalRecoversUptoRow.holds Try.pinned (OpenSpec.upto journalRecoversSpec)

/-- 'pensionlaw34.JournalReopens', WHERE WHAT IT READS IS OF BULK AT MOST 1048576: true; the input reads as it did. -/
def journalReopensUptoRow : OpenClaim := { program := "yteecjaiklpkhaaa", sum := "52416484939e471ef5008328ddb259fc35a012505a31bbd459e449be14753f07", func := "pension/pensionlaw34.JournalReopens", spec := "journalReopens", apart := false, narrowed := true }
def JournalReopensUptoSaid : Prop := journalReopensUptoRow.holds Try.pinned (OpenSpec.upto journalReopensSpec)

/-- 'pensionlaw34.JournalDetectsChanges', WHERE WHAT IT READS IS OF BULK AT MOST 1048576: true; the input reads as it did. -/
def journalDetectsChangesUptoRow : OpenClaim := { program := "yteecjaiklpkhaaa", sum := "52416484939e471ef5008328ddb259fc35a012505a31bbd459e449be14753f07", func := "pension/pensionlaw34.JournalDetectsChanges", spec := "journalDetectsChanges", apart := false, narrowed := true }
def JournalDetectsChangesUptoSaid : Prop := journalDetectsChangesUptoRow.holds Try.pinned (OpenSpec.upto journalDetectsChangesSpec)

/-- 'pensionlaw34.JournalAppendRejects', WHERE WHAT IT READS IS OF BULK AT MOST 1048576: true; the input reads as it did. -/
def journalAppendRejectsUptoRow : OpenClaim := { program := "yteecjaiklpkhaaa", sum := "52416484939e471ef5008328ddb259fc35a012505a31bbd459e449be14753f07", func := "pension/pensionlaw34.JournalAppendRejects", spec := "journalAppendRejects", apart := false, narrowed := true }
def JournalAppendRejectsUptoSaid : Prop := journalAppendRejectsUptoRow.holds Try.pinned (OpenSpec.upto journalAppendRejectsSpec)

end Rows
end Go.Proofs.Yteecjaiklpkhaaa
