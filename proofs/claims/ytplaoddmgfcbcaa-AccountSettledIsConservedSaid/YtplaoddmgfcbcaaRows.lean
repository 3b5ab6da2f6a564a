/-
  No cell of these rows narrows 'for every input' (looked for: loops, veiled, ifaces, maps, wideKeys, modest, calm, conditions, laid).
  DERIVED. THE GIVEN ROWS OF THIS SEAT. 9 by the template 'for every input the law returns true; each argument reads behind the call as it read before'; 0 by the template 'total and deterministic' (their statements: YtplaoddmgfcbcaaTotals.lean).
  GIVEN WITH THE SEED: the statements are not yours to turn. If you find one false, say at which input.
  Laid BY PROGRAM, IN A SANDBOX (cutbox-rows.mjs): the forced cells as the released guide's own fill.sh prints them over the translation b7fcfd91625c79c5… (all of the seat's roots in one cut). By AI agents, Wed Nov 11 2026. No macro, syntax, notation, axiom, sorry.
-/
import Derived.Test.YtplaoddmgfcbcaaChecked
import GoSem.Claim
import GoSem.ClaimJoined
import GoSem.ClaimMapViews
import Derived.JoinedTies
import Derived.KernelRfl
namespace Go.Proofs.Ytplaoddmgfcbcaa
/- THE CELL 'sum', in the pinned program and in every row, IS THE sha256 OF THE DUMP (.gsa) THAT YtplaoddmgfcbcaaProg.lean LOADS. Nothing in Lean hashes anything: it is a label: what it is worth is what the hold of that sum in a sandbox is worth. -/
noncomputable def Try.pinned : Pinned := { name := "ytplaoddmgfcbcaa", sum := "b7fcfd91625c79c5e3dd813c2e3808239978610281e0d0295e2dfd774a766cb7", checked := Try.checked }
namespace Rows
def none {H : Type} : Left H := { results := [], args := [] }

/-- 'pensionlaw28.AccountRejectsOneField': WHATEVER THE INPUT: true; the input reads as it did. -/
def accountRejectsOneFieldSpec : ChangeSpec := { name := "accountRejectsOneField", fn := fun _ => fun
  | [d1, d2, d3] => { results := [.lit (.bool true)], args := [d1, d2, d3] }
  | _ => none }
def accountRejectsOneFieldRow : OpenClaim := { program := "ytplaoddmgfcbcaa", sum := "b7fcfd91625c79c5e3dd813c2e3808239978610281e0d0295e2dfd774a766cb7", func := "pension/pensionlaw28.AccountRejectsOneField", spec := "accountRejectsOneField", plainKeys := false, apart := false }
def AccountRejectsOneFieldSaid : Prop := accountRejectsOneFieldRow.holds Try.pinned (OpenSpec.ofChange accountRejectsOneFieldSpec)

/-- ITS FALSE NEIGHBOUR: 'it returns false'. Refute it at one input. -/
def accountRejectsOneFieldWrong : ChangeSpec := { name := "accountRejectsOneField", fn := fun _ => fun
  | [d1, d2, d3] => { results := [.lit (.bool false)], args := [d1, d2, d3] }
  | _ => none }
def AccountRejectsOneFieldWrongFalsely : Prop := accountRejectsOneFieldRow.holds Try.pinned (OpenSpec.ofChange accountRejectsOneFieldWrong)

/-- 'pensionlaw28.AccountPostsOnce': WHATEVER THE INPUT: true; the input reads as it did. -/
def accountPostsOnceSpec : ChangeSpec := { name := "accountPostsOnce", fn := fun _ => fun
  | [d1, d2, d3, d4, d5] => { results := [.lit (.bool true)], args := [d1, d2, d3, d4, d5] }
  | _ => none }
def accountPostsOnceRow : OpenClaim := { program := "ytplaoddmgfcbcaa", sum := "b7fcfd91625c79c5e3dd813c2e3808239978610281e0d0295e2dfd774a766cb7", func := "pension/pensionlaw28.AccountPostsOnce", spec := "accountPostsOnce", plainKeys := false, apart := false }
def AccountPostsOnceSaid : Prop := accountPostsOnceRow.holds Try.pinned (OpenSpec.ofChange accountPostsOnceSpec)

/-- ITS FALSE NEIGHBOUR: 'it returns false'. Refute it at one input. -/
def accountPostsOnceWrong : ChangeSpec := { name := "accountPostsOnce", fn := fun _ => fun
  | [d1, d2, d3, d4, d5] => { results := [.lit (.bool false)], args := [d1, d2, d3, d4, d5] }
  | _ => none }
def AccountPostsOnceWrongFalsely : Prop := accountPostsOnceRow.holds Try.pinned (OpenSpec.ofChange accountPostsOnceWrong)

/-- 'pensionlaw28.AccountIsChronological': WHATEVER THE INPUT: true; the input reads as it did. -/
def accountIsChronologicalSpec : ChangeSpec := { name := "accountIsChronological", fn := fun _ => fun
  | [d1, d2] => { results := [.lit (.bool true)], args := [d1, d2] }
  | _ => none }
def accountIsChronologicalRow : OpenClaim := { program := "ytplaoddmgfcbcaa", sum := "b7fcfd91625c79c5e3dd813c2e3808239978610281e0d0295e2dfd774a766cb7", func := "pension/pensionlaw28.AccountIsChronological", spec := "accountIsChronological", plainKeys := false, apart := false }
def AccountIsChronologicalSaid : Prop := accountIsChronologicalRow.holds Try.pinned (OpenSpec.ofChange accountIsChronologicalSpec)

/-- ITS FALSE NEIGHBOUR: 'it returns false'. Refute it at one input. -/
def accountIsChronologicalWrong : ChangeSpec := { name := "accountIsChronological", fn := fun _ => fun
  | [d1, d2] => { results := [.lit (.bool false)], args := [d1, d2] }
  | _ => none }
def AccountIsChronologicalWrongFalsely : Prop := accountIsChronologicalRow.holds Try.pinned (OpenSpec.ofChange accountIsChronologicalWrong)

/-- 'pensionlaw28.AccountBalanceRejects': WHATEVER THE INPUT: true; the input reads as it did. -/
def accountBalanceRejectsSpec : ChangeSpec := { name := "accountBalanceRejects", fn := fun _ => fun
  | [d1, d2] => { results := [.lit (.bool true)], args := [d1, d2] }
  | _ => none }
def accountBalanceRejectsRow : OpenClaim := { program := "ytplaoddmgfcbcaa", sum := "b7fcfd91625c79c5e3dd813c2e3808239978610281e0d0295e2dfd774a766cb7", func := "pension/pensionlaw28.AccountBalanceRejects", spec := "accountBalanceRejects", plainKeys := false, apart := false }
def AccountBalanceRejectsSaid : Prop := accountBalanceRejectsRow.holds Try.pinned (OpenSpec.ofChange accountBalanceRejectsSpec)

/-- ITS FALSE NEIGHBOUR: 'it returns false'. Refute it at one input. -/
def accountBalanceRejectsWrong : ChangeSpec := { name := "accountBalanceRejects", fn := fun _ => fun
  | [d1, d2] => { results := [.lit (.bool false)], args := [d1, d2] }
  | _ => none }
def AccountBalanceRejectsWrongFalsely : Prop := accountBalanceRejectsRow.holds Try.pinned (OpenSpec.ofChange accountBalanceRejectsWrong)

/-- 'pensionlaw28.AccountPostAgrees': WHATEVER THE INPUT: true; the input reads as it did. -/
def accountPostAgreesSpec : ChangeSpec := { name := "accountPostAgrees", fn := fun _ => fun
  | [d] => { results := [.lit (.bool true)], args := [d] }
  | _ => none }
def accountPostAgreesRow : OpenClaim := { program := "ytplaoddmgfcbcaa", sum := "b7fcfd91625c79c5e3dd813c2e3808239978610281e0d0295e2dfd774a766cb7", func := "pension/pensionlaw28.AccountPostAgrees", spec := "accountPostAgrees", plainKeys := false, apart := false }
def AccountPostAgreesSaid : Prop := accountPostAgreesRow.holds Try.pinned (OpenSpec.ofChange accountPostAgreesSpec)

/-- ITS FALSE NEIGHBOUR: 'it returns false'. Refute it at one input. -/
def accountPostAgreesWrong : ChangeSpec := { name := "accountPostAgrees", fn := fun _ => fun
  | [d] => { results := [.lit (.bool false)], args := [d] }
  | _ => none }
def AccountPostAgreesWrongFalsely : Prop := accountPostAgreesRow.holds Try.pinned (OpenSpec.ofChange accountPostAgreesWrong)

/-- 'pensionlaw28.AccountPostRejects': WHATEVER THE INPUT: true; the input reads as it did. -/
def accountPostRejectsSpec : ChangeSpec := { name := "accountPostRejects", fn := fun _ => fun
  | [d] => { results := [.lit (.bool true)], args := [d] }
  | _ => none }
def accountPostRejectsRow : OpenClaim := { program := "ytplaoddmgfcbcaa", sum := "b7fcfd91625c79c5e3dd813c2e3808239978610281e0d0295e2dfd774a766cb7", func := "pension/pensionlaw28.AccountPostRejects", spec := "accountPostRejects", plainKeys := false, apart := false }
def AccountPostRejectsSaid : Prop := accountPostRejectsRow.holds Try.pinned (OpenSpec.ofChange accountPostRejectsSpec)

/-- ITS FALSE NEIGHBOUR: 'it returns false'. Refute it at one input. -/
def accountPostRejectsWrong : ChangeSpec := { name := "accountPostRejects", fn := fun _ => fun
  | [d] => { results := [.lit (.bool false)], args := [d] }
  | _ => none }
def AccountPostRejectsWrongFalsely : Prop := accountPostRejectsRow.holds Try.pinned (OpenSpec.ofChange accountPostRejectsWrong)

/-- 'pensionlaw28.AccountSettledIsConserved': WHATEVER THE INPUT: true; the input reads as it did. -/
def accountSettledIsConservedSpec : ChangeSpec := { name := "accountSettledIsConserved", fn := fun _ => fun
  | [d1, d2] => { results := [.lit (.bool true)], args := [d1, d2] }
  | _ => none }
def accountSettledIsConservedRow : OpenClaim := { program := "ytplaoddmgfcbcaa", sum := "b7fcfd91625c79c5e3dd813c2e3808239978610281e0d0295e2dfd774a766cb7", func := "pension/pensionlaw28.AccountSettledIsConserved", spec := "accountSettledIsConserved", plainKeys := false, apart := false }
def AccountSettledIsConservedSaid : Prop := accountSettledIsConservedRow.holds Try.pinned (OpenSpec.ofChange accountSettledIsConservedSpec)

/-- ITS FALSE NEIGHBOUR: 'it returns false'. Refute it at one input. -/
def accountSettledIsConservedWrong : ChangeSpec := { name := "accountSettledIsConserved", fn := fun _ => fun
  | [d1, d2] => { results := [.lit (.bool false)], args := [d1, d2] }
  | _ => none }
def AccountSettledIsConservedWrongFalsely : Prop := accountSettledIsConservedRow.holds Try.pinned (OpenSpec.ofChange accountSettledIsConservedWrong)

/-- 'pensionlaw28.AccountForksApart': WHATEVER THE INPUT: true; the input reads as it did. -/
def accountForksApartSpec : ChangeSpec := { name := "accountForksApart", fn := fun _ => fun
  | [d1, d2] => { results := [.lit (.bool true)], args := [d1, d2] }
  | _ => none }
def accountForksApartRow : OpenClaim := { program := "ytplaoddmgfcbcaa", sum := "b7fcfd91625c79c5e3dd813c2e3808239978610281e0d0295e2dfd774a766cb7", func := "pension/pensionlaw28.AccountForksApart", spec := "accountForksApart", inPlace := ["maps.clone"], plainKeys := false, apart := false }
def AccountForksApartSaid : Prop := accountForksApartRow.holds Try.pinned (OpenSpec.ofChange accountForksApartSpec)

/-- ITS FALSE NEIGHBOUR: 'it returns false'. Refute it at one input. -/
def accountForksApartWrong : ChangeSpec := { name := "accountForksApart", fn := fun _ => fun
  | [d1, d2] => { results := [.lit (.bool false)], args := [d1, d2] }
  | _ => none }
def AccountForksApartWrongFalsely : Prop := accountForksApartRow.holds Try.pinned (OpenSpec.ofChange accountForksApartWrong)

/-- 'pensionlaw28.AccountNil': WHATEVER THE INPUT: true; the input reads as it did. -/
def accountNilSpec : ChangeSpec := { name := "accountNil", fn := fun _ => fun
  | [d1, d2] => { results := [.lit (.bool true)], args := [d1, d2] }
  | _ => none }
def accountNilRow : OpenClaim := { program := "ytplaoddmgfcbcaa", sum := "b7fcfd91625c79c5e3dd813c2e3808239978610281e0d0295e2dfd774a766cb7", func := "pension/pensionlaw28.AccountNil", spec := "accountNil", inPlace := ["maps.clone"], plainKeys := false, apart := false }
def AccountNilSaid : Prop := accountNilRow.holds Try.pinned (OpenSpec.ofChange accountNilSpec)

/-- ITS FALSE NEIGHBOUR: 'it returns false'. Refute it at one input. -/
def accountNilWrong : ChangeSpec := { name := "accountNil", fn := fun _ => fun
  | [d1, d2] => { results := [.lit (.bool false)], args := [d1, d2] }
  | _ => none }
def AccountNilWrongFalsely : Prop := accountNilRow.holds Try.pinned (OpenSpec.ofChange accountNilWrong)

/- THE SECOND FORM. 'bulk': how many values and letters a reading holds, each counted each time it is reached (what is shared counts as often as it is met; a slice's spare places count too). A statement '..UptoSaid' is the law's where the arguments, and the package variables that the reading takes, are together of bulk at most 1048576: NARROWER than '..Said'. Prove '..Said' where nothing that the law and all that it calls make is longer than what came in: it says more and counts as full. Else prove '..UptoSaid'. A law counts once. -/
mutual
def uptoBulk {H : Type} : DataW H → Nat
  | .lit (.string bytes) => bytes.length + 1
  | .lit _ => 1
  | .nil => 1
  | .ptr d => uptoBulk d + 1
  | .slice elems spare => uptoBulkAll elems + uptoBulkAll spare + 1
  | .agg parts => uptoBulkAll parts + 1
  | .iface _ d => uptoBulk d + 1
  | .map entries => uptoBulkEntries entries + 1
  | .held _ => 1
def uptoBulkAll {H : Type} : List (DataW H) → Nat
  | [] => 0
  | d :: r => uptoBulk d + uptoBulkAll r
def uptoBulkEntries {H : Type} : List (Lit × DataW H) → Nat
  | [] => 0
  | x :: r => uptoBulkEntry x + uptoBulkEntries r
def uptoBulkEntry {H : Type} : Lit × DataW H → Nat
  | (.string bytes, d) => bytes.length + uptoBulk d + 1
  | (_, d) => uptoBulk d + 1
 end
def uptoSmall : (H : Type) → List (DataW H) → Bool := fun _ ds => decide (uptoBulkAll ds ≤ 1048576)
def OpenSpec.upto (s : _root_.Go.ChangeSpec) : _root_.Go.OpenSpec := { _root_.Go.OpenSpec.ofChange s with cond := some uptoSmall }

/-- 'pensionlaw28.AccountRejectsOneField', WHERE WHAT IT READS IS OF BULK AT MOST 1048576: true; the input reads as it did. -/
def accountRejectsOneFieldUptoRow : OpenClaim := { program := "ytplaoddmgfcbcaa", sum := "b7fcfd91625c79c5e3dd813c2e3808239978610281e0d0295e2dfd774a766cb7", func := "pension/pensionlaw28.AccountRejectsOneField", spec := "accountRejectsOneField", plainKeys := false, apart := false, narrowed := true }
def AccountRejectsOneFieldUptoSaid : Prop := accountRejectsOneFieldUptoRow.holds Try.pinned (OpenSpec.upto accountRejectsOneFieldSpec)

/-- 'pensionlaw28.AccountPostsOnce', WHERE WHAT IT READS IS OF BULK AT MOST 1048576: true; the input reads as it did. -/
def accountPostsOnceUptoRow : OpenClaim := { program := "ytplaoddmgfcbcaa", sum := "b7fcfd91625c79c5e3dd813c2e3808239978610281e0d0295e2dfd774a766cb7", func := "pension/pensionlaw28.AccountPostsOnce", spec := "accountPostsOnce", plainKeys := false, apart := false, narrowed := true }
def AccountPostsOnceUptoSaid : Prop := accountPostsOnceUptoRow.holds Try.pinned (OpenSpec.upto accountPostsOnceSpec)

/-- 'pensionlaw28.AccountIsChronological', WHERE WHAT IT READS IS OF BULK AT MOST 1048576: true; the input reads as it did. -/
def accountIsChronologicalUptoRow : OpenClaim := { program := "ytplaoddmgfcbcaa", sum := "b7fcfd91625c79c5e3dd813c2e3808239978610281e0d0295e2dfd774a766cb7", func := "pension/pensionlaw28.AccountIsChronological", spec := "accountIsChronological", plainKeys := false, apart := false, narrowed := true }
def AccountIsChronologicalUptoSaid : Prop := accountIsChronologicalUptoRow.holds Try.pinned (OpenSpec.upto accountIsChronologicalSpec)

/-- 'pensionlaw28.AccountBalanceRejects', WHERE WHAT IT READS IS OF BULK AT MOST 1048576: true; the input reads as it did. -/
def accountBalanceRejectsUptoRow : OpenClaim := { program := "ytplaoddmgfcbcaa", sum := "b7fcfd91625c79c5e3dd813c2e3808239978610281e0d0295e2dfd774a766cb7", func := "pension/pensionlaw28.AccountBalanceRejects", spec := "accountBalanceRejects", plainKeys := false, apart := false, narrowed := true }
def AccountBalanceRejectsUptoSaid : Prop := accountBalanceRejectsUptoRow.holds Try.pinned (OpenSpec.upto accountBalanceRejectsSpec)

/-- 'pensionlaw28.AccountPostAgrees', WHERE WHAT IT READS IS OF BULK AT MOST 1048576: true; the input reads as it did. -/
def accountPostAgreesUptoRow : OpenClaim := { program := "ytplaoddmgfcbcaa", sum := "b7fcfd91625c79c5e3dd813c2e3808239978610281e0d0295e2dfd774a766cb7", func := "pension/pensionlaw28.AccountPostAgrees", spec := "accountPostAgrees", plainKeys := false, apart := false, narrowed := true }
def AccountPostAgreesUptoSaid : Prop := accountPostAgreesUptoRow.holds Try.pinned (OpenSpec.upto accountPostAgreesSpec)

/-- 'pensionlaw28.AccountPostRejects', WHERE WHAT IT READS IS OF BULK AT MOST 1048576: true; the input reads as it did. -/
def accountPostRejectsUptoRow : OpenClaim := { program := "ytplaoddmgfcbcaa", sum := "b7fcfd91625c79c5e3dd813c2e3808239978610281e0d0295e2dfd774a766cb7", func := "pension/pensionlaw28.AccountPostRejects", spec := "accountPostRejects", plainKeys := false, apart := false, narrowed := true }
def AccountPostRejectsUptoSaid : Prop := accountPostRejectsUptoRow.holds Try.pinned (OpenSpec.upto accountPostRejectsSpec)

/-- 'pensionlaw28.AccountSettledIsConserved', WHERE WHAT IT READS IS OF BULK AT MOST 1048576: true; the input reads as it did. -/
def accountSettledIsConservedUptoRow : OpenClaim := { program := "ytplaoddmgfcbcaa", sum := "b7fcfd91625c79c5e3dd813c2e3808239978610281e0d0295e2dfd774a766cb7", func := "pension/pensionlaw28.AccountSettledIsConserved", spec := "accountSettledIsConserved", plainKeys := false, apart := false, narrowed := true }
def AccountSettledIsConservedUptoSaid : Prop := accountSettledIsConservedUptoRow.holds Try.pinned (OpenSpec.upto accountSettledIsConservedSpec)

/-- 'pensionlaw28.AccountForksApart', WHERE WHAT IT READS IS OF BULK AT MOST 1048576: true; the input reads as it did. -/
def accountForksApartUptoRow : OpenClaim := { program := "ytplaoddmgfcbcaa", sum := "b7fcfd91625c79c5e3dd813c2e3808239978610281e0d0295e2dfd774a766cb7", func := "pension/pensionlaw28.AccountForksApart", spec := "accountForksApart", inPlace := ["maps.clone"], plainKeys := false, apart := false, narrowed := true }
def AccountForksApartUptoSaid : Prop := accountForksApartUptoRow.holds Try.pinned (OpenSpec.upto accountForksApartSpec)

/-- 'pensionlaw28.AccountNil', WHERE WHAT IT READS IS OF BULK AT MOST 1048576: true; the input reads as it did. -/
def accountNilUptoRow : OpenClaim := { program := "ytplaoddmgfcbcaa", sum := "b7fcfd91625c79c5e3dd813c2e3808239978610281e0d0295e2dfd774a766cb7", func := "pension/pensionlaw28.AccountNil", spec := "accountNil", inPlace := ["maps.clone"], plainKeys := false, apart := false, narrowed := true }
def AccountNilUptoSaid : Prop := accountNilUptoRow.holds Try.pinned (OpenSpec.upto accountNilSpec)

end Rows
end Go.Proofs.Ytplaoddmgfcbcaa
