/-
  No cell of these rows narrows 'for every input' (looked for: loops, veiled, ifaces, maps, wideKeys, modest, calm, conditions, laid).
  DERIVED. THE GIVEN ROWS OF THIS SEAT. 8 by the template 'for every input the law returns true; each argument reads behind the call as it read before'; 0 by the template 'total and deterministic' (their statements: YtcpcgllkdpfacaaTotals.lean).
  GIVEN WITH THE SEED: the statements are not yours to turn. If you find one false, say at which input.
  Laid BY PROGRAM, IN A SANDBOX (cutbox-rows.mjs): the forced cells as the released guide's own fill.sh prints them over the translation a397fa7051c78383… (all of the seat's roots in one cut). By AI agents, Wed Nov 11 2026. No macro, syntax, notation, axiom, sorry.
-/
import Derived.Test.YtcpcgllkdpfacaaChecked
import GoSem.Claim
import GoSem.ClaimJoined
import GoSem.ClaimMapViews
import Derived.JoinedTies
import Derived.KernelRfl
namespace Go.Proofs.Ytcpcgllkdpfacaa
/- THE CELL 'sum', in the pinned program and in every row, IS THE sha256 OF THE DUMP (.gsa) THAT YtcpcgllkdpfacaaProg.lean LOADS. Nothing in Lean hashes anything: it is a label: what it is worth is what the hold of that sum in a sandbox is worth. -/
noncomputable def Try.pinned : Pinned := { name := "ytcpcgllkdpfacaa", sum := "a397fa7051c783839a4827b4163328c90e2a545f73b5cdd00d73a5c73d8ffe4b", checked := Try.checked }
namespace Rows
def none {H : Type} : Left H := { results := [], args := [] }

/-- 'pensionlaw33.ChannelSendRejects': WHATEVER THE INPUT: true; the input reads as it did. -/
def channelSendRejectsSpec : ChangeSpec := { name := "channelSendRejects", fn := fun _ => fun
  | [d1, d2, d3] => { results := [.lit (.bool true)], args := [d1, d2, d3] }
  | _ => none }
def channelSendRejectsRow : OpenClaim := { program := "ytcpcgllkdpfacaa", sum := "a397fa7051c783839a4827b4163328c90e2a545f73b5cdd00d73a5c73d8ffe4b", func := "pension/pensionlaw33.ChannelSendRejects", spec := "channelSendRejects", apart := false }
def ChannelSendRejectsSaid : Prop := channelSendRejectsRow.holds Try.pinned (OpenSpec.ofChange channelSendRejectsSpec)

/-- ITS FALSE NEIGHBOUR: 'it returns false'. Refute it at one input. -/
def channelSendRejectsWrong : ChangeSpec := { name := "channelSendRejects", fn := fun _ => fun
  | [d1, d2, d3] => { results := [.lit (.bool false)], args := [d1, d2, d3] }
  | _ => none }
def ChannelSendRejectsWrongFalsely : Prop := channelSendRejectsRow.holds Try.pinned (OpenSpec.ofChange channelSendRejectsWrong)

/-- 'pensionlaw33.ChannelKeepsOrder': WHATEVER THE INPUT: true; the input reads as it did. -/
def channelKeepsOrderSpec : ChangeSpec := { name := "channelKeepsOrder", fn := fun _ => fun
  | [d] => { results := [.lit (.bool true)], args := [d] }
  | _ => none }
def channelKeepsOrderRow : OpenClaim := { program := "ytcpcgllkdpfacaa", sum := "a397fa7051c783839a4827b4163328c90e2a545f73b5cdd00d73a5c73d8ffe4b", func := "pension/pensionlaw33.ChannelKeepsOrder", spec := "channelKeepsOrder", apart := false }
def ChannelKeepsOrderSaid : Prop := channelKeepsOrderRow.holds Try.pinned (OpenSpec.ofChange channelKeepsOrderSpec)

/-- ITS FALSE NEIGHBOUR: 'it returns false'. Refute it at one input. -/
def channelKeepsOrderWrong : ChangeSpec := { name := "channelKeepsOrder", fn := fun _ => fun
  | [d] => { results := [.lit (.bool false)], args := [d] }
  | _ => none }
def ChannelKeepsOrderWrongFalsely : Prop := channelKeepsOrderRow.holds Try.pinned (OpenSpec.ofChange channelKeepsOrderWrong)

/-- 'pensionlaw33.ChannelAgrees': WHATEVER THE INPUT: true; the input reads as it did. -/
def channelAgreesSpec : ChangeSpec := { name := "channelAgrees", fn := fun _ => fun
  | [d] => { results := [.lit (.bool true)], args := [d] }
  | _ => none }
def channelAgreesRow : OpenClaim := { program := "ytcpcgllkdpfacaa", sum := "a397fa7051c783839a4827b4163328c90e2a545f73b5cdd00d73a5c73d8ffe4b", func := "pension/pensionlaw33.ChannelAgrees", spec := "channelAgrees", apart := false }
def ChannelAgreesSaid : Prop := channelAgreesRow.holds Try.pinned (OpenSpec.ofChange channelAgreesSpec)

/-- ITS FALSE NEIGHBOUR: 'it returns false'. Refute it at one input. -/
def channelAgreesWrong : ChangeSpec := { name := "channelAgrees", fn := fun _ => fun
  | [d] => { results := [.lit (.bool false)], args := [d] }
  | _ => none }
def ChannelAgreesWrongFalsely : Prop := channelAgreesRow.holds Try.pinned (OpenSpec.ofChange channelAgreesWrong)

/-- 'pensionlaw33.ChannelConserves': WHATEVER THE INPUT: true; the input reads as it did. -/
def channelConservesSpec : ChangeSpec := { name := "channelConserves", fn := fun _ => fun
  | [d] => { results := [.lit (.bool true)], args := [d] }
  | _ => none }
def channelConservesRow : OpenClaim := { program := "ytcpcgllkdpfacaa", sum := "a397fa7051c783839a4827b4163328c90e2a545f73b5cdd00d73a5c73d8ffe4b", func := "pension/pensionlaw33.ChannelConserves", spec := "channelConserves", apart := false }
def ChannelConservesSaid : Prop := channelConservesRow.holds Try.pinned (OpenSpec.ofChange channelConservesSpec)

/-- ITS FALSE NEIGHBOUR: 'it returns false'. Refute it at one input. -/
def channelConservesWrong : ChangeSpec := { name := "channelConserves", fn := fun _ => fun
  | [d] => { results := [.lit (.bool false)], args := [d] }
  | _ => none }
def ChannelConservesWrongFalsely : Prop := channelConservesRow.holds Try.pinned (OpenSpec.ofChange channelConservesWrong)

/-- 'pensionlaw33.ChannelRepeats': WHATEVER THE INPUT: true; the input reads as it did. -/
def channelRepeatsSpec : ChangeSpec := { name := "channelRepeats", fn := fun _ => fun
  | [d1, d2] => { results := [.lit (.bool true)], args := [d1, d2] }
  | _ => none }
def channelRepeatsRow : OpenClaim := { program := "ytcpcgllkdpfacaa", sum := "a397fa7051c783839a4827b4163328c90e2a545f73b5cdd00d73a5c73d8ffe4b", func := "pension/pensionlaw33.ChannelRepeats", spec := "channelRepeats", apart := false }
def ChannelRepeatsSaid : Prop := channelRepeatsRow.holds Try.pinned (OpenSpec.ofChange channelRepeatsSpec)

/-- ITS FALSE NEIGHBOUR: 'it returns false'. Refute it at one input. -/
def channelRepeatsWrong : ChangeSpec := { name := "channelRepeats", fn := fun _ => fun
  | [d1, d2] => { results := [.lit (.bool false)], args := [d1, d2] }
  | _ => none }
def ChannelRepeatsWrongFalsely : Prop := channelRepeatsRow.holds Try.pinned (OpenSpec.ofChange channelRepeatsWrong)

/-- 'pensionlaw33.ChannelIsLimited': WHATEVER THE INPUT: true; the input reads as it did. -/
def channelIsLimitedSpec : ChangeSpec := { name := "channelIsLimited", fn := fun _ => fun
  | [d] => { results := [.lit (.bool true)], args := [d] }
  | _ => none }
def channelIsLimitedRow : OpenClaim := { program := "ytcpcgllkdpfacaa", sum := "a397fa7051c783839a4827b4163328c90e2a545f73b5cdd00d73a5c73d8ffe4b", func := "pension/pensionlaw33.ChannelIsLimited", spec := "channelIsLimited", apart := false }
def ChannelIsLimitedSaid : Prop := channelIsLimitedRow.holds Try.pinned (OpenSpec.ofChange channelIsLimitedSpec)

/-- ITS FALSE NEIGHBOUR: 'it returns false'. Refute it at one input. -/
def channelIsLimitedWrong : ChangeSpec := { name := "channelIsLimited", fn := fun _ => fun
  | [d] => { results := [.lit (.bool false)], args := [d] }
  | _ => none }
def ChannelIsLimitedWrongFalsely : Prop := channelIsLimitedRow.holds Try.pinned (OpenSpec.ofChange channelIsLimitedWrong)

/-- 'pensionlaw33.ChannelForksApart': WHATEVER THE INPUT: true; the input reads as it did. -/
def channelForksApartSpec : ChangeSpec := { name := "channelForksApart", fn := fun _ => fun
  | [d1, d2] => { results := [.lit (.bool true)], args := [d1, d2] }
  | _ => none }
def channelForksApartRow : OpenClaim := { program := "ytcpcgllkdpfacaa", sum := "a397fa7051c783839a4827b4163328c90e2a545f73b5cdd00d73a5c73d8ffe4b", func := "pension/pensionlaw33.ChannelForksApart", spec := "channelForksApart", apart := false }
def ChannelForksApartSaid : Prop := channelForksApartRow.holds Try.pinned (OpenSpec.ofChange channelForksApartSpec)

/-- ITS FALSE NEIGHBOUR: 'it returns false'. Refute it at one input. -/
def channelForksApartWrong : ChangeSpec := { name := "channelForksApart", fn := fun _ => fun
  | [d1, d2] => { results := [.lit (.bool false)], args := [d1, d2] }
  | _ => none }
def ChannelForksApartWrongFalsely : Prop := channelForksApartRow.holds Try.pinned (OpenSpec.ofChange channelForksApartWrong)

/-- 'pensionlaw33.ChannelNil': WHATEVER THE INPUT: true; the input reads as it did. -/
def channelNilSpec : ChangeSpec := { name := "channelNil", fn := fun _ => fun
  | [d] => { results := [.lit (.bool true)], args := [d] }
  | _ => none }
def channelNilRow : OpenClaim := { program := "ytcpcgllkdpfacaa", sum := "a397fa7051c783839a4827b4163328c90e2a545f73b5cdd00d73a5c73d8ffe4b", func := "pension/pensionlaw33.ChannelNil", spec := "channelNil", apart := false }
def ChannelNilSaid : Prop := channelNilRow.holds Try.pinned (OpenSpec.ofChange channelNilSpec)

/-- ITS FALSE NEIGHBOUR: 'it returns false'. Refute it at one input. -/
def channelNilWrong : ChangeSpec := { name := "channelNil", fn := fun _ => fun
  | [d] => { results := [.lit (.bool false)], args := [d] }
  | _ => none }
def ChannelNilWrongFalsely : Prop := channelNilRow.holds Try.pinned (OpenSpec.ofChange channelNilWrong)

/- THE SECOND FORM. 'bulk': how many values and letters a reading holds, each counted each time it is reached (what is shared counts as often as it is met; a slice's spare places count too). A statement '..UptoSaid' is the law's where the arguments, and the package variables that the reading takes, are together of bulk at most 1048576: NARROWER than '..Said'. Prove '..Said' where nothing that the law and all that it calls make is longer than what came in: it says more and counts as full. Else prove '..UptoSaid'. A law counts once. -/
mutual
def uptoBulk {H : Type} : DataW H → Nat
  | .lit (.string bytes) => bytes.length + 1
  | .lit _ => 1
  | .nil => 1
  | .ptr d => uptoBulk d + 1
  | .slice elems spare => uptoBulkAll elems + uptoBulkAll spare + 1
  | .agg parts => uptoBulkAll parts + 1
  | .iface _ d => uptoBulk d + 1
  | .map entries => uptoBulkEntries entries + 1
  | .held _ => 1
def uptoBulkAll {H : Type} : List (DataW H) → Nat
  | [] => 0
  | d :: r => uptoBulk d + uptoBulkAll r
def uptoBulkEntries {H : Type} : List (Lit × DataW H) → Nat
  | [] => 0
  | x :: r => uptoBulkEntry x + uptoBulkEntries r
def uptoBulkEntry {H : Type} : Lit × DataW H → Nat
  | (.string bytes, d) => bytes.length + uptoBulk d + 1
  | (_, d) => uptoBulk d + 1
 end
def uptoSmall : (H : Type) → List (DataW H) → Bool := fun _ ds => decide (uptoBulkAll ds ≤ 1048576)
def OpenSpec.upto (s : _root_.Go.ChangeSpec) : _root_.Go.OpenSpec := { _root_.Go.OpenSpec.ofChange s with cond := some uptoSmall }

/-- 'pensionlaw33.ChannelSendRejects', WHERE WHAT IT READS IS OF BULK AT MOST 1048576: true; the input reads as it did. -/
def channelSendRejectsUptoRow : OpenClaim := { program := "ytcpcgllkdpfacaa", sum := "a397fa7051c783839a4827b4163328c90e2a545f73b5cdd00d73a5c73d8ffe4b", func := "pension/pensionlaw33.ChannelSendRejects", spec := "channelSendRejects", apart := false, narrowed := true }
def ChannelSendRejectsUptoSaid : Prop := channelSendRejectsUptoRow.holds Try.pinned (OpenSpec.upto channelSendRejectsSpec)

/-- 'pensionlaw33.ChannelKeepsOrder', WHERE WHAT IT READS IS OF BULK AT MOST 1048576: true; the input reads as it did. -/
def channelKeepsOrderUptoRow : OpenClaim := { program := "ytcpcgllkdpfacaa", sum := "a397fa7051c783839a4827b4163328c90e2a545f73b5cdd00d73a5c73d8ffe4b", func := "pension/pensionlaw33.ChannelKeepsOrder", spec := "channelKeepsOrder", apart := false, narrowed := true }
def ChannelKeepsOrderUptoSaid : Prop := channelKeepsOrderUptoRow.holds Try.pinned (OpenSpec.upto channelKeepsOrderSpec)

/-- 'pensionlaw33.ChannelAgrees', WHERE WHAT IT READS IS OF BULK AT MOST 1048576: true; the input reads as it did. -/
def channelAgreesUptoRow : OpenClaim := { program := "ytcpcgllkdpfacaa", sum := "a397fa7051c783839a4827b4163328c90e2a545f73b5cdd00d73a5c73d8ffe4b", func := "pension/pensionlaw33.ChannelAgrees", spec := "channelAgrees", apart := false, narrowed := true }
def ChannelAgreesUptoSaid : Prop := channelAgreesUptoRow.holds Try.pinned (OpenSpec.upto channelAgreesSpec)

/-- 'pensionlaw33.ChannelConserves', WHERE WHAT IT READS IS OF BULK AT MOST 1048576: true; the input reads as it did. -/
def channelConservesUptoRow : OpenClaim := { program := "ytcpcgllkdpfacaa", sum := "a397fa7051c783839a4827b4163328c90e2a545f73b5cdd00d73a5c73d8ffe4b", func := "pension/pensionlaw33.ChannelConserves", spec := "channelConserves", apart := false, narrowed := true }
def ChannelConservesUptoSaid : Prop := channelConservesUptoRow.holds Try.pinned (OpenSpec.upto channelConservesSpec)

/-- 'pensionlaw33.ChannelRepeats', WHERE WHAT IT READS IS OF BULK AT MOST 1048576: true; the input reads as it did. -/
def channelRepeatsUptoRow : OpenClaim := { program := "ytcpcgllkdpfacaa", sum := "a397fa7051c783839a4827b4163328c90e2a545f73b5cdd00d73a5c73d8ffe4b", func := "pension/pensionlaw33.ChannelRepeats", spec := "channelRepeats", apart := false, narrowed := true }
def ChannelRepeatsUptoSaid : Prop := channelRepeatsUptoRow.holds Try.pinned (OpenSpec.upto channelRepeatsSpec)

/-- 'pensionlaw33.ChannelIsLimited', WHERE WHAT IT READS IS OF BULK AT MOST 1048576: true; the input reads as it did. -/
def channelIsLimitedUptoRow : OpenClaim := { program := "ytcpcgllkdpfacaa", sum := "a397fa7051c783839a4827b4163328c90e2a545f73b5cdd00d73a5c73d8ffe4b", func := "pension/pensionlaw33.ChannelIsLimited", spec := "channelIsLimited", apart := false, narrowed := true }
def ChannelIsLimitedUptoSaid : Prop := channelIsLimitedUptoRow.holds Try.pinned (OpenSpec.upto channelIsLimitedSpec)

/-- 'pensionlaw33.ChannelForksApart', WHERE WHAT IT READS IS OF BULK AT MOST 1048576: true; the input reads as it did. -/
def channelForksApartUptoRow : OpenClaim := { program := "ytcpcgllkdpfacaa", sum := "a397fa7051c783839a4827b4163328c90e2a545f73b5cdd00d73a5c73d8ffe4b", func := "pension/pensionlaw33.ChannelForksApart", spec := "channelForksApart", apart := false, narrowed := true }
def ChannelForksApartUptoSaid : Prop := channelForksApartUptoRow.holds Try.pinned (OpenSpec.upto channelForksApartSpec)

/-- 'pensionlaw33.ChannelNil', WHERE WHAT IT READS IS OF BULK AT MOST 1048576: true; the input reads as it did. -/
def channelNilUptoRow : OpenClaim := { program := "ytcpcgllkdpfacaa", sum := "a397fa7051c783839a4827b4163328c90e2a545f73b5cdd00d73a5c73d8ffe4b", func := "pension/pensionlaw33.ChannelNil", spec := "channelNil", apart := false, narrowed := true }
def ChannelNilUptoSaid : Prop := channelNilUptoRow.holds Try.pinned (OpenSpec.upto channelNilSpec)

end Rows
end Go.Proofs.Ytcpcgllkdpfacaa
