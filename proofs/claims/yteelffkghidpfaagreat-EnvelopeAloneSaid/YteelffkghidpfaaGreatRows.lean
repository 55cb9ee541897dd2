/-
  No cell of these rows narrows 'for every input' (looked for: loops, veiled, ifaces, maps, wideKeys, modest, calm, conditions, laid).
  DERIVED. THE GIVEN ROWS OF THIS SEAT. 10 by the template 'for every input the law returns true; each argument reads behind the call as it read before'; 0 by the template 'total and deterministic' (their statements: YteelffkghidpfaaGreatTotals.lean).
  GIVEN WITH THE SEED: the statements are not yours to turn. If you find one false, say at which input.
  Laid BY PROGRAM, IN A SANDBOX (cutbox-rows.mjs): the forced cells as the released guide's own fill.sh prints them over the translation 8fe2cd6ecdd5ed7f… (all of the seat's roots in one cut). By AI agents, Wed Nov 11 2026. No macro, syntax, notation, axiom, sorry.
-/
import Derived.Test.YteelffkghidpfaaGreatChecked
import GoSem.Claim
import GoSem.ClaimJoined
import GoSem.ClaimMapViews
import Derived.JoinedTies
import Derived.KernelRfl
namespace Go.Proofs.YteelffkghidpfaaGreat
/- THE CELL 'sum', in the pinned program and in every row, IS THE sha256 OF THE DUMP (.gsa) THAT YteelffkghidpfaaGreatProg.lean LOADS. Nothing in Lean hashes anything: it is a label: what it is worth is what the hold of that sum in a sandbox is worth. -/
noncomputable def Tryz.pinned : Pinned := { name := "yteelffkghidpfaagreat", sum := "8fe2cd6ecdd5ed7f1facd5a44bf50fdd8cedd9503fbad6d361f63179be7afe85", checked := Tryz.checked }
namespace Rows
def none {H : Type} : Left H := { results := [], args := [] }

/-- 'theodolitelaw26.EnvelopeWraps': WHATEVER THE INPUT: true; the input reads as it did. -/
def envelopeWrapsSpec : ChangeSpec := { name := "envelopeWraps", fn := fun _ => fun
  | [d1, d2] => { results := [.lit (.bool true)], args := [d1, d2] }
  | _ => none }
def envelopeWrapsRow : OpenClaim := { program := "yteelffkghidpfaagreat", sum := "8fe2cd6ecdd5ed7f1facd5a44bf50fdd8cedd9503fbad6d361f63179be7afe85", func := "theodolite/theodolitelaw26.EnvelopeWraps", spec := "envelopeWraps", unfollowed := true, recurses := true, plainKeys := false, apart := false }
def EnvelopeWrapsSaid : Prop := envelopeWrapsRow.holds Tryz.pinned (OpenSpec.ofChange envelopeWrapsSpec)

/-- ITS FALSE NEIGHBOUR: 'it returns false'. Refute it at one input. -/
def envelopeWrapsWrong : ChangeSpec := { name := "envelopeWraps", fn := fun _ => fun
  | [d1, d2] => { results := [.lit (.bool false)], args := [d1, d2] }
  | _ => none }
def EnvelopeWrapsWrongFalsely : Prop := envelopeWrapsRow.holds Tryz.pinned (OpenSpec.ofChange envelopeWrapsWrong)

/-- 'theodolitelaw26.EnvelopeBursts': WHATEVER THE INPUT: true; the input reads as it did. -/
def envelopeBurstsSpec : ChangeSpec := { name := "envelopeBursts", fn := fun _ => fun
  | [d1, d2, d3, d4, d5] => { results := [.lit (.bool true)], args := [d1, d2, d3, d4, d5] }
  | _ => none }
def envelopeBurstsRow : OpenClaim := { program := "yteelffkghidpfaagreat", sum := "8fe2cd6ecdd5ed7f1facd5a44bf50fdd8cedd9503fbad6d361f63179be7afe85", func := "theodolite/theodolitelaw26.EnvelopeBursts", spec := "envelopeBursts", unfollowed := true, recurses := true, plainKeys := false, apart := false }
def EnvelopeBurstsSaid : Prop := envelopeBurstsRow.holds Tryz.pinned (OpenSpec.ofChange envelopeBurstsSpec)

/-- ITS FALSE NEIGHBOUR: 'it returns false'. Refute it at one input. -/
def envelopeBurstsWrong : ChangeSpec := { name := "envelopeBursts", fn := fun _ => fun
  | [d1, d2, d3, d4, d5] => { results := [.lit (.bool false)], args := [d1, d2, d3, d4, d5] }
  | _ => none }
def EnvelopeBurstsWrongFalsely : Prop := envelopeBurstsRow.holds Tryz.pinned (OpenSpec.ofChange envelopeBurstsWrong)

/-- 'theodolitelaw26.EnvelopeTurns': WHATEVER THE INPUT: true; the input reads as it did. -/
def envelopeTurnsSpec : ChangeSpec := { name := "envelopeTurns", fn := fun _ => fun
  | [d1, d2, d3] => { results := [.lit (.bool true)], args := [d1, d2, d3] }
  | _ => none }
def envelopeTurnsRow : OpenClaim := { program := "yteelffkghidpfaagreat", sum := "8fe2cd6ecdd5ed7f1facd5a44bf50fdd8cedd9503fbad6d361f63179be7afe85", func := "theodolite/theodolitelaw26.EnvelopeTurns", spec := "envelopeTurns", unfollowed := true, recurses := true, plainKeys := false, apart := false }
def EnvelopeTurnsSaid : Prop := envelopeTurnsRow.holds Tryz.pinned (OpenSpec.ofChange envelopeTurnsSpec)

/-- ITS FALSE NEIGHBOUR: 'it returns false'. Refute it at one input. -/
def envelopeTurnsWrong : ChangeSpec := { name := "envelopeTurns", fn := fun _ => fun
  | [d1, d2, d3] => { results := [.lit (.bool false)], args := [d1, d2, d3] }
  | _ => none }
def EnvelopeTurnsWrongFalsely : Prop := envelopeTurnsRow.holds Tryz.pinned (OpenSpec.ofChange envelopeTurnsWrong)

/-- 'theodolitelaw26.EnvelopeAlone': WHATEVER THE INPUT: true; the input reads as it did. -/
def envelopeAloneSpec : ChangeSpec := { name := "envelopeAlone", fn := fun _ => fun
  | [d1, d2, d3, d4, d5] => { results := [.lit (.bool true)], args := [d1, d2, d3, d4, d5] }
  | _ => none }
def envelopeAloneRow : OpenClaim := { program := "yteelffkghidpfaagreat", sum := "8fe2cd6ecdd5ed7f1facd5a44bf50fdd8cedd9503fbad6d361f63179be7afe85", func := "theodolite/theodolitelaw26.EnvelopeAlone", spec := "envelopeAlone", unfollowed := true, recurses := true, plainKeys := false, apart := false }
def EnvelopeAloneSaid : Prop := envelopeAloneRow.holds Tryz.pinned (OpenSpec.ofChange envelopeAloneSpec)

/-- ITS FALSE NEIGHBOUR: 'it returns false'. Refute it at one input. -/
def envelopeAloneWrong : ChangeSpec := { name := "envelopeAlone", fn := fun _ => fun
  | [d1, d2, d3, d4, d5] => { results := [.lit (.bool false)], args := [d1, d2, d3, d4, d5] }
  | _ => none }
def EnvelopeAloneWrongFalsely : Prop := envelopeAloneRow.holds Tryz.pinned (OpenSpec.ofChange envelopeAloneWrong)

/-- 'theodolitelaw26.EnvelopeOpens': WHATEVER THE INPUT: true; the input reads as it did. -/
def envelopeOpensSpec : ChangeSpec := { name := "envelopeOpens", fn := fun _ => fun
  | [d1, d2, d3, d4] => { results := [.lit (.bool true)], args := [d1, d2, d3, d4] }
  | _ => none }
def envelopeOpensRow : OpenClaim := { program := "yteelffkghidpfaagreat", sum := "8fe2cd6ecdd5ed7f1facd5a44bf50fdd8cedd9503fbad6d361f63179be7afe85", func := "theodolite/theodolitelaw26.EnvelopeOpens", spec := "envelopeOpens", unfollowed := true, recurses := true, plainKeys := false, apart := false }
def EnvelopeOpensSaid : Prop := envelopeOpensRow.holds Tryz.pinned (OpenSpec.ofChange envelopeOpensSpec)

/-- ITS FALSE NEIGHBOUR: 'it returns false'. Refute it at one input. -/
def envelopeOpensWrong : ChangeSpec := { name := "envelopeOpens", fn := fun _ => fun
  | [d1, d2, d3, d4] => { results := [.lit (.bool false)], args := [d1, d2, d3, d4] }
  | _ => none }
def EnvelopeOpensWrongFalsely : Prop := envelopeOpensRow.holds Tryz.pinned (OpenSpec.ofChange envelopeOpensWrong)

/-- 'theodolitelaw26.EnvelopeReads': WHATEVER THE INPUT: true; the input reads as it did. -/
def envelopeReadsSpec : ChangeSpec := { name := "envelopeReads", fn := fun _ => fun
  | [d1, d2] => { results := [.lit (.bool true)], args := [d1, d2] }
  | _ => none }
def envelopeReadsRow : OpenClaim := { program := "yteelffkghidpfaagreat", sum := "8fe2cd6ecdd5ed7f1facd5a44bf50fdd8cedd9503fbad6d361f63179be7afe85", func := "theodolite/theodolitelaw26.EnvelopeReads", spec := "envelopeReads", unfollowed := true, recurses := true, plainKeys := false, apart := false }
def EnvelopeReadsSaid : Prop := envelopeReadsRow.holds Tryz.pinned (OpenSpec.ofChange envelopeReadsSpec)

/-- ITS FALSE NEIGHBOUR: 'it returns false'. Refute it at one input. -/
def envelopeReadsWrong : ChangeSpec := { name := "envelopeReads", fn := fun _ => fun
  | [d1, d2] => { results := [.lit (.bool false)], args := [d1, d2] }
  | _ => none }
def EnvelopeReadsWrongFalsely : Prop := envelopeReadsRow.holds Tryz.pinned (OpenSpec.ofChange envelopeReadsWrong)

/-- 'theodolitelaw19.HdrwireWrites': WHATEVER THE INPUT: true; the input reads as it did. -/
def hdrwireWritesSpec : ChangeSpec := { name := "hdrwireWrites", fn := fun _ => fun
  | [d1, d2, d3, d4, d5, d6] => { results := [.lit (.bool true)], args := [d1, d2, d3, d4, d5, d6] }
  | _ => none }
def hdrwireWritesRow : OpenClaim := { program := "yteelffkghidpfaagreat", sum := "8fe2cd6ecdd5ed7f1facd5a44bf50fdd8cedd9503fbad6d361f63179be7afe85", func := "theodolite/theodolitelaw19.HdrwireWrites", spec := "hdrwireWrites", unfollowed := true, recurses := true, plainKeys := false, apart := false }
def HdrwireWritesSaid : Prop := hdrwireWritesRow.holds Tryz.pinned (OpenSpec.ofChange hdrwireWritesSpec)

/-- ITS FALSE NEIGHBOUR: 'it returns false'. Refute it at one input. -/
def hdrwireWritesWrong : ChangeSpec := { name := "hdrwireWrites", fn := fun _ => fun
  | [d1, d2, d3, d4, d5, d6] => { results := [.lit (.bool false)], args := [d1, d2, d3, d4, d5, d6] }
  | _ => none }
def HdrwireWritesWrongFalsely : Prop := hdrwireWritesRow.holds Tryz.pinned (OpenSpec.ofChange hdrwireWritesWrong)

/-- 'theodolitelaw19.HdrwireTorn': WHATEVER THE INPUT: true; the input reads as it did. -/
def hdrwireTornSpec : ChangeSpec := { name := "hdrwireTorn", fn := fun _ => fun
  | [d1, d2, d3, d4, d5] => { results := [.lit (.bool true)], args := [d1, d2, d3, d4, d5] }
  | _ => none }
def hdrwireTornRow : OpenClaim := { program := "yteelffkghidpfaagreat", sum := "8fe2cd6ecdd5ed7f1facd5a44bf50fdd8cedd9503fbad6d361f63179be7afe85", func := "theodolite/theodolitelaw19.HdrwireTorn", spec := "hdrwireTorn", unfollowed := true, recurses := true, plainKeys := false, apart := false }
def HdrwireTornSaid : Prop := hdrwireTornRow.holds Tryz.pinned (OpenSpec.ofChange hdrwireTornSpec)

/-- ITS FALSE NEIGHBOUR: 'it returns false'. Refute it at one input. -/
def hdrwireTornWrong : ChangeSpec := { name := "hdrwireTorn", fn := fun _ => fun
  | [d1, d2, d3, d4, d5] => { results := [.lit (.bool false)], args := [d1, d2, d3, d4, d5] }
  | _ => none }
def HdrwireTornWrongFalsely : Prop := hdrwireTornRow.holds Tryz.pinned (OpenSpec.ofChange hdrwireTornWrong)

/-- 'theodolitelaw19.HdrwireReads': WHATEVER THE INPUT: true; the input reads as it did. -/
def hdrwireReadsSpec : ChangeSpec := { name := "hdrwireReads", fn := fun _ => fun
  | [d] => { results := [.lit (.bool true)], args := [d] }
  | _ => none }
def hdrwireReadsRow : OpenClaim := { program := "yteelffkghidpfaagreat", sum := "8fe2cd6ecdd5ed7f1facd5a44bf50fdd8cedd9503fbad6d361f63179be7afe85", func := "theodolite/theodolitelaw19.HdrwireReads", spec := "hdrwireReads", unfollowed := true, recurses := true, plainKeys := false, apart := false }
def HdrwireReadsSaid : Prop := hdrwireReadsRow.holds Tryz.pinned (OpenSpec.ofChange hdrwireReadsSpec)

/-- ITS FALSE NEIGHBOUR: 'it returns false'. Refute it at one input. -/
def hdrwireReadsWrong : ChangeSpec := { name := "hdrwireReads", fn := fun _ => fun
  | [d] => { results := [.lit (.bool false)], args := [d] }
  | _ => none }
def HdrwireReadsWrongFalsely : Prop := hdrwireReadsRow.holds Tryz.pinned (OpenSpec.ofChange hdrwireReadsWrong)

/-- 'theodolitelaw19.HdrwireBack': WHATEVER THE INPUT: true; the input reads as it did. -/
def hdrwireBackSpec : ChangeSpec := { name := "hdrwireBack", fn := fun _ => fun
  | [d1, d2, d3, d4, d5, d6] => { results := [.lit (.bool true)], args := [d1, d2, d3, d4, d5, d6] }
  | _ => none }
def hdrwireBackRow : OpenClaim := { program := "yteelffkghidpfaagreat", sum := "8fe2cd6ecdd5ed7f1facd5a44bf50fdd8cedd9503fbad6d361f63179be7afe85", func := "theodolite/theodolitelaw19.HdrwireBack", spec := "hdrwireBack", unfollowed := true, recurses := true, plainKeys := false, apart := false }
def HdrwireBackSaid : Prop := hdrwireBackRow.holds Tryz.pinned (OpenSpec.ofChange hdrwireBackSpec)

/-- ITS FALSE NEIGHBOUR: 'it returns false'. Refute it at one input. -/
def hdrwireBackWrong : ChangeSpec := { name := "hdrwireBack", fn := fun _ => fun
  | [d1, d2, d3, d4, d5, d6] => { results := [.lit (.bool false)], args := [d1, d2, d3, d4, d5, d6] }
  | _ => none }
def HdrwireBackWrongFalsely : Prop := hdrwireBackRow.holds Tryz.pinned (OpenSpec.ofChange hdrwireBackWrong)

/- THE SECOND FORM. 'bulk': how many values and letters a reading holds, each counted each time it is reached (what is shared counts as often as it is met; a slice's spare places count too). A statement '..UptoSaid' is the law's where the arguments, and the package variables that the reading takes, are together of bulk at most 1048576: NARROWER than '..Said'. Prove '..Said' where nothing that the law and all that it calls make is longer than what came in: it says more and counts as full. Else prove '..UptoSaid'. A law counts once. -/
mutual
def uptoBulk {H : Type} : DataW H → Nat
  | .lit (.string bytes) => bytes.length + 1
  | .lit _ => 1
  | .nil => 1
  | .ptr d => uptoBulk d + 1
  | .slice elems spare => uptoBulkAll elems + uptoBulkAll spare + 1
  | .agg parts => uptoBulkAll parts + 1
  | .iface _ d => uptoBulk d + 1
  | .map entries => uptoBulkEntries entries + 1
  | .held _ => 1
def uptoBulkAll {H : Type} : List (DataW H) → Nat
  | [] => 0
  | d :: r => uptoBulk d + uptoBulkAll r
def uptoBulkEntries {H : Type} : List (Lit × DataW H) → Nat
  | [] => 0
  | x :: r => uptoBulkEntry x + uptoBulkEntries r
def uptoBulkEntry {H : Type} : Lit × DataW H → Nat
  | (.string bytes, d) => bytes.length + uptoBulk d + 1
  | (_, d) => uptoBulk d + 1
 end
def uptoSmall : (H : Type) → List (DataW H) → Bool := fun _ ds => decide (uptoBulkAll ds ≤ 1048576)
def OpenSpec.upto (s : _root_.Go.ChangeSpec) : _root_.Go.OpenSpec := { _root_.Go.OpenSpec.ofChange s with cond := some uptoSmall }

/-- 'theodolitelaw26.EnvelopeWraps', WHERE WHAT IT READS IS OF BULK AT MOST 1048576: true; the input reads as it did. -/
def envelopeWrapsUptoRow : OpenClaim := { program := "yteelffkghidpfaagreat", sum := "8fe2cd6ecdd5ed7f1facd5a44bf50fdd8cedd9503fbad6d361f63179be7afe85", func := "theodolite/theodolitelaw26.EnvelopeWraps", spec := "envelopeWraps", unfollowed := true, recurses := true, plainKeys := false, apart := false, narrowed := true }
def EnvelopeWrapsUptoSaid : Prop := envelopeWrapsUptoRow.holds Tryz.pinned (OpenSpec.upto envelopeWrapsSpec)

/-- 'theodolitelaw26.EnvelopeBursts', WHERE WHAT IT READS IS OF BULK AT MOST 1048576: true; the input reads as it did. -/
def envelopeBurstsUptoRow : OpenClaim := { program := "yteelffkghidpfaagreat", sum := "8fe2cd6ecdd5ed7f1facd5a44bf50fdd8cedd9503fbad6d361f63179be7afe85", func := "theodolite/theodolitelaw26.EnvelopeBursts", spec := "envelopeBursts", unfollowed := true, recurses := true, plainKeys := false, apart := false, narrowed := true }
def EnvelopeBurstsUptoSaid : Prop := envelopeBurstsUptoRow.holds Tryz.pinned (OpenSpec.upto envelopeBurstsSpec)

/-- 'theodolitelaw26.EnvelopeTurns', WHERE WHAT IT READS IS OF BULK AT MOST 1048576: true; the input reads as it did. -/
def envelopeTurnsUptoRow : OpenClaim := { program := "yteelffkghidpfaagreat", sum := "8fe2cd6ecdd5ed7f1facd5a44bf50fdd8cedd9503fbad6d361f63179be7afe85", func := "theodolite/theodolitelaw26.EnvelopeTurns", spec := "envelopeTurns", unfollowed := true, recurses := true, plainKeys := false, apart := false, narrowed := true }
def EnvelopeTurnsUptoSaid : Prop := envelopeTurnsUptoRow.holds Tryz.pinned (OpenSpec.upto envelopeTurnsSpec)

/-- 'theodolitelaw26.EnvelopeAlone', WHERE WHAT IT READS IS OF BULK AT MOST 1048576: true; the input reads as it did. -/
def envelopeAloneUptoRow : OpenClaim := { program := "yteelffkghidpfaagreat", sum := "8fe2cd6ecdd5ed7f1facd5a44bf50fdd8cedd9503fbad6d361f63179be7afe85", func := "theodolite/theodolitelaw26.EnvelopeAlone", spec := "envelopeAlone", unfollowed := true, recurses := true, plainKeys := false, apart := false, narrowed := true }
def EnvelopeAloneUptoSaid : Prop := envelopeAloneUptoRow.holds Tryz.pinned (OpenSpec.upto envelopeAloneSpec)

/-- 'theodolitelaw26.EnvelopeOpens', WHERE WHAT IT READS IS OF BULK AT MOST 1048576: true; the input reads as it did. -/
def envelopeOpensUptoRow : OpenClaim := { program := "yteelffkghidpfaagreat", sum := "8fe2cd6ecdd5ed7f1facd5a44bf50fdd8cedd9503fbad6d361f63179be7afe85", func := "theodolite/theodolitelaw26.EnvelopeOpens", spec := "envelopeOpens", unfollowed := true, recurses := true, plainKeys := false, apart := false, narrowed := true }
def EnvelopeOpensUptoSaid : Prop := envelopeOpensUptoRow.holds Tryz.pinned (OpenSpec.upto envelopeOpensSpec)

/-- 'theodolitelaw26.EnvelopeReads', WHERE WHAT IT READS IS OF BULK AT MOST 1048576: true; the input reads as it did. -/
def envelopeReadsUptoRow : OpenClaim := { program := "yteelffkghidpfaagreat", sum := "8fe2cd6ecdd5ed7f1facd5a44bf50fdd8cedd9503fbad6d361f63179be7afe85", func := "theodolite/theodolitelaw26.EnvelopeReads", spec := "envelopeReads", unfollowed := true, recurses := true, plainKeys := false, apart := false, narrowed := true }
def EnvelopeReadsUptoSaid : Prop := envelopeReadsUptoRow.holds Tryz.pinned (OpenSpec.upto envelopeReadsSpec)

/-- 'theodolitelaw19.HdrwireWrites', WHERE WHAT IT READS IS OF BULK AT MOST 1048576: true; the input reads as it did. -/
def hdrwireWritesUptoRow : OpenClaim := { program := "yteelffkghidpfaagreat", sum := "8fe2cd6ecdd5ed7f1facd5a44bf50fdd8cedd9503fbad6d361f63179be7afe85", func := "theodolite/theodolitelaw19.HdrwireWrites", spec := "hdrwireWrites", unfollowed := true, recurses := true, plainKeys := false, apart := false, narrowed := true }
def HdrwireWritesUptoSaid : Prop := hdrwireWritesUptoRow.holds Tryz.pinned (OpenSpec.upto hdrwireWritesSpec)

/-- 'theodolitelaw19.HdrwireTorn', WHERE WHAT IT READS IS OF BULK AT MOST 1048576: true; the input reads as it did. -/
def hdrwireTornUptoRow : OpenClaim := { program := "yteelffkghidpfaagreat", sum := "8fe2cd6ecdd5ed7f1facd5a44bf50fdd8cedd9503fbad6d361f63179be7afe85", func := "theodolite/theodolitelaw19.HdrwireTorn", spec := "hdrwireTorn", unfollowed := true, recurses := true, plainKeys := false, apart := false, narrowed := true }
def HdrwireTornUptoSaid : Prop := hdrwireTornUptoRow.holds Tryz.pinned (OpenSpec.upto hdrwireTornSpec)

/-- 'theodolitelaw19.HdrwireReads', WHERE WHAT IT READS IS OF BULK AT MOST 1048576: true; the input reads as it did. -/
def hdrwireReadsUptoRow : OpenClaim := { program := "yteelffkghidpfaagreat", sum := "8fe2cd6ecdd5ed7f1facd5a44bf50fdd8cedd9503fbad6d361f63179be7afe85", func := "theodolite/theodolitelaw19.HdrwireReads", spec := "hdrwireReads", unfollowed := true, recurses := true, plainKeys := false, apart := false, narrowed := true }
def HdrwireReadsUptoSaid : Prop := hdrwireReadsUptoRow.holds Tryz.pinned (OpenSpec.upto hdrwireReadsSpec)

/-- 'theodolitelaw19.HdrwireBack', WHERE WHAT IT READS IS OF BULK AT MOST 1048576: true; the input reads as it did. -/
def hdrwireBackUptoRow : OpenClaim := { program := "yteelffkghidpfaagreat", sum := "8fe2cd6ecdd5ed7f1facd5a44bf50fdd8cedd9503fbad6d361f63179be7afe85", func := "theodolite/theodolitelaw19.HdrwireBack", spec := "hdrwireBack", unfollowed := true, recurses := true, plainKeys := false, apart := false, narrowed := true }
def HdrwireBackUptoSaid : Prop := hdrwireBackUptoRow.holds Tryz.pinned (OpenSpec.upto hdrwireBackSpec)

end Rows
end Go.Proofs.YteelffkghidpfaaGreat
