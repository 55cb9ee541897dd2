/-
  No cell of these rows narrows 'for every input' (looked for: loops, veiled, ifaces, maps, wideKeys, modest, calm, conditions, laid).
  DERIVED. THE GIVEN ROWS OF THIS SEAT. 3 by the template 'for every input the law returns true; each argument reads behind the call as it read before'; 0 by the template 'total and deterministic' (their statements: YtmnilpjgkjkecaaGreatTotals.lean).
  GIVEN WITH THE SEED: the statements are not yours to turn. If you find one false, say at which input.
  Laid BY PROGRAM, IN A SANDBOX (cutbox-rows.mjs): the forced cells as the released guide's own fill.sh prints them over the translation 94687505a21043b3… (all of the seat's roots in one cut). By AI agents, Wed Nov 11 2026. No macro, syntax, notation, axiom, sorry.
-/
import Derived.Test.YtmnilpjgkjkecaaGreatChecked
import GoSem.Claim
import GoSem.ClaimJoined
import GoSem.ClaimMapViews
import Derived.JoinedTies
import Derived.KernelRfl
namespace Go.Proofs.YtmnilpjgkjkecaaGreat
/- THE CELL 'sum', in the pinned program and in every row, IS THE sha256 OF THE DUMP (.gsa) THAT YtmnilpjgkjkecaaGreatProg.lean LOADS. Nothing in Lean hashes anything: it is a label: what it is worth is what the hold of that sum in a sandbox is worth. -/
noncomputable def Tryz.pinned : Pinned := { name := "ytmnilpjgkjkecaagreat", sum := "94687505a21043b3c3376148dbe040ed794007cabcb21e22099bef6d6b9ef71d", checked := Tryz.checked }
namespace Rows
def none {H : Type} : Left H := { results := [], args := [] }

/-- 'theodolitelaw18.HdrAsks': WHATEVER THE INPUT: true; the input reads as it did. -/
def hdrAsksSpec : ChangeSpec := { name := "hdrAsks", fn := fun _ => fun
  | [d1, d2, d3, d4, d5, d6, d7, d8] => { results := [.lit (.bool true)], args := [d1, d2, d3, d4, d5, d6, d7, d8] }
  | _ => none }
def hdrAsksRow : OpenClaim := { program := "ytmnilpjgkjkecaagreat", sum := "94687505a21043b3c3376148dbe040ed794007cabcb21e22099bef6d6b9ef71d", func := "theodolite/theodolitelaw18.HdrAsks", spec := "hdrAsks", unfollowed := true, recurses := true, named := ["math/bits.divideError", "math/bits.overflowError"], apart := false }
def HdrAsksSaid : Prop := hdrAsksRow.holds Tryz.pinned (OpenSpec.ofChange hdrAsksSpec)

/-- ITS FALSE NEIGHBOUR: 'it returns false'. Refute it at one input. -/
def hdrAsksWrong : ChangeSpec := { name := "hdrAsks", fn := fun _ => fun
  | [d1, d2, d3, d4, d5, d6, d7, d8] => { results := [.lit (.bool false)], args := [d1, d2, d3, d4, d5, d6, d7, d8] }
  | _ => none }
def HdrAsksWrongFalsely : Prop := hdrAsksRow.holds Tryz.pinned (OpenSpec.ofChange hdrAsksWrong)

/-- 'theodolitelaw18.HdrHalves': WHATEVER THE INPUT: true; the input reads as it did. -/
def hdrHalvesSpec : ChangeSpec := { name := "hdrHalves", fn := fun _ => fun
  | [d1, d2, d3, d4, d5] => { results := [.lit (.bool true)], args := [d1, d2, d3, d4, d5] }
  | _ => none }
def hdrHalvesRow : OpenClaim := { program := "ytmnilpjgkjkecaagreat", sum := "94687505a21043b3c3376148dbe040ed794007cabcb21e22099bef6d6b9ef71d", func := "theodolite/theodolitelaw18.HdrHalves", spec := "hdrHalves", unfollowed := true, recurses := true, named := ["math/bits.divideError", "math/bits.overflowError"], apart := false }
def HdrHalvesSaid : Prop := hdrHalvesRow.holds Tryz.pinned (OpenSpec.ofChange hdrHalvesSpec)

/-- ITS FALSE NEIGHBOUR: 'it returns false'. Refute it at one input. -/
def hdrHalvesWrong : ChangeSpec := { name := "hdrHalves", fn := fun _ => fun
  | [d1, d2, d3, d4, d5] => { results := [.lit (.bool false)], args := [d1, d2, d3, d4, d5] }
  | _ => none }
def HdrHalvesWrongFalsely : Prop := hdrHalvesRow.holds Tryz.pinned (OpenSpec.ofChange hdrHalvesWrong)

/-- 'theodolitelaw18.HdrSteps': WHATEVER THE INPUT: true; the input reads as it did. -/
def hdrStepsSpec : ChangeSpec := { name := "hdrSteps", fn := fun _ => fun
  | [d1, d2, d3, d4, d5, d6, d7] => { results := [.lit (.bool true)], args := [d1, d2, d3, d4, d5, d6, d7] }
  | _ => none }
def hdrStepsRow : OpenClaim := { program := "ytmnilpjgkjkecaagreat", sum := "94687505a21043b3c3376148dbe040ed794007cabcb21e22099bef6d6b9ef71d", func := "theodolite/theodolitelaw18.HdrSteps", spec := "hdrSteps", unfollowed := true, recurses := true, named := ["math/bits.divideError", "math/bits.overflowError"], apart := false }
def HdrStepsSaid : Prop := hdrStepsRow.holds Tryz.pinned (OpenSpec.ofChange hdrStepsSpec)

/-- ITS FALSE NEIGHBOUR: 'it returns false'. Refute it at one input. -/
def hdrStepsWrong : ChangeSpec := { name := "hdrSteps", fn := fun _ => fun
  | [d1, d2, d3, d4, d5, d6, d7] => { results := [.lit (.bool false)], args := [d1, d2, d3, d4, d5, d6, d7] }
  | _ => none }
def HdrStepsWrongFalsely : Prop := hdrStepsRow.holds Tryz.pinned (OpenSpec.ofChange hdrStepsWrong)

/- THE SECOND FORM. 'bulk': how many values and letters a reading holds, each counted each time it is reached (what is shared counts as often as it is met; a slice's spare places count too). A statement '..UptoSaid' is the law's where the arguments, and the package variables that the reading takes, are together of bulk at most 1048576: NARROWER than '..Said'. Prove '..Said' where nothing that the law and all that it calls make is longer than what came in: it says more and counts as full. Else prove '..UptoSaid'. A law counts once. -/
mutual
def uptoBulk {H : Type} : DataW H → Nat
  | .lit (.string bytes) => bytes.length + 1
  | .lit _ => 1
  | .nil => 1
  | .ptr d => uptoBulk d + 1
  | .slice elems spare => uptoBulkAll elems + uptoBulkAll spare + 1
  | .agg parts => uptoBulkAll parts + 1
  | .iface _ d => uptoBulk d + 1
  | .map entries => uptoBulkEntries entries + 1
  | .held _ => 1
def uptoBulkAll {H : Type} : List (DataW H) → Nat
  | [] => 0
  | d :: r => uptoBulk d + uptoBulkAll r
def uptoBulkEntries {H : Type} : List (Lit × DataW H) → Nat
  | [] => 0
  | x :: r => uptoBulkEntry x + uptoBulkEntries r
def uptoBulkEntry {H : Type} : Lit × DataW H → Nat
  | (.string bytes, d) => bytes.length + uptoBulk d + 1
  | (_, d) => uptoBulk d + 1
 end
def uptoSmall : (H : Type) → List (DataW H) → Bool := fun _ ds => decide (uptoBulkAll ds ≤ 1048576)
def OpenSpec.upto (s : _root_.Go.ChangeSpec) : _root_.Go.OpenSpec := { _root_.Go.OpenSpec.ofChange s with cond := some uptoSmall }

/-- 'theodolitelaw18.HdrAsks', WHERE WHAT IT READS IS OF BULK AT MOST 1048576: true; the input reads as it did. -/
def hdrAsksUptoRow : OpenClaim := { program := "ytmnilpjgkjkecaagreat", sum := "94687505a21043b3c3376148dbe040ed794007cabcb21e22099bef6d6b9ef71d", func := "theodolite/theodolitelaw18.HdrAsks", spec := "hdrAsks", unfollowed := true, recurses := true, named := ["math/bits.divideError", "math/bits.overflowError"], apart := false, narrowed := true }
def HdrAsksUptoSaid : Prop := hdrAsksUptoRow.holds Tryz.pinned (OpenSpec.upto hdrAsksSpec)

/-- 'theodolitelaw18.HdrHalves', WHERE WHAT IT READS IS OF BULK AT MOST 1048576: true; the input reads as it did. -/
def hdrHalvesUptoRow : OpenClaim := { program := "ytmnilpjgkjkecaagreat", sum := "94687505a21043b3c3376148dbe040ed794007cabcb21e22099bef6d6b9ef71d", func := "theodolite/theodolitelaw18.HdrHalves", spec := "hdrHalves", unfollowed := true, recurses := true, named := ["math/bits.divideError", "math/bits.overflowError"], apart := false, narrowed := true }
def HdrHalvesUptoSaid : Prop := hdrHalvesUptoRow.holds Tryz.pinned (OpenSpec.upto hdrHalvesSpec)

/-- 'theodolitelaw18.HdrSteps', WHERE WHAT IT READS IS OF BULK AT MOST 1048576: true; the input reads as it did. -/
def hdrStepsUptoRow : OpenClaim := { program := "ytmnilpjgkjkecaagreat", sum := "94687505a21043b3c3376148dbe040ed794007cabcb21e22099bef6d6b9ef71d", func := "theodolite/theodolitelaw18.HdrSteps", spec := "hdrSteps", unfollowed := true, recurses := true, named := ["math/bits.divideError", "math/bits.overflowError"], apart := false, narrowed := true }
def HdrStepsUptoSaid : Prop := hdrStepsUptoRow.holds Tryz.pinned (OpenSpec.upto hdrStepsSpec)

end Rows
end Go.Proofs.YtmnilpjgkjkecaaGreat
