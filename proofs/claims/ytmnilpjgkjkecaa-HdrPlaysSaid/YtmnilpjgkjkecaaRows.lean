/-
  No cell of these rows narrows 'for every input' (looked for: loops, veiled, ifaces, maps, wideKeys, modest, calm, conditions, laid).
  DERIVED. THE GIVEN ROWS OF THIS SEAT. 6 by the template 'for every input the law returns true; each argument reads behind the call as it read before'; 0 by the template 'total and deterministic' (their statements: YtmnilpjgkjkecaaTotals.lean).
  GIVEN WITH THE SEED: the statements are not yours to turn. If you find one false, say at which input.
  Laid BY PROGRAM, IN A SANDBOX (cutbox-rows.mjs): the forced cells as the released guide's own fill.sh prints them over the translation 4a1cd228718e1e10… (all of the seat's roots in one cut). By AI agents, Wed Nov 11 2026. No macro, syntax, notation, axiom, sorry.
-/
import Derived.Test.YtmnilpjgkjkecaaChecked
import GoSem.Claim
import GoSem.ClaimJoined
import GoSem.ClaimMapViews
import Derived.JoinedTies
import Derived.KernelRfl
namespace Go.Proofs.Ytmnilpjgkjkecaa
/- THE CELL 'sum', in the pinned program and in every row, IS THE sha256 OF THE DUMP (.gsa) THAT YtmnilpjgkjkecaaProg.lean LOADS. Nothing in Lean hashes anything: it is a label: what it is worth is what the hold of that sum in a sandbox is worth. -/
noncomputable def Try.pinned : Pinned := { name := "ytmnilpjgkjkecaa", sum := "4a1cd228718e1e1031fe044afdfa6e67fce5d8ee2fb66f274c79944beb3a0b27", checked := Try.checked }
namespace Rows
def none {H : Type} : Left H := { results := [], args := [] }

/-- 'theodolitelaw18.HdrNear': WHATEVER THE INPUT: true; the input reads as it did. -/
def hdrNearSpec : ChangeSpec := { name := "hdrNear", fn := fun _ => fun
  | [d1, d2, d3, d4, d5, d6] => { results := [.lit (.bool true)], args := [d1, d2, d3, d4, d5, d6] }
  | _ => none }
def hdrNearRow : OpenClaim := { program := "ytmnilpjgkjkecaa", sum := "4a1cd228718e1e1031fe044afdfa6e67fce5d8ee2fb66f274c79944beb3a0b27", func := "theodolite/theodolitelaw18.HdrNear", spec := "hdrNear", unfollowed := true, recurses := true, named := ["math/bits.divideError", "math/bits.overflowError"], apart := false }
def HdrNearSaid : Prop := hdrNearRow.holds Try.pinned (OpenSpec.ofChange hdrNearSpec)

/-- ITS FALSE NEIGHBOUR: 'it returns false'. Refute it at one input. -/
def hdrNearWrong : ChangeSpec := { name := "hdrNear", fn := fun _ => fun
  | [d1, d2, d3, d4, d5, d6] => { results := [.lit (.bool false)], args := [d1, d2, d3, d4, d5, d6] }
  | _ => none }
def HdrNearWrongFalsely : Prop := hdrNearRow.holds Try.pinned (OpenSpec.ofChange hdrNearWrong)

/-- 'theodolitelaw18.HdrMakes': WHATEVER THE INPUT: true; the input reads as it did. -/
def hdrMakesSpec : ChangeSpec := { name := "hdrMakes", fn := fun _ => fun
  | [d1, d2, d3, d4] => { results := [.lit (.bool true)], args := [d1, d2, d3, d4] }
  | _ => none }
def hdrMakesRow : OpenClaim := { program := "ytmnilpjgkjkecaa", sum := "4a1cd228718e1e1031fe044afdfa6e67fce5d8ee2fb66f274c79944beb3a0b27", func := "theodolite/theodolitelaw18.HdrMakes", spec := "hdrMakes", unfollowed := true, recurses := true, named := ["math/bits.divideError", "math/bits.overflowError"], apart := false }
def HdrMakesSaid : Prop := hdrMakesRow.holds Try.pinned (OpenSpec.ofChange hdrMakesSpec)

/-- ITS FALSE NEIGHBOUR: 'it returns false'. Refute it at one input. -/
def hdrMakesWrong : ChangeSpec := { name := "hdrMakes", fn := fun _ => fun
  | [d1, d2, d3, d4] => { results := [.lit (.bool false)], args := [d1, d2, d3, d4] }
  | _ => none }
def HdrMakesWrongFalsely : Prop := hdrMakesRow.holds Try.pinned (OpenSpec.ofChange hdrMakesWrong)

/-- 'theodolitelaw18.HdrOrder': WHATEVER THE INPUT: true; the input reads as it did. -/
def hdrOrderSpec : ChangeSpec := { name := "hdrOrder", fn := fun _ => fun
  | [d1, d2, d3, d4] => { results := [.lit (.bool true)], args := [d1, d2, d3, d4] }
  | _ => none }
def hdrOrderRow : OpenClaim := { program := "ytmnilpjgkjkecaa", sum := "4a1cd228718e1e1031fe044afdfa6e67fce5d8ee2fb66f274c79944beb3a0b27", func := "theodolite/theodolitelaw18.HdrOrder", spec := "hdrOrder", unfollowed := true, recurses := true, named := ["math/bits.divideError", "math/bits.overflowError"], apart := false }
def HdrOrderSaid : Prop := hdrOrderRow.holds Try.pinned (OpenSpec.ofChange hdrOrderSpec)

/-- ITS FALSE NEIGHBOUR: 'it returns false'. Refute it at one input. -/
def hdrOrderWrong : ChangeSpec := { name := "hdrOrder", fn := fun _ => fun
  | [d1, d2, d3, d4] => { results := [.lit (.bool false)], args := [d1, d2, d3, d4] }
  | _ => none }
def HdrOrderWrongFalsely : Prop := hdrOrderRow.holds Try.pinned (OpenSpec.ofChange hdrOrderWrong)

/-- 'theodolitelaw18.HdrLoads': WHATEVER THE INPUT: true; the input reads as it did. -/
def hdrLoadsSpec : ChangeSpec := { name := "hdrLoads", fn := fun _ => fun
  | [d1, d2, d3, d4, d5, d6, d7] => { results := [.lit (.bool true)], args := [d1, d2, d3, d4, d5, d6, d7] }
  | _ => none }
def hdrLoadsRow : OpenClaim := { program := "ytmnilpjgkjkecaa", sum := "4a1cd228718e1e1031fe044afdfa6e67fce5d8ee2fb66f274c79944beb3a0b27", func := "theodolite/theodolitelaw18.HdrLoads", spec := "hdrLoads", unfollowed := true, recurses := true, named := ["math/bits.divideError", "math/bits.overflowError"], apart := false }
def HdrLoadsSaid : Prop := hdrLoadsRow.holds Try.pinned (OpenSpec.ofChange hdrLoadsSpec)

/-- ITS FALSE NEIGHBOUR: 'it returns false'. Refute it at one input. -/
def hdrLoadsWrong : ChangeSpec := { name := "hdrLoads", fn := fun _ => fun
  | [d1, d2, d3, d4, d5, d6, d7] => { results := [.lit (.bool false)], args := [d1, d2, d3, d4, d5, d6, d7] }
  | _ => none }
def HdrLoadsWrongFalsely : Prop := hdrLoadsRow.holds Try.pinned (OpenSpec.ofChange hdrLoadsWrong)

/-- 'theodolitelaw18.HdrMeans': WHATEVER THE INPUT: true; the input reads as it did. -/
def hdrMeansSpec : ChangeSpec := { name := "hdrMeans", fn := fun _ => fun
  | [d1, d2, d3, d4] => { results := [.lit (.bool true)], args := [d1, d2, d3, d4] }
  | _ => none }
def hdrMeansRow : OpenClaim := { program := "ytmnilpjgkjkecaa", sum := "4a1cd228718e1e1031fe044afdfa6e67fce5d8ee2fb66f274c79944beb3a0b27", func := "theodolite/theodolitelaw18.HdrMeans", spec := "hdrMeans", inPlace := ["math/bits.Add64"], unfollowed := true, recurses := true, named := ["math/bits.divideError", "math/bits.overflowError"], apart := false }
def HdrMeansSaid : Prop := hdrMeansRow.holds Try.pinned (OpenSpec.ofChange hdrMeansSpec)

/-- ITS FALSE NEIGHBOUR: 'it returns false'. Refute it at one input. -/
def hdrMeansWrong : ChangeSpec := { name := "hdrMeans", fn := fun _ => fun
  | [d1, d2, d3, d4] => { results := [.lit (.bool false)], args := [d1, d2, d3, d4] }
  | _ => none }
def HdrMeansWrongFalsely : Prop := hdrMeansRow.holds Try.pinned (OpenSpec.ofChange hdrMeansWrong)

/-- 'theodolitelaw18.HdrPlays': WHATEVER THE INPUT: true; the input reads as it did. -/
def hdrPlaysSpec : ChangeSpec := { name := "hdrPlays", fn := fun _ => fun
  | [d1, d2, d3, d4, d5] => { results := [.lit (.bool true)], args := [d1, d2, d3, d4, d5] }
  | _ => none }
def hdrPlaysRow : OpenClaim := { program := "ytmnilpjgkjkecaa", sum := "4a1cd228718e1e1031fe044afdfa6e67fce5d8ee2fb66f274c79944beb3a0b27", func := "theodolite/theodolitelaw18.HdrPlays", spec := "hdrPlays", unfollowed := true, recurses := true, named := ["math/bits.divideError", "math/bits.overflowError"], apart := false }
def HdrPlaysSaid : Prop := hdrPlaysRow.holds Try.pinned (OpenSpec.ofChange hdrPlaysSpec)

/-- ITS FALSE NEIGHBOUR: 'it returns false'. Refute it at one input. -/
def hdrPlaysWrong : ChangeSpec := { name := "hdrPlays", fn := fun _ => fun
  | [d1, d2, d3, d4, d5] => { results := [.lit (.bool false)], args := [d1, d2, d3, d4, d5] }
  | _ => none }
def HdrPlaysWrongFalsely : Prop := hdrPlaysRow.holds Try.pinned (OpenSpec.ofChange hdrPlaysWrong)

/- THE SECOND FORM. 'bulk': how many values and letters a reading holds, each counted each time it is reached (what is shared counts as often as it is met; a slice's spare places count too). A statement '..UptoSaid' is the law's where the arguments, and the package variables that the reading takes, are together of bulk at most 1048576: NARROWER than '..Said'. Prove '..Said' where nothing that the law and all that it calls make is longer than what came in: it says more and counts as full. Else prove '..UptoSaid'. A law counts once. -/
mutual
def uptoBulk {H : Type} : DataW H → Nat
  | .lit (.string bytes) => bytes.length + 1
  | .lit _ => 1
  | .nil => 1
  | .ptr d => uptoBulk d + 1
  | .slice elems spare => uptoBulkAll elems + uptoBulkAll spare + 1
  | .agg parts => uptoBulkAll parts + 1
  | .iface _ d => uptoBulk d + 1
  | .map entries => uptoBulkEntries entries + 1
  | .held _ => 1
def uptoBulkAll {H : Type} : List (DataW H) → Nat
  | [] => 0
  | d :: r => uptoBulk d + uptoBulkAll r
def uptoBulkEntries {H : Type} : List (Lit × DataW H) → Nat
  | [] => 0
  | x :: r => uptoBulkEntry x + uptoBulkEntries r
def uptoBulkEntry {H : Type} : Lit × DataW H → Nat
  | (.string bytes, d) => bytes.length + uptoBulk d + 1
  | (_, d) => uptoBulk d + 1
 end
def uptoSmall : (H : Type) → List (DataW H) → Bool := fun _ ds => decide (uptoBulkAll ds ≤ 1048576)
def OpenSpec.upto (s : _root_.Go.ChangeSpec) : _root_.Go.OpenSpec := { _root_.Go.OpenSpec.ofChange s with cond := some uptoSmall }

/-- 'theodolitelaw18.HdrNear', WHERE WHAT IT READS IS OF BULK AT MOST 1048576: true; the input reads as it did. -/
def hdrNearUptoRow : OpenClaim := { program := "ytmnilpjgkjkecaa", sum := "4a1cd228718e1e1031fe044afdfa6e67fce5d8ee2fb66f274c79944beb3a0b27", func := "theodolite/theodolitelaw18.HdrNear", spec := "hdrNear", unfollowed := true, recurses := true, named := ["math/bits.divideError", "math/bits.overflowError"], apart := false, narrowed := true }
def HdrNearUptoSaid : Prop := hdrNearUptoRow.holds Try.pinned (OpenSpec.upto hdrNearSpec)

/-- 'theodolitelaw18.HdrMakes', WHERE WHAT IT READS IS OF BULK AT MOST 1048576: true; the input reads as it did. -/
def hdrMakesUptoRow : OpenClaim := { program := "ytmnilpjgkjkecaa", sum := "4a1cd228718e1e1031fe044afdfa6e67fce5d8ee2fb66f274c79944beb3a0b27", func := "theodolite/theodolitelaw18.HdrMakes", spec := "hdrMakes", unfollowed := true, recurses := true, named := ["math/bits.divideError", "math/bits.overflowError"], apart := false, narrowed := true }
def HdrMakesUptoSaid : Prop := hdrMakesUptoRow.holds Try.pinned (OpenSpec.upto hdrMakesSpec)

/-- 'theodolitelaw18.HdrOrder', WHERE WHAT IT READS IS OF BULK AT MOST 1048576: true; the input reads as it did. -/
def hdrOrderUptoRow : OpenClaim := { program := "ytmnilpjgkjkecaa", sum := "4a1cd228718e1e1031fe044afdfa6e67fce5d8ee2fb66f274c79944beb3a0b27", func := "theodolite/theodolitelaw18.HdrOrder", spec := "hdrOrder", unfollowed := true, recurses := true, named := ["math/bits.divideError", "math/bits.overflowError"], apart := false, narrowed := true }
def HdrOrderUptoSaid : Prop := hdrOrderUptoRow.holds Try.pinned (OpenSpec.upto hdrOrderSpec)

/-- 'theodolitelaw18.HdrLoads', WHERE WHAT IT READS IS OF BULK AT MOST 1048576: true; the input reads as it did. -/
def hdrLoadsUptoRow : OpenClaim := { program := "ytmnilpjgkjkecaa", sum := "4a1cd228718e1e1031fe044afdfa6e67fce5d8ee2fb66f274c79944beb3a0b27", func := "theodolite/theodolitelaw18.HdrLoads", spec := "hdrLoads", unfollowed := true, recurses := true, named := ["math/bits.divideError", "math/bits.overflowError"], apart := false, narrowed := true }
def HdrLoadsUptoSaid : Prop := hdrLoadsUptoRow.holds Try.pinned (OpenSpec.upto hdrLoadsSpec)

/-- 'theodolitelaw18.HdrMeans', WHERE WHAT IT READS IS OF BULK AT MOST 1048576: true; the input reads as it did. -/
def hdrMeansUptoRow : OpenClaim := { program := "ytmnilpjgkjkecaa", sum := "4a1cd228718e1e1031fe044afdfa6e67fce5d8ee2fb66f274c79944beb3a0b27", func := "theodolite/theodolitelaw18.HdrMeans", spec := "hdrMeans", inPlace := ["math/bits.Add64"], unfollowed := true, recurses := true, named := ["math/bits.divideError", "math/bits.overflowError"], apart := false, narrowed := true }
def HdrMeansUptoSaid : Prop := hdrMeansUptoRow.holds Try.pinned (OpenSpec.upto hdrMeansSpec)

/-- 'theodolitelaw18.HdrPlays', WHERE WHAT IT READS IS OF BULK AT MOST 1048576: true; the input reads as it did. -/
def hdrPlaysUptoRow : OpenClaim := { program := "ytmnilpjgkjkecaa", sum := "4a1cd228718e1e1031fe044afdfa6e67fce5d8ee2fb66f274c79944beb3a0b27", func := "theodolite/theodolitelaw18.HdrPlays", spec := "hdrPlays", unfollowed := true, recurses := true, named := ["math/bits.divideError", "math/bits.overflowError"], apart := false, narrowed := true }
def HdrPlaysUptoSaid : Prop := hdrPlaysUptoRow.holds Try.pinned (OpenSpec.upto hdrPlaysSpec)

end Rows
end Go.Proofs.Ytmnilpjgkjkecaa
