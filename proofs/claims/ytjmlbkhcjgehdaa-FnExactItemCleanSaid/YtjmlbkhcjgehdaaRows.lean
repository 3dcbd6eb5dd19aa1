/-
  No cell of these rows narrows 'for every input' (looked for: loops, veiled, ifaces, maps, wideKeys, modest, calm, conditions, laid).
  DERIVED. THE GIVEN ROWS OF THIS SEAT. 10 by the template 'for every input the law returns true; each argument reads behind the call as it read before'; 0 by the template 'total and deterministic' (their statements: YtjmlbkhcjgehdaaTotals.lean).
  GIVEN WITH THE SEED: the statements are not yours to turn. If you find one false, say at which input.
  Laid BY PROGRAM, IN A SANDBOX (cutbox-rows.mjs): the forced cells as the released guide's own fill.sh prints them over the translation 5c314ec76a88230b… (all of the seat's roots in one cut). By AI agents, Wed Nov 11 2026. No macro, syntax, notation, axiom, sorry.
-/
import Derived.Test.YtjmlbkhcjgehdaaChecked
import GoSem.Claim
import GoSem.ClaimJoined
import GoSem.ClaimMapViews
import Derived.JoinedTies
import Derived.KernelRfl
namespace Go.Proofs.Ytjmlbkhcjgehdaa
/- THE CELL 'sum', in the pinned program and in every row, IS THE sha256 OF THE DUMP (.gsa) THAT YtjmlbkhcjgehdaaProg.lean LOADS. Nothing in Lean hashes anything: it is a label: what it is worth is what the hold of that sum in a sandbox is worth. -/
noncomputable def Try.pinned : Pinned := { name := "ytjmlbkhcjgehdaa", sum := "5c314ec76a88230b9fa677e727984b10dc1db16fb4ab247f9da6758cdcf453b8", checked := Try.checked }
namespace Rows
def none {H : Type} : Left H := { results := [], args := [] }

/-- 'laws.FnExactItemClean': WHATEVER THE INPUT: true; the input reads as it did. -/
def fnExactItemCleanSpec : ChangeSpec := { name := "fnExactItemClean", fn := fun _ => fun
  | [d] => { results := [.lit (.bool true)], args := [d] }
  | _ => none }
def fnExactItemCleanRow : OpenClaim := { program := "ytjmlbkhcjgehdaa", sum := "5c314ec76a88230b9fa677e727984b10dc1db16fb4ab247f9da6758cdcf453b8", func := "loop.example/g00252/laws.FnExactItemClean", spec := "fnExactItemClean", inPlace := ["math.Float64bits"], apart := false }
def FnExactItemCleanSaid : Prop := fnExactItemCleanRow.holds Try.pinned (OpenSpec.ofChange fnExactItemCleanSpec)

/-- ITS FALSE NEIGHBOUR: 'it returns false'. Refute it at one input. -/
def fnExactItemCleanWrong : ChangeSpec := { name := "fnExactItemClean", fn := fun _ => fun
  | [d] => { results := [.lit (.bool false)], args := [d] }
  | _ => none }
def FnExactItemCleanWrongFalsely : Prop := fnExactItemCleanRow.holds Try.pinned (OpenSpec.ofChange fnExactItemCleanWrong)

/-- 'laws.FnExactSpanOk': WHATEVER THE INPUT: true; the input reads as it did. -/
def fnExactSpanOkSpec : ChangeSpec := { name := "fnExactSpanOk", fn := fun _ => fun
  | [d] => { results := [.lit (.bool true)], args := [d] }
  | _ => none }
def fnExactSpanOkRow : OpenClaim := { program := "ytjmlbkhcjgehdaa", sum := "5c314ec76a88230b9fa677e727984b10dc1db16fb4ab247f9da6758cdcf453b8", func := "loop.example/g00252/laws.FnExactSpanOk", spec := "fnExactSpanOk", inPlace := ["math.Float64bits", "internal/bytealg.Compare"], apart := false }
def FnExactSpanOkSaid : Prop := fnExactSpanOkRow.holds Try.pinned (OpenSpec.ofChange fnExactSpanOkSpec)

/-- ITS FALSE NEIGHBOUR: 'it returns false'. Refute it at one input. -/
def fnExactSpanOkWrong : ChangeSpec := { name := "fnExactSpanOk", fn := fun _ => fun
  | [d] => { results := [.lit (.bool false)], args := [d] }
  | _ => none }
def FnExactSpanOkWrongFalsely : Prop := fnExactSpanOkRow.holds Try.pinned (OpenSpec.ofChange fnExactSpanOkWrong)

/-- 'laws.FnExactOpOk': WHATEVER THE INPUT: true; the input reads as it did. -/
def fnExactOpOkSpec : ChangeSpec := { name := "fnExactOpOk", fn := fun _ => fun
  | [d] => { results := [.lit (.bool true)], args := [d] }
  | _ => none }
def fnExactOpOkRow : OpenClaim := { program := "ytjmlbkhcjgehdaa", sum := "5c314ec76a88230b9fa677e727984b10dc1db16fb4ab247f9da6758cdcf453b8", func := "loop.example/g00252/laws.FnExactOpOk", spec := "fnExactOpOk", inPlace := ["math.Float64bits"], apart := false }
def FnExactOpOkSaid : Prop := fnExactOpOkRow.holds Try.pinned (OpenSpec.ofChange fnExactOpOkSpec)

/-- ITS FALSE NEIGHBOUR: 'it returns false'. Refute it at one input. -/
def fnExactOpOkWrong : ChangeSpec := { name := "fnExactOpOk", fn := fun _ => fun
  | [d] => { results := [.lit (.bool false)], args := [d] }
  | _ => none }
def FnExactOpOkWrongFalsely : Prop := fnExactOpOkRow.holds Try.pinned (OpenSpec.ofChange fnExactOpOkWrong)

/-- 'laws.FnExactTrackReads': WHATEVER THE INPUT: true; the input reads as it did. -/
def fnExactTrackReadsSpec : ChangeSpec := { name := "fnExactTrackReads", fn := fun _ => fun
  | [d1, d2] => { results := [.lit (.bool true)], args := [d1, d2] }
  | _ => none }
def fnExactTrackReadsRow : OpenClaim := { program := "ytjmlbkhcjgehdaa", sum := "5c314ec76a88230b9fa677e727984b10dc1db16fb4ab247f9da6758cdcf453b8", func := "loop.example/g00252/laws.FnExactTrackReads", spec := "fnExactTrackReads", inPlace := ["math.Float64bits", "internal/bytealg.Compare"], unfollowed := true, recurses := true, apart := false }
def FnExactTrackReadsSaid : Prop := fnExactTrackReadsRow.holds Try.pinned (OpenSpec.ofChange fnExactTrackReadsSpec)

/-- ITS FALSE NEIGHBOUR: 'it returns false'. Refute it at one input. -/
def fnExactTrackReadsWrong : ChangeSpec := { name := "fnExactTrackReads", fn := fun _ => fun
  | [d1, d2] => { results := [.lit (.bool false)], args := [d1, d2] }
  | _ => none }
def FnExactTrackReadsWrongFalsely : Prop := fnExactTrackReadsRow.holds Try.pinned (OpenSpec.ofChange fnExactTrackReadsWrong)

/-- 'laws.FnExactDeedsOk': WHATEVER THE INPUT: true; the input reads as it did. -/
def fnExactDeedsOkSpec : ChangeSpec := { name := "fnExactDeedsOk", fn := fun _ => fun
  | [d] => { results := [.lit (.bool true)], args := [d] }
  | _ => none }
def fnExactDeedsOkRow : OpenClaim := { program := "ytjmlbkhcjgehdaa", sum := "5c314ec76a88230b9fa677e727984b10dc1db16fb4ab247f9da6758cdcf453b8", func := "loop.example/g00252/laws.FnExactDeedsOk", spec := "fnExactDeedsOk", inPlace := ["math.Float64bits", "internal/bytealg.Compare"], unfollowed := true, recurses := true, apart := false }
def FnExactDeedsOkSaid : Prop := fnExactDeedsOkRow.holds Try.pinned (OpenSpec.ofChange fnExactDeedsOkSpec)

/-- ITS FALSE NEIGHBOUR: 'it returns false'. Refute it at one input. -/
def fnExactDeedsOkWrong : ChangeSpec := { name := "fnExactDeedsOk", fn := fun _ => fun
  | [d] => { results := [.lit (.bool false)], args := [d] }
  | _ => none }
def FnExactDeedsOkWrongFalsely : Prop := fnExactDeedsOkRow.holds Try.pinned (OpenSpec.ofChange fnExactDeedsOkWrong)

/-- 'laws.FnExactTracksOk': WHATEVER THE INPUT: true; the input reads as it did. -/
def fnExactTracksOkSpec : ChangeSpec := { name := "fnExactTracksOk", fn := fun _ => fun
  | [d] => { results := [.lit (.bool true)], args := [d] }
  | _ => none }
def fnExactTracksOkRow : OpenClaim := { program := "ytjmlbkhcjgehdaa", sum := "5c314ec76a88230b9fa677e727984b10dc1db16fb4ab247f9da6758cdcf453b8", func := "loop.example/g00252/laws.FnExactTracksOk", spec := "fnExactTracksOk", inPlace := ["math.Float64bits", "internal/bytealg.Compare"], unfollowed := true, recurses := true, apart := false }
def FnExactTracksOkSaid : Prop := fnExactTracksOkRow.holds Try.pinned (OpenSpec.ofChange fnExactTracksOkSpec)

/-- ITS FALSE NEIGHBOUR: 'it returns false'. Refute it at one input. -/
def fnExactTracksOkWrong : ChangeSpec := { name := "fnExactTracksOk", fn := fun _ => fun
  | [d] => { results := [.lit (.bool false)], args := [d] }
  | _ => none }
def FnExactTracksOkWrongFalsely : Prop := fnExactTracksOkRow.holds Try.pinned (OpenSpec.ofChange fnExactTracksOkWrong)

/-- 'laws.FnExactTreeNew': WHATEVER THE INPUT: true; the input reads as it did. -/
def fnExactTreeNewSpec : ChangeSpec := { name := "fnExactTreeNew", fn := fun _ => fun
  | [] => { results := [.lit (.bool true)], args := [] }
  | _ => none }
def fnExactTreeNewRow : OpenClaim := { program := "ytjmlbkhcjgehdaa", sum := "5c314ec76a88230b9fa677e727984b10dc1db16fb4ab247f9da6758cdcf453b8", func := "loop.example/g00252/laws.FnExactTreeNew", spec := "fnExactTreeNew", apart := false }
def FnExactTreeNewSaid : Prop := fnExactTreeNewRow.holds Try.pinned (OpenSpec.ofChange fnExactTreeNewSpec)

/-- ITS FALSE NEIGHBOUR: 'it returns false'. Refute it at one input. -/
def fnExactTreeNewWrong : ChangeSpec := { name := "fnExactTreeNew", fn := fun _ => fun
  | [] => { results := [.lit (.bool false)], args := [] }
  | _ => none }
def FnExactTreeNewWrongFalsely : Prop := fnExactTreeNewRow.holds Try.pinned (OpenSpec.ofChange fnExactTreeNewWrong)

/-- 'laws.FnExactConcurrent': WHATEVER THE INPUT: true; the input reads as it did. -/
def fnExactConcurrentSpec : ChangeSpec := { name := "fnExactConcurrent", fn := fun _ => fun
  | [d1, d2] => { results := [.lit (.bool true)], args := [d1, d2] }
  | _ => none }
def fnExactConcurrentRow : OpenClaim := { program := "ytjmlbkhcjgehdaa", sum := "5c314ec76a88230b9fa677e727984b10dc1db16fb4ab247f9da6758cdcf453b8", func := "loop.example/g00252/laws.FnExactConcurrent", spec := "fnExactConcurrent", apart := false }
def FnExactConcurrentSaid : Prop := fnExactConcurrentRow.holds Try.pinned (OpenSpec.ofChange fnExactConcurrentSpec)

/-- ITS FALSE NEIGHBOUR: 'it returns false'. Refute it at one input. -/
def fnExactConcurrentWrong : ChangeSpec := { name := "fnExactConcurrent", fn := fun _ => fun
  | [d1, d2] => { results := [.lit (.bool false)], args := [d1, d2] }
  | _ => none }
def FnExactConcurrentWrongFalsely : Prop := fnExactConcurrentRow.holds Try.pinned (OpenSpec.ofChange fnExactConcurrentWrong)

/-- 'laws.FnExactGraphSerial': WHATEVER THE INPUT: true; the input reads as it did. -/
def fnExactGraphSerialSpec : ChangeSpec := { name := "fnExactGraphSerial", fn := fun _ => fun
  | [d1, d2] => { results := [.lit (.bool true)], args := [d1, d2] }
  | _ => none }
def fnExactGraphSerialRow : OpenClaim := { program := "ytjmlbkhcjgehdaa", sum := "5c314ec76a88230b9fa677e727984b10dc1db16fb4ab247f9da6758cdcf453b8", func := "loop.example/g00252/laws.FnExactGraphSerial", spec := "fnExactGraphSerial", inPlace := ["math.Float64bits", "internal/bytealg.Compare"], unfollowed := true, recurses := true, apart := false }
def FnExactGraphSerialSaid : Prop := fnExactGraphSerialRow.holds Try.pinned (OpenSpec.ofChange fnExactGraphSerialSpec)

/-- ITS FALSE NEIGHBOUR: 'it returns false'. Refute it at one input. -/
def fnExactGraphSerialWrong : ChangeSpec := { name := "fnExactGraphSerial", fn := fun _ => fun
  | [d1, d2] => { results := [.lit (.bool false)], args := [d1, d2] }
  | _ => none }
def FnExactGraphSerialWrongFalsely : Prop := fnExactGraphSerialRow.holds Try.pinned (OpenSpec.ofChange fnExactGraphSerialWrong)

/-- 'laws.FnExactEdgeBegin': WHATEVER THE INPUT: true; the input reads as it did. -/
def fnExactEdgeBeginSpec : ChangeSpec := { name := "fnExactEdgeBegin", fn := fun _ => fun
  | [d1, d2, d3] => { results := [.lit (.bool true)], args := [d1, d2, d3] }
  | _ => none }
def fnExactEdgeBeginRow : OpenClaim := { program := "ytjmlbkhcjgehdaa", sum := "5c314ec76a88230b9fa677e727984b10dc1db16fb4ab247f9da6758cdcf453b8", func := "loop.example/g00252/laws.FnExactEdgeBegin", spec := "fnExactEdgeBegin", inPlace := ["math.Float64bits", "internal/bytealg.Compare"], unfollowed := true, recurses := true, apart := false }
def FnExactEdgeBeginSaid : Prop := fnExactEdgeBeginRow.holds Try.pinned (OpenSpec.ofChange fnExactEdgeBeginSpec)

/-- ITS FALSE NEIGHBOUR: 'it returns false'. Refute it at one input. -/
def fnExactEdgeBeginWrong : ChangeSpec := { name := "fnExactEdgeBegin", fn := fun _ => fun
  | [d1, d2, d3] => { results := [.lit (.bool false)], args := [d1, d2, d3] }
  | _ => none }
def FnExactEdgeBeginWrongFalsely : Prop := fnExactEdgeBeginRow.holds Try.pinned (OpenSpec.ofChange fnExactEdgeBeginWrong)

/- THE SECOND FORM. 'bulk': how many values and letters a reading holds, each counted each time it is reached (what is shared counts as often as it is met; a slice's spare places count too). A statement '..UptoSaid' is the law's where the arguments, and the package variables that the reading takes, are together of bulk at most 1048576: NARROWER than '..Said'. Prove '..Said' where nothing that the law and all that it calls make is longer than what came in: it says more and counts as full. Else prove '..UptoSaid'. A law counts once. -/
mutual
def uptoBulk {H : Type} : DataW H → Nat
  | .lit (.string bytes) => bytes.length + 1
  | .lit _ => 1
  | .nil => 1
  | .ptr d => uptoBulk d + 1
  | .slice elems spare => uptoBulkAll elems + uptoBulkAll spare + 1
  | .agg parts => uptoBulkAll parts + 1
  | .iface _ d => uptoBulk d + 1
  | .map entries => uptoBulkEntries entries + 1
  | .held _ => 1
def uptoBulkAll {H : Type} : List (DataW H) → Nat
  | [] => 0
  | d :: r => uptoBulk d + uptoBulkAll r
def uptoBulkEntries {H : Type} : List (Lit × DataW H) → Nat
  | [] => 0
  | x :: r => uptoBulkEntry x + uptoBulkEntries r
def uptoBulkEntry {H : Type} : Lit × DataW H → Nat
  | (.string bytes, d) => bytes.length + uptoBulk d + 1
  | (_, d) => uptoBulk d + 1
 end
def uptoSmall : (H : Type) → List (DataW H) → Bool := fun _ ds => decide (uptoBulkAll ds ≤ 1048576)
def OpenSpec.upto (s : _root_.Go.ChangeSpec) : _root_.Go.OpenSpec := { _root_.Go.OpenSpec.ofChange s with cond := some uptoSmall }

/-- 'laws.FnExactItemClean', WHERE WHAT IT READS IS OF BULK AT MOST 1048576: true; the input reads as it did. -/
def fnExactItemCleanUptoRow : OpenClaim := { program := "ytjmlbkhcjgehdaa", sum := "5c314ec76a88230b9fa677e727984b10dc1db16fb4ab247f9da6758cdcf453b8", func := "loop.example/g00252/laws.FnExactItemClean", spec := "fnExactItemClean", inPlace := ["math.Float64bits"], apart := false, narrowed := true }
def FnExactItemCleanUptoSaid : Prop := fnExactItemCleanUptoRow.holds Try.pinned (OpenSpec.upto fnExactItemCleanSpec)

/-- 'laws.FnExactSpanOk', WHERE WHAT IT READS IS OF BULK AT MOST 1048576: true; the input reads as it did. -/
def fnExactSpanOkUptoRow : OpenClaim := { program := "ytjmlbkhcjgehdaa", sum := "5c314ec76a88230b9fa677e727984b10dc1db16fb4ab247f9da6758cdcf453b8", func := "loop.example/g00252/laws.FnExactSpanOk", spec := "fnExactSpanOk", inPlace := ["math.Float64bits", "internal/bytealg.Compare"], apart := false, narrowed := true }
def FnExactSpanOkUptoSaid : Prop := fnExactSpanOkUptoRow.holds Try.pinned (OpenSpec.upto fnExactSpanOkSpec)

/-- 'laws.FnExactOpOk', WHERE WHAT IT READS IS OF BULK AT MOST 1048576: true; the input reads as it did. -/
def fnExactOpOkUptoRow : OpenClaim := { program := "ytjmlbkhcjgehdaa", sum := "5c314ec76a88230b9fa677e727984b10dc1db16fb4ab247f9da6758cdcf453b8", func := "loop.example/g00252/laws.FnExactOpOk", spec := "fnExactOpOk", inPlace := ["math.Float64bits"], apart := false, narrowed := true }
def FnExactOpOkUptoSaid : Prop := fnExactOpOkUptoRow.holds Try.pinned (OpenSpec.upto fnExactOpOkSpec)

/-- 'laws.FnExactTrackReads', WHERE WHAT IT READS IS OF BULK AT MOST 1048576: true; the input reads as it did. -/
def fnExactTrackReadsUptoRow : OpenClaim := { program := "ytjmlbkhcjgehdaa", sum := "5c314ec76a88230b9fa677e727984b10dc1db16fb4ab247f9da6758cdcf453b8", func := "loop.example/g00252/laws.FnExactTrackReads", spec := "fnExactTrackReads", inPlace := ["math.Float64bits", "internal/bytealg.Compare"], unfollowed := true, recurses := true, apart := false, narrowed := true }
def FnExactTrackReadsUptoSaid : Prop := fnExactTrackReadsUptoRow.holds Try.pinned (OpenSpec.upto fnExactTrackReadsSpec)

/-- 'laws.FnExactDeedsOk', WHERE WHAT IT READS IS OF BULK AT MOST 1048576: true; the input reads as it did. -/
def fnExactDeedsOkUptoRow : OpenClaim := { program := "ytjmlbkhcjgehdaa", sum := "5c314ec76a88230b9fa677e727984b10dc1db16fb4ab247f9da6758cdcf453b8", func := "loop.example/g00252/laws.FnExactDeedsOk", spec := "fnExactDeedsOk", inPlace := ["math.Float64bits", "internal/bytealg.Compare"], unfollowed := true, recurses := true, apart := false, narrowed := true }
def FnExactDeedsOkUptoSaid : Prop := fnExactDeedsOkUptoRow.holds Try.pinned (OpenSpec.upto fnExactDeedsOkSpec)

/-- 'laws.FnExactTracksOk', WHERE WHAT IT READS IS OF BULK AT MOST 1048576: true; the input reads as it did. -/
def fnExactTracksOkUptoRow : OpenClaim := { program := "ytjmlbkhcjgehdaa", sum := "5c314ec76a88230b9fa677e727984b10dc1db16fb4ab247f9da6758cdcf453b8", func := "loop.example/g00252/laws.FnExactTracksOk", spec := "fnExactTracksOk", inPlace := ["math.Float64bits", "internal/bytealg.Compare"], unfollowed := true, recurses := true, apart := false, narrowed := true }
def FnExactTracksOkUptoSaid : Prop := fnExactTracksOkUptoRow.holds Try.pinned (OpenSpec.upto fnExactTracksOkSpec)

/-- 'laws.FnExactTreeNew', WHERE WHAT IT READS IS OF BULK AT MOST 1048576: true; the input reads as it did. -/
def fnExactTreeNewUptoRow : OpenClaim := { program := "ytjmlbkhcjgehdaa", sum := "5c314ec76a88230b9fa677e727984b10dc1db16fb4ab247f9da6758cdcf453b8", func := "loop.example/g00252/laws.FnExactTreeNew", spec := "fnExactTreeNew", apart := false, narrowed := true }
def FnExactTreeNewUptoSaid : Prop := fnExactTreeNewUptoRow.holds Try.pinned (OpenSpec.upto fnExactTreeNewSpec)

/-- 'laws.FnExactConcurrent', WHERE WHAT IT READS IS OF BULK AT MOST 1048576: true; the input reads as it did. -/
def fnExactConcurrentUptoRow : OpenClaim := { program := "ytjmlbkhcjgehdaa", sum := "5c314ec76a88230b9fa677e727984b10dc1db16fb4ab247f9da6758cdcf453b8", func := "loop.example/g00252/laws.FnExactConcurrent", spec := "fnExactConcurrent", apart := false, narrowed := true }
def FnExactConcurrentUptoSaid : Prop := fnExactConcurrentUptoRow.holds Try.pinned (OpenSpec.upto fnExactConcurrentSpec)

/-- 'laws.FnExactGraphSerial', WHERE WHAT IT READS IS OF BULK AT MOST 1048576: true; the input reads as it did. -/
def fnExactGraphSerialUptoRow : OpenClaim := { program := "ytjmlbkhcjgehdaa", sum := "5c314ec76a88230b9fa677e727984b10dc1db16fb4ab247f9da6758cdcf453b8", func := "loop.example/g00252/laws.FnExactGraphSerial", spec := "fnExactGraphSerial", inPlace := ["math.Float64bits", "internal/bytealg.Compare"], unfollowed := true, recurses := true, apart := false, narrowed := true }
def FnExactGraphSerialUptoSaid : Prop := fnExactGraphSerialUptoRow.holds Try.pinned (OpenSpec.upto fnExactGraphSerialSpec)

/-- 'laws.FnExactEdgeBegin', WHERE WHAT IT READS IS OF BULK AT MOST 1048576: true; the input reads as it did. -/
def fnExactEdgeBeginUptoRow : OpenClaim := { program := "ytjmlbkhcjgehdaa", sum := "5c314ec76a88230b9fa677e727984b10dc1db16fb4ab247f9da6758cdcf453b8", func := "loop.example/g00252/laws.FnExactEdgeBegin", spec := "fnExactEdgeBegin", inPlace := ["math.Float64bits", "internal/bytealg.Compare"], unfollowed := true, recurses := true, apart := false, narrowed := true }
def FnExactEdgeBeginUptoSaid : Prop := fnExactEdgeBeginUptoRow.holds Try.pinned (OpenSpec.upto fnExactEdgeBeginSpec)

end Rows
end Go.Proofs.Ytjmlbkhcjgehdaa
