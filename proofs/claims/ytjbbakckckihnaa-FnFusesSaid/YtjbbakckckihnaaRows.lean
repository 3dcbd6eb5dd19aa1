/-
  No cell of these rows narrows 'for every input' (looked for: loops, veiled, ifaces, maps, wideKeys, modest, calm, conditions, laid).
  DERIVED. THE GIVEN ROWS OF THIS SEAT. 6 by the template 'for every input the law returns true; each argument reads behind the call as it read before'; 0 by the template 'total and deterministic' (their statements: YtjbbakckckihnaaTotals.lean).
  GIVEN WITH THE SEED: the statements are not yours to turn. If you find one false, say at which input.
  Laid BY PROGRAM, IN A SANDBOX (cutbox-rows.mjs): the forced cells as the released guide's own fill.sh prints them over the translation 189567fb228034e4… (all of the seat's roots in one cut). By AI agents, Wed Nov 11 2026. No macro, syntax, notation, axiom, sorry.
-/
import Derived.Test.YtjbbakckckihnaaChecked
import GoSem.Claim
import GoSem.ClaimJoined
import GoSem.ClaimMapViews
import Derived.JoinedTies
import Derived.KernelRfl
namespace Go.Proofs.Ytjbbakckckihnaa
/- THE CELL 'sum', in the pinned program and in every row, IS THE sha256 OF THE DUMP (.gsa) THAT YtjbbakckckihnaaProg.lean LOADS. Nothing in Lean hashes anything: it is a label: what it is worth is what the hold of that sum in a sandbox is worth. -/
noncomputable def Try.pinned : Pinned := { name := "ytjbbakckckihnaa", sum := "189567fb228034e425815487368c5023aa167d3dee8e6701279f1746e6f2f4ed", checked := Try.checked }
namespace Rows
def none {H : Type} : Left H := { results := [], args := [] }

/-- 'laws.FnExactDiskFuse': WHATEVER THE INPUT: true; the input reads as it did. -/
def fnExactDiskFuseSpec : ChangeSpec := { name := "fnExactDiskFuse", fn := fun _ => fun
  | [d1, d2] => { results := [.lit (.bool true)], args := [d1, d2] }
  | _ => none }
def fnExactDiskFuseRow : OpenClaim := { program := "ytjbbakckckihnaa", sum := "189567fb228034e425815487368c5023aa167d3dee8e6701279f1746e6f2f4ed", func := "loop.example/g00252/laws.FnExactDiskFuse", spec := "fnExactDiskFuse", unfollowed := true, recurses := true, apart := false }
def FnExactDiskFuseSaid : Prop := fnExactDiskFuseRow.holds Try.pinned (OpenSpec.ofChange fnExactDiskFuseSpec)

/-- ITS FALSE NEIGHBOUR: 'it returns false'. Refute it at one input. -/
def fnExactDiskFuseWrong : ChangeSpec := { name := "fnExactDiskFuse", fn := fun _ => fun
  | [d1, d2] => { results := [.lit (.bool false)], args := [d1, d2] }
  | _ => none }
def FnExactDiskFuseWrongFalsely : Prop := fnExactDiskFuseRow.holds Try.pinned (OpenSpec.ofChange fnExactDiskFuseWrong)

/-- 'laws.FnExactDiskWrite': WHATEVER THE INPUT: true; the input reads as it did. -/
def fnExactDiskWriteSpec : ChangeSpec := { name := "fnExactDiskWrite", fn := fun _ => fun
  | [d1, d2, d3] => { results := [.lit (.bool true)], args := [d1, d2, d3] }
  | _ => none }
def fnExactDiskWriteRow : OpenClaim := { program := "ytjbbakckckihnaa", sum := "189567fb228034e425815487368c5023aa167d3dee8e6701279f1746e6f2f4ed", func := "loop.example/g00252/laws.FnExactDiskWrite", spec := "fnExactDiskWrite", unfollowed := true, recurses := true, apart := false }
def FnExactDiskWriteSaid : Prop := fnExactDiskWriteRow.holds Try.pinned (OpenSpec.ofChange fnExactDiskWriteSpec)

/-- ITS FALSE NEIGHBOUR: 'it returns false'. Refute it at one input. -/
def fnExactDiskWriteWrong : ChangeSpec := { name := "fnExactDiskWrite", fn := fun _ => fun
  | [d1, d2, d3] => { results := [.lit (.bool false)], args := [d1, d2, d3] }
  | _ => none }
def FnExactDiskWriteWrongFalsely : Prop := fnExactDiskWriteRow.holds Try.pinned (OpenSpec.ofChange fnExactDiskWriteWrong)

/-- 'laws.FnExactDiskCrash': WHATEVER THE INPUT: true; the input reads as it did. -/
def fnExactDiskCrashSpec : ChangeSpec := { name := "fnExactDiskCrash", fn := fun _ => fun
  | [d1, d2] => { results := [.lit (.bool true)], args := [d1, d2] }
  | _ => none }
def fnExactDiskCrashRow : OpenClaim := { program := "ytjbbakckckihnaa", sum := "189567fb228034e425815487368c5023aa167d3dee8e6701279f1746e6f2f4ed", func := "loop.example/g00252/laws.FnExactDiskCrash", spec := "fnExactDiskCrash", unfollowed := true, recurses := true, apart := false }
def FnExactDiskCrashSaid : Prop := fnExactDiskCrashRow.holds Try.pinned (OpenSpec.ofChange fnExactDiskCrashSpec)

/-- ITS FALSE NEIGHBOUR: 'it returns false'. Refute it at one input. -/
def fnExactDiskCrashWrong : ChangeSpec := { name := "fnExactDiskCrash", fn := fun _ => fun
  | [d1, d2] => { results := [.lit (.bool false)], args := [d1, d2] }
  | _ => none }
def FnExactDiskCrashWrongFalsely : Prop := fnExactDiskCrashRow.holds Try.pinned (OpenSpec.ofChange fnExactDiskCrashWrong)

/-- 'laws.FnExactDiskSync': WHATEVER THE INPUT: true; the input reads as it did. -/
def fnExactDiskSyncSpec : ChangeSpec := { name := "fnExactDiskSync", fn := fun _ => fun
  | [d] => { results := [.lit (.bool true)], args := [d] }
  | _ => none }
def fnExactDiskSyncRow : OpenClaim := { program := "ytjbbakckckihnaa", sum := "189567fb228034e425815487368c5023aa167d3dee8e6701279f1746e6f2f4ed", func := "loop.example/g00252/laws.FnExactDiskSync", spec := "fnExactDiskSync", unfollowed := true, recurses := true, apart := false }
def FnExactDiskSyncSaid : Prop := fnExactDiskSyncRow.holds Try.pinned (OpenSpec.ofChange fnExactDiskSyncSpec)

/-- ITS FALSE NEIGHBOUR: 'it returns false'. Refute it at one input. -/
def fnExactDiskSyncWrong : ChangeSpec := { name := "fnExactDiskSync", fn := fun _ => fun
  | [d] => { results := [.lit (.bool false)], args := [d] }
  | _ => none }
def FnExactDiskSyncWrongFalsely : Prop := fnExactDiskSyncRow.holds Try.pinned (OpenSpec.ofChange fnExactDiskSyncWrong)

/-- 'laws.FnDisks': WHATEVER THE INPUT: true; the input reads as it did. -/
def fnDisksSpec : ChangeSpec := { name := "fnDisks", fn := fun _ => fun
  | [d] => { results := [.lit (.bool true)], args := [d] }
  | _ => none }
def fnDisksRow : OpenClaim := { program := "ytjbbakckckihnaa", sum := "189567fb228034e425815487368c5023aa167d3dee8e6701279f1746e6f2f4ed", func := "loop.example/g00252/laws.FnDisks", spec := "fnDisks", unfollowed := true, recurses := true, apart := false }
def FnDisksSaid : Prop := fnDisksRow.holds Try.pinned (OpenSpec.ofChange fnDisksSpec)

/-- ITS FALSE NEIGHBOUR: 'it returns false'. Refute it at one input. -/
def fnDisksWrong : ChangeSpec := { name := "fnDisks", fn := fun _ => fun
  | [d] => { results := [.lit (.bool false)], args := [d] }
  | _ => none }
def FnDisksWrongFalsely : Prop := fnDisksRow.holds Try.pinned (OpenSpec.ofChange fnDisksWrong)

/-- 'laws.FnFuses': WHATEVER THE INPUT: true; the input reads as it did. -/
def fnFusesSpec : ChangeSpec := { name := "fnFuses", fn := fun _ => fun
  | [d] => { results := [.lit (.bool true)], args := [d] }
  | _ => none }
def fnFusesRow : OpenClaim := { program := "ytjbbakckckihnaa", sum := "189567fb228034e425815487368c5023aa167d3dee8e6701279f1746e6f2f4ed", func := "loop.example/g00252/laws.FnFuses", spec := "fnFuses", unfollowed := true, recurses := true, apart := false }
def FnFusesSaid : Prop := fnFusesRow.holds Try.pinned (OpenSpec.ofChange fnFusesSpec)

/-- ITS FALSE NEIGHBOUR: 'it returns false'. Refute it at one input. -/
def fnFusesWrong : ChangeSpec := { name := "fnFuses", fn := fun _ => fun
  | [d] => { results := [.lit (.bool false)], args := [d] }
  | _ => none }
def FnFusesWrongFalsely : Prop := fnFusesRow.holds Try.pinned (OpenSpec.ofChange fnFusesWrong)

/- THE SECOND FORM. 'bulk': how many values and letters a reading holds, each counted each time it is reached (what is shared counts as often as it is met; a slice's spare places count too). A statement '..UptoSaid' is the law's where the arguments, and the package variables that the reading takes, are together of bulk at most 1048576: NARROWER than '..Said'. Prove '..Said' where nothing that the law and all that it calls make is longer than what came in: it says more and counts as full. Else prove '..UptoSaid'. A law counts once. -/
mutual
def uptoBulk {H : Type} : DataW H → Nat
  | .lit (.string bytes) => bytes.length + 1
  | .lit _ => 1
  | .nil => 1
  | .ptr d => uptoBulk d + 1
  | .slice elems spare => uptoBulkAll elems + uptoBulkAll spare + 1
  | .agg parts => uptoBulkAll parts + 1
  | .iface _ d => uptoBulk d + 1
  | .map entries => uptoBulkEntries entries + 1
  | .held _ => 1
def uptoBulkAll {H : Type} : List (DataW H) → Nat
  | [] => 0
  | d :: r => uptoBulk d + uptoBulkAll r
def uptoBulkEntries {H : Type} : List (Lit × DataW H) → Nat
  | [] => 0
  | x :: r => uptoBulkEntry x + uptoBulkEntries r
def uptoBulkEntry {H : Type} : Lit × DataW H → Nat
  | (.string bytes, d) => bytes.length + uptoBulk d + 1
  | (_, d) => uptoBulk d + 1
 end
def uptoSmall : (H : Type) → List (DataW H) → Bool := fun _ ds => decide (uptoBulkAll ds ≤ 1048576)
def OpenSpec.upto (s : _root_.Go.ChangeSpec) : _root_.Go.OpenSpec := { _root_.Go.OpenSpec.ofChange s with cond := some uptoSmall }

/-- 'laws.FnExactDiskFuse', WHERE WHAT IT READS IS OF BULK AT MOST 1048576: true; the input reads as it did. -/
def fnExactDiskFuseUptoRow : OpenClaim := { program := "ytjbbakckckihnaa", sum := "189567fb228034e425815487368c5023aa167d3dee8e6701279f1746e6f2f4ed", func := "loop.example/g00252/laws.FnExactDiskFuse", spec := "fnExactDiskFuse", unfollowed := true, recurses := true, apart := false, narrowed := true }
def FnExactDiskFuseUptoSaid : Prop := fnExactDiskFuseUptoRow.holds Try.pinned (OpenSpec.upto fnExactDiskFuseSpec)

/-- 'laws.FnExactDiskWrite', WHERE WHAT IT READS IS OF BULK AT MOST 1048576: true; the input reads as it did. -/
def fnExactDiskWriteUptoRow : OpenClaim := { program := "ytjbbakckckihnaa", sum := "189567fb228034e425815487368c5023aa167d3dee8e6701279f1746e6f2f4ed", func := "loop.example/g00252/laws.FnExactDiskWrite", spec := "fnExactDiskWrite", unfollowed := true, recurses := true, apart := false, narrowed := true }
def FnExactDiskWriteUptoSaid : Prop := fnExactDiskWriteUptoRow.holds Try.pinned (OpenSpec.upto fnExactDiskWriteSpec)

/-- 'laws.FnExactDiskCrash', WHERE WHAT IT READS IS OF BULK AT MOST 1048576: true; the input reads as it did. -/
def fnExactDiskCrashUptoRow : OpenClaim := { program := "ytjbbakckckihnaa", sum := "189567fb228034e425815487368c5023aa167d3dee8e6701279f1746e6f2f4ed", func := "loop.example/g00252/laws.FnExactDiskCrash", spec := "fnExactDiskCrash", unfollowed := true, recurses := true, apart := false, narrowed := true }
def FnExactDiskCrashUptoSaid : Prop := fnExactDiskCrashUptoRow.holds Try.pinned (OpenSpec.upto fnExactDiskCrashSpec)

/-- 'laws.FnExactDiskSync', WHERE WHAT IT READS IS OF BULK AT MOST 1048576: true; the input reads as it did. -/
def fnExactDiskSyncUptoRow : OpenClaim := { program := "ytjbbakckckihnaa", sum := "189567fb228034e425815487368c5023aa167d3dee8e6701279f1746e6f2f4ed", func := "loop.example/g00252/laws.FnExactDiskSync", spec := "fnExactDiskSync", unfollowed := true, recurses := true, apart := false, narrowed := true }
def FnExactDiskSyncUptoSaid : Prop := fnExactDiskSyncUptoRow.holds Try.pinned (OpenSpec.upto fnExactDiskSyncSpec)

/-- 'laws.FnDisks', WHERE WHAT IT READS IS OF BULK AT MOST 1048576: true; the input reads as it did. -/
def fnDisksUptoRow : OpenClaim := { program := "ytjbbakckckihnaa", sum := "189567fb228034e425815487368c5023aa167d3dee8e6701279f1746e6f2f4ed", func := "loop.example/g00252/laws.FnDisks", spec := "fnDisks", unfollowed := true, recurses := true, apart := false, narrowed := true }
def FnDisksUptoSaid : Prop := fnDisksUptoRow.holds Try.pinned (OpenSpec.upto fnDisksSpec)

/-- 'laws.FnFuses', WHERE WHAT IT READS IS OF BULK AT MOST 1048576: true; the input reads as it did. -/
def fnFusesUptoRow : OpenClaim := { program := "ytjbbakckckihnaa", sum := "189567fb228034e425815487368c5023aa167d3dee8e6701279f1746e6f2f4ed", func := "loop.example/g00252/laws.FnFuses", spec := "fnFuses", unfollowed := true, recurses := true, apart := false, narrowed := true }
def FnFusesUptoSaid : Prop := fnFusesUptoRow.holds Try.pinned (OpenSpec.upto fnFusesSpec)

end Rows
end Go.Proofs.Ytjbbakckckihnaa
