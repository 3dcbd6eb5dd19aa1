/-
  No cell of these rows narrows 'for every input' (looked for: loops, veiled, ifaces, maps, wideKeys, modest, calm, conditions, laid).
  DERIVED. THE GIVEN ROWS OF THIS SEAT. 3 by the template 'for every input the law returns true; each argument reads behind the call as it read before'; 0 by the template 'total and deterministic' (their statements: YtgleoebogikooaaGreatTotals.lean).
  GIVEN WITH THE SEED: the statements are not yours to turn. If you find one false, say at which input.
  Laid BY PROGRAM, IN A SANDBOX (cutbox-rows.mjs): the forced cells as the released guide's own fill.sh prints them over the translation dfe7f5fd5fcc1af9… (all of the seat's roots in one cut). By AI agents, Wed Nov 11 2026. No macro, syntax, notation, axiom, sorry.
-/
import Derived.Test.YtgleoebogikooaaGreatChecked
import GoSem.Claim
import GoSem.ClaimJoined
import GoSem.ClaimMapViews
import Derived.JoinedTies
import Derived.KernelRfl
namespace Go.Proofs.YtgleoebogikooaaGreat
/- THE CELL 'sum', in the pinned program and in every row, IS THE sha256 OF THE DUMP (.gsa) THAT YtgleoebogikooaaGreatProg.lean LOADS. Nothing in Lean hashes anything: it is a label: what it is worth is what the hold of that sum in a sandbox is worth. -/
noncomputable def Tryz.pinned : Pinned := { name := "ytgleoebogikooaagreat", sum := "dfe7f5fd5fcc1af98e53fc1169995d7d7cb7a473db6849a1ec2ada54e640fd96", checked := Tryz.checked }
namespace Rows
def none {H : Type} : Left H := { results := [], args := [] }

/-- 'laws.FnExactHeapRows': WHATEVER THE INPUT: true; the input reads as it did. -/
def fnExactHeapRowsSpec : ChangeSpec := { name := "fnExactHeapRows", fn := fun _ => fun
  | [d] => { results := [.lit (.bool true)], args := [d] }
  | _ => none }
def fnExactHeapRowsRow : OpenClaim := { program := "ytgleoebogikooaagreat", sum := "dfe7f5fd5fcc1af98e53fc1169995d7d7cb7a473db6849a1ec2ada54e640fd96", func := "loop.example/g00252/laws.FnExactHeapRows", spec := "fnExactHeapRows", inPlace := ["math.Float64frombits", "math.Float64bits"], unfollowed := true, recurses := true, apart := false }
def FnExactHeapRowsSaid : Prop := fnExactHeapRowsRow.holds Tryz.pinned (OpenSpec.ofChange fnExactHeapRowsSpec)

/-- ITS FALSE NEIGHBOUR: 'it returns false'. Refute it at one input. -/
def fnExactHeapRowsWrong : ChangeSpec := { name := "fnExactHeapRows", fn := fun _ => fun
  | [d] => { results := [.lit (.bool false)], args := [d] }
  | _ => none }
def FnExactHeapRowsWrongFalsely : Prop := fnExactHeapRowsRow.holds Tryz.pinned (OpenSpec.ofChange fnExactHeapRowsWrong)

/-- 'laws.FnExactHeapDead': WHATEVER THE INPUT: true; the input reads as it did. -/
def fnExactHeapDeadSpec : ChangeSpec := { name := "fnExactHeapDead", fn := fun _ => fun
  | [d1, d2, d3] => { results := [.lit (.bool true)], args := [d1, d2, d3] }
  | _ => none }
def fnExactHeapDeadRow : OpenClaim := { program := "ytgleoebogikooaagreat", sum := "dfe7f5fd5fcc1af98e53fc1169995d7d7cb7a473db6849a1ec2ada54e640fd96", func := "loop.example/g00252/laws.FnExactHeapDead", spec := "fnExactHeapDead", inPlace := ["math.Float64frombits", "math.Float64bits"], unfollowed := true, recurses := true, apart := false }
def FnExactHeapDeadSaid : Prop := fnExactHeapDeadRow.holds Tryz.pinned (OpenSpec.ofChange fnExactHeapDeadSpec)

/-- ITS FALSE NEIGHBOUR: 'it returns false'. Refute it at one input. -/
def fnExactHeapDeadWrong : ChangeSpec := { name := "fnExactHeapDead", fn := fun _ => fun
  | [d1, d2, d3] => { results := [.lit (.bool false)], args := [d1, d2, d3] }
  | _ => none }
def FnExactHeapDeadWrongFalsely : Prop := fnExactHeapDeadRow.holds Tryz.pinned (OpenSpec.ofChange fnExactHeapDeadWrong)

/-- 'laws.FnExactHeapVersions': WHATEVER THE INPUT: true; the input reads as it did. -/
def fnExactHeapVersionsSpec : ChangeSpec := { name := "fnExactHeapVersions", fn := fun _ => fun
  | [d1, d2] => { results := [.lit (.bool true)], args := [d1, d2] }
  | _ => none }
def fnExactHeapVersionsRow : OpenClaim := { program := "ytgleoebogikooaagreat", sum := "dfe7f5fd5fcc1af98e53fc1169995d7d7cb7a473db6849a1ec2ada54e640fd96", func := "loop.example/g00252/laws.FnExactHeapVersions", spec := "fnExactHeapVersions", inPlace := ["math.Float64bits", "internal/bytealg.Compare", "math.Float64frombits"], unfollowed := true, recurses := true, apart := false }
def FnExactHeapVersionsSaid : Prop := fnExactHeapVersionsRow.holds Tryz.pinned (OpenSpec.ofChange fnExactHeapVersionsSpec)

/-- ITS FALSE NEIGHBOUR: 'it returns false'. Refute it at one input. -/
def fnExactHeapVersionsWrong : ChangeSpec := { name := "fnExactHeapVersions", fn := fun _ => fun
  | [d1, d2] => { results := [.lit (.bool false)], args := [d1, d2] }
  | _ => none }
def FnExactHeapVersionsWrongFalsely : Prop := fnExactHeapVersionsRow.holds Tryz.pinned (OpenSpec.ofChange fnExactHeapVersionsWrong)

/- THE SECOND FORM. 'bulk': how many values and letters a reading holds, each counted each time it is reached (what is shared counts as often as it is met; a slice's spare places count too). A statement '..UptoSaid' is the law's where the arguments, and the package variables that the reading takes, are together of bulk at most 1048576: NARROWER than '..Said'. Prove '..Said' where nothing that the law and all that it calls make is longer than what came in: it says more and counts as full. Else prove '..UptoSaid'. A law counts once. -/
mutual
def uptoBulk {H : Type} : DataW H → Nat
  | .lit (.string bytes) => bytes.length + 1
  | .lit _ => 1
  | .nil => 1
  | .ptr d => uptoBulk d + 1
  | .slice elems spare => uptoBulkAll elems + uptoBulkAll spare + 1
  | .agg parts => uptoBulkAll parts + 1
  | .iface _ d => uptoBulk d + 1
  | .map entries => uptoBulkEntries entries + 1
  | .held _ => 1
def uptoBulkAll {H : Type} : List (DataW H) → Nat
  | [] => 0
  | d :: r => uptoBulk d + uptoBulkAll r
def uptoBulkEntries {H : Type} : List (Lit × DataW H) → Nat
  | [] => 0
  | x :: r => uptoBulkEntry x + uptoBulkEntries r
def uptoBulkEntry {H : Type} : Lit × DataW H → Nat
  | (.string bytes, d) => bytes.length + uptoBulk d + 1
  | (_, d) => uptoBulk d + 1
 end
def uptoSmall : (H : Type) → List (DataW H) → Bool := fun _ ds => decide (uptoBulkAll ds ≤ 1048576)
def OpenSpec.upto (s : _root_.Go.ChangeSpec) : _root_.Go.OpenSpec := { _root_.Go.OpenSpec.ofChange s with cond := some uptoSmall }

/-- 'laws.FnExactHeapRows', WHERE WHAT IT READS IS OF BULK AT MOST 1048576: true; the input reads as it did. -/
def fnExactHeapRowsUptoRow : OpenClaim := { program := "ytgleoebogikooaagreat", sum := "dfe7f5fd5fcc1af98e53fc1169995d7d7cb7a473db6849a1ec2ada54e640fd96", func := "loop.example/g00252/laws.FnExactHeapRows", spec := "fnExactHeapRows", inPlace := ["math.Float64frombits", "math.Float64bits"], unfollowed := true, recurses := true, apart := false, narrowed := true }
def FnExactHeapRowsUptoSaid : Prop := fnExactHeapRowsUptoRow.holds Tryz.pinned (OpenSpec.upto fnExactHeapRowsSpec)

/-- 'laws.FnExactHeapDead', WHERE WHAT IT READS IS OF BULK AT MOST 1048576: true; the input reads as it did. -/
def fnExactHeapDeadUptoRow : OpenClaim := { program := "ytgleoebogikooaagreat", sum := "dfe7f5fd5fcc1af98e53fc1169995d7d7cb7a473db6849a1ec2ada54e640fd96", func := "loop.example/g00252/laws.FnExactHeapDead", spec := "fnExactHeapDead", inPlace := ["math.Float64frombits", "math.Float64bits"], unfollowed := true, recurses := true, apart := false, narrowed := true }
def FnExactHeapDeadUptoSaid : Prop := fnExactHeapDeadUptoRow.holds Tryz.pinned (OpenSpec.upto fnExactHeapDeadSpec)

/-- 'laws.FnExactHeapVersions', WHERE WHAT IT READS IS OF BULK AT MOST 1048576: true; the input reads as it did. -/
def fnExactHeapVersionsUptoRow : OpenClaim := { program := "ytgleoebogikooaagreat", sum := "dfe7f5fd5fcc1af98e53fc1169995d7d7cb7a473db6849a1ec2ada54e640fd96", func := "loop.example/g00252/laws.FnExactHeapVersions", spec := "fnExactHeapVersions", inPlace := ["math.Float64bits", "internal/bytealg.Compare", "math.Float64frombits"], unfollowed := true, recurses := true, apart := false, narrowed := true }
def FnExactHeapVersionsUptoSaid : Prop := fnExactHeapVersionsUptoRow.holds Tryz.pinned (OpenSpec.upto fnExactHeapVersionsSpec)

end Rows
end Go.Proofs.YtgleoebogikooaaGreat
