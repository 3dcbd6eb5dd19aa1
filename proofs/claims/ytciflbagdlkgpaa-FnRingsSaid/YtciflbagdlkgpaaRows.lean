/-
  No cell of these rows narrows 'for every input' (looked for: loops, veiled, ifaces, maps, wideKeys, modest, calm, conditions, laid).
  DERIVED. THE GIVEN ROWS OF THIS SEAT. 5 by the template 'for every input the law returns true; each argument reads behind the call as it read before'; 0 by the template 'total and deterministic' (their statements: YtciflbagdlkgpaaTotals.lean).
  GIVEN WITH THE SEED: the statements are not yours to turn. If you find one false, say at which input.
  Laid BY PROGRAM, IN A SANDBOX (cutbox-rows.mjs): the forced cells as the released guide's own fill.sh prints them over the translation 2ce0db0f7ddd1977… (all of the seat's roots in one cut). By AI agents, Wed Nov 11 2026. No macro, syntax, notation, axiom, sorry.
-/
import Derived.Test.YtciflbagdlkgpaaChecked
import GoSem.Claim
import GoSem.ClaimJoined
import GoSem.ClaimMapViews
import Derived.JoinedTies
import Derived.KernelRfl
namespace Go.Proofs.Ytciflbagdlkgpaa
/- THE CELL 'sum', in the pinned program and in every row, IS THE sha256 OF THE DUMP (.gsa) THAT YtciflbagdlkgpaaProg.lean LOADS. Nothing in Lean hashes anything: it is a label: what it is worth is what the hold of that sum in a sandbox is worth. -/
noncomputable def Try.pinned : Pinned := { name := "ytciflbagdlkgpaa", sum := "2ce0db0f7ddd19778bb08e383f1f96a1cd59e7605b976a0eae0fa4db3e88603d", checked := Try.checked }
namespace Rows
def none {H : Type} : Left H := { results := [], args := [] }

/-- 'laws.FnExactDead': WHATEVER THE INPUT: true; the input reads as it did. -/
def fnExactDeadSpec : ChangeSpec := { name := "fnExactDead", fn := fun _ => fun
  | [d1, d2, d3, d4] => { results := [.lit (.bool true)], args := [d1, d2, d3, d4] }
  | _ => none }
def fnExactDeadRow : OpenClaim := { program := "ytciflbagdlkgpaa", sum := "2ce0db0f7ddd19778bb08e383f1f96a1cd59e7605b976a0eae0fa4db3e88603d", func := "loop.example/g00252/laws.FnExactDead", spec := "fnExactDead", apart := false }
def FnExactDeadSaid : Prop := fnExactDeadRow.holds Try.pinned (OpenSpec.ofChange fnExactDeadSpec)

/-- ITS FALSE NEIGHBOUR: 'it returns false'. Refute it at one input. -/
def fnExactDeadWrong : ChangeSpec := { name := "fnExactDead", fn := fun _ => fun
  | [d1, d2, d3, d4] => { results := [.lit (.bool false)], args := [d1, d2, d3, d4] }
  | _ => none }
def FnExactDeadWrongFalsely : Prop := fnExactDeadRow.holds Try.pinned (OpenSpec.ofChange fnExactDeadWrong)

/-- 'laws.FnExactWaitsOk': WHATEVER THE INPUT: true; the input reads as it did. -/
def fnExactWaitsOkSpec : ChangeSpec := { name := "fnExactWaitsOk", fn := fun _ => fun
  | [d] => { results := [.lit (.bool true)], args := [d] }
  | _ => none }
def fnExactWaitsOkRow : OpenClaim := { program := "ytciflbagdlkgpaa", sum := "2ce0db0f7ddd19778bb08e383f1f96a1cd59e7605b976a0eae0fa4db3e88603d", func := "loop.example/g00252/laws.FnExactWaitsOk", spec := "fnExactWaitsOk", unfollowed := true, recurses := true, apart := false }
def FnExactWaitsOkSaid : Prop := fnExactWaitsOkRow.holds Try.pinned (OpenSpec.ofChange fnExactWaitsOkSpec)

/-- ITS FALSE NEIGHBOUR: 'it returns false'. Refute it at one input. -/
def fnExactWaitsOkWrong : ChangeSpec := { name := "fnExactWaitsOk", fn := fun _ => fun
  | [d] => { results := [.lit (.bool false)], args := [d] }
  | _ => none }
def FnExactWaitsOkWrongFalsely : Prop := fnExactWaitsOkRow.holds Try.pinned (OpenSpec.ofChange fnExactWaitsOkWrong)

/-- 'laws.FnExactSnapOk': WHATEVER THE INPUT: true; the input reads as it did. -/
def fnExactSnapOkSpec : ChangeSpec := { name := "fnExactSnapOk", fn := fun _ => fun
  | [d] => { results := [.lit (.bool true)], args := [d] }
  | _ => none }
def fnExactSnapOkRow : OpenClaim := { program := "ytciflbagdlkgpaa", sum := "2ce0db0f7ddd19778bb08e383f1f96a1cd59e7605b976a0eae0fa4db3e88603d", func := "loop.example/g00252/laws.FnExactSnapOk", spec := "fnExactSnapOk", apart := false }
def FnExactSnapOkSaid : Prop := fnExactSnapOkRow.holds Try.pinned (OpenSpec.ofChange fnExactSnapOkSpec)

/-- ITS FALSE NEIGHBOUR: 'it returns false'. Refute it at one input. -/
def fnExactSnapOkWrong : ChangeSpec := { name := "fnExactSnapOk", fn := fun _ => fun
  | [d] => { results := [.lit (.bool false)], args := [d] }
  | _ => none }
def FnExactSnapOkWrongFalsely : Prop := fnExactSnapOkRow.holds Try.pinned (OpenSpec.ofChange fnExactSnapOkWrong)

/-- 'laws.FnRings': WHATEVER THE INPUT: true; the input reads as it did. -/
def fnRingsSpec : ChangeSpec := { name := "fnRings", fn := fun _ => fun
  | [d] => { results := [.lit (.bool true)], args := [d] }
  | _ => none }
def fnRingsRow : OpenClaim := { program := "ytciflbagdlkgpaa", sum := "2ce0db0f7ddd19778bb08e383f1f96a1cd59e7605b976a0eae0fa4db3e88603d", func := "loop.example/g00252/laws.FnRings", spec := "fnRings", unfollowed := true, recurses := true, apart := false }
def FnRingsSaid : Prop := fnRingsRow.holds Try.pinned (OpenSpec.ofChange fnRingsSpec)

/-- ITS FALSE NEIGHBOUR: 'it returns false'. Refute it at one input. -/
def fnRingsWrong : ChangeSpec := { name := "fnRings", fn := fun _ => fun
  | [d] => { results := [.lit (.bool false)], args := [d] }
  | _ => none }
def FnRingsWrongFalsely : Prop := fnRingsRow.holds Try.pinned (OpenSpec.ofChange fnRingsWrong)

/-- 'laws.FnExactWaitNext': WHATEVER THE INPUT: true; the input reads as it did. -/
def fnExactWaitNextSpec : ChangeSpec := { name := "fnExactWaitNext", fn := fun _ => fun
  | [d1, d2] => { results := [.lit (.bool true)], args := [d1, d2] }
  | _ => none }
def fnExactWaitNextRow : OpenClaim := { program := "ytciflbagdlkgpaa", sum := "2ce0db0f7ddd19778bb08e383f1f96a1cd59e7605b976a0eae0fa4db3e88603d", func := "loop.example/g00252/laws.FnExactWaitNext", spec := "fnExactWaitNext", unfollowed := true, recurses := true, apart := false }
def FnExactWaitNextSaid : Prop := fnExactWaitNextRow.holds Try.pinned (OpenSpec.ofChange fnExactWaitNextSpec)

/-- ITS FALSE NEIGHBOUR: 'it returns false'. Refute it at one input. -/
def fnExactWaitNextWrong : ChangeSpec := { name := "fnExactWaitNext", fn := fun _ => fun
  | [d1, d2] => { results := [.lit (.bool false)], args := [d1, d2] }
  | _ => none }
def FnExactWaitNextWrongFalsely : Prop := fnExactWaitNextRow.holds Try.pinned (OpenSpec.ofChange fnExactWaitNextWrong)

/- THE SECOND FORM. 'bulk': how many values and letters a reading holds, each counted each time it is reached (what is shared counts as often as it is met; a slice's spare places count too). A statement '..UptoSaid' is the law's where the arguments, and the package variables that the reading takes, are together of bulk at most 1048576: NARROWER than '..Said'. Prove '..Said' where nothing that the law and all that it calls make is longer than what came in: it says more and counts as full. Else prove '..UptoSaid'. A law counts once. -/
mutual
def uptoBulk {H : Type} : DataW H → Nat
  | .lit (.string bytes) => bytes.length + 1
  | .lit _ => 1
  | .nil => 1
  | .ptr d => uptoBulk d + 1
  | .slice elems spare => uptoBulkAll elems + uptoBulkAll spare + 1
  | .agg parts => uptoBulkAll parts + 1
  | .iface _ d => uptoBulk d + 1
  | .map entries => uptoBulkEntries entries + 1
  | .held _ => 1
def uptoBulkAll {H : Type} : List (DataW H) → Nat
  | [] => 0
  | d :: r => uptoBulk d + uptoBulkAll r
def uptoBulkEntries {H : Type} : List (Lit × DataW H) → Nat
  | [] => 0
  | x :: r => uptoBulkEntry x + uptoBulkEntries r
def uptoBulkEntry {H : Type} : Lit × DataW H → Nat
  | (.string bytes, d) => bytes.length + uptoBulk d + 1
  | (_, d) => uptoBulk d + 1
 end
def uptoSmall : (H : Type) → List (DataW H) → Bool := fun _ ds => decide (uptoBulkAll ds ≤ 1048576)
def OpenSpec.upto (s : _root_.Go.ChangeSpec) : _root_.Go.OpenSpec := { _root_.Go.OpenSpec.ofChange s with cond := some uptoSmall }

/-- 'laws.FnExactDead', WHERE WHAT IT READS IS OF BULK AT MOST 1048576: true; the input reads as it did. -/
def fnExactDeadUptoRow : OpenClaim := { program := "ytciflbagdlkgpaa", sum := "2ce0db0f7ddd19778bb08e383f1f96a1cd59e7605b976a0eae0fa4db3e88603d", func := "loop.example/g00252/laws.FnExactDead", spec := "fnExactDead", apart := false, narrowed := true }
def FnExactDeadUptoSaid : Prop := fnExactDeadUptoRow.holds Try.pinned (OpenSpec.upto fnExactDeadSpec)

/-- 'laws.FnExactWaitsOk', WHERE WHAT IT READS IS OF BULK AT MOST 1048576: true; the input reads as it did. -/
def fnExactWaitsOkUptoRow : OpenClaim := { program := "ytciflbagdlkgpaa", sum := "2ce0db0f7ddd19778bb08e383f1f96a1cd59e7605b976a0eae0fa4db3e88603d", func := "loop.example/g00252/laws.FnExactWaitsOk", spec := "fnExactWaitsOk", unfollowed := true, recurses := true, apart := false, narrowed := true }
def FnExactWaitsOkUptoSaid : Prop := fnExactWaitsOkUptoRow.holds Try.pinned (OpenSpec.upto fnExactWaitsOkSpec)

/-- 'laws.FnExactSnapOk', WHERE WHAT IT READS IS OF BULK AT MOST 1048576: true; the input reads as it did. -/
def fnExactSnapOkUptoRow : OpenClaim := { program := "ytciflbagdlkgpaa", sum := "2ce0db0f7ddd19778bb08e383f1f96a1cd59e7605b976a0eae0fa4db3e88603d", func := "loop.example/g00252/laws.FnExactSnapOk", spec := "fnExactSnapOk", apart := false, narrowed := true }
def FnExactSnapOkUptoSaid : Prop := fnExactSnapOkUptoRow.holds Try.pinned (OpenSpec.upto fnExactSnapOkSpec)

/-- 'laws.FnRings', WHERE WHAT IT READS IS OF BULK AT MOST 1048576: true; the input reads as it did. -/
def fnRingsUptoRow : OpenClaim := { program := "ytciflbagdlkgpaa", sum := "2ce0db0f7ddd19778bb08e383f1f96a1cd59e7605b976a0eae0fa4db3e88603d", func := "loop.example/g00252/laws.FnRings", spec := "fnRings", unfollowed := true, recurses := true, apart := false, narrowed := true }
def FnRingsUptoSaid : Prop := fnRingsUptoRow.holds Try.pinned (OpenSpec.upto fnRingsSpec)

/-- 'laws.FnExactWaitNext', WHERE WHAT IT READS IS OF BULK AT MOST 1048576: true; the input reads as it did. -/
def fnExactWaitNextUptoRow : OpenClaim := { program := "ytciflbagdlkgpaa", sum := "2ce0db0f7ddd19778bb08e383f1f96a1cd59e7605b976a0eae0fa4db3e88603d", func := "loop.example/g00252/laws.FnExactWaitNext", spec := "fnExactWaitNext", unfollowed := true, recurses := true, apart := false, narrowed := true }
def FnExactWaitNextUptoSaid : Prop := fnExactWaitNextUptoRow.holds Try.pinned (OpenSpec.upto fnExactWaitNextSpec)

end Rows
end Go.Proofs.Ytciflbagdlkgpaa
