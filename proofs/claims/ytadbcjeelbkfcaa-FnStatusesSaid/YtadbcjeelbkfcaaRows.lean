/-
  No cell of these rows narrows 'for every input' (looked for: loops, veiled, ifaces, maps, wideKeys, modest, calm, conditions, laid).
  DERIVED. THE GIVEN ROWS OF THIS SEAT. 12 by the template 'for every input the law returns true; each argument reads behind the call as it read before'; 0 by the template 'total and deterministic' (their statements: YtadbcjeelbkfcaaTotals.lean).
  GIVEN WITH THE SEED: the statements are not yours to turn. If you find one false, say at which input.
  Laid BY PROGRAM, IN A SANDBOX (cutbox-rows.mjs): the forced cells as the released guide's own fill.sh prints them over the translation 6b9de0f91bb897b6… (all of the seat's roots in one cut). By AI agents, Wed Nov 11 2026. No macro, syntax, notation, axiom, sorry.
-/
import Derived.Test.YtadbcjeelbkfcaaChecked
import GoSem.Claim
import GoSem.ClaimJoined
import GoSem.ClaimMapViews
import Derived.JoinedTies
import Derived.KernelRfl
namespace Go.Proofs.Ytadbcjeelbkfcaa
/- THE CELL 'sum', in the pinned program and in every row, IS THE sha256 OF THE DUMP (.gsa) THAT YtadbcjeelbkfcaaProg.lean LOADS. Nothing in Lean hashes anything: it is a label: what it is worth is what the hold of that sum in a sandbox is worth. -/
noncomputable def Try.pinned : Pinned := { name := "ytadbcjeelbkfcaa", sum := "6b9de0f91bb897b6221993b6a61f62d48d222a1351993654f5a5d792c2970d71", checked := Try.checked }
namespace Rows
def none {H : Type} : Left H := { results := [], args := [] }

/-- 'laws.FnNumbers': WHATEVER THE INPUT: true; the input reads as it did. -/
def fnNumbersSpec : ChangeSpec := { name := "fnNumbers", fn := fun _ => fun
  | [d] => { results := [.lit (.bool true)], args := [d] }
  | _ => none }
def fnNumbersRow : OpenClaim := { program := "ytadbcjeelbkfcaa", sum := "6b9de0f91bb897b6221993b6a61f62d48d222a1351993654f5a5d792c2970d71", func := "loop.example/g00252/laws.FnNumbers", spec := "fnNumbers", apart := false }
def FnNumbersSaid : Prop := fnNumbersRow.holds Try.pinned (OpenSpec.ofChange fnNumbersSpec)

/-- ITS FALSE NEIGHBOUR: 'it returns false'. Refute it at one input. -/
def fnNumbersWrong : ChangeSpec := { name := "fnNumbers", fn := fun _ => fun
  | [d] => { results := [.lit (.bool false)], args := [d] }
  | _ => none }
def FnNumbersWrongFalsely : Prop := fnNumbersRow.holds Try.pinned (OpenSpec.ofChange fnNumbersWrong)

/-- 'laws.FnExactStatusRead': WHATEVER THE INPUT: true; the input reads as it did. -/
def fnExactStatusReadSpec : ChangeSpec := { name := "fnExactStatusRead", fn := fun _ => fun
  | [d1, d2] => { results := [.lit (.bool true)], args := [d1, d2] }
  | _ => none }
def fnExactStatusReadRow : OpenClaim := { program := "ytadbcjeelbkfcaa", sum := "6b9de0f91bb897b6221993b6a61f62d48d222a1351993654f5a5d792c2970d71", func := "loop.example/g00252/laws.FnExactStatusRead", spec := "fnExactStatusRead", apart := false }
def FnExactStatusReadSaid : Prop := fnExactStatusReadRow.holds Try.pinned (OpenSpec.ofChange fnExactStatusReadSpec)

/-- ITS FALSE NEIGHBOUR: 'it returns false'. Refute it at one input. -/
def fnExactStatusReadWrong : ChangeSpec := { name := "fnExactStatusRead", fn := fun _ => fun
  | [d1, d2] => { results := [.lit (.bool false)], args := [d1, d2] }
  | _ => none }
def FnExactStatusReadWrongFalsely : Prop := fnExactStatusReadRow.holds Try.pinned (OpenSpec.ofChange fnExactStatusReadWrong)

/-- 'laws.FnExactSees': WHATEVER THE INPUT: true; the input reads as it did. -/
def fnExactSeesSpec : ChangeSpec := { name := "fnExactSees", fn := fun _ => fun
  | [d1, d2, d3] => { results := [.lit (.bool true)], args := [d1, d2, d3] }
  | _ => none }
def fnExactSeesRow : OpenClaim := { program := "ytadbcjeelbkfcaa", sum := "6b9de0f91bb897b6221993b6a61f62d48d222a1351993654f5a5d792c2970d71", func := "loop.example/g00252/laws.FnExactSees", spec := "fnExactSees", apart := false }
def FnExactSeesSaid : Prop := fnExactSeesRow.holds Try.pinned (OpenSpec.ofChange fnExactSeesSpec)

/-- ITS FALSE NEIGHBOUR: 'it returns false'. Refute it at one input. -/
def fnExactSeesWrong : ChangeSpec := { name := "fnExactSees", fn := fun _ => fun
  | [d1, d2, d3] => { results := [.lit (.bool false)], args := [d1, d2, d3] }
  | _ => none }
def FnExactSeesWrongFalsely : Prop := fnExactSeesRow.holds Try.pinned (OpenSpec.ofChange fnExactSeesWrong)

/-- 'laws.FnExactVisible': WHATEVER THE INPUT: true; the input reads as it did. -/
def fnExactVisibleSpec : ChangeSpec := { name := "fnExactVisible", fn := fun _ => fun
  | [d1, d2, d3, d4] => { results := [.lit (.bool true)], args := [d1, d2, d3, d4] }
  | _ => none }
def fnExactVisibleRow : OpenClaim := { program := "ytadbcjeelbkfcaa", sum := "6b9de0f91bb897b6221993b6a61f62d48d222a1351993654f5a5d792c2970d71", func := "loop.example/g00252/laws.FnExactVisible", spec := "fnExactVisible", apart := false }
def FnExactVisibleSaid : Prop := fnExactVisibleRow.holds Try.pinned (OpenSpec.ofChange fnExactVisibleSpec)

/-- ITS FALSE NEIGHBOUR: 'it returns false'. Refute it at one input. -/
def fnExactVisibleWrong : ChangeSpec := { name := "fnExactVisible", fn := fun _ => fun
  | [d1, d2, d3, d4] => { results := [.lit (.bool false)], args := [d1, d2, d3, d4] }
  | _ => none }
def FnExactVisibleWrongFalsely : Prop := fnExactVisibleRow.holds Try.pinned (OpenSpec.ofChange fnExactVisibleWrong)

/-- 'laws.FnExactWaitCloses': WHATEVER THE INPUT: true; the input reads as it did. -/
def fnExactWaitClosesSpec : ChangeSpec := { name := "fnExactWaitCloses", fn := fun _ => fun
  | [d1, d2, d3] => { results := [.lit (.bool true)], args := [d1, d2, d3] }
  | _ => none }
def fnExactWaitClosesRow : OpenClaim := { program := "ytadbcjeelbkfcaa", sum := "6b9de0f91bb897b6221993b6a61f62d48d222a1351993654f5a5d792c2970d71", func := "loop.example/g00252/laws.FnExactWaitCloses", spec := "fnExactWaitCloses", unfollowed := true, recurses := true, apart := false }
def FnExactWaitClosesSaid : Prop := fnExactWaitClosesRow.holds Try.pinned (OpenSpec.ofChange fnExactWaitClosesSpec)

/-- ITS FALSE NEIGHBOUR: 'it returns false'. Refute it at one input. -/
def fnExactWaitClosesWrong : ChangeSpec := { name := "fnExactWaitCloses", fn := fun _ => fun
  | [d1, d2, d3] => { results := [.lit (.bool false)], args := [d1, d2, d3] }
  | _ => none }
def FnExactWaitClosesWrongFalsely : Prop := fnExactWaitClosesRow.holds Try.pinned (OpenSpec.ofChange fnExactWaitClosesWrong)

/-- 'laws.FnFuses': WHATEVER THE INPUT: true; the input reads as it did. -/
def fnFusesSpec : ChangeSpec := { name := "fnFuses", fn := fun _ => fun
  | [d] => { results := [.lit (.bool true)], args := [d] }
  | _ => none }
def fnFusesRow : OpenClaim := { program := "ytadbcjeelbkfcaa", sum := "6b9de0f91bb897b6221993b6a61f62d48d222a1351993654f5a5d792c2970d71", func := "loop.example/g00252/laws.FnFuses", spec := "fnFuses", unfollowed := true, recurses := true, apart := false }
def FnFusesSaid : Prop := fnFusesRow.holds Try.pinned (OpenSpec.ofChange fnFusesSpec)

/-- ITS FALSE NEIGHBOUR: 'it returns false'. Refute it at one input. -/
def fnFusesWrong : ChangeSpec := { name := "fnFuses", fn := fun _ => fun
  | [d] => { results := [.lit (.bool false)], args := [d] }
  | _ => none }
def FnFusesWrongFalsely : Prop := fnFusesRow.holds Try.pinned (OpenSpec.ofChange fnFusesWrong)

/-- 'laws.FnExactWaitFree': WHATEVER THE INPUT: true; the input reads as it did. -/
def fnExactWaitFreeSpec : ChangeSpec := { name := "fnExactWaitFree", fn := fun _ => fun
  | [d1, d2] => { results := [.lit (.bool true)], args := [d1, d2] }
  | _ => none }
def fnExactWaitFreeRow : OpenClaim := { program := "ytadbcjeelbkfcaa", sum := "6b9de0f91bb897b6221993b6a61f62d48d222a1351993654f5a5d792c2970d71", func := "loop.example/g00252/laws.FnExactWaitFree", spec := "fnExactWaitFree", unfollowed := true, recurses := true, apart := false }
def FnExactWaitFreeSaid : Prop := fnExactWaitFreeRow.holds Try.pinned (OpenSpec.ofChange fnExactWaitFreeSpec)

/-- ITS FALSE NEIGHBOUR: 'it returns false'. Refute it at one input. -/
def fnExactWaitFreeWrong : ChangeSpec := { name := "fnExactWaitFree", fn := fun _ => fun
  | [d1, d2] => { results := [.lit (.bool false)], args := [d1, d2] }
  | _ => none }
def FnExactWaitFreeWrongFalsely : Prop := fnExactWaitFreeRow.holds Try.pinned (OpenSpec.ofChange fnExactWaitFreeWrong)

/-- 'laws.FnExactHorizon': WHATEVER THE INPUT: true; the input reads as it did. -/
def fnExactHorizonSpec : ChangeSpec := { name := "fnExactHorizon", fn := fun _ => fun
  | [d1, d2] => { results := [.lit (.bool true)], args := [d1, d2] }
  | _ => none }
def fnExactHorizonRow : OpenClaim := { program := "ytadbcjeelbkfcaa", sum := "6b9de0f91bb897b6221993b6a61f62d48d222a1351993654f5a5d792c2970d71", func := "loop.example/g00252/laws.FnExactHorizon", spec := "fnExactHorizon", unfollowed := true, recurses := true, apart := false }
def FnExactHorizonSaid : Prop := fnExactHorizonRow.holds Try.pinned (OpenSpec.ofChange fnExactHorizonSpec)

/-- ITS FALSE NEIGHBOUR: 'it returns false'. Refute it at one input. -/
def fnExactHorizonWrong : ChangeSpec := { name := "fnExactHorizon", fn := fun _ => fun
  | [d1, d2] => { results := [.lit (.bool false)], args := [d1, d2] }
  | _ => none }
def FnExactHorizonWrongFalsely : Prop := fnExactHorizonRow.holds Try.pinned (OpenSpec.ofChange fnExactHorizonWrong)

/-- 'laws.FnStatuses': WHATEVER THE INPUT: true; the input reads as it did. -/
def fnStatusesSpec : ChangeSpec := { name := "fnStatuses", fn := fun _ => fun
  | [d] => { results := [.lit (.bool true)], args := [d] }
  | _ => none }
def fnStatusesRow : OpenClaim := { program := "ytadbcjeelbkfcaa", sum := "6b9de0f91bb897b6221993b6a61f62d48d222a1351993654f5a5d792c2970d71", func := "loop.example/g00252/laws.FnStatuses", spec := "fnStatuses", apart := false }
def FnStatusesSaid : Prop := fnStatusesRow.holds Try.pinned (OpenSpec.ofChange fnStatusesSpec)

/-- ITS FALSE NEIGHBOUR: 'it returns false'. Refute it at one input. -/
def fnStatusesWrong : ChangeSpec := { name := "fnStatuses", fn := fun _ => fun
  | [d] => { results := [.lit (.bool false)], args := [d] }
  | _ => none }
def FnStatusesWrongFalsely : Prop := fnStatusesRow.holds Try.pinned (OpenSpec.ofChange fnStatusesWrong)

/-- 'laws.FnExactWaitRing': WHATEVER THE INPUT: true; the input reads as it did. -/
def fnExactWaitRingSpec : ChangeSpec := { name := "fnExactWaitRing", fn := fun _ => fun
  | [d1, d2] => { results := [.lit (.bool true)], args := [d1, d2] }
  | _ => none }
def fnExactWaitRingRow : OpenClaim := { program := "ytadbcjeelbkfcaa", sum := "6b9de0f91bb897b6221993b6a61f62d48d222a1351993654f5a5d792c2970d71", func := "loop.example/g00252/laws.FnExactWaitRing", spec := "fnExactWaitRing", unfollowed := true, recurses := true, apart := false }
def FnExactWaitRingSaid : Prop := fnExactWaitRingRow.holds Try.pinned (OpenSpec.ofChange fnExactWaitRingSpec)

/-- ITS FALSE NEIGHBOUR: 'it returns false'. Refute it at one input. -/
def fnExactWaitRingWrong : ChangeSpec := { name := "fnExactWaitRing", fn := fun _ => fun
  | [d1, d2] => { results := [.lit (.bool false)], args := [d1, d2] }
  | _ => none }
def FnExactWaitRingWrongFalsely : Prop := fnExactWaitRingRow.holds Try.pinned (OpenSpec.ofChange fnExactWaitRingWrong)

/-- 'laws.FnUnseen': WHATEVER THE INPUT: true; the input reads as it did. -/
def fnUnseenSpec : ChangeSpec := { name := "fnUnseen", fn := fun _ => fun
  | [d] => { results := [.lit (.bool true)], args := [d] }
  | _ => none }
def fnUnseenRow : OpenClaim := { program := "ytadbcjeelbkfcaa", sum := "6b9de0f91bb897b6221993b6a61f62d48d222a1351993654f5a5d792c2970d71", func := "loop.example/g00252/laws.FnUnseen", spec := "fnUnseen", unfollowed := true, recurses := true, apart := false }
def FnUnseenSaid : Prop := fnUnseenRow.holds Try.pinned (OpenSpec.ofChange fnUnseenSpec)

/-- ITS FALSE NEIGHBOUR: 'it returns false'. Refute it at one input. -/
def fnUnseenWrong : ChangeSpec := { name := "fnUnseen", fn := fun _ => fun
  | [d] => { results := [.lit (.bool false)], args := [d] }
  | _ => none }
def FnUnseenWrongFalsely : Prop := fnUnseenRow.holds Try.pinned (OpenSpec.ofChange fnUnseenWrong)

/-- 'laws.FnExactConcurrent': WHATEVER THE INPUT: true; the input reads as it did. -/
def fnExactConcurrentSpec : ChangeSpec := { name := "fnExactConcurrent", fn := fun _ => fun
  | [d1, d2] => { results := [.lit (.bool true)], args := [d1, d2] }
  | _ => none }
def fnExactConcurrentRow : OpenClaim := { program := "ytadbcjeelbkfcaa", sum := "6b9de0f91bb897b6221993b6a61f62d48d222a1351993654f5a5d792c2970d71", func := "loop.example/g00252/laws.FnExactConcurrent", spec := "fnExactConcurrent", apart := false }
def FnExactConcurrentSaid : Prop := fnExactConcurrentRow.holds Try.pinned (OpenSpec.ofChange fnExactConcurrentSpec)

/-- ITS FALSE NEIGHBOUR: 'it returns false'. Refute it at one input. -/
def fnExactConcurrentWrong : ChangeSpec := { name := "fnExactConcurrent", fn := fun _ => fun
  | [d1, d2] => { results := [.lit (.bool false)], args := [d1, d2] }
  | _ => none }
def FnExactConcurrentWrongFalsely : Prop := fnExactConcurrentRow.holds Try.pinned (OpenSpec.ofChange fnExactConcurrentWrong)

/- THE SECOND FORM. 'bulk': how many values and letters a reading holds, each counted each time it is reached (what is shared counts as often as it is met; a slice's spare places count too). A statement '..UptoSaid' is the law's where the arguments, and the package variables that the reading takes, are together of bulk at most 1048576: NARROWER than '..Said'. Prove '..Said' where nothing that the law and all that it calls make is longer than what came in: it says more and counts as full. Else prove '..UptoSaid'. A law counts once. -/
mutual
def uptoBulk {H : Type} : DataW H → Nat
  | .lit (.string bytes) => bytes.length + 1
  | .lit _ => 1
  | .nil => 1
  | .ptr d => uptoBulk d + 1
  | .slice elems spare => uptoBulkAll elems + uptoBulkAll spare + 1
  | .agg parts => uptoBulkAll parts + 1
  | .iface _ d => uptoBulk d + 1
  | .map entries => uptoBulkEntries entries + 1
  | .held _ => 1
def uptoBulkAll {H : Type} : List (DataW H) → Nat
  | [] => 0
  | d :: r => uptoBulk d + uptoBulkAll r
def uptoBulkEntries {H : Type} : List (Lit × DataW H) → Nat
  | [] => 0
  | x :: r => uptoBulkEntry x + uptoBulkEntries r
def uptoBulkEntry {H : Type} : Lit × DataW H → Nat
  | (.string bytes, d) => bytes.length + uptoBulk d + 1
  | (_, d) => uptoBulk d + 1
 end
def uptoSmall : (H : Type) → List (DataW H) → Bool := fun _ ds => decide (uptoBulkAll ds ≤ 1048576)
def OpenSpec.upto (s : _root_.Go.ChangeSpec) : _root_.Go.OpenSpec := { _root_.Go.OpenSpec.ofChange s with cond := some uptoSmall }

/-- 'laws.FnNumbers', WHERE WHAT IT READS IS OF BULK AT MOST 1048576: true; the input reads as it did. -/
def fnNumbersUptoRow : OpenClaim := { program := "ytadbcjeelbkfcaa", sum := "6b9de0f91bb897b6221993b6a61f62d48d222a1351993654f5a5d792c2970d71", func := "loop.example/g00252/laws.FnNumbers", spec := "fnNumbers", apart := false, narrowed := true }
def FnNumbersUptoSaid : Prop := fnNumbersUptoRow.holds Try.pinned (OpenSpec.upto fnNumbersSpec)

/-- 'laws.FnExactStatusRead', WHERE WHAT IT READS IS OF BULK AT MOST 1048576: true; the input reads as it did. -/
def fnExactStatusReadUptoRow : OpenClaim := { program := "ytadbcjeelbkfcaa", sum := "6b9de0f91bb897b6221993b6a61f62d48d222a1351993654f5a5d792c2970d71", func := "loop.example/g00252/laws.FnExactStatusRead", spec := "fnExactStatusRead", apart := false, narrowed := true }
def FnExactStatusReadUptoSaid : Prop := fnExactStatusReadUptoRow.holds Try.pinned (OpenSpec.upto fnExactStatusReadSpec)

/-- 'laws.FnExactSees', WHERE WHAT IT READS IS OF BULK AT MOST 1048576: true; the input reads as it did. -/
def fnExactSeesUptoRow : OpenClaim := { program := "ytadbcjeelbkfcaa", sum := "6b9de0f91bb897b6221993b6a61f62d48d222a1351993654f5a5d792c2970d71", func := "loop.example/g00252/laws.FnExactSees", spec := "fnExactSees", apart := false, narrowed := true }
def FnExactSeesUptoSaid : Prop := fnExactSeesUptoRow.holds Try.pinned (OpenSpec.upto fnExactSeesSpec)

/-- 'laws.FnExactVisible', WHERE WHAT IT READS IS OF BULK AT MOST 1048576: true; the input reads as it did. -/
def fnExactVisibleUptoRow : OpenClaim := { program := "ytadbcjeelbkfcaa", sum := "6b9de0f91bb897b6221993b6a61f62d48d222a1351993654f5a5d792c2970d71", func := "loop.example/g00252/laws.FnExactVisible", spec := "fnExactVisible", apart := false, narrowed := true }
def FnExactVisibleUptoSaid : Prop := fnExactVisibleUptoRow.holds Try.pinned (OpenSpec.upto fnExactVisibleSpec)

/-- 'laws.FnExactWaitCloses', WHERE WHAT IT READS IS OF BULK AT MOST 1048576: true; the input reads as it did. -/
def fnExactWaitClosesUptoRow : OpenClaim := { program := "ytadbcjeelbkfcaa", sum := "6b9de0f91bb897b6221993b6a61f62d48d222a1351993654f5a5d792c2970d71", func := "loop.example/g00252/laws.FnExactWaitCloses", spec := "fnExactWaitCloses", unfollowed := true, recurses := true, apart := false, narrowed := true }
def FnExactWaitClosesUptoSaid : Prop := fnExactWaitClosesUptoRow.holds Try.pinned (OpenSpec.upto fnExactWaitClosesSpec)

/-- 'laws.FnFuses', WHERE WHAT IT READS IS OF BULK AT MOST 1048576: true; the input reads as it did. -/
def fnFusesUptoRow : OpenClaim := { program := "ytadbcjeelbkfcaa", sum := "6b9de0f91bb897b6221993b6a61f62d48d222a1351993654f5a5d792c2970d71", func := "loop.example/g00252/laws.FnFuses", spec := "fnFuses", unfollowed := true, recurses := true, apart := false, narrowed := true }
def FnFusesUptoSaid : Prop := fnFusesUptoRow.holds Try.pinned (OpenSpec.upto fnFusesSpec)

/-- 'laws.FnExactWaitFree', WHERE WHAT IT READS IS OF BULK AT MOST 1048576: true; the input reads as it did. -/
def fnExactWaitFreeUptoRow : OpenClaim := { program := "ytadbcjeelbkfcaa", sum := "6b9de0f91bb897b6221993b6a61f62d48d222a1351993654f5a5d792c2970d71", func := "loop.example/g00252/laws.FnExactWaitFree", spec := "fnExactWaitFree", unfollowed := true, recurses := true, apart := false, narrowed := true }
def FnExactWaitFreeUptoSaid : Prop := fnExactWaitFreeUptoRow.holds Try.pinned (OpenSpec.upto fnExactWaitFreeSpec)

/-- 'laws.FnExactHorizon', WHERE WHAT IT READS IS OF BULK AT MOST 1048576: true; the input reads as it did. -/
def fnExactHorizonUptoRow : OpenClaim := { program := "ytadbcjeelbkfcaa", sum := "6b9de0f91bb897b6221993b6a61f62d48d222a1351993654f5a5d792c2970d71", func := "loop.example/g00252/laws.FnExactHorizon", spec := "fnExactHorizon", unfollowed := true, recurses := true, apart := false, narrowed := true }
def FnExactHorizonUptoSaid : Prop := fnExactHorizonUptoRow.holds Try.pinned (OpenSpec.upto fnExactHorizonSpec)

/-- 'laws.FnStatuses', WHERE WHAT IT READS IS OF BULK AT MOST 1048576: true; the input reads as it did. -/
def fnStatusesUptoRow : OpenClaim := { program := "ytadbcjeelbkfcaa", sum := "6b9de0f91bb897b6221993b6a61f62d48d222a1351993654f5a5d792c2970d71", func := "loop.example/g00252/laws.FnStatuses", spec := "fnStatuses", apart := false, narrowed := true }
def FnStatusesUptoSaid : Prop := fnStatusesUptoRow.holds Try.pinned (OpenSpec.upto fnStatusesSpec)

/-- 'laws.FnExactWaitRing', WHERE WHAT IT READS IS OF BULK AT MOST 1048576: true; the input reads as it did. -/
def fnExactWaitRingUptoRow : OpenClaim := { program := "ytadbcjeelbkfcaa", sum := "6b9de0f91bb897b6221993b6a61f62d48d222a1351993654f5a5d792c2970d71", func := "loop.example/g00252/laws.FnExactWaitRing", spec := "fnExactWaitRing", unfollowed := true, recurses := true, apart := false, narrowed := true }
def FnExactWaitRingUptoSaid : Prop := fnExactWaitRingUptoRow.holds Try.pinned (OpenSpec.upto fnExactWaitRingSpec)

/-- 'laws.FnUnseen', WHERE WHAT IT READS IS OF BULK AT MOST 1048576: true; the input reads as it did. -/
def fnUnseenUptoRow : OpenClaim := { program := "ytadbcjeelbkfcaa", sum := "6b9de0f91bb897b6221993b6a61f62d48d222a1351993654f5a5d792c2970d71", func := "loop.example/g00252/laws.FnUnseen", spec := "fnUnseen", unfollowed := true, recurses := true, apart := false, narrowed := true }
def FnUnseenUptoSaid : Prop := fnUnseenUptoRow.holds Try.pinned (OpenSpec.upto fnUnseenSpec)

/-- 'laws.FnExactConcurrent', WHERE WHAT IT READS IS OF BULK AT MOST 1048576: true; the input reads as it did. -/
def fnExactConcurrentUptoRow : OpenClaim := { program := "ytadbcjeelbkfcaa", sum := "6b9de0f91bb897b6221993b6a61f62d48d222a1351993654f5a5d792c2970d71", func := "loop.example/g00252/laws.FnExactConcurrent", spec := "fnExactConcurrent", apart := false, narrowed := true }
def FnExactConcurrentUptoSaid : Prop := fnExactConcurrentUptoRow.holds Try.pinned (OpenSpec.upto fnExactConcurrentSpec)

end Rows
end Go.Proofs.Ytadbcjeelbkfcaa
