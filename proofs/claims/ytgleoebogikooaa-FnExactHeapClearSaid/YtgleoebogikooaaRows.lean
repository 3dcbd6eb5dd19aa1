/-
  No cell of these rows narrows 'for every input' (looked for: loops, veiled, ifaces, maps, wideKeys, modest, calm, conditions, laid).
  DERIVED. THE GIVEN ROWS OF THIS SEAT. 9 by the template 'for every input the law returns true; each argument reads behind the call as it read before'; 0 by the template 'total and deterministic' (their statements: YtgleoebogikooaaTotals.lean).
  GIVEN WITH THE SEED: the statements are not yours to turn. If you find one false, say at which input.
  Laid BY PROGRAM, IN A SANDBOX (cutbox-rows.mjs): the forced cells as the released guide's own fill.sh prints them over the translation 5fff4d02c2ee9ee9… (all of the seat's roots in one cut). By AI agents, Wed Nov 11 2026. No macro, syntax, notation, axiom, sorry.
-/
import Derived.Test.YtgleoebogikooaaChecked
import GoSem.Claim
import GoSem.ClaimJoined
import GoSem.ClaimMapViews
import Derived.JoinedTies
import Derived.KernelRfl
namespace Go.Proofs.Ytgleoebogikooaa
/- THE CELL 'sum', in the pinned program and in every row, IS THE sha256 OF THE DUMP (.gsa) THAT YtgleoebogikooaaProg.lean LOADS. Nothing in Lean hashes anything: it is a label: what it is worth is what the hold of that sum in a sandbox is worth. -/
noncomputable def Try.pinned : Pinned := { name := "ytgleoebogikooaa", sum := "5fff4d02c2ee9ee92186b67100644771dc7ac44dd4110d80b2f375b53e96cfc0", checked := Try.checked }
namespace Rows
def none {H : Type} : Left H := { results := [], args := [] }

/-- 'laws.FnExactTreeOk': WHATEVER THE INPUT: true; the input reads as it did. -/
def fnExactTreeOkSpec : ChangeSpec := { name := "fnExactTreeOk", fn := fun _ => fun
  | [d] => { results := [.lit (.bool true)], args := [d] }
  | _ => none }
def fnExactTreeOkRow : OpenClaim := { program := "ytgleoebogikooaa", sum := "5fff4d02c2ee9ee92186b67100644771dc7ac44dd4110d80b2f375b53e96cfc0", func := "loop.example/g00252/laws.FnExactTreeOk", spec := "fnExactTreeOk", inPlace := ["math.Float64bits", "internal/bytealg.Compare"], unfollowed := true, recurses := true, apart := false }
def FnExactTreeOkSaid : Prop := fnExactTreeOkRow.holds Try.pinned (OpenSpec.ofChange fnExactTreeOkSpec)

/-- ITS FALSE NEIGHBOUR: 'it returns false'. Refute it at one input. -/
def fnExactTreeOkWrong : ChangeSpec := { name := "fnExactTreeOk", fn := fun _ => fun
  | [d] => { results := [.lit (.bool false)], args := [d] }
  | _ => none }
def FnExactTreeOkWrongFalsely : Prop := fnExactTreeOkRow.holds Try.pinned (OpenSpec.ofChange fnExactTreeOkWrong)

/-- 'laws.FnExactTreeHeight': WHATEVER THE INPUT: true; the input reads as it did. -/
def fnExactTreeHeightSpec : ChangeSpec := { name := "fnExactTreeHeight", fn := fun _ => fun
  | [d] => { results := [.lit (.bool true)], args := [d] }
  | _ => none }
def fnExactTreeHeightRow : OpenClaim := { program := "ytgleoebogikooaa", sum := "5fff4d02c2ee9ee92186b67100644771dc7ac44dd4110d80b2f375b53e96cfc0", func := "loop.example/g00252/laws.FnExactTreeHeight", spec := "fnExactTreeHeight", inPlace := ["math.Float64bits", "internal/bytealg.Compare"], unfollowed := true, recurses := true, apart := false }
def FnExactTreeHeightSaid : Prop := fnExactTreeHeightRow.holds Try.pinned (OpenSpec.ofChange fnExactTreeHeightSpec)

/-- ITS FALSE NEIGHBOUR: 'it returns false'. Refute it at one input. -/
def fnExactTreeHeightWrong : ChangeSpec := { name := "fnExactTreeHeight", fn := fun _ => fun
  | [d] => { results := [.lit (.bool false)], args := [d] }
  | _ => none }
def FnExactTreeHeightWrongFalsely : Prop := fnExactTreeHeightRow.holds Try.pinned (OpenSpec.ofChange fnExactTreeHeightWrong)

/-- 'laws.FnExactTreeAll': WHATEVER THE INPUT: true; the input reads as it did. -/
def fnExactTreeAllSpec : ChangeSpec := { name := "fnExactTreeAll", fn := fun _ => fun
  | [d] => { results := [.lit (.bool true)], args := [d] }
  | _ => none }
def fnExactTreeAllRow : OpenClaim := { program := "ytgleoebogikooaa", sum := "5fff4d02c2ee9ee92186b67100644771dc7ac44dd4110d80b2f375b53e96cfc0", func := "loop.example/g00252/laws.FnExactTreeAll", spec := "fnExactTreeAll", inPlace := ["math.Float64bits", "internal/bytealg.Compare"], unfollowed := true, recurses := true, apart := false }
def FnExactTreeAllSaid : Prop := fnExactTreeAllRow.holds Try.pinned (OpenSpec.ofChange fnExactTreeAllSpec)

/-- ITS FALSE NEIGHBOUR: 'it returns false'. Refute it at one input. -/
def fnExactTreeAllWrong : ChangeSpec := { name := "fnExactTreeAll", fn := fun _ => fun
  | [d] => { results := [.lit (.bool false)], args := [d] }
  | _ => none }
def FnExactTreeAllWrongFalsely : Prop := fnExactTreeAllRow.holds Try.pinned (OpenSpec.ofChange fnExactTreeAllWrong)

/-- 'laws.FnExactTreeFind': WHATEVER THE INPUT: true; the input reads as it did. -/
def fnExactTreeFindSpec : ChangeSpec := { name := "fnExactTreeFind", fn := fun _ => fun
  | [d1, d2] => { results := [.lit (.bool true)], args := [d1, d2] }
  | _ => none }
def fnExactTreeFindRow : OpenClaim := { program := "ytgleoebogikooaa", sum := "5fff4d02c2ee9ee92186b67100644771dc7ac44dd4110d80b2f375b53e96cfc0", func := "loop.example/g00252/laws.FnExactTreeFind", spec := "fnExactTreeFind", inPlace := ["math.Float64bits", "internal/bytealg.Compare"], unfollowed := true, recurses := true, apart := false }
def FnExactTreeFindSaid : Prop := fnExactTreeFindRow.holds Try.pinned (OpenSpec.ofChange fnExactTreeFindSpec)

/-- ITS FALSE NEIGHBOUR: 'it returns false'. Refute it at one input. -/
def fnExactTreeFindWrong : ChangeSpec := { name := "fnExactTreeFind", fn := fun _ => fun
  | [d1, d2] => { results := [.lit (.bool false)], args := [d1, d2] }
  | _ => none }
def FnExactTreeFindWrongFalsely : Prop := fnExactTreeFindRow.holds Try.pinned (OpenSpec.ofChange fnExactTreeFindWrong)

/-- 'laws.FnExactTreeSpan': WHATEVER THE INPUT: true; the input reads as it did. -/
def fnExactTreeSpanSpec : ChangeSpec := { name := "fnExactTreeSpan", fn := fun _ => fun
  | [d1, d2, d3] => { results := [.lit (.bool true)], args := [d1, d2, d3] }
  | _ => none }
def fnExactTreeSpanRow : OpenClaim := { program := "ytgleoebogikooaa", sum := "5fff4d02c2ee9ee92186b67100644771dc7ac44dd4110d80b2f375b53e96cfc0", func := "loop.example/g00252/laws.FnExactTreeSpan", spec := "fnExactTreeSpan", inPlace := ["math.Float64bits", "internal/bytealg.Compare"], unfollowed := true, recurses := true, apart := false }
def FnExactTreeSpanSaid : Prop := fnExactTreeSpanRow.holds Try.pinned (OpenSpec.ofChange fnExactTreeSpanSpec)

/-- ITS FALSE NEIGHBOUR: 'it returns false'. Refute it at one input. -/
def fnExactTreeSpanWrong : ChangeSpec := { name := "fnExactTreeSpan", fn := fun _ => fun
  | [d1, d2, d3] => { results := [.lit (.bool false)], args := [d1, d2, d3] }
  | _ => none }
def FnExactTreeSpanWrongFalsely : Prop := fnExactTreeSpanRow.holds Try.pinned (OpenSpec.ofChange fnExactTreeSpanWrong)

/-- 'laws.FnExactHeapOk': WHATEVER THE INPUT: true; the input reads as it did. -/
def fnExactHeapOkSpec : ChangeSpec := { name := "fnExactHeapOk", fn := fun _ => fun
  | [d] => { results := [.lit (.bool true)], args := [d] }
  | _ => none }
def fnExactHeapOkRow : OpenClaim := { program := "ytgleoebogikooaa", sum := "5fff4d02c2ee9ee92186b67100644771dc7ac44dd4110d80b2f375b53e96cfc0", func := "loop.example/g00252/laws.FnExactHeapOk", spec := "fnExactHeapOk", inPlace := ["math.Float64frombits", "math.Float64bits"], unfollowed := true, recurses := true, apart := false }
def FnExactHeapOkSaid : Prop := fnExactHeapOkRow.holds Try.pinned (OpenSpec.ofChange fnExactHeapOkSpec)

/-- ITS FALSE NEIGHBOUR: 'it returns false'. Refute it at one input. -/
def fnExactHeapOkWrong : ChangeSpec := { name := "fnExactHeapOk", fn := fun _ => fun
  | [d] => { results := [.lit (.bool false)], args := [d] }
  | _ => none }
def FnExactHeapOkWrongFalsely : Prop := fnExactHeapOkRow.holds Try.pinned (OpenSpec.ofChange fnExactHeapOkWrong)

/-- 'laws.FnExactHeapPlace': WHATEVER THE INPUT: true; the input reads as it did. -/
def fnExactHeapPlaceSpec : ChangeSpec := { name := "fnExactHeapPlace", fn := fun _ => fun
  | [d1, d2] => { results := [.lit (.bool true)], args := [d1, d2] }
  | _ => none }
def fnExactHeapPlaceRow : OpenClaim := { program := "ytgleoebogikooaa", sum := "5fff4d02c2ee9ee92186b67100644771dc7ac44dd4110d80b2f375b53e96cfc0", func := "loop.example/g00252/laws.FnExactHeapPlace", spec := "fnExactHeapPlace", inPlace := ["math.Float64frombits", "math.Float64bits"], unfollowed := true, recurses := true, apart := false }
def FnExactHeapPlaceSaid : Prop := fnExactHeapPlaceRow.holds Try.pinned (OpenSpec.ofChange fnExactHeapPlaceSpec)

/-- ITS FALSE NEIGHBOUR: 'it returns false'. Refute it at one input. -/
def fnExactHeapPlaceWrong : ChangeSpec := { name := "fnExactHeapPlace", fn := fun _ => fun
  | [d1, d2] => { results := [.lit (.bool false)], args := [d1, d2] }
  | _ => none }
def FnExactHeapPlaceWrongFalsely : Prop := fnExactHeapPlaceRow.holds Try.pinned (OpenSpec.ofChange fnExactHeapPlaceWrong)

/-- 'laws.FnExactHeapAt': WHATEVER THE INPUT: true; the input reads as it did. -/
def fnExactHeapAtSpec : ChangeSpec := { name := "fnExactHeapAt", fn := fun _ => fun
  | [d1, d2, d3] => { results := [.lit (.bool true)], args := [d1, d2, d3] }
  | _ => none }
def fnExactHeapAtRow : OpenClaim := { program := "ytgleoebogikooaa", sum := "5fff4d02c2ee9ee92186b67100644771dc7ac44dd4110d80b2f375b53e96cfc0", func := "loop.example/g00252/laws.FnExactHeapAt", spec := "fnExactHeapAt", inPlace := ["math.Float64frombits", "math.Float64bits"], unfollowed := true, recurses := true, apart := false }
def FnExactHeapAtSaid : Prop := fnExactHeapAtRow.holds Try.pinned (OpenSpec.ofChange fnExactHeapAtSpec)

/-- ITS FALSE NEIGHBOUR: 'it returns false'. Refute it at one input. -/
def fnExactHeapAtWrong : ChangeSpec := { name := "fnExactHeapAt", fn := fun _ => fun
  | [d1, d2, d3] => { results := [.lit (.bool false)], args := [d1, d2, d3] }
  | _ => none }
def FnExactHeapAtWrongFalsely : Prop := fnExactHeapAtRow.holds Try.pinned (OpenSpec.ofChange fnExactHeapAtWrong)

/-- 'laws.FnExactHeapClear': WHATEVER THE INPUT: true; the input reads as it did. -/
def fnExactHeapClearSpec : ChangeSpec := { name := "fnExactHeapClear", fn := fun _ => fun
  | [d1, d2, d3, d4] => { results := [.lit (.bool true)], args := [d1, d2, d3, d4] }
  | _ => none }
def fnExactHeapClearRow : OpenClaim := { program := "ytgleoebogikooaa", sum := "5fff4d02c2ee9ee92186b67100644771dc7ac44dd4110d80b2f375b53e96cfc0", func := "loop.example/g00252/laws.FnExactHeapClear", spec := "fnExactHeapClear", inPlace := ["math.Float64frombits", "math.Float64bits"], unfollowed := true, recurses := true, apart := false }
def FnExactHeapClearSaid : Prop := fnExactHeapClearRow.holds Try.pinned (OpenSpec.ofChange fnExactHeapClearSpec)

/-- ITS FALSE NEIGHBOUR: 'it returns false'. Refute it at one input. -/
def fnExactHeapClearWrong : ChangeSpec := { name := "fnExactHeapClear", fn := fun _ => fun
  | [d1, d2, d3, d4] => { results := [.lit (.bool false)], args := [d1, d2, d3, d4] }
  | _ => none }
def FnExactHeapClearWrongFalsely : Prop := fnExactHeapClearRow.holds Try.pinned (OpenSpec.ofChange fnExactHeapClearWrong)

/- THE SECOND FORM. 'bulk': how many values and letters a reading holds, each counted each time it is reached (what is shared counts as often as it is met; a slice's spare places count too). A statement '..UptoSaid' is the law's where the arguments, and the package variables that the reading takes, are together of bulk at most 1048576: NARROWER than '..Said'. Prove '..Said' where nothing that the law and all that it calls make is longer than what came in: it says more and counts as full. Else prove '..UptoSaid'. A law counts once. -/
mutual
def uptoBulk {H : Type} : DataW H → Nat
  | .lit (.string bytes) => bytes.length + 1
  | .lit _ => 1
  | .nil => 1
  | .ptr d => uptoBulk d + 1
  | .slice elems spare => uptoBulkAll elems + uptoBulkAll spare + 1
  | .agg parts => uptoBulkAll parts + 1
  | .iface _ d => uptoBulk d + 1
  | .map entries => uptoBulkEntries entries + 1
  | .held _ => 1
def uptoBulkAll {H : Type} : List (DataW H) → Nat
  | [] => 0
  | d :: r => uptoBulk d + uptoBulkAll r
def uptoBulkEntries {H : Type} : List (Lit × DataW H) → Nat
  | [] => 0
  | x :: r => uptoBulkEntry x + uptoBulkEntries r
def uptoBulkEntry {H : Type} : Lit × DataW H → Nat
  | (.string bytes, d) => bytes.length + uptoBulk d + 1
  | (_, d) => uptoBulk d + 1
 end
def uptoSmall : (H : Type) → List (DataW H) → Bool := fun _ ds => decide (uptoBulkAll ds ≤ 1048576)
def OpenSpec.upto (s : _root_.Go.ChangeSpec) : _root_.Go.OpenSpec := { _root_.Go.OpenSpec.ofChange s with cond := some uptoSmall }

/-- 'laws.FnExactTreeOk', WHERE WHAT IT READS IS OF BULK AT MOST 1048576: true; the input reads as it did. -/
def fnExactTreeOkUptoRow : OpenClaim := { program := "ytgleoebogikooaa", sum := "5fff4d02c2ee9ee92186b67100644771dc7ac44dd4110d80b2f375b53e96cfc0", func := "loop.example/g00252/laws.FnExactTreeOk", spec := "fnExactTreeOk", inPlace := ["math.Float64bits", "internal/bytealg.Compare"], unfollowed := true, recurses := true, apart := false, narrowed := true }
def FnExactTreeOkUptoSaid : Prop := fnExactTreeOkUptoRow.holds Try.pinned (OpenSpec.upto fnExactTreeOkSpec)

/-- 'laws.FnExactTreeHeight', WHERE WHAT IT READS IS OF BULK AT MOST 1048576: true; the input reads as it did. -/
def fnExactTreeHeightUptoRow : OpenClaim := { program := "ytgleoebogikooaa", sum := "5fff4d02c2ee9ee92186b67100644771dc7ac44dd4110d80b2f375b53e96cfc0", func := "loop.example/g00252/laws.FnExactTreeHeight", spec := "fnExactTreeHeight", inPlace := ["math.Float64bits", "internal/bytealg.Compare"], unfollowed := true, recurses := true, apart := false, narrowed := true }
def FnExactTreeHeightUptoSaid : Prop := fnExactTreeHeightUptoRow.holds Try.pinned (OpenSpec.upto fnExactTreeHeightSpec)

/-- 'laws.FnExactTreeAll', WHERE WHAT IT READS IS OF BULK AT MOST 1048576: true; the input reads as it did. -/
def fnExactTreeAllUptoRow : OpenClaim := { program := "ytgleoebogikooaa", sum := "5fff4d02c2ee9ee92186b67100644771dc7ac44dd4110d80b2f375b53e96cfc0", func := "loop.example/g00252/laws.FnExactTreeAll", spec := "fnExactTreeAll", inPlace := ["math.Float64bits", "internal/bytealg.Compare"], unfollowed := true, recurses := true, apart := false, narrowed := true }
def FnExactTreeAllUptoSaid : Prop := fnExactTreeAllUptoRow.holds Try.pinned (OpenSpec.upto fnExactTreeAllSpec)

/-- 'laws.FnExactTreeFind', WHERE WHAT IT READS IS OF BULK AT MOST 1048576: true; the input reads as it did. -/
def fnExactTreeFindUptoRow : OpenClaim := { program := "ytgleoebogikooaa", sum := "5fff4d02c2ee9ee92186b67100644771dc7ac44dd4110d80b2f375b53e96cfc0", func := "loop.example/g00252/laws.FnExactTreeFind", spec := "fnExactTreeFind", inPlace := ["math.Float64bits", "internal/bytealg.Compare"], unfollowed := true, recurses := true, apart := false, narrowed := true }
def FnExactTreeFindUptoSaid : Prop := fnExactTreeFindUptoRow.holds Try.pinned (OpenSpec.upto fnExactTreeFindSpec)

/-- 'laws.FnExactTreeSpan', WHERE WHAT IT READS IS OF BULK AT MOST 1048576: true; the input reads as it did. -/
def fnExactTreeSpanUptoRow : OpenClaim := { program := "ytgleoebogikooaa", sum := "5fff4d02c2ee9ee92186b67100644771dc7ac44dd4110d80b2f375b53e96cfc0", func := "loop.example/g00252/laws.FnExactTreeSpan", spec := "fnExactTreeSpan", inPlace := ["math.Float64bits", "internal/bytealg.Compare"], unfollowed := true, recurses := true, apart := false, narrowed := true }
def FnExactTreeSpanUptoSaid : Prop := fnExactTreeSpanUptoRow.holds Try.pinned (OpenSpec.upto fnExactTreeSpanSpec)

/-- 'laws.FnExactHeapOk', WHERE WHAT IT READS IS OF BULK AT MOST 1048576: true; the input reads as it did. -/
def fnExactHeapOkUptoRow : OpenClaim := { program := "ytgleoebogikooaa", sum := "5fff4d02c2ee9ee92186b67100644771dc7ac44dd4110d80b2f375b53e96cfc0", func := "loop.example/g00252/laws.FnExactHeapOk", spec := "fnExactHeapOk", inPlace := ["math.Float64frombits", "math.Float64bits"], unfollowed := true, recurses := true, apart := false, narrowed := true }
def FnExactHeapOkUptoSaid : Prop := fnExactHeapOkUptoRow.holds Try.pinned (OpenSpec.upto fnExactHeapOkSpec)

/-- 'laws.FnExactHeapPlace', WHERE WHAT IT READS IS OF BULK AT MOST 1048576: true; the input reads as it did. -/
def fnExactHeapPlaceUptoRow : OpenClaim := { program := "ytgleoebogikooaa", sum := "5fff4d02c2ee9ee92186b67100644771dc7ac44dd4110d80b2f375b53e96cfc0", func := "loop.example/g00252/laws.FnExactHeapPlace", spec := "fnExactHeapPlace", inPlace := ["math.Float64frombits", "math.Float64bits"], unfollowed := true, recurses := true, apart := false, narrowed := true }
def FnExactHeapPlaceUptoSaid : Prop := fnExactHeapPlaceUptoRow.holds Try.pinned (OpenSpec.upto fnExactHeapPlaceSpec)

/-- 'laws.FnExactHeapAt', WHERE WHAT IT READS IS OF BULK AT MOST 1048576: true; the input reads as it did. -/
def fnExactHeapAtUptoRow : OpenClaim := { program := "ytgleoebogikooaa", sum := "5fff4d02c2ee9ee92186b67100644771dc7ac44dd4110d80b2f375b53e96cfc0", func := "loop.example/g00252/laws.FnExactHeapAt", spec := "fnExactHeapAt", inPlace := ["math.Float64frombits", "math.Float64bits"], unfollowed := true, recurses := true, apart := false, narrowed := true }
def FnExactHeapAtUptoSaid : Prop := fnExactHeapAtUptoRow.holds Try.pinned (OpenSpec.upto fnExactHeapAtSpec)

/-- 'laws.FnExactHeapClear', WHERE WHAT IT READS IS OF BULK AT MOST 1048576: true; the input reads as it did. -/
def fnExactHeapClearUptoRow : OpenClaim := { program := "ytgleoebogikooaa", sum := "5fff4d02c2ee9ee92186b67100644771dc7ac44dd4110d80b2f375b53e96cfc0", func := "loop.example/g00252/laws.FnExactHeapClear", spec := "fnExactHeapClear", inPlace := ["math.Float64frombits", "math.Float64bits"], unfollowed := true, recurses := true, apart := false, narrowed := true }
def FnExactHeapClearUptoSaid : Prop := fnExactHeapClearUptoRow.holds Try.pinned (OpenSpec.upto fnExactHeapClearSpec)

end Rows
end Go.Proofs.Ytgleoebogikooaa
