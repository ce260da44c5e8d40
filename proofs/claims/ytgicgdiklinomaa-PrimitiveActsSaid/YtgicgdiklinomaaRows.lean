/-
  No cell of these rows narrows 'for every input' (looked for: loops, veiled, ifaces, maps, wideKeys, modest, calm, conditions, laid).
  DERIVED. THE GIVEN ROWS OF THIS SEAT. 5 by the template 'for every input the law returns true; each argument reads behind the call as it read before'; 0 by the template 'total and deterministic' (their statements: YtgicgdiklinomaaTotals.lean).
  GIVEN WITH THE SEED: the statements are not yours to turn. If you find one false, say at which input.
  Laid BY PROGRAM, IN A SANDBOX (cutbox-rows.mjs): the forced cells as the released guide's own fill.sh prints them over the translation 1ea780255d44566f… (all of the seat's roots in one cut). By AI agents, Wed Nov 11 2026. No macro, syntax, notation, axiom, sorry.
-/
import Derived.Test.YtgicgdiklinomaaChecked
import GoSem.Claim
import GoSem.ClaimJoined
import GoSem.ClaimMapViews
import Derived.JoinedTies
import Derived.KernelRfl
namespace Go.Proofs.Ytgicgdiklinomaa
/- THE CELL 'sum', in the pinned program and in every row, IS THE sha256 OF THE DUMP (.gsa) THAT YtgicgdiklinomaaProg.lean LOADS. Nothing in Lean hashes anything: it is a label: what it is worth is what the hold of that sum in a sandbox is worth. -/
noncomputable def Try.pinned : Pinned := { name := "ytgicgdiklinomaa", sum := "1ea780255d44566ffa1d12b3ee95cad455d77b5b96fba0d2762e5c5b47f9a6fd", checked := Try.checked }
namespace Rows
def none {H : Type} : Left H := { results := [], args := [] }

/-- 'keyeventlaw03.PrimitiveOnce': WHATEVER THE INPUT: true; the input reads as it did. -/
def primitiveOnceSpec : ChangeSpec := { name := "primitiveOnce", fn := fun _ => fun
  | [d1, d2, d3] => { results := [.lit (.bool true)], args := [d1, d2, d3] }
  | _ => none }
def primitiveOnceRow : OpenClaim := { program := "ytgicgdiklinomaa", sum := "1ea780255d44566ffa1d12b3ee95cad455d77b5b96fba0d2762e5c5b47f9a6fd", func := "keyevent/keyeventlaw03.PrimitiveOnce", spec := "primitiveOnce", inPlace := ["internal/abi.NoEscape", "internal/bytealg.MakeNoZero"], apart := false }
def PrimitiveOnceSaid : Prop := primitiveOnceRow.holds Try.pinned (OpenSpec.ofChange primitiveOnceSpec)

/-- ITS FALSE NEIGHBOUR: 'it returns false'. Refute it at one input. -/
def primitiveOnceWrong : ChangeSpec := { name := "primitiveOnce", fn := fun _ => fun
  | [d1, d2, d3] => { results := [.lit (.bool false)], args := [d1, d2, d3] }
  | _ => none }
def PrimitiveOnceWrongFalsely : Prop := primitiveOnceRow.holds Try.pinned (OpenSpec.ofChange primitiveOnceWrong)

/-- 'keyeventlaw03.PrimitiveRows': WHATEVER THE INPUT: true; the input reads as it did. -/
def primitiveRowsSpec : ChangeSpec := { name := "primitiveRows", fn := fun _ => fun
  | [d] => { results := [.lit (.bool true)], args := [d] }
  | _ => none }
def primitiveRowsRow : OpenClaim := { program := "ytgicgdiklinomaa", sum := "1ea780255d44566ffa1d12b3ee95cad455d77b5b96fba0d2762e5c5b47f9a6fd", func := "keyevent/keyeventlaw03.PrimitiveRows", spec := "primitiveRows", inPlace := ["internal/abi.NoEscape", "internal/bytealg.MakeNoZero"], apart := false }
def PrimitiveRowsSaid : Prop := primitiveRowsRow.holds Try.pinned (OpenSpec.ofChange primitiveRowsSpec)

/-- ITS FALSE NEIGHBOUR: 'it returns false'. Refute it at one input. -/
def primitiveRowsWrong : ChangeSpec := { name := "primitiveRows", fn := fun _ => fun
  | [d] => { results := [.lit (.bool false)], args := [d] }
  | _ => none }
def PrimitiveRowsWrongFalsely : Prop := primitiveRowsRow.holds Try.pinned (OpenSpec.ofChange primitiveRowsWrong)

/-- 'keyeventlaw03.PrimitiveBack': WHATEVER THE INPUT: true; the input reads as it did. -/
def primitiveBackSpec : ChangeSpec := { name := "primitiveBack", fn := fun _ => fun
  | [d1, d2] => { results := [.lit (.bool true)], args := [d1, d2] }
  | _ => none }
def primitiveBackRow : OpenClaim := { program := "ytgicgdiklinomaa", sum := "1ea780255d44566ffa1d12b3ee95cad455d77b5b96fba0d2762e5c5b47f9a6fd", func := "keyevent/keyeventlaw03.PrimitiveBack", spec := "primitiveBack", inPlace := ["internal/abi.NoEscape", "internal/bytealg.MakeNoZero"], apart := false }
def PrimitiveBackSaid : Prop := primitiveBackRow.holds Try.pinned (OpenSpec.ofChange primitiveBackSpec)

/-- ITS FALSE NEIGHBOUR: 'it returns false'. Refute it at one input. -/
def primitiveBackWrong : ChangeSpec := { name := "primitiveBack", fn := fun _ => fun
  | [d1, d2] => { results := [.lit (.bool false)], args := [d1, d2] }
  | _ => none }
def PrimitiveBackWrongFalsely : Prop := primitiveBackRow.holds Try.pinned (OpenSpec.ofChange primitiveBackWrong)

/-- 'keyeventlaw03.PrimitiveOpens': WHATEVER THE INPUT: true; the input reads as it did. -/
def primitiveOpensSpec : ChangeSpec := { name := "primitiveOpens", fn := fun _ => fun
  | [d1, d2] => { results := [.lit (.bool true)], args := [d1, d2] }
  | _ => none }
def primitiveOpensRow : OpenClaim := { program := "ytgicgdiklinomaa", sum := "1ea780255d44566ffa1d12b3ee95cad455d77b5b96fba0d2762e5c5b47f9a6fd", func := "keyevent/keyeventlaw03.PrimitiveOpens", spec := "primitiveOpens", inPlace := ["internal/abi.NoEscape", "internal/bytealg.MakeNoZero"], apart := false }
def PrimitiveOpensSaid : Prop := primitiveOpensRow.holds Try.pinned (OpenSpec.ofChange primitiveOpensSpec)

/-- ITS FALSE NEIGHBOUR: 'it returns false'. Refute it at one input. -/
def primitiveOpensWrong : ChangeSpec := { name := "primitiveOpens", fn := fun _ => fun
  | [d1, d2] => { results := [.lit (.bool false)], args := [d1, d2] }
  | _ => none }
def PrimitiveOpensWrongFalsely : Prop := primitiveOpensRow.holds Try.pinned (OpenSpec.ofChange primitiveOpensWrong)

/-- 'keyeventlaw03.PrimitiveActs': WHATEVER THE INPUT: true; the input reads as it did. -/
def primitiveActsSpec : ChangeSpec := { name := "primitiveActs", fn := fun _ => fun
  | [d1, d2, d3, d4, d5, d6] => { results := [.lit (.bool true)], args := [d1, d2, d3, d4, d5, d6] }
  | _ => none }
def primitiveActsRow : OpenClaim := { program := "ytgicgdiklinomaa", sum := "1ea780255d44566ffa1d12b3ee95cad455d77b5b96fba0d2762e5c5b47f9a6fd", func := "keyevent/keyeventlaw03.PrimitiveActs", spec := "primitiveActs", inPlace := ["internal/abi.NoEscape", "internal/bytealg.MakeNoZero"], apart := false }
def PrimitiveActsSaid : Prop := primitiveActsRow.holds Try.pinned (OpenSpec.ofChange primitiveActsSpec)

/-- ITS FALSE NEIGHBOUR: 'it returns false'. Refute it at one input. -/
def primitiveActsWrong : ChangeSpec := { name := "primitiveActs", fn := fun _ => fun
  | [d1, d2, d3, d4, d5, d6] => { results := [.lit (.bool false)], args := [d1, d2, d3, d4, d5, d6] }
  | _ => none }
def PrimitiveActsWrongFalsely : Prop := primitiveActsRow.holds Try.pinned (OpenSpec.ofChange primitiveActsWrong)

/- THE SECOND FORM. 'bulk': how many values and letters a reading holds, each counted each time it is reached (what is shared counts as often as it is met; a slice's spare places count too). A statement '..UptoSaid' is the law's where the arguments, and the package variables that the reading takes, are together of bulk at most 1048576: NARROWER than '..Said'. Prove '..Said' where nothing that the law and all that it calls make is longer than what came in: it says more and counts as full. Else prove '..UptoSaid'. A law counts once. -/
mutual
def uptoBulk {H : Type} : DataW H → Nat
  | .lit (.string bytes) => bytes.length + 1
  | .lit _ => 1
  | .nil => 1
  | .ptr d => uptoBulk d + 1
  | .slice elems spare => uptoBulkAll elems + uptoBulkAll spare + 1
  | .agg parts => uptoBulkAll parts + 1
  | .iface _ d => uptoBulk d + 1
  | .map entries => uptoBulkEntries entries + 1
  | .held _ => 1
def uptoBulkAll {H : Type} : List (DataW H) → Nat
  | [] => 0
  | d :: r => uptoBulk d + uptoBulkAll r
def uptoBulkEntries {H : Type} : List (Lit × DataW H) → Nat
  | [] => 0
  | x :: r => uptoBulkEntry x + uptoBulkEntries r
def uptoBulkEntry {H : Type} : Lit × DataW H → Nat
  | (.string bytes, d) => bytes.length + uptoBulk d + 1
  | (_, d) => uptoBulk d + 1
 end
def uptoSmall : (H : Type) → List (DataW H) → Bool := fun _ ds => decide (uptoBulkAll ds ≤ 1048576)
def OpenSpec.upto (s : _root_.Go.ChangeSpec) : _root_.Go.OpenSpec := { _root_.Go.OpenSpec.ofChange s with cond := some uptoSmall }

/-- 'keyeventlaw03.PrimitiveOnce', WHERE WHAT IT READS IS OF BULK AT MOST 1048576: true; the input reads as it did. -/
def primitiveOnceUptoRow : OpenClaim := { program := "ytgicgdiklinomaa", sum := "1ea780255d44566ffa1d12b3ee95cad455d77b5b96fba0d2762e5c5b47f9a6fd", func := "keyevent/keyeventlaw03.PrimitiveOnce", spec := "primitiveOnce", inPlace := ["internal/abi.NoEscape", "internal/bytealg.MakeNoZero"], apart := false, narrowed := true }
def PrimitiveOnceUptoSaid : Prop := primitiveOnceUptoRow.holds Try.pinned (OpenSpec.upto primitiveOnceSpec)

/-- 'keyeventlaw03.PrimitiveRows', WHERE WHAT IT READS IS OF BULK AT MOST 1048576: true; the input reads as it did. -/
def primitiveRowsUptoRow : OpenClaim := { program := "ytgicgdiklinomaa", sum := "1ea780255d44566ffa1d12b3ee95cad455d77b5b96fba0d2762e5c5b47f9a6fd", func := "keyevent/keyeventlaw03.PrimitiveRows", spec := "primitiveRows", inPlace := ["internal/abi.NoEscape", "internal/bytealg.MakeNoZero"], apart := false, narrowed := true }
def PrimitiveRowsUptoSaid : Prop := primitiveRowsUptoRow.holds Try.pinned (OpenSpec.upto primitiveRowsSpec)

/-- 'keyeventlaw03.PrimitiveBack', WHERE WHAT IT READS IS OF BULK AT MOST 1048576: true; the input reads as it did. -/
def primitiveBackUptoRow : OpenClaim := { program := "ytgicgdiklinomaa", sum := "1ea780255d44566ffa1d12b3ee95cad455d77b5b96fba0d2762e5c5b47f9a6fd", func := "keyevent/keyeventlaw03.PrimitiveBack", spec := "primitiveBack", inPlace := ["internal/abi.NoEscape", "internal/bytealg.MakeNoZero"], apart := false, narrowed := true }
def PrimitiveBackUptoSaid : Prop := primitiveBackUptoRow.holds Try.pinned (OpenSpec.upto primitiveBackSpec)

/-- 'keyeventlaw03.PrimitiveOpens', WHERE WHAT IT READS IS OF BULK AT MOST 1048576: true; the input reads as it did. -/
def primitiveOpensUptoRow : OpenClaim := { program := "ytgicgdiklinomaa", sum := "1ea780255d44566ffa1d12b3ee95cad455d77b5b96fba0d2762e5c5b47f9a6fd", func := "keyevent/keyeventlaw03.PrimitiveOpens", spec := "primitiveOpens", inPlace := ["internal/abi.NoEscape", "internal/bytealg.MakeNoZero"], apart := false, narrowed := true }
def PrimitiveOpensUptoSaid : Prop := primitiveOpensUptoRow.holds Try.pinned (OpenSpec.upto primitiveOpensSpec)

/-- 'keyeventlaw03.PrimitiveActs', WHERE WHAT IT READS IS OF BULK AT MOST 1048576: true; the input reads as it did. -/
def primitiveActsUptoRow : OpenClaim := { program := "ytgicgdiklinomaa", sum := "1ea780255d44566ffa1d12b3ee95cad455d77b5b96fba0d2762e5c5b47f9a6fd", func := "keyevent/keyeventlaw03.PrimitiveActs", spec := "primitiveActs", inPlace := ["internal/abi.NoEscape", "internal/bytealg.MakeNoZero"], apart := false, narrowed := true }
def PrimitiveActsUptoSaid : Prop := primitiveActsUptoRow.holds Try.pinned (OpenSpec.upto primitiveActsSpec)

end Rows
end Go.Proofs.Ytgicgdiklinomaa
