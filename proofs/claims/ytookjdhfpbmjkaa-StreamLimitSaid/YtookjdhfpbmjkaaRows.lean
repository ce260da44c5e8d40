/-
  No cell of these rows narrows 'for every input' (looked for: loops, veiled, ifaces, maps, wideKeys, modest, calm, conditions, laid).
  DERIVED. THE GIVEN ROWS OF THIS SEAT. 5 by the template 'for every input the law returns true; each argument reads behind the call as it read before'; 0 by the template 'total and deterministic' (their statements: YtookjdhfpbmjkaaTotals.lean).
  GIVEN WITH THE SEED: the statements are not yours to turn. If you find one false, say at which input.
  Laid BY PROGRAM, IN A SANDBOX (cutbox-rows.mjs): the forced cells as the released guide's own fill.sh prints them over the translation 10fd8ed5844171e6… (all of the seat's roots in one cut). By AI agents, Wed Nov 11 2026. No macro, syntax, notation, axiom, sorry.
-/
import Derived.Test.YtookjdhfpbmjkaaChecked
import GoSem.Claim
import GoSem.ClaimJoined
import GoSem.ClaimMapViews
import Derived.JoinedTies
import Derived.KernelRfl
namespace Go.Proofs.Ytookjdhfpbmjkaa
/- THE CELL 'sum', in the pinned program and in every row, IS THE sha256 OF THE DUMP (.gsa) THAT YtookjdhfpbmjkaaProg.lean LOADS. Nothing in Lean hashes anything: it is a label: what it is worth is what the hold of that sum in a sandbox is worth. -/
noncomputable def Try.pinned : Pinned := { name := "ytookjdhfpbmjkaa", sum := "10fd8ed5844171e6369afb66848e32ebf4a81f9e38f24b6f5cac8fe0e110984c", checked := Try.checked }
namespace Rows
def none {H : Type} : Left H := { results := [], args := [] }

/-- 'keyeventlaw04.StreamLimit': WHATEVER THE INPUT: true; the input reads as it did. -/
def streamLimitSpec : ChangeSpec := { name := "streamLimit", fn := fun _ => fun
  | [d] => { results := [.lit (.bool true)], args := [d] }
  | _ => none }
def streamLimitRow : OpenClaim := { program := "ytookjdhfpbmjkaa", sum := "10fd8ed5844171e6369afb66848e32ebf4a81f9e38f24b6f5cac8fe0e110984c", func := "keyevent/keyeventlaw04.StreamLimit", spec := "streamLimit", inPlace := ["internal/abi.NoEscape", "internal/bytealg.MakeNoZero"], unfollowed := true, recurses := true, apart := false }
def StreamLimitSaid : Prop := streamLimitRow.holds Try.pinned (OpenSpec.ofChange streamLimitSpec)

/-- ITS FALSE NEIGHBOUR: 'it returns false'. Refute it at one input. -/
def streamLimitWrong : ChangeSpec := { name := "streamLimit", fn := fun _ => fun
  | [d] => { results := [.lit (.bool false)], args := [d] }
  | _ => none }
def StreamLimitWrongFalsely : Prop := streamLimitRow.holds Try.pinned (OpenSpec.ofChange streamLimitWrong)

/-- 'keyeventlaw04.StreamMarks': WHATEVER THE INPUT: true; the input reads as it did. -/
def streamMarksSpec : ChangeSpec := { name := "streamMarks", fn := fun _ => fun
  | [d1, d2] => { results := [.lit (.bool true)], args := [d1, d2] }
  | _ => none }
def streamMarksRow : OpenClaim := { program := "ytookjdhfpbmjkaa", sum := "10fd8ed5844171e6369afb66848e32ebf4a81f9e38f24b6f5cac8fe0e110984c", func := "keyevent/keyeventlaw04.StreamMarks", spec := "streamMarks", inPlace := ["internal/abi.NoEscape", "internal/bytealg.MakeNoZero"], unfollowed := true, recurses := true, apart := false }
def StreamMarksSaid : Prop := streamMarksRow.holds Try.pinned (OpenSpec.ofChange streamMarksSpec)

/-- ITS FALSE NEIGHBOUR: 'it returns false'. Refute it at one input. -/
def streamMarksWrong : ChangeSpec := { name := "streamMarks", fn := fun _ => fun
  | [d1, d2] => { results := [.lit (.bool false)], args := [d1, d2] }
  | _ => none }
def StreamMarksWrongFalsely : Prop := streamMarksRow.holds Try.pinned (OpenSpec.ofChange streamMarksWrong)

/-- 'keyeventlaw04.StreamOnce': WHATEVER THE INPUT: true; the input reads as it did. -/
def streamOnceSpec : ChangeSpec := { name := "streamOnce", fn := fun _ => fun
  | [d1, d2, d3] => { results := [.lit (.bool true)], args := [d1, d2, d3] }
  | _ => none }
def streamOnceRow : OpenClaim := { program := "ytookjdhfpbmjkaa", sum := "10fd8ed5844171e6369afb66848e32ebf4a81f9e38f24b6f5cac8fe0e110984c", func := "keyevent/keyeventlaw04.StreamOnce", spec := "streamOnce", inPlace := ["internal/abi.NoEscape", "internal/bytealg.MakeNoZero"], unfollowed := true, recurses := true, apart := false }
def StreamOnceSaid : Prop := streamOnceRow.holds Try.pinned (OpenSpec.ofChange streamOnceSpec)

/-- ITS FALSE NEIGHBOUR: 'it returns false'. Refute it at one input. -/
def streamOnceWrong : ChangeSpec := { name := "streamOnce", fn := fun _ => fun
  | [d1, d2, d3] => { results := [.lit (.bool false)], args := [d1, d2, d3] }
  | _ => none }
def StreamOnceWrongFalsely : Prop := streamOnceRow.holds Try.pinned (OpenSpec.ofChange streamOnceWrong)

/-- 'keyeventlaw04.StreamActs': WHATEVER THE INPUT: true; the input reads as it did. -/
def streamActsSpec : ChangeSpec := { name := "streamActs", fn := fun _ => fun
  | [d1, d2, d3, d4, d5, d6, d7] => { results := [.lit (.bool true)], args := [d1, d2, d3, d4, d5, d6, d7] }
  | _ => none }
def streamActsRow : OpenClaim := { program := "ytookjdhfpbmjkaa", sum := "10fd8ed5844171e6369afb66848e32ebf4a81f9e38f24b6f5cac8fe0e110984c", func := "keyevent/keyeventlaw04.StreamActs", spec := "streamActs", inPlace := ["internal/abi.NoEscape", "internal/bytealg.MakeNoZero"], unfollowed := true, recurses := true, apart := false }
def StreamActsSaid : Prop := streamActsRow.holds Try.pinned (OpenSpec.ofChange streamActsSpec)

/-- ITS FALSE NEIGHBOUR: 'it returns false'. Refute it at one input. -/
def streamActsWrong : ChangeSpec := { name := "streamActs", fn := fun _ => fun
  | [d1, d2, d3, d4, d5, d6, d7] => { results := [.lit (.bool false)], args := [d1, d2, d3, d4, d5, d6, d7] }
  | _ => none }
def StreamActsWrongFalsely : Prop := streamActsRow.holds Try.pinned (OpenSpec.ofChange streamActsWrong)

/-- 'keyeventlaw04.StreamBack': WHATEVER THE INPUT: true; the input reads as it did. -/
def streamBackSpec : ChangeSpec := { name := "streamBack", fn := fun _ => fun
  | [d] => { results := [.lit (.bool true)], args := [d] }
  | _ => none }
def streamBackRow : OpenClaim := { program := "ytookjdhfpbmjkaa", sum := "10fd8ed5844171e6369afb66848e32ebf4a81f9e38f24b6f5cac8fe0e110984c", func := "keyevent/keyeventlaw04.StreamBack", spec := "streamBack", inPlace := ["internal/abi.NoEscape", "internal/bytealg.MakeNoZero"], unfollowed := true, recurses := true, apart := false }
def StreamBackSaid : Prop := streamBackRow.holds Try.pinned (OpenSpec.ofChange streamBackSpec)

/-- ITS FALSE NEIGHBOUR: 'it returns false'. Refute it at one input. -/
def streamBackWrong : ChangeSpec := { name := "streamBack", fn := fun _ => fun
  | [d] => { results := [.lit (.bool false)], args := [d] }
  | _ => none }
def StreamBackWrongFalsely : Prop := streamBackRow.holds Try.pinned (OpenSpec.ofChange streamBackWrong)

/- THE SECOND FORM. 'bulk': how many values and letters a reading holds, each counted each time it is reached (what is shared counts as often as it is met; a slice's spare places count too). A statement '..UptoSaid' is the law's where the arguments, and the package variables that the reading takes, are together of bulk at most 1048576: NARROWER than '..Said'. Prove '..Said' where nothing that the law and all that it calls make is longer than what came in: it says more and counts as full. Else prove '..UptoSaid'. A law counts once. -/
mutual
def uptoBulk {H : Type} : DataW H → Nat
  | .lit (.string bytes) => bytes.length + 1
  | .lit _ => 1
  | .nil => 1
  | .ptr d => uptoBulk d + 1
  | .slice elems spare => uptoBulkAll elems + uptoBulkAll spare + 1
  | .agg parts => uptoBulkAll parts + 1
  | .iface _ d => uptoBulk d + 1
  | .map entries => uptoBulkEntries entries + 1
  | .held _ => 1
def uptoBulkAll {H : Type} : List (DataW H) → Nat
  | [] => 0
  | d :: r => uptoBulk d + uptoBulkAll r
def uptoBulkEntries {H : Type} : List (Lit × DataW H) → Nat
  | [] => 0
  | x :: r => uptoBulkEntry x + uptoBulkEntries r
def uptoBulkEntry {H : Type} : Lit × DataW H → Nat
  | (.string bytes, d) => bytes.length + uptoBulk d + 1
  | (_, d) => uptoBulk d + 1
 end
def uptoSmall : (H : Type) → List (DataW H) → Bool := fun _ ds => decide (uptoBulkAll ds ≤ 1048576)
def OpenSpec.upto (s : _root_.Go.ChangeSpec) : _root_.Go.OpenSpec := { _root_.Go.OpenSpec.ofChange s with cond := some uptoSmall }

/-- 'keyeventlaw04.StreamLimit', WHERE WHAT IT READS IS OF BULK AT MOST 1048576: true; the input reads as it did. -/
def streamLimitUptoRow : OpenClaim := { program := "ytookjdhfpbmjkaa", sum := "10fd8ed5844171e6369afb66848e32ebf4a81f9e38f24b6f5cac8fe0e110984c", func := "keyevent/keyeventlaw04.StreamLimit", spec := "streamLimit", inPlace := ["internal/abi.NoEscape", "internal/bytealg.MakeNoZero"], unfollowed := true, recurses := true, apart := false, narrowed := true }
def StreamLimitUptoSaid : Prop := streamLimitUptoRow.holds Try.pinned (OpenSpec.upto streamLimitSpec)

/-- 'keyeventlaw04.StreamMarks', WHERE WHAT IT READS IS OF BULK AT MOST 1048576: true; the input reads as it did. -/
def streamMarksUptoRow : OpenClaim := { program := "ytookjdhfpbmjkaa", sum := "10fd8ed5844171e6369afb66848e32ebf4a81f9e38f24b6f5cac8fe0e110984c", func := "keyevent/keyeventlaw04.StreamMarks", spec := "streamMarks", inPlace := ["internal/abi.NoEscape", "internal/bytealg.MakeNoZero"], unfollowed := true, recurses := true, apart := false, narrowed := true }
def StreamMarksUptoSaid : Prop := streamMarksUptoRow.holds Try.pinned (OpenSpec.upto streamMarksSpec)

/-- 'keyeventlaw04.StreamOnce', WHERE WHAT IT READS IS OF BULK AT MOST 1048576: true; the input reads as it did. -/
def streamOnceUptoRow : OpenClaim := { program := "ytookjdhfpbmjkaa", sum := "10fd8ed5844171e6369afb66848e32ebf4a81f9e38f24b6f5cac8fe0e110984c", func := "keyevent/keyeventlaw04.StreamOnce", spec := "streamOnce", inPlace := ["internal/abi.NoEscape", "internal/bytealg.MakeNoZero"], unfollowed := true, recurses := true, apart := false, narrowed := true }
def StreamOnceUptoSaid : Prop := streamOnceUptoRow.holds Try.pinned (OpenSpec.upto streamOnceSpec)

/-- 'keyeventlaw04.StreamActs', WHERE WHAT IT READS IS OF BULK AT MOST 1048576: true; the input reads as it did. -/
def streamActsUptoRow : OpenClaim := { program := "ytookjdhfpbmjkaa", sum := "10fd8ed5844171e6369afb66848e32ebf4a81f9e38f24b6f5cac8fe0e110984c", func := "keyevent/keyeventlaw04.StreamActs", spec := "streamActs", inPlace := ["internal/abi.NoEscape", "internal/bytealg.MakeNoZero"], unfollowed := true, recurses := true, apart := false, narrowed := true }
def StreamActsUptoSaid : Prop := streamActsUptoRow.holds Try.pinned (OpenSpec.upto streamActsSpec)

/-- 'keyeventlaw04.StreamBack', WHERE WHAT IT READS IS OF BULK AT MOST 1048576: true; the input reads as it did. -/
def streamBackUptoRow : OpenClaim := { program := "ytookjdhfpbmjkaa", sum := "10fd8ed5844171e6369afb66848e32ebf4a81f9e38f24b6f5cac8fe0e110984c", func := "keyevent/keyeventlaw04.StreamBack", spec := "streamBack", inPlace := ["internal/abi.NoEscape", "internal/bytealg.MakeNoZero"], unfollowed := true, recurses := true, apart := false, narrowed := true }
def StreamBackUptoSaid : Prop := streamBackUptoRow.holds Try.pinned (OpenSpec.upto streamBackSpec)

end Rows
end Go.Proofs.Ytookjdhfpbmjkaa
