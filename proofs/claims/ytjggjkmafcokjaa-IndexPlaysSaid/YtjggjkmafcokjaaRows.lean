/-
  No cell of these rows narrows 'for every input' (looked for: loops, veiled, ifaces, maps, wideKeys, modest, calm, conditions, laid).
  DERIVED. THE GIVEN ROWS OF THIS SEAT. 6 by the template 'for every input the law returns true; each argument reads behind the call as it read before'; 0 by the template 'total and deterministic' (their statements: YtjggjkmafcokjaaTotals.lean).
  GIVEN WITH THE SEED: the statements are not yours to turn. If you find one false, say at which input.
  Laid BY PROGRAM, IN A SANDBOX (cutbox-rows.mjs): the forced cells as the released guide's own fill.sh prints them over the translation 565692d18e2b6a62… (all of the seat's roots in one cut). By AI agents, Wed Nov 11 2026. No macro, syntax, notation, axiom, sorry.
-/
import Derived.Test.YtjggjkmafcokjaaChecked
import GoSem.Claim
import GoSem.ClaimJoined
import GoSem.ClaimMapViews
import Derived.JoinedTies
import Derived.KernelRfl
namespace Go.Proofs.Ytjggjkmafcokjaa
/- THE CELL 'sum', in the pinned program and in every row, IS THE sha256 OF THE DUMP (.gsa) THAT YtjggjkmafcokjaaProg.lean LOADS. Nothing in Lean hashes anything: it is a label: what it is worth is what the hold of that sum in a sandbox is worth. -/
noncomputable def Try.pinned : Pinned := { name := "ytjggjkmafcokjaa", sum := "565692d18e2b6a62150cbfe202e5a25abe90656b0fe74310825b2b460f7f5cbd", checked := Try.checked }
namespace Rows
def none {H : Type} : Left H := { results := [], args := [] }

/-- 'postilionlaw08.IndexNames': WHATEVER THE INPUT: true; the input reads as it did. -/
def indexNamesSpec : ChangeSpec := { name := "indexNames", fn := fun _ => fun
  | [] => { results := [.lit (.bool true)], args := [] }
  | _ => none }
def indexNamesRow : OpenClaim := { program := "ytjggjkmafcokjaa", sum := "565692d18e2b6a62150cbfe202e5a25abe90656b0fe74310825b2b460f7f5cbd", func := "postilion/postilionlaw08.IndexNames", spec := "indexNames", unfollowed := true, recurses := true, apart := false }
def IndexNamesSaid : Prop := indexNamesRow.holds Try.pinned (OpenSpec.ofChange indexNamesSpec)

/-- ITS FALSE NEIGHBOUR: 'it returns false'. Refute it at one input. -/
def indexNamesWrong : ChangeSpec := { name := "indexNames", fn := fun _ => fun
  | [] => { results := [.lit (.bool false)], args := [] }
  | _ => none }
def IndexNamesWrongFalsely : Prop := indexNamesRow.holds Try.pinned (OpenSpec.ofChange indexNamesWrong)

/-- 'postilionlaw08.IndexPlays': WHATEVER THE INPUT: true; the input reads as it did. -/
def indexPlaysSpec : ChangeSpec := { name := "indexPlays", fn := fun _ => fun
  | [d] => { results := [.lit (.bool true)], args := [d] }
  | _ => none }
def indexPlaysRow : OpenClaim := { program := "ytjggjkmafcokjaa", sum := "565692d18e2b6a62150cbfe202e5a25abe90656b0fe74310825b2b460f7f5cbd", func := "postilion/postilionlaw08.IndexPlays", spec := "indexPlays", unfollowed := true, recurses := true, apart := false }
def IndexPlaysSaid : Prop := indexPlaysRow.holds Try.pinned (OpenSpec.ofChange indexPlaysSpec)

/-- ITS FALSE NEIGHBOUR: 'it returns false'. Refute it at one input. -/
def indexPlaysWrong : ChangeSpec := { name := "indexPlays", fn := fun _ => fun
  | [d] => { results := [.lit (.bool false)], args := [d] }
  | _ => none }
def IndexPlaysWrongFalsely : Prop := indexPlaysRow.holds Try.pinned (OpenSpec.ofChange indexPlaysWrong)

/-- 'postilionlaw08.IndexUndoes': WHATEVER THE INPUT: true; the input reads as it did. -/
def indexUndoesSpec : ChangeSpec := { name := "indexUndoes", fn := fun _ => fun
  | [d1, d2, d3, d4] => { results := [.lit (.bool true)], args := [d1, d2, d3, d4] }
  | _ => none }
def indexUndoesRow : OpenClaim := { program := "ytjggjkmafcokjaa", sum := "565692d18e2b6a62150cbfe202e5a25abe90656b0fe74310825b2b460f7f5cbd", func := "postilion/postilionlaw08.IndexUndoes", spec := "indexUndoes", unfollowed := true, recurses := true, apart := false }
def IndexUndoesSaid : Prop := indexUndoesRow.holds Try.pinned (OpenSpec.ofChange indexUndoesSpec)

/-- ITS FALSE NEIGHBOUR: 'it returns false'. Refute it at one input. -/
def indexUndoesWrong : ChangeSpec := { name := "indexUndoes", fn := fun _ => fun
  | [d1, d2, d3, d4] => { results := [.lit (.bool false)], args := [d1, d2, d3, d4] }
  | _ => none }
def IndexUndoesWrongFalsely : Prop := indexUndoesRow.holds Try.pinned (OpenSpec.ofChange indexUndoesWrong)

/-- 'postilionlaw08.IndexNil': WHATEVER THE INPUT: true; the input reads as it did. -/
def indexNilSpec : ChangeSpec := { name := "indexNil", fn := fun _ => fun
  | [d1, d2, d3] => { results := [.lit (.bool true)], args := [d1, d2, d3] }
  | _ => none }
def indexNilRow : OpenClaim := { program := "ytjggjkmafcokjaa", sum := "565692d18e2b6a62150cbfe202e5a25abe90656b0fe74310825b2b460f7f5cbd", func := "postilion/postilionlaw08.IndexNil", spec := "indexNil", unfollowed := true, recurses := true, apart := false }
def IndexNilSaid : Prop := indexNilRow.holds Try.pinned (OpenSpec.ofChange indexNilSpec)

/-- ITS FALSE NEIGHBOUR: 'it returns false'. Refute it at one input. -/
def indexNilWrong : ChangeSpec := { name := "indexNil", fn := fun _ => fun
  | [d1, d2, d3] => { results := [.lit (.bool false)], args := [d1, d2, d3] }
  | _ => none }
def IndexNilWrongFalsely : Prop := indexNilRow.holds Try.pinned (OpenSpec.ofChange indexNilWrong)

/-- 'postilionlaw08.IndexMatches': WHATEVER THE INPUT: true; the input reads as it did. -/
def indexMatchesSpec : ChangeSpec := { name := "indexMatches", fn := fun _ => fun
  | [d1, d2, d3] => { results := [.lit (.bool true)], args := [d1, d2, d3] }
  | _ => none }
def indexMatchesRow : OpenClaim := { program := "ytjggjkmafcokjaa", sum := "565692d18e2b6a62150cbfe202e5a25abe90656b0fe74310825b2b460f7f5cbd", func := "postilion/postilionlaw08.IndexMatches", spec := "indexMatches", unfollowed := true, recurses := true, apart := false }
def IndexMatchesSaid : Prop := indexMatchesRow.holds Try.pinned (OpenSpec.ofChange indexMatchesSpec)

/-- ITS FALSE NEIGHBOUR: 'it returns false'. Refute it at one input. -/
def indexMatchesWrong : ChangeSpec := { name := "indexMatches", fn := fun _ => fun
  | [d1, d2, d3] => { results := [.lit (.bool false)], args := [d1, d2, d3] }
  | _ => none }
def IndexMatchesWrongFalsely : Prop := indexMatchesRow.holds Try.pinned (OpenSpec.ofChange indexMatchesWrong)

/-- 'postilionlaw08.IndexTwice': WHATEVER THE INPUT: true; the input reads as it did. -/
def indexTwiceSpec : ChangeSpec := { name := "indexTwice", fn := fun _ => fun
  | [d1, d2, d3, d4, d5] => { results := [.lit (.bool true)], args := [d1, d2, d3, d4, d5] }
  | _ => none }
def indexTwiceRow : OpenClaim := { program := "ytjggjkmafcokjaa", sum := "565692d18e2b6a62150cbfe202e5a25abe90656b0fe74310825b2b460f7f5cbd", func := "postilion/postilionlaw08.IndexTwice", spec := "indexTwice", unfollowed := true, recurses := true, apart := false }
def IndexTwiceSaid : Prop := indexTwiceRow.holds Try.pinned (OpenSpec.ofChange indexTwiceSpec)

/-- ITS FALSE NEIGHBOUR: 'it returns false'. Refute it at one input. -/
def indexTwiceWrong : ChangeSpec := { name := "indexTwice", fn := fun _ => fun
  | [d1, d2, d3, d4, d5] => { results := [.lit (.bool false)], args := [d1, d2, d3, d4, d5] }
  | _ => none }
def IndexTwiceWrongFalsely : Prop := indexTwiceRow.holds Try.pinned (OpenSpec.ofChange indexTwiceWrong)

/- THE SECOND FORM. 'bulk': how many values and letters a reading holds, each counted each time it is reached (what is shared counts as often as it is met; a slice's spare places count too). A statement '..UptoSaid' is the law's where the arguments, and the package variables that the reading takes, are together of bulk at most 1048576: NARROWER than '..Said'. Prove '..Said' where nothing that the law and all that it calls make is longer than what came in: it says more and counts as full. Else prove '..UptoSaid'. A law counts once. -/
mutual
def uptoBulk {H : Type} : DataW H → Nat
  | .lit (.string bytes) => bytes.length + 1
  | .lit _ => 1
  | .nil => 1
  | .ptr d => uptoBulk d + 1
  | .slice elems spare => uptoBulkAll elems + uptoBulkAll spare + 1
  | .agg parts => uptoBulkAll parts + 1
  | .iface _ d => uptoBulk d + 1
  | .map entries => uptoBulkEntries entries + 1
  | .held _ => 1
def uptoBulkAll {H : Type} : List (DataW H) → Nat
  | [] => 0
  | d :: r => uptoBulk d + uptoBulkAll r
def uptoBulkEntries {H : Type} : List (Lit × DataW H) → Nat
  | [] => 0
  | x :: r => uptoBulkEntry x + uptoBulkEntries r
def uptoBulkEntry {H : Type} : Lit × DataW H → Nat
  | (.string bytes, d) => bytes.length + uptoBulk d + 1
  | (_, d) => uptoBulk d + 1
 end
def uptoSmall : (H : Type) → List (DataW H) → Bool := fun _ ds => decide (uptoBulkAll ds ≤ 1048576)
def OpenSpec.upto (s : _root_.Go.ChangeSpec) : _root_.Go.OpenSpec := { _root_.Go.OpenSpec.ofChange s with cond := some uptoSmall }

/-- 'postilionlaw08.IndexNames', WHERE WHAT IT READS IS OF BULK AT MOST 1048576: true; the input reads as it did. -/
def indexNamesUptoRow : OpenClaim := { program := "ytjggjkmafcokjaa", sum := "565692d18e2b6a62150cbfe202e5a25abe90656b0fe74310825b2b460f7f5cbd", func := "postilion/postilionlaw08.IndexNames", spec := "indexNames", unfollowed := true, recurses := true, apart := false, narrowed := true }
def IndexNamesUptoSaid : Prop := indexNamesUptoRow.holds Try.pinned (OpenSpec.upto indexNamesSpec)

/-- 'postilionlaw08.IndexPlays', WHERE WHAT IT READS IS OF BULK AT MOST 1048576: true; the input reads as it did. -/
def indexPlaysUptoRow : OpenClaim := { program := "ytjggjkmafcokjaa", sum := "565692d18e2b6a62150cbfe202e5a25abe90656b0fe74310825b2b460f7f5cbd", func := "postilion/postilionlaw08.IndexPlays", spec := "indexPlays", unfollowed := true, recurses := true, apart := false, narrowed := true }
def IndexPlaysUptoSaid : Prop := indexPlaysUptoRow.holds Try.pinned (OpenSpec.upto indexPlaysSpec)

/-- 'postilionlaw08.IndexUndoes', WHERE WHAT IT READS IS OF BULK AT MOST 1048576: true; the input reads as it did. -/
def indexUndoesUptoRow : OpenClaim := { program := "ytjggjkmafcokjaa", sum := "565692d18e2b6a62150cbfe202e5a25abe90656b0fe74310825b2b460f7f5cbd", func := "postilion/postilionlaw08.IndexUndoes", spec := "indexUndoes", unfollowed := true, recurses := true, apart := false, narrowed := true }
def IndexUndoesUptoSaid : Prop := indexUndoesUptoRow.holds Try.pinned (OpenSpec.upto indexUndoesSpec)

/-- 'postilionlaw08.IndexNil', WHERE WHAT IT READS IS OF BULK AT MOST 1048576: true; the input reads as it did. -/
def indexNilUptoRow : OpenClaim := { program := "ytjggjkmafcokjaa", sum := "565692d18e2b6a62150cbfe202e5a25abe90656b0fe74310825b2b460f7f5cbd", func := "postilion/postilionlaw08.IndexNil", spec := "indexNil", unfollowed := true, recurses := true, apart := false, narrowed := true }
def IndexNilUptoSaid : Prop := indexNilUptoRow.holds Try.pinned (OpenSpec.upto indexNilSpec)

/-- 'postilionlaw08.IndexMatches', WHERE WHAT IT READS IS OF BULK AT MOST 1048576: true; the input reads as it did. -/
def indexMatchesUptoRow : OpenClaim := { program := "ytjggjkmafcokjaa", sum := "565692d18e2b6a62150cbfe202e5a25abe90656b0fe74310825b2b460f7f5cbd", func := "postilion/postilionlaw08.IndexMatches", spec := "indexMatches", unfollowed := true, recurses := true, apart := false, narrowed := true }
def IndexMatchesUptoSaid : Prop := indexMatchesUptoRow.holds Try.pinned (OpenSpec.upto indexMatchesSpec)

/-- 'postilionlaw08.IndexTwice', WHERE WHAT IT READS IS OF BULK AT MOST 1048576: true; the input reads as it did. -/
def indexTwiceUptoRow : OpenClaim := { program := "ytjggjkmafcokjaa", sum := "565692d18e2b6a62150cbfe202e5a25abe90656b0fe74310825b2b460f7f5cbd", func := "postilion/postilionlaw08.IndexTwice", spec := "indexTwice", unfollowed := true, recurses := true, apart := false, narrowed := true }
def IndexTwiceUptoSaid : Prop := indexTwiceUptoRow.holds Try.pinned (OpenSpec.upto indexTwiceSpec)

end Rows
end Go.Proofs.Ytjggjkmafcokjaa
