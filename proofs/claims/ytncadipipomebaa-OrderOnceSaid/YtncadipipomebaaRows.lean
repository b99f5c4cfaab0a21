/-
  No cell of these rows narrows 'for every input' (looked for: loops, veiled, ifaces, maps, wideKeys, modest, calm, conditions, laid).
  DERIVED. THE GIVEN ROWS OF THIS SEAT. 11 by the template 'for every input the law returns true; each argument reads behind the call as it read before'; 0 by the template 'total and deterministic' (their statements: YtncadipipomebaaTotals.lean).
  GIVEN WITH THE SEED: the statements are not yours to turn. If you find one false, say at which input.
  Laid BY PROGRAM, IN A SANDBOX (cutbox-rows.mjs): the forced cells as the released guide's own fill.sh prints them over the translation 1a176153ce35e044… (all of the seat's roots in one cut). By AI agents, Wed Nov 11 2026. No macro, syntax, notation, axiom, sorry.
-/
import Derived.Test.YtncadipipomebaaChecked
import GoSem.Claim
import GoSem.ClaimJoined
import GoSem.ClaimMapViews
import Derived.JoinedTies
import Derived.KernelRfl
namespace Go.Proofs.Ytncadipipomebaa
/- THE CELL 'sum', in the pinned program and in every row, IS THE sha256 OF THE DUMP (.gsa) THAT YtncadipipomebaaProg.lean LOADS. Nothing in Lean hashes anything: it is a label: what it is worth is what the hold of that sum in a sandbox is worth. -/
noncomputable def Try.pinned : Pinned := { name := "ytncadipipomebaa", sum := "1a176153ce35e044119f8fe8658c95d2a9d8afc13a368ef7440e5e476969bc47", checked := Try.checked }
namespace Rows
def none {H : Type} : Left H := { results := [], args := [] }

/-- 'postilionlaw18.VoteNames': WHATEVER THE INPUT: true; the input reads as it did. -/
def voteNamesSpec : ChangeSpec := { name := "voteNames", fn := fun _ => fun
  | [] => { results := [.lit (.bool true)], args := [] }
  | _ => none }
def voteNamesRow : OpenClaim := { program := "ytncadipipomebaa", sum := "1a176153ce35e044119f8fe8658c95d2a9d8afc13a368ef7440e5e476969bc47", func := "postilion/postilionlaw18.VoteNames", spec := "voteNames", unfollowed := true, recurses := true, apart := false }
def VoteNamesSaid : Prop := voteNamesRow.holds Try.pinned (OpenSpec.ofChange voteNamesSpec)

/-- ITS FALSE NEIGHBOUR: 'it returns false'. Refute it at one input. -/
def voteNamesWrong : ChangeSpec := { name := "voteNames", fn := fun _ => fun
  | [] => { results := [.lit (.bool false)], args := [] }
  | _ => none }
def VoteNamesWrongFalsely : Prop := voteNamesRow.holds Try.pinned (OpenSpec.ofChange voteNamesWrong)

/-- 'postilionlaw18.VoteTells': WHATEVER THE INPUT: true; the input reads as it did. -/
def voteTellsSpec : ChangeSpec := { name := "voteTells", fn := fun _ => fun
  | [d1, d2, d3, d4, d5] => { results := [.lit (.bool true)], args := [d1, d2, d3, d4, d5] }
  | _ => none }
def voteTellsRow : OpenClaim := { program := "ytncadipipomebaa", sum := "1a176153ce35e044119f8fe8658c95d2a9d8afc13a368ef7440e5e476969bc47", func := "postilion/postilionlaw18.VoteTells", spec := "voteTells", unfollowed := true, recurses := true, apart := false }
def VoteTellsSaid : Prop := voteTellsRow.holds Try.pinned (OpenSpec.ofChange voteTellsSpec)

/-- ITS FALSE NEIGHBOUR: 'it returns false'. Refute it at one input. -/
def voteTellsWrong : ChangeSpec := { name := "voteTells", fn := fun _ => fun
  | [d1, d2, d3, d4, d5] => { results := [.lit (.bool false)], args := [d1, d2, d3, d4, d5] }
  | _ => none }
def VoteTellsWrongFalsely : Prop := voteTellsRow.holds Try.pinned (OpenSpec.ofChange voteTellsWrong)

/-- 'postilionlaw18.VoteSound': WHATEVER THE INPUT: true; the input reads as it did. -/
def voteSoundSpec : ChangeSpec := { name := "voteSound", fn := fun _ => fun
  | [d1, d2, d3] => { results := [.lit (.bool true)], args := [d1, d2, d3] }
  | _ => none }
def voteSoundRow : OpenClaim := { program := "ytncadipipomebaa", sum := "1a176153ce35e044119f8fe8658c95d2a9d8afc13a368ef7440e5e476969bc47", func := "postilion/postilionlaw18.VoteSound", spec := "voteSound", unfollowed := true, recurses := true, apart := false }
def VoteSoundSaid : Prop := voteSoundRow.holds Try.pinned (OpenSpec.ofChange voteSoundSpec)

/-- ITS FALSE NEIGHBOUR: 'it returns false'. Refute it at one input. -/
def voteSoundWrong : ChangeSpec := { name := "voteSound", fn := fun _ => fun
  | [d1, d2, d3] => { results := [.lit (.bool false)], args := [d1, d2, d3] }
  | _ => none }
def VoteSoundWrongFalsely : Prop := voteSoundRow.holds Try.pinned (OpenSpec.ofChange voteSoundWrong)

/-- 'postilionlaw18.VoteRoom': WHATEVER THE INPUT: true; the input reads as it did. -/
def voteRoomSpec : ChangeSpec := { name := "voteRoom", fn := fun _ => fun
  | [d1, d2] => { results := [.lit (.bool true)], args := [d1, d2] }
  | _ => none }
def voteRoomRow : OpenClaim := { program := "ytncadipipomebaa", sum := "1a176153ce35e044119f8fe8658c95d2a9d8afc13a368ef7440e5e476969bc47", func := "postilion/postilionlaw18.VoteRoom", spec := "voteRoom", unfollowed := true, recurses := true, apart := false }
def VoteRoomSaid : Prop := voteRoomRow.holds Try.pinned (OpenSpec.ofChange voteRoomSpec)

/-- ITS FALSE NEIGHBOUR: 'it returns false'. Refute it at one input. -/
def voteRoomWrong : ChangeSpec := { name := "voteRoom", fn := fun _ => fun
  | [d1, d2] => { results := [.lit (.bool false)], args := [d1, d2] }
  | _ => none }
def VoteRoomWrongFalsely : Prop := voteRoomRow.holds Try.pinned (OpenSpec.ofChange voteRoomWrong)

/-- 'postilionlaw18.VoteMore': WHATEVER THE INPUT: true; the input reads as it did. -/
def voteMoreSpec : ChangeSpec := { name := "voteMore", fn := fun _ => fun
  | [d1, d2, d3] => { results := [.lit (.bool true)], args := [d1, d2, d3] }
  | _ => none }
def voteMoreRow : OpenClaim := { program := "ytncadipipomebaa", sum := "1a176153ce35e044119f8fe8658c95d2a9d8afc13a368ef7440e5e476969bc47", func := "postilion/postilionlaw18.VoteMore", spec := "voteMore", unfollowed := true, recurses := true, apart := false }
def VoteMoreSaid : Prop := voteMoreRow.holds Try.pinned (OpenSpec.ofChange voteMoreSpec)

/-- ITS FALSE NEIGHBOUR: 'it returns false'. Refute it at one input. -/
def voteMoreWrong : ChangeSpec := { name := "voteMore", fn := fun _ => fun
  | [d1, d2, d3] => { results := [.lit (.bool false)], args := [d1, d2, d3] }
  | _ => none }
def VoteMoreWrongFalsely : Prop := voteMoreRow.holds Try.pinned (OpenSpec.ofChange voteMoreWrong)

/-- 'postilionlaw18.VoteEnds': WHATEVER THE INPUT: true; the input reads as it did. -/
def voteEndsSpec : ChangeSpec := { name := "voteEnds", fn := fun _ => fun
  | [d1, d2, d3] => { results := [.lit (.bool true)], args := [d1, d2, d3] }
  | _ => none }
def voteEndsRow : OpenClaim := { program := "ytncadipipomebaa", sum := "1a176153ce35e044119f8fe8658c95d2a9d8afc13a368ef7440e5e476969bc47", func := "postilion/postilionlaw18.VoteEnds", spec := "voteEnds", unfollowed := true, recurses := true, apart := false }
def VoteEndsSaid : Prop := voteEndsRow.holds Try.pinned (OpenSpec.ofChange voteEndsSpec)

/-- ITS FALSE NEIGHBOUR: 'it returns false'. Refute it at one input. -/
def voteEndsWrong : ChangeSpec := { name := "voteEnds", fn := fun _ => fun
  | [d1, d2, d3] => { results := [.lit (.bool false)], args := [d1, d2, d3] }
  | _ => none }
def VoteEndsWrongFalsely : Prop := voteEndsRow.holds Try.pinned (OpenSpec.ofChange voteEndsWrong)

/-- 'postilionlaw19.OrderNames': WHATEVER THE INPUT: true; the input reads as it did. -/
def orderNamesSpec : ChangeSpec := { name := "orderNames", fn := fun _ => fun
  | [] => { results := [.lit (.bool true)], args := [] }
  | _ => none }
def orderNamesRow : OpenClaim := { program := "ytncadipipomebaa", sum := "1a176153ce35e044119f8fe8658c95d2a9d8afc13a368ef7440e5e476969bc47", func := "postilion/postilionlaw19.OrderNames", spec := "orderNames", unfollowed := true, recurses := true, apart := false }
def OrderNamesSaid : Prop := orderNamesRow.holds Try.pinned (OpenSpec.ofChange orderNamesSpec)

/-- ITS FALSE NEIGHBOUR: 'it returns false'. Refute it at one input. -/
def orderNamesWrong : ChangeSpec := { name := "orderNames", fn := fun _ => fun
  | [] => { results := [.lit (.bool false)], args := [] }
  | _ => none }
def OrderNamesWrongFalsely : Prop := orderNamesRow.holds Try.pinned (OpenSpec.ofChange orderNamesWrong)

/-- 'postilionlaw19.OrderOnce': WHATEVER THE INPUT: true; the input reads as it did. -/
def orderOnceSpec : ChangeSpec := { name := "orderOnce", fn := fun _ => fun
  | [d1, d2, d3] => { results := [.lit (.bool true)], args := [d1, d2, d3] }
  | _ => none }
def orderOnceRow : OpenClaim := { program := "ytncadipipomebaa", sum := "1a176153ce35e044119f8fe8658c95d2a9d8afc13a368ef7440e5e476969bc47", func := "postilion/postilionlaw19.OrderOnce", spec := "orderOnce", unfollowed := true, recurses := true, apart := false }
def OrderOnceSaid : Prop := orderOnceRow.holds Try.pinned (OpenSpec.ofChange orderOnceSpec)

/-- ITS FALSE NEIGHBOUR: 'it returns false'. Refute it at one input. -/
def orderOnceWrong : ChangeSpec := { name := "orderOnce", fn := fun _ => fun
  | [d1, d2, d3] => { results := [.lit (.bool false)], args := [d1, d2, d3] }
  | _ => none }
def OrderOnceWrongFalsely : Prop := orderOnceRow.holds Try.pinned (OpenSpec.ofChange orderOnceWrong)

/-- 'postilionlaw19.OrderDecides': WHATEVER THE INPUT: true; the input reads as it did. -/
def orderDecidesSpec : ChangeSpec := { name := "orderDecides", fn := fun _ => fun
  | [d1, d2] => { results := [.lit (.bool true)], args := [d1, d2] }
  | _ => none }
def orderDecidesRow : OpenClaim := { program := "ytncadipipomebaa", sum := "1a176153ce35e044119f8fe8658c95d2a9d8afc13a368ef7440e5e476969bc47", func := "postilion/postilionlaw19.OrderDecides", spec := "orderDecides", unfollowed := true, recurses := true, apart := false }
def OrderDecidesSaid : Prop := orderDecidesRow.holds Try.pinned (OpenSpec.ofChange orderDecidesSpec)

/-- ITS FALSE NEIGHBOUR: 'it returns false'. Refute it at one input. -/
def orderDecidesWrong : ChangeSpec := { name := "orderDecides", fn := fun _ => fun
  | [d1, d2] => { results := [.lit (.bool false)], args := [d1, d2] }
  | _ => none }
def OrderDecidesWrongFalsely : Prop := orderDecidesRow.holds Try.pinned (OpenSpec.ofChange orderDecidesWrong)

/-- 'postilionlaw19.OrderFrom': WHATEVER THE INPUT: true; the input reads as it did. -/
def orderFromSpec : ChangeSpec := { name := "orderFrom", fn := fun _ => fun
  | [d1, d2] => { results := [.lit (.bool true)], args := [d1, d2] }
  | _ => none }
def orderFromRow : OpenClaim := { program := "ytncadipipomebaa", sum := "1a176153ce35e044119f8fe8658c95d2a9d8afc13a368ef7440e5e476969bc47", func := "postilion/postilionlaw19.OrderFrom", spec := "orderFrom", unfollowed := true, recurses := true, apart := false }
def OrderFromSaid : Prop := orderFromRow.holds Try.pinned (OpenSpec.ofChange orderFromSpec)

/-- ITS FALSE NEIGHBOUR: 'it returns false'. Refute it at one input. -/
def orderFromWrong : ChangeSpec := { name := "orderFrom", fn := fun _ => fun
  | [d1, d2] => { results := [.lit (.bool false)], args := [d1, d2] }
  | _ => none }
def OrderFromWrongFalsely : Prop := orderFromRow.holds Try.pinned (OpenSpec.ofChange orderFromWrong)

/-- 'postilionlaw19.OrderTold': WHATEVER THE INPUT: true; the input reads as it did. -/
def orderToldSpec : ChangeSpec := { name := "orderTold", fn := fun _ => fun
  | [d1, d2] => { results := [.lit (.bool true)], args := [d1, d2] }
  | _ => none }
def orderToldRow : OpenClaim := { program := "ytncadipipomebaa", sum := "1a176153ce35e044119f8fe8658c95d2a9d8afc13a368ef7440e5e476969bc47", func := "postilion/postilionlaw19.OrderTold", spec := "orderTold", unfollowed := true, recurses := true, apart := false }
def OrderToldSaid : Prop := orderToldRow.holds Try.pinned (OpenSpec.ofChange orderToldSpec)

/-- ITS FALSE NEIGHBOUR: 'it returns false'. Refute it at one input. -/
def orderToldWrong : ChangeSpec := { name := "orderTold", fn := fun _ => fun
  | [d1, d2] => { results := [.lit (.bool false)], args := [d1, d2] }
  | _ => none }
def OrderToldWrongFalsely : Prop := orderToldRow.holds Try.pinned (OpenSpec.ofChange orderToldWrong)

/- THE SECOND FORM. 'bulk': how many values and letters a reading holds, each counted each time it is reached (what is shared counts as often as it is met; a slice's spare places count too). A statement '..UptoSaid' is the law's where the arguments, and the package variables that the reading takes, are together of bulk at most 1048576: NARROWER than '..Said'. Prove '..Said' where nothing that the law and all that it calls make is longer than what came in: it says more and counts as full. Else prove '..UptoSaid'. A law counts once. -/
mutual
def uptoBulk {H : Type} : DataW H → Nat
  | .lit (.string bytes) => bytes.length + 1
  | .lit _ => 1
  | .nil => 1
  | .ptr d => uptoBulk d + 1
  | .slice elems spare => uptoBulkAll elems + uptoBulkAll spare + 1
  | .agg parts => uptoBulkAll parts + 1
  | .iface _ d => uptoBulk d + 1
  | .map entries => uptoBulkEntries entries + 1
  | .held _ => 1
def uptoBulkAll {H : Type} : List (DataW H) → Nat
  | [] => 0
  | d :: r => uptoBulk d + uptoBulkAll r
def uptoBulkEntries {H : Type} : List (Lit × DataW H) → Nat
  | [] => 0
  | x :: r => uptoBulkEntry x + uptoBulkEntries r
def uptoBulkEntry {H : Type} : Lit × DataW H → Nat
  | (.string bytes, d) => bytes.length + uptoBulk d + 1
  | (_, d) => uptoBulk d + 1
 end
def uptoSmall : (H : Type) → List (DataW H) → Bool := fun _ ds => decide (uptoBulkAll ds ≤ 1048576)
def OpenSpec.upto (s : _root_.Go.ChangeSpec) : _root_.Go.OpenSpec := { _root_.Go.OpenSpec.ofChange s with cond := some uptoSmall }

/-- 'postilionlaw18.VoteNames', WHERE WHAT IT READS IS OF BULK AT MOST 1048576: true; the input reads as it did. -/
def voteNamesUptoRow : OpenClaim := { program := "ytncadipipomebaa", sum := "1a176153ce35e044119f8fe8658c95d2a9d8afc13a368ef7440e5e476969bc47", func := "postilion/postilionlaw18.VoteNames", spec := "voteNames", unfollowed := true, recurses := true, apart := false, narrowed := true }
def VoteNamesUptoSaid : Prop := voteNamesUptoRow.holds Try.pinned (OpenSpec.upto voteNamesSpec)

/-- 'postilionlaw18.VoteTells', WHERE WHAT IT READS IS OF BULK AT MOST 1048576: true; the input reads as it did. -/
def voteTellsUptoRow : OpenClaim := { program := "ytncadipipomebaa", sum := "1a176153ce35e044119f8fe8658c95d2a9d8afc13a368ef7440e5e476969bc47", func := "postilion/postilionlaw18.VoteTells", spec := "voteTells", unfollowed := true, recurses := true, apart := false, narrowed := true }
def VoteTellsUptoSaid : Prop := voteTellsUptoRow.holds Try.pinned (OpenSpec.upto voteTellsSpec)

/-- 'postilionlaw18.VoteSound', WHERE WHAT IT READS IS OF BULK AT MOST 1048576: true; the input reads as it did. -/
def voteSoundUptoRow : OpenClaim := { program := "ytncadipipomebaa", sum := "1a176153ce35e044119f8fe8658c95d2a9d8afc13a368ef7440e5e476969bc47", func := "postilion/postilionlaw18.VoteSound", spec := "voteSound", unfollowed := true, recurses := true, apart := false, narrowed := true }
def VoteSoundUptoSaid : Prop := voteSoundUptoRow.holds Try.pinned (OpenSpec.upto voteSoundSpec)

/-- 'postilionlaw18.VoteRoom', WHERE WHAT IT READS IS OF BULK AT MOST 1048576: true; the input reads as it did. -/
def voteRoomUptoRow : OpenClaim := { program := "ytncadipipomebaa", sum := "1a176153ce35e044119f8fe8658c95d2a9d8afc13a368ef7440e5e476969bc47", func := "postilion/postilionlaw18.VoteRoom", spec := "voteRoom", unfollowed := true, recurses := true, apart := false, narrowed := true }
def VoteRoomUptoSaid : Prop := voteRoomUptoRow.holds Try.pinned (OpenSpec.upto voteRoomSpec)

/-- 'postilionlaw18.VoteMore', WHERE WHAT IT READS IS OF BULK AT MOST 1048576: true; the input reads as it did. -/
def voteMoreUptoRow : OpenClaim := { program := "ytncadipipomebaa", sum := "1a176153ce35e044119f8fe8658c95d2a9d8afc13a368ef7440e5e476969bc47", func := "postilion/postilionlaw18.VoteMore", spec := "voteMore", unfollowed := true, recurses := true, apart := false, narrowed := true }
def VoteMoreUptoSaid : Prop := voteMoreUptoRow.holds Try.pinned (OpenSpec.upto voteMoreSpec)

/-- 'postilionlaw18.VoteEnds', WHERE WHAT IT READS IS OF BULK AT MOST 1048576: true; the input reads as it did. -/
def voteEndsUptoRow : OpenClaim := { program := "ytncadipipomebaa", sum := "1a176153ce35e044119f8fe8658c95d2a9d8afc13a368ef7440e5e476969bc47", func := "postilion/postilionlaw18.VoteEnds", spec := "voteEnds", unfollowed := true, recurses := true, apart := false, narrowed := true }
def VoteEndsUptoSaid : Prop := voteEndsUptoRow.holds Try.pinned (OpenSpec.upto voteEndsSpec)

/-- 'postilionlaw19.OrderNames', WHERE WHAT IT READS IS OF BULK AT MOST 1048576: true; the input reads as it did. -/
def orderNamesUptoRow : OpenClaim := { program := "ytncadipipomebaa", sum := "1a176153ce35e044119f8fe8658c95d2a9d8afc13a368ef7440e5e476969bc47", func := "postilion/postilionlaw19.OrderNames", spec := "orderNames", unfollowed := true, recurses := true, apart := false, narrowed := true }
def OrderNamesUptoSaid : Prop := orderNamesUptoRow.holds Try.pinned (OpenSpec.upto orderNamesSpec)

/-- 'postilionlaw19.OrderOnce', WHERE WHAT IT READS IS OF BULK AT MOST 1048576: true; the input reads as it did. -/
def orderOnceUptoRow : OpenClaim := { program := "ytncadipipomebaa", sum := "1a176153ce35e044119f8fe8658c95d2a9d8afc13a368ef7440e5e476969bc47", func := "postilion/postilionlaw19.OrderOnce", spec := "orderOnce", unfollowed := true, recurses := true, apart := false, narrowed := true }
def OrderOnceUptoSaid : Prop := orderOnceUptoRow.holds Try.pinned (OpenSpec.upto orderOnceSpec)

/-- 'postilionlaw19.OrderDecides', WHERE WHAT IT READS IS OF BULK AT MOST 1048576: true; the input reads as it did. -/
def orderDecidesUptoRow : OpenClaim := { program := "ytncadipipomebaa", sum := "1a176153ce35e044119f8fe8658c95d2a9d8afc13a368ef7440e5e476969bc47", func := "postilion/postilionlaw19.OrderDecides", spec := "orderDecides", unfollowed := true, recurses := true, apart := false, narrowed := true }
def OrderDecidesUptoSaid : Prop := orderDecidesUptoRow.holds Try.pinned (OpenSpec.upto orderDecidesSpec)

/-- 'postilionlaw19.OrderFrom', WHERE WHAT IT READS IS OF BULK AT MOST 1048576: true; the input reads as it did. -/
def orderFromUptoRow : OpenClaim := { program := "ytncadipipomebaa", sum := "1a176153ce35e044119f8fe8658c95d2a9d8afc13a368ef7440e5e476969bc47", func := "postilion/postilionlaw19.OrderFrom", spec := "orderFrom", unfollowed := true, recurses := true, apart := false, narrowed := true }
def OrderFromUptoSaid : Prop := orderFromUptoRow.holds Try.pinned (OpenSpec.upto orderFromSpec)

/-- 'postilionlaw19.OrderTold', WHERE WHAT IT READS IS OF BULK AT MOST 1048576: true; the input reads as it did. -/
def orderToldUptoRow : OpenClaim := { program := "ytncadipipomebaa", sum := "1a176153ce35e044119f8fe8658c95d2a9d8afc13a368ef7440e5e476969bc47", func := "postilion/postilionlaw19.OrderTold", spec := "orderTold", unfollowed := true, recurses := true, apart := false, narrowed := true }
def OrderToldUptoSaid : Prop := orderToldUptoRow.holds Try.pinned (OpenSpec.upto orderToldSpec)

end Rows
end Go.Proofs.Ytncadipipomebaa
