/-
  No cell of these rows narrows 'for every input' (looked for: loops, veiled, ifaces, maps, wideKeys, modest, calm, conditions, laid).
  DERIVED. THE GIVEN ROWS OF THIS SEAT. 12 by the template 'for every input the law returns true; each argument reads behind the call as it read before'; 0 by the template 'total and deterministic' (their statements: YtclmbonippjhoaaTotals.lean).
  GIVEN WITH THE SEED: the statements are not yours to turn. If you find one false, say at which input.
  Laid BY PROGRAM, IN A SANDBOX (cutbox-rows.mjs): the forced cells as the released guide's own fill.sh prints them over the translation 3457b20c28632ba7… (all of the seat's roots in one cut). By AI agents, Wed Nov 11 2026. No macro, syntax, notation, axiom, sorry.
-/
import Derived.Test.YtclmbonippjhoaaChecked
import GoSem.Claim
import GoSem.ClaimJoined
import GoSem.ClaimMapViews
import Derived.JoinedTies
import Derived.KernelRfl
namespace Go.Proofs.Ytclmbonippjhoaa
/- THE CELL 'sum', in the pinned program and in every row, IS THE sha256 OF THE DUMP (.gsa) THAT YtclmbonippjhoaaProg.lean LOADS. Nothing in Lean hashes anything: it is a label: what it is worth is what the hold of that sum in a sandbox is worth. -/
noncomputable def Try.pinned : Pinned := { name := "ytclmbonippjhoaa", sum := "3457b20c28632ba7559459eec0def674b26ae93c89801863905473f63254f5f2", checked := Try.checked }
namespace Rows
def none {H : Type} : Left H := { results := [], args := [] }

/-- 'postilionlaw06.NormExact': WHATEVER THE INPUT: true; the input reads as it did. -/
def normExactSpec : ChangeSpec := { name := "normExact", fn := fun _ => fun
  | [d1, d2] => { results := [.lit (.bool true)], args := [d1, d2] }
  | _ => none }
def normExactRow : OpenClaim := { program := "ytclmbonippjhoaa", sum := "3457b20c28632ba7559459eec0def674b26ae93c89801863905473f63254f5f2", func := "postilion/postilionlaw06.NormExact", spec := "normExact", unfollowed := true, recurses := true, apart := false }
def NormExactSaid : Prop := normExactRow.holds Try.pinned (OpenSpec.ofChange normExactSpec)

/-- ITS FALSE NEIGHBOUR: 'it returns false'. Refute it at one input. -/
def normExactWrong : ChangeSpec := { name := "normExact", fn := fun _ => fun
  | [d1, d2] => { results := [.lit (.bool false)], args := [d1, d2] }
  | _ => none }
def NormExactWrongFalsely : Prop := normExactRow.holds Try.pinned (OpenSpec.ofChange normExactWrong)

/-- 'postilionlaw06.NormShort': WHATEVER THE INPUT: true; the input reads as it did. -/
def normShortSpec : ChangeSpec := { name := "normShort", fn := fun _ => fun
  | [d1, d2] => { results := [.lit (.bool true)], args := [d1, d2] }
  | _ => none }
def normShortRow : OpenClaim := { program := "ytclmbonippjhoaa", sum := "3457b20c28632ba7559459eec0def674b26ae93c89801863905473f63254f5f2", func := "postilion/postilionlaw06.NormShort", spec := "normShort", unfollowed := true, recurses := true, apart := false }
def NormShortSaid : Prop := normShortRow.holds Try.pinned (OpenSpec.ofChange normShortSpec)

/-- ITS FALSE NEIGHBOUR: 'it returns false'. Refute it at one input. -/
def normShortWrong : ChangeSpec := { name := "normShort", fn := fun _ => fun
  | [d1, d2] => { results := [.lit (.bool false)], args := [d1, d2] }
  | _ => none }
def NormShortWrongFalsely : Prop := normShortRow.holds Try.pinned (OpenSpec.ofChange normShortWrong)

/-- 'postilionlaw06.NormChain': WHATEVER THE INPUT: true; the input reads as it did. -/
def normChainSpec : ChangeSpec := { name := "normChain", fn := fun _ => fun
  | [d1, d2, d3] => { results := [.lit (.bool true)], args := [d1, d2, d3] }
  | _ => none }
def normChainRow : OpenClaim := { program := "ytclmbonippjhoaa", sum := "3457b20c28632ba7559459eec0def674b26ae93c89801863905473f63254f5f2", func := "postilion/postilionlaw06.NormChain", spec := "normChain", unfollowed := true, recurses := true, apart := false }
def NormChainSaid : Prop := normChainRow.holds Try.pinned (OpenSpec.ofChange normChainSpec)

/-- ITS FALSE NEIGHBOUR: 'it returns false'. Refute it at one input. -/
def normChainWrong : ChangeSpec := { name := "normChain", fn := fun _ => fun
  | [d1, d2, d3] => { results := [.lit (.bool false)], args := [d1, d2, d3] }
  | _ => none }
def NormChainWrongFalsely : Prop := normChainRow.holds Try.pinned (OpenSpec.ofChange normChainWrong)

/-- 'postilionlaw06.NormThere': WHATEVER THE INPUT: true; the input reads as it did. -/
def normThereSpec : ChangeSpec := { name := "normThere", fn := fun _ => fun
  | [d1, d2] => { results := [.lit (.bool true)], args := [d1, d2] }
  | _ => none }
def normThereRow : OpenClaim := { program := "ytclmbonippjhoaa", sum := "3457b20c28632ba7559459eec0def674b26ae93c89801863905473f63254f5f2", func := "postilion/postilionlaw06.NormThere", spec := "normThere", unfollowed := true, recurses := true, apart := false }
def NormThereSaid : Prop := normThereRow.holds Try.pinned (OpenSpec.ofChange normThereSpec)

/-- ITS FALSE NEIGHBOUR: 'it returns false'. Refute it at one input. -/
def normThereWrong : ChangeSpec := { name := "normThere", fn := fun _ => fun
  | [d1, d2] => { results := [.lit (.bool false)], args := [d1, d2] }
  | _ => none }
def NormThereWrongFalsely : Prop := normThereRow.holds Try.pinned (OpenSpec.ofChange normThereWrong)

/-- 'postilionlaw06.NormSound': WHATEVER THE INPUT: true; the input reads as it did. -/
def normSoundSpec : ChangeSpec := { name := "normSound", fn := fun _ => fun
  | [d1, d2, d3, d4] => { results := [.lit (.bool true)], args := [d1, d2, d3, d4] }
  | _ => none }
def normSoundRow : OpenClaim := { program := "ytclmbonippjhoaa", sum := "3457b20c28632ba7559459eec0def674b26ae93c89801863905473f63254f5f2", func := "postilion/postilionlaw06.NormSound", spec := "normSound", unfollowed := true, recurses := true, apart := false }
def NormSoundSaid : Prop := normSoundRow.holds Try.pinned (OpenSpec.ofChange normSoundSpec)

/-- ITS FALSE NEIGHBOUR: 'it returns false'. Refute it at one input. -/
def normSoundWrong : ChangeSpec := { name := "normSound", fn := fun _ => fun
  | [d1, d2, d3, d4] => { results := [.lit (.bool false)], args := [d1, d2, d3, d4] }
  | _ => none }
def NormSoundWrongFalsely : Prop := normSoundRow.holds Try.pinned (OpenSpec.ofChange normSoundWrong)

/-- 'postilionlaw06.NormSame': WHATEVER THE INPUT: true; the input reads as it did. -/
def normSameSpec : ChangeSpec := { name := "normSame", fn := fun _ => fun
  | [d1, d2] => { results := [.lit (.bool true)], args := [d1, d2] }
  | _ => none }
def normSameRow : OpenClaim := { program := "ytclmbonippjhoaa", sum := "3457b20c28632ba7559459eec0def674b26ae93c89801863905473f63254f5f2", func := "postilion/postilionlaw06.NormSame", spec := "normSame", unfollowed := true, recurses := true, apart := false }
def NormSameSaid : Prop := normSameRow.holds Try.pinned (OpenSpec.ofChange normSameSpec)

/-- ITS FALSE NEIGHBOUR: 'it returns false'. Refute it at one input. -/
def normSameWrong : ChangeSpec := { name := "normSame", fn := fun _ => fun
  | [d1, d2] => { results := [.lit (.bool false)], args := [d1, d2] }
  | _ => none }
def NormSameWrongFalsely : Prop := normSameRow.holds Try.pinned (OpenSpec.ofChange normSameWrong)

/-- 'postilionlaw07.CoverTells': WHATEVER THE INPUT: true; the input reads as it did. -/
def coverTellsSpec : ChangeSpec := { name := "coverTells", fn := fun _ => fun
  | [d1, d2, d3, d4] => { results := [.lit (.bool true)], args := [d1, d2, d3, d4] }
  | _ => none }
def coverTellsRow : OpenClaim := { program := "ytclmbonippjhoaa", sum := "3457b20c28632ba7559459eec0def674b26ae93c89801863905473f63254f5f2", func := "postilion/postilionlaw07.CoverTells", spec := "coverTells", unfollowed := true, recurses := true, apart := false }
def CoverTellsSaid : Prop := coverTellsRow.holds Try.pinned (OpenSpec.ofChange coverTellsSpec)

/-- ITS FALSE NEIGHBOUR: 'it returns false'. Refute it at one input. -/
def coverTellsWrong : ChangeSpec := { name := "coverTells", fn := fun _ => fun
  | [d1, d2, d3, d4] => { results := [.lit (.bool false)], args := [d1, d2, d3, d4] }
  | _ => none }
def CoverTellsWrongFalsely : Prop := coverTellsRow.holds Try.pinned (OpenSpec.ofChange coverTellsWrong)

/-- 'postilionlaw07.CoverChain': WHATEVER THE INPUT: true; the input reads as it did. -/
def coverChainSpec : ChangeSpec := { name := "coverChain", fn := fun _ => fun
  | [d1, d2, d3, d4] => { results := [.lit (.bool true)], args := [d1, d2, d3, d4] }
  | _ => none }
def coverChainRow : OpenClaim := { program := "ytclmbonippjhoaa", sum := "3457b20c28632ba7559459eec0def674b26ae93c89801863905473f63254f5f2", func := "postilion/postilionlaw07.CoverChain", spec := "coverChain", unfollowed := true, recurses := true, apart := false }
def CoverChainSaid : Prop := coverChainRow.holds Try.pinned (OpenSpec.ofChange coverChainSpec)

/-- ITS FALSE NEIGHBOUR: 'it returns false'. Refute it at one input. -/
def coverChainWrong : ChangeSpec := { name := "coverChain", fn := fun _ => fun
  | [d1, d2, d3, d4] => { results := [.lit (.bool false)], args := [d1, d2, d3, d4] }
  | _ => none }
def CoverChainWrongFalsely : Prop := coverChainRow.holds Try.pinned (OpenSpec.ofChange coverChainWrong)

/-- 'postilionlaw07.CoverAll': WHATEVER THE INPUT: true; the input reads as it did. -/
def coverAllSpec : ChangeSpec := { name := "coverAll", fn := fun _ => fun
  | [d1, d2, d3] => { results := [.lit (.bool true)], args := [d1, d2, d3] }
  | _ => none }
def coverAllRow : OpenClaim := { program := "ytclmbonippjhoaa", sum := "3457b20c28632ba7559459eec0def674b26ae93c89801863905473f63254f5f2", func := "postilion/postilionlaw07.CoverAll", spec := "coverAll", unfollowed := true, recurses := true, apart := false }
def CoverAllSaid : Prop := coverAllRow.holds Try.pinned (OpenSpec.ofChange coverAllSpec)

/-- ITS FALSE NEIGHBOUR: 'it returns false'. Refute it at one input. -/
def coverAllWrong : ChangeSpec := { name := "coverAll", fn := fun _ => fun
  | [d1, d2, d3] => { results := [.lit (.bool false)], args := [d1, d2, d3] }
  | _ => none }
def CoverAllWrongFalsely : Prop := coverAllRow.holds Try.pinned (OpenSpec.ofChange coverAllWrong)

/-- 'postilionlaw07.CoverTwice': WHATEVER THE INPUT: true; the input reads as it did. -/
def coverTwiceSpec : ChangeSpec := { name := "coverTwice", fn := fun _ => fun
  | [d] => { results := [.lit (.bool true)], args := [d] }
  | _ => none }
def coverTwiceRow : OpenClaim := { program := "ytclmbonippjhoaa", sum := "3457b20c28632ba7559459eec0def674b26ae93c89801863905473f63254f5f2", func := "postilion/postilionlaw07.CoverTwice", spec := "coverTwice", unfollowed := true, recurses := true, apart := false }
def CoverTwiceSaid : Prop := coverTwiceRow.holds Try.pinned (OpenSpec.ofChange coverTwiceSpec)

/-- ITS FALSE NEIGHBOUR: 'it returns false'. Refute it at one input. -/
def coverTwiceWrong : ChangeSpec := { name := "coverTwice", fn := fun _ => fun
  | [d] => { results := [.lit (.bool false)], args := [d] }
  | _ => none }
def CoverTwiceWrongFalsely : Prop := coverTwiceRow.holds Try.pinned (OpenSpec.ofChange coverTwiceWrong)

/-- 'postilionlaw07.CoverSound': WHATEVER THE INPUT: true; the input reads as it did. -/
def coverSoundSpec : ChangeSpec := { name := "coverSound", fn := fun _ => fun
  | [d1, d2, d3] => { results := [.lit (.bool true)], args := [d1, d2, d3] }
  | _ => none }
def coverSoundRow : OpenClaim := { program := "ytclmbonippjhoaa", sum := "3457b20c28632ba7559459eec0def674b26ae93c89801863905473f63254f5f2", func := "postilion/postilionlaw07.CoverSound", spec := "coverSound", unfollowed := true, recurses := true, apart := false }
def CoverSoundSaid : Prop := coverSoundRow.holds Try.pinned (OpenSpec.ofChange coverSoundSpec)

/-- ITS FALSE NEIGHBOUR: 'it returns false'. Refute it at one input. -/
def coverSoundWrong : ChangeSpec := { name := "coverSound", fn := fun _ => fun
  | [d1, d2, d3] => { results := [.lit (.bool false)], args := [d1, d2, d3] }
  | _ => none }
def CoverSoundWrongFalsely : Prop := coverSoundRow.holds Try.pinned (OpenSpec.ofChange coverSoundWrong)

/-- 'postilionlaw07.CoverReduces': WHATEVER THE INPUT: true; the input reads as it did. -/
def coverReducesSpec : ChangeSpec := { name := "coverReduces", fn := fun _ => fun
  | [d1, d2] => { results := [.lit (.bool true)], args := [d1, d2] }
  | _ => none }
def coverReducesRow : OpenClaim := { program := "ytclmbonippjhoaa", sum := "3457b20c28632ba7559459eec0def674b26ae93c89801863905473f63254f5f2", func := "postilion/postilionlaw07.CoverReduces", spec := "coverReduces", unfollowed := true, recurses := true, apart := false }
def CoverReducesSaid : Prop := coverReducesRow.holds Try.pinned (OpenSpec.ofChange coverReducesSpec)

/-- ITS FALSE NEIGHBOUR: 'it returns false'. Refute it at one input. -/
def coverReducesWrong : ChangeSpec := { name := "coverReduces", fn := fun _ => fun
  | [d1, d2] => { results := [.lit (.bool false)], args := [d1, d2] }
  | _ => none }
def CoverReducesWrongFalsely : Prop := coverReducesRow.holds Try.pinned (OpenSpec.ofChange coverReducesWrong)

/- THE SECOND FORM. 'bulk': how many values and letters a reading holds, each counted each time it is reached (what is shared counts as often as it is met; a slice's spare places count too). A statement '..UptoSaid' is the law's where the arguments, and the package variables that the reading takes, are together of bulk at most 1048576: NARROWER than '..Said'. Prove '..Said' where nothing that the law and all that it calls make is longer than what came in: it says more and counts as full. Else prove '..UptoSaid'. A law counts once. -/
mutual
def uptoBulk {H : Type} : DataW H → Nat
  | .lit (.string bytes) => bytes.length + 1
  | .lit _ => 1
  | .nil => 1
  | .ptr d => uptoBulk d + 1
  | .slice elems spare => uptoBulkAll elems + uptoBulkAll spare + 1
  | .agg parts => uptoBulkAll parts + 1
  | .iface _ d => uptoBulk d + 1
  | .map entries => uptoBulkEntries entries + 1
  | .held _ => 1
def uptoBulkAll {H : Type} : List (DataW H) → Nat
  | [] => 0
  | d :: r => uptoBulk d + uptoBulkAll r
def uptoBulkEntries {H : Type} : List (Lit × DataW H) → Nat
  | [] => 0
  | x :: r => uptoBulkEntry x + uptoBulkEntries r
def uptoBulkEntry {H : Type} : Lit × DataW H → Nat
  | (.string bytes, d) => bytes.length + uptoBulk d + 1
  | (_, d) => uptoBulk d + 1
 end
def uptoSmall : (H : Type) → List (DataW H) → Bool := fun _ ds => decide (uptoBulkAll ds ≤ 1048576)
def OpenSpec.upto (s : _root_.Go.ChangeSpec) : _root_.Go.OpenSpec := { _root_.Go.OpenSpec.ofChange s with cond := some uptoSmall }

/-- 'postilionlaw06.NormExact', WHERE WHAT IT READS IS OF BULK AT MOST 1048576: true; the input reads as it did. -/
def normExactUptoRow : OpenClaim := { program := "ytclmbonippjhoaa", sum := "3457b20c28632ba7559459eec0def674b26ae93c89801863905473f63254f5f2", func := "postilion/postilionlaw06.NormExact", spec := "normExact", unfollowed := true, recurses := true, apart := false, narrowed := true }
def NormExactUptoSaid : Prop := normExactUptoRow.holds Try.pinned (OpenSpec.upto normExactSpec)

/-- 'postilionlaw06.NormShort', WHERE WHAT IT READS IS OF BULK AT MOST 1048576: true; the input reads as it did. -/
def normShortUptoRow : OpenClaim := { program := "ytclmbonippjhoaa", sum := "3457b20c28632ba7559459eec0def674b26ae93c89801863905473f63254f5f2", func := "postilion/postilionlaw06.NormShort", spec := "normShort", unfollowed := true, recurses := true, apart := false, narrowed := true }
def NormShortUptoSaid : Prop := normShortUptoRow.holds Try.pinned (OpenSpec.upto normShortSpec)

/-- 'postilionlaw06.NormChain', WHERE WHAT IT READS IS OF BULK AT MOST 1048576: true; the input reads as it did. -/
def normChainUptoRow : OpenClaim := { program := "ytclmbonippjhoaa", sum := "3457b20c28632ba7559459eec0def674b26ae93c89801863905473f63254f5f2", func := "postilion/postilionlaw06.NormChain", spec := "normChain", unfollowed := true, recurses := true, apart := false, narrowed := true }
def NormChainUptoSaid : Prop := normChainUptoRow.holds Try.pinned (OpenSpec.upto normChainSpec)

/-- 'postilionlaw06.NormThere', WHERE WHAT IT READS IS OF BULK AT MOST 1048576: true; the input reads as it did. -/
def normThereUptoRow : OpenClaim := { program := "ytclmbonippjhoaa", sum := "3457b20c28632ba7559459eec0def674b26ae93c89801863905473f63254f5f2", func := "postilion/postilionlaw06.NormThere", spec := "normThere", unfollowed := true, recurses := true, apart := false, narrowed := true }
def NormThereUptoSaid : Prop := normThereUptoRow.holds Try.pinned (OpenSpec.upto normThereSpec)

/-- 'postilionlaw06.NormSound', WHERE WHAT IT READS IS OF BULK AT MOST 1048576: true; the input reads as it did. -/
def normSoundUptoRow : OpenClaim := { program := "ytclmbonippjhoaa", sum := "3457b20c28632ba7559459eec0def674b26ae93c89801863905473f63254f5f2", func := "postilion/postilionlaw06.NormSound", spec := "normSound", unfollowed := true, recurses := true, apart := false, narrowed := true }
def NormSoundUptoSaid : Prop := normSoundUptoRow.holds Try.pinned (OpenSpec.upto normSoundSpec)

/-- 'postilionlaw06.NormSame', WHERE WHAT IT READS IS OF BULK AT MOST 1048576: true; the input reads as it did. -/
def normSameUptoRow : OpenClaim := { program := "ytclmbonippjhoaa", sum := "3457b20c28632ba7559459eec0def674b26ae93c89801863905473f63254f5f2", func := "postilion/postilionlaw06.NormSame", spec := "normSame", unfollowed := true, recurses := true, apart := false, narrowed := true }
def NormSameUptoSaid : Prop := normSameUptoRow.holds Try.pinned (OpenSpec.upto normSameSpec)

/-- 'postilionlaw07.CoverTells', WHERE WHAT IT READS IS OF BULK AT MOST 1048576: true; the input reads as it did. -/
def coverTellsUptoRow : OpenClaim := { program := "ytclmbonippjhoaa", sum := "3457b20c28632ba7559459eec0def674b26ae93c89801863905473f63254f5f2", func := "postilion/postilionlaw07.CoverTells", spec := "coverTells", unfollowed := true, recurses := true, apart := false, narrowed := true }
def CoverTellsUptoSaid : Prop := coverTellsUptoRow.holds Try.pinned (OpenSpec.upto coverTellsSpec)

/-- 'postilionlaw07.CoverChain', WHERE WHAT IT READS IS OF BULK AT MOST 1048576: true; the input reads as it did. -/
def coverChainUptoRow : OpenClaim := { program := "ytclmbonippjhoaa", sum := "3457b20c28632ba7559459eec0def674b26ae93c89801863905473f63254f5f2", func := "postilion/postilionlaw07.CoverChain", spec := "coverChain", unfollowed := true, recurses := true, apart := false, narrowed := true }
def CoverChainUptoSaid : Prop := coverChainUptoRow.holds Try.pinned (OpenSpec.upto coverChainSpec)

/-- 'postilionlaw07.CoverAll', WHERE WHAT IT READS IS OF BULK AT MOST 1048576: true; the input reads as it did. -/
def coverAllUptoRow : OpenClaim := { program := "ytclmbonippjhoaa", sum := "3457b20c28632ba7559459eec0def674b26ae93c89801863905473f63254f5f2", func := "postilion/postilionlaw07.CoverAll", spec := "coverAll", unfollowed := true, recurses := true, apart := false, narrowed := true }
def CoverAllUptoSaid : Prop := coverAllUptoRow.holds Try.pinned (OpenSpec.upto coverAllSpec)

/-- 'postilionlaw07.CoverTwice', WHERE WHAT IT READS IS OF BULK AT MOST 1048576: true; the input reads as it did. -/
def coverTwiceUptoRow : OpenClaim := { program := "ytclmbonippjhoaa", sum := "3457b20c28632ba7559459eec0def674b26ae93c89801863905473f63254f5f2", func := "postilion/postilionlaw07.CoverTwice", spec := "coverTwice", unfollowed := true, recurses := true, apart := false, narrowed := true }
def CoverTwiceUptoSaid : Prop := coverTwiceUptoRow.holds Try.pinned (OpenSpec.upto coverTwiceSpec)

/-- 'postilionlaw07.CoverSound', WHERE WHAT IT READS IS OF BULK AT MOST 1048576: true; the input reads as it did. -/
def coverSoundUptoRow : OpenClaim := { program := "ytclmbonippjhoaa", sum := "3457b20c28632ba7559459eec0def674b26ae93c89801863905473f63254f5f2", func := "postilion/postilionlaw07.CoverSound", spec := "coverSound", unfollowed := true, recurses := true, apart := false, narrowed := true }
def CoverSoundUptoSaid : Prop := coverSoundUptoRow.holds Try.pinned (OpenSpec.upto coverSoundSpec)

/-- 'postilionlaw07.CoverReduces', WHERE WHAT IT READS IS OF BULK AT MOST 1048576: true; the input reads as it did. -/
def coverReducesUptoRow : OpenClaim := { program := "ytclmbonippjhoaa", sum := "3457b20c28632ba7559459eec0def674b26ae93c89801863905473f63254f5f2", func := "postilion/postilionlaw07.CoverReduces", spec := "coverReduces", unfollowed := true, recurses := true, apart := false, narrowed := true }
def CoverReducesUptoSaid : Prop := coverReducesUptoRow.holds Try.pinned (OpenSpec.upto coverReducesSpec)

end Rows
end Go.Proofs.Ytclmbonippjhoaa
