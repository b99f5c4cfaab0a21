/-
  No cell of these rows narrows 'for every input' (looked for: loops, veiled, ifaces, maps, wideKeys, modest, calm, conditions, laid).
  DERIVED. THE GIVEN ROWS OF THIS SEAT. 4 by the template 'for every input the law returns true; each argument reads behind the call as it read before'; 0 by the template 'total and deterministic' (their statements: YtiifflojpoobpaaTotals.lean).
  GIVEN WITH THE SEED: the statements are not yours to turn. If you find one false, say at which input.
  Laid BY PROGRAM, IN A SANDBOX (cutbox-rows.mjs): the forced cells as the released guide's own fill.sh prints them over the translation f48e160b78be1844… (all of the seat's roots in one cut). By AI agents, Wed Nov 11 2026. No macro, syntax, notation, axiom, sorry.
-/
import Derived.Test.YtiifflojpoobpaaChecked
import GoSem.Claim
import GoSem.ClaimJoined
import GoSem.ClaimMapViews
import Derived.JoinedTies
import Derived.KernelRfl
namespace Go.Proofs.Ytiifflojpoobpaa
/- THE CELL 'sum', in the pinned program and in every row, IS THE sha256 OF THE DUMP (.gsa) THAT YtiifflojpoobpaaProg.lean LOADS. Nothing in Lean hashes anything: it is a label: what it is worth is what the hold of that sum in a sandbox is worth. -/
noncomputable def Try.pinned : Pinned := { name := "ytiifflojpoobpaa", sum := "f48e160b78be1844da7123a61ba25ef5312b70754d9fbf360fda422f7d33efbe", checked := Try.checked }
namespace Rows
def none {H : Type} : Left H := { results := [], args := [] }

/-- 'postilionlaw15.TableCuts': WHATEVER THE INPUT: true; the input reads as it did. -/
def tableCutsSpec : ChangeSpec := { name := "tableCuts", fn := fun _ => fun
  | [d1, d2, d3, d4, d5] => { results := [.lit (.bool true)], args := [d1, d2, d3, d4, d5] }
  | _ => none }
def tableCutsRow : OpenClaim := { program := "ytiifflojpoobpaa", sum := "f48e160b78be1844da7123a61ba25ef5312b70754d9fbf360fda422f7d33efbe", func := "postilion/postilionlaw15.TableCuts", spec := "tableCuts", unfollowed := true, recurses := true, apart := false }
def TableCutsSaid : Prop := tableCutsRow.holds Try.pinned (OpenSpec.ofChange tableCutsSpec)

/-- ITS FALSE NEIGHBOUR: 'it returns false'. Refute it at one input. -/
def tableCutsWrong : ChangeSpec := { name := "tableCuts", fn := fun _ => fun
  | [d1, d2, d3, d4, d5] => { results := [.lit (.bool false)], args := [d1, d2, d3, d4, d5] }
  | _ => none }
def TableCutsWrongFalsely : Prop := tableCutsRow.holds Try.pinned (OpenSpec.ofChange tableCutsWrong)

/-- 'postilionlaw15.TableOrders': WHATEVER THE INPUT: true; the input reads as it did. -/
def tableOrdersSpec : ChangeSpec := { name := "tableOrders", fn := fun _ => fun
  | [d1, d2] => { results := [.lit (.bool true)], args := [d1, d2] }
  | _ => none }
def tableOrdersRow : OpenClaim := { program := "ytiifflojpoobpaa", sum := "f48e160b78be1844da7123a61ba25ef5312b70754d9fbf360fda422f7d33efbe", func := "postilion/postilionlaw15.TableOrders", spec := "tableOrders", unfollowed := true, recurses := true, apart := false }
def TableOrdersSaid : Prop := tableOrdersRow.holds Try.pinned (OpenSpec.ofChange tableOrdersSpec)

/-- ITS FALSE NEIGHBOUR: 'it returns false'. Refute it at one input. -/
def tableOrdersWrong : ChangeSpec := { name := "tableOrders", fn := fun _ => fun
  | [d1, d2] => { results := [.lit (.bool false)], args := [d1, d2] }
  | _ => none }
def TableOrdersWrongFalsely : Prop := tableOrdersRow.holds Try.pinned (OpenSpec.ofChange tableOrdersWrong)

/-- 'postilionlaw15.TableNone': WHATEVER THE INPUT: true; the input reads as it did. -/
def tableNoneSpec : ChangeSpec := { name := "tableNone", fn := fun _ => fun
  | [d1, d2, d3] => { results := [.lit (.bool true)], args := [d1, d2, d3] }
  | _ => none }
def tableNoneRow : OpenClaim := { program := "ytiifflojpoobpaa", sum := "f48e160b78be1844da7123a61ba25ef5312b70754d9fbf360fda422f7d33efbe", func := "postilion/postilionlaw15.TableNone", spec := "tableNone", unfollowed := true, recurses := true, apart := false }
def TableNoneSaid : Prop := tableNoneRow.holds Try.pinned (OpenSpec.ofChange tableNoneSpec)

/-- ITS FALSE NEIGHBOUR: 'it returns false'. Refute it at one input. -/
def tableNoneWrong : ChangeSpec := { name := "tableNone", fn := fun _ => fun
  | [d1, d2, d3] => { results := [.lit (.bool false)], args := [d1, d2, d3] }
  | _ => none }
def TableNoneWrongFalsely : Prop := tableNoneRow.holds Try.pinned (OpenSpec.ofChange tableNoneWrong)

/-- 'postilionlaw15.TableApart': WHATEVER THE INPUT: true; the input reads as it did. -/
def tableApartSpec : ChangeSpec := { name := "tableApart", fn := fun _ => fun
  | [d1, d2, d3] => { results := [.lit (.bool true)], args := [d1, d2, d3] }
  | _ => none }
def tableApartRow : OpenClaim := { program := "ytiifflojpoobpaa", sum := "f48e160b78be1844da7123a61ba25ef5312b70754d9fbf360fda422f7d33efbe", func := "postilion/postilionlaw15.TableApart", spec := "tableApart", unfollowed := true, recurses := true, apart := false }
def TableApartSaid : Prop := tableApartRow.holds Try.pinned (OpenSpec.ofChange tableApartSpec)

/-- ITS FALSE NEIGHBOUR: 'it returns false'. Refute it at one input. -/
def tableApartWrong : ChangeSpec := { name := "tableApart", fn := fun _ => fun
  | [d1, d2, d3] => { results := [.lit (.bool false)], args := [d1, d2, d3] }
  | _ => none }
def TableApartWrongFalsely : Prop := tableApartRow.holds Try.pinned (OpenSpec.ofChange tableApartWrong)

/- THE SECOND FORM. 'bulk': how many values and letters a reading holds, each counted each time it is reached (what is shared counts as often as it is met; a slice's spare places count too). A statement '..UptoSaid' is the law's where the arguments, and the package variables that the reading takes, are together of bulk at most 1048576: NARROWER than '..Said'. Prove '..Said' where nothing that the law and all that it calls make is longer than what came in: it says more and counts as full. Else prove '..UptoSaid'. A law counts once. -/
mutual
def uptoBulk {H : Type} : DataW H → Nat
  | .lit (.string bytes) => bytes.length + 1
  | .lit _ => 1
  | .nil => 1
  | .ptr d => uptoBulk d + 1
  | .slice elems spare => uptoBulkAll elems + uptoBulkAll spare + 1
  | .agg parts => uptoBulkAll parts + 1
  | .iface _ d => uptoBulk d + 1
  | .map entries => uptoBulkEntries entries + 1
  | .held _ => 1
def uptoBulkAll {H : Type} : List (DataW H) → Nat
  | [] => 0
  | d :: r => uptoBulk d + uptoBulkAll r
def uptoBulkEntries {H : Type} : List (Lit × DataW H) → Nat
  | [] => 0
  | x :: r => uptoBulkEntry x + uptoBulkEntries r
def uptoBulkEntry {H : Type} : Lit × DataW H → Nat
  | (.string bytes, d) => bytes.length + uptoBulk d + 1
  | (_, d) => uptoBulk d + 1
 end
def uptoSmall : (H : Type) → List (DataW H) → Bool := fun _ ds => decide (uptoBulkAll ds ≤ 1048576)
def OpenSpec.upto (s : _root_.Go.ChangeSpec) : _root_.Go.OpenSpec := { _root_.Go.OpenSpec.ofChange s with cond := some uptoSmall }

/-- 'postilionlaw15.TableCuts', WHERE WHAT IT READS IS OF BULK AT MOST 1048576: true; the input reads as it did. -/
def tableCutsUptoRow : OpenClaim := { program := "ytiifflojpoobpaa", sum := "f48e160b78be1844da7123a61ba25ef5312b70754d9fbf360fda422f7d33efbe", func := "postilion/postilionlaw15.TableCuts", spec := "tableCuts", unfollowed := true, recurses := true, apart := false, narrowed := true }
def TableCutsUptoSaid : Prop := tableCutsUptoRow.holds Try.pinned (OpenSpec.upto tableCutsSpec)

/-- 'postilionlaw15.TableOrders', WHERE WHAT IT READS IS OF BULK AT MOST 1048576: true; the input reads as it did. -/
def tableOrdersUptoRow : OpenClaim := { program := "ytiifflojpoobpaa", sum := "f48e160b78be1844da7123a61ba25ef5312b70754d9fbf360fda422f7d33efbe", func := "postilion/postilionlaw15.TableOrders", spec := "tableOrders", unfollowed := true, recurses := true, apart := false, narrowed := true }
def TableOrdersUptoSaid : Prop := tableOrdersUptoRow.holds Try.pinned (OpenSpec.upto tableOrdersSpec)

/-- 'postilionlaw15.TableNone', WHERE WHAT IT READS IS OF BULK AT MOST 1048576: true; the input reads as it did. -/
def tableNoneUptoRow : OpenClaim := { program := "ytiifflojpoobpaa", sum := "f48e160b78be1844da7123a61ba25ef5312b70754d9fbf360fda422f7d33efbe", func := "postilion/postilionlaw15.TableNone", spec := "tableNone", unfollowed := true, recurses := true, apart := false, narrowed := true }
def TableNoneUptoSaid : Prop := tableNoneUptoRow.holds Try.pinned (OpenSpec.upto tableNoneSpec)

/-- 'postilionlaw15.TableApart', WHERE WHAT IT READS IS OF BULK AT MOST 1048576: true; the input reads as it did. -/
def tableApartUptoRow : OpenClaim := { program := "ytiifflojpoobpaa", sum := "f48e160b78be1844da7123a61ba25ef5312b70754d9fbf360fda422f7d33efbe", func := "postilion/postilionlaw15.TableApart", spec := "tableApart", unfollowed := true, recurses := true, apart := false, narrowed := true }
def TableApartUptoSaid : Prop := tableApartUptoRow.holds Try.pinned (OpenSpec.upto tableApartSpec)

end Rows
end Go.Proofs.Ytiifflojpoobpaa
