/- 'TopCrashes': for every input the law returns true; each argument reads behind the call as it read before. No condition. -/
import Derived.Test.YtfiiblnenhdlhaaGreatRows
import Derived.Test.YtfiiblnenhdlhaaGreatC10
import Derived.ProofKit
import Derived.OpenShut
import Derived.Lib.SmallJoins
import Derived.Test.YtfiiblnenhdlhaaGreatC1
namespace Go.Proofs.YtfiiblnenhdlhaaGreat.topCrashes
open Go.ChangeShapes Go.WideShapes Go.ChangeAt Go.RowKit Go.Joins
open Go.ChangeMaps (open_string shut_string)
set_option linter.unusedVariables false

theorem own : ownKnob Tryz.prog.godebug = none := by kernel_rfl
theorem laidOut : laidOutB Tryz.prog = true := by kernel_rfl

set_option maxRecDepth 100000 in
theorem lifted (os : Os) (started : os.Started) (H : Type) (enc : TypeId × Value → H) :
    ReturnsInHanded {} Tryz.checked os 3 .any (Rows.topCrashesSpec.pre6 enc Tryz.prog Tryz.f3 Rows.topCrashesRow.domain false) (Rows.topCrashesSpec.post enc Tryz.prog Tryz.f3 false true false false) := by
  refine returnsInHanded_of_change (C := Tryz.checked) own started (by kernel_rfl) Tryz.func3
    (ChangeSpec.witness6 (enc := enc) (C := Tryz.checked) false ⟨#[], #[.slice none 0 0, .slice none 0 0, .slice none 0 0, .slice none 0 0], []⟩ 8 (by kernel_rfl) (by kernel_rfl) (by kernel_rfl) (by kernel_rfl)) ?_
  intro W base args ds gs before hval0 hW hcnd _
  have hval : ∀ (j : Nat) t v, Tryz.f3.params[j]? = some t → args[j]? = some v → Value.okWide Tryz.prog W .any base t v := hval0
  have hW' := hW
  obtain ⟨p, q, hA0, hV, rfl, hfz, hnd⟩ := hW
  have hA : DataW.TrodAll enc Tryz.prog W 0 (fun _ => true) true Tryz.f3.params.toList args.toList ds p := hA0
  rw [Tryz.params3] at hA hval
  obtain ⟨v0, vs0, d0, ds0, p0, q0, hargs, rfl, rfl, h0, r0⟩ := trodAll_cons hA
  obtain ⟨v1, vs1, d1, ds1, p1, q1, rfl, rfl, rfl, h1, r1⟩ := trodAll_cons r0
  obtain ⟨v2, vs2, d2, ds2, p2, q2, rfl, rfl, rfl, h2, r2⟩ := trodAll_cons r1
  obtain ⟨v3, vs3, d3, ds3, p3, q3, rfl, rfl, rfl, h3, r3⟩ := trodAll_cons r2
  obtain ⟨rfl, rfl, rfl⟩ := trodAll_nil r3
  obtain rfl : args = #[v0, v1, v2, v3] := by cases args; simp_all
  obtain ⟨rfl, rfl⟩ := trodVars_none hV
  have k0 := h0
  have lt0 : ∀ x ∈ p0, x.block < W.heap.size := by obtain ⟨m, hm⟩ := k0; exact DataW.trod_lt m _ _ _ hm
  have ok0 := hval 0 22 v0 rfl rfl
  have k1 := h1
  have lt1 : ∀ x ∈ p1, x.block < W.heap.size := by obtain ⟨m, hm⟩ := k1; exact DataW.trod_lt m _ _ _ hm
  have ok1 := hval 1 22 v1 rfl rfl
  have k2 := h2
  have lt2 : ∀ x ∈ p2, x.block < W.heap.size := by obtain ⟨m, hm⟩ := k2; exact DataW.trod_lt m _ _ _ hm
  have ok2 := hval 2 23 v2 rfl rfl
  have k3 := h3
  have lt3 : ∀ x ∈ p3, x.block < W.heap.size := by obtain ⟨m, hm⟩ := k3; exact DataW.trod_lt m _ _ _ hm
  have ok3 := hval 3 22 v3 rfl rfl
  clear hA0 hval0
  obtain ⟨a0, n0, c0, y0, rfl, s0⟩ := azQ ok0 h0
  obtain ⟨cE, n1, c1, y1, rfl, s1⟩ := azQ ok1 h1
  obtain ⟨ch, n2, c2, y2, rfl, s2⟩ := aBa ok2 h2
  obtain ⟨a3, n3, c3, y3, rfl, s3⟩ := azQ ok3 h3
  refine (aBb (w := W) s0 s1 s2 s3).mono fun e W' ⟨he, bel⟩ => ?_
  subst he
  replace bel : Below W.heap.size W W' := bel
  exact ⟨_, rfl, _, _, _, [], _, [], hW', trodAll_mk1 (shut_bool Tryz.underlying4 _), (trodAll_cons_mk (Below.trod laidOut (by kernel_rfl) (of_decide_eq_true (by kernel_rfl)) k0 bel lt0) (trodAll_cons_mk (Below.trod laidOut (by kernel_rfl) (of_decide_eq_true (by kernel_rfl)) k1 bel lt1) (trodAll_cons_mk (Below.trod laidOut (by kernel_rfl) (of_decide_eq_true (by kernel_rfl)) k2 bel lt2) (trodAll_cons_mk (Below.trod laidOut (by kernel_rfl) (of_decide_eq_true (by kernel_rfl)) k3 bel lt3) trodAll_mk0)))), rfl, bel.frame _, fun h => by cases h⟩

theorem both {a b : Bool} (h : a = true) (k : b = true) : (a && b) = true := by rw [h, k]; rfl
theorem fact0 : Rows.topCrashesRow.wf (OpenSpec.ofChange Rows.topCrashesSpec) = true := by kernel_rfl
theorem fact2 : mapsRowed Tryz.prog = true := by kernel_rfl
theorem fact3 : Tryz.f3.params.all (Tryz.prog.readableRec ·) = true := by kernel_rfl
theorem fact4 : namedTie Tryz.prog Rows.topCrashesRow.named Rows.topCrashesSpec.vars = true := by kernel_rfl
theorem fact5 : (Rows.topCrashesRow.stops == []) = true := by kernel_rfl
theorem fact6 : (Tryz.prog.stops == []) = true := by kernel_rfl
theorem fact7 : (Rows.topCrashesRow.knobs == []) = true := by kernel_rfl
theorem fact8 : (Tryz.prog.stopKnobs == []) = true := by kernel_rfl
theorem fact9 : (Rows.topCrashesRow.inPlace == Tryz.prog.inPlace 3) = true := by kernel_rfl
theorem fact10 : (Rows.topCrashesRow.unfollowed == Tryz.prog.unfollowed 3) = true := by kernel_rfl
theorem fact11 : (Rows.topCrashesRow.recurses == Tryz.prog.recurses 3) = true := by kernel_rfl
theorem fact12 : (Rows.topCrashesRow.named == Tryz.prog.varsNamed 3) = true := by kernel_rfl
theorem fact13 : (Rows.topCrashesRow.maps == (Tryz.f3.params.toList ++ Rows.topCrashesSpec.plain.varTypes Tryz.prog).any (Tryz.prog.mapsRec ·)) = true := by kernel_rfl
theorem fact14 : (Rows.topCrashesRow.ifaces == (Tryz.f3.params.toList ++ Rows.topCrashesSpec.plain.varTypes Tryz.prog).any (Tryz.prog.ifacesRec ·)) = true := by kernel_rfl
theorem fact15 : (Rows.topCrashesRow.mapsOut == Tryz.prog.mapsAmong Tryz.f3.resultTypes.toList) = true := by kernel_rfl
theorem fact16 : (Rows.topCrashesRow.loops == (Tryz.f3.params.toList ++ Rows.topCrashesSpec.plain.varTypes Tryz.prog).any (Tryz.prog.loopsFrom ·)) = true := by kernel_rfl
theorem fact17 : (Rows.topCrashesRow.wideKeys == (Tryz.f3.params.toList ++ Rows.topCrashesSpec.plain.varTypes Tryz.prog ++ Tryz.f3.resultTypes.toList).any (Tryz.prog.wideKeysFrom ·)) = true := by kernel_rfl
theorem fact18 : Rows.topCrashesSpec.vars.all (Tryz.prog.varReadable ·) = true := by kernel_rfl
theorem fact19 : Tryz.f3.resultTypes.all (fun t => Tryz.prog.readableRec t && decide (t < Tryz.prog.types.size)) = true := by kernel_rfl
theorem fact20 : (Rows.topCrashesRow.ifacesOut == Tryz.f3.resultTypes.toList.any (Tryz.prog.ifacesRec ·)) = true := by kernel_rfl
theorem fact21 : (Rows.topCrashesRow.loopsOut == Tryz.f3.resultTypes.toList.any (Tryz.prog.loopsFrom ·)) = true := by kernel_rfl
theorem fact22 : (Rows.topCrashesRow.plainKeys == Tryz.prog.plainKeys) = true := by kernel_rfl
theorem fact23 : Rows.topCrashesRow.shortTexts.isNone = true := by kernel_rfl
theorem fact24 : Tryz.prog.stopsHeard = true := by kernel_rfl
theorem fact25 : Tryz.prog.mayEnter = true := by kernel_rfl
theorem fact26 : (Rows.topCrashesRow.lifted == Tryz.prog.liftsFinal) = true := by kernel_rfl
theorem fact27 : (Tryz.prog.make == some Rows.topCrashesRow.make) = true := by kernel_rfl
theorem fact29 : (Rows.topCrashesRow.pinned == Rows.topCrashesRow.pinnedBy) = true := by kernel_rfl
theorem fact30 : (Rows.topCrashesRow.veiled == (Tryz.f3.params.toList ++ Rows.topCrashesSpec.plain.varTypes Tryz.prog ++ Tryz.f3.resultTypes.toList).any (Tryz.prog.veiledRec ·)) = true := by kernel_rfl
theorem fact31 : Rows.topCrashesRow.veiledFits Tryz.prog Tryz.f3.params.toList (Tryz.f3.params.toList ++ Rows.topCrashesSpec.plain.varTypes Tryz.prog ++ Tryz.f3.resultTypes.toList) = true := by kernel_rfl
theorem closed : joinedFacts Tryz.prog 3 Tryz.f3 Rows.topCrashesSpec Rows.topCrashesRow = true := by
  unfold joinedFacts
  exact both (both (both (both (both (both (both (both (both (both (both (both (both (both (both (both (both (both (both (both (both (both (both (both (both (both (both (both (both (both (both (fact0) laidOut) fact2) fact3) fact4) fact5) fact6) fact7) fact8) fact9) fact10) fact11) fact12) fact13) fact14) fact15) fact16) fact17) fact18) fact19) fact20) fact21) fact22) fact23) fact24) fact25) fact26) fact27) (by kernel_rfl)) fact29) fact30) fact31
theorem isNamed : Tryz.prog.funcNamed Rows.topCrashesRow.func = some 3 := by kernel_rfl
theorem holds : Rows.TopCrashesSaid :=
  OpenClaim.holds_of_wide (p := Tryz.pinned) (s := Rows.topCrashesSpec) (c := Rows.topCrashesRow) 3 Tryz.f3 rfl rfl rfl rfl rfl rfl rfl ⟨rfl, rfl, rfl, rfl, rfl⟩ rfl rfl rfl rfl rfl isNamed Tryz.func3 closed
    (of_decide_eq_true (by kernel_rfl)) (by unfold Func.isWrapper; rw [if_neg (of_decide_eq_false (by kernel_rfl))]; exact ⟨rfl, rfl⟩)
    (fun os started H enc _ => lifted os started H enc)
#print axioms holds
end Go.Proofs.YtfiiblnenhdlhaaGreat.topCrashes
