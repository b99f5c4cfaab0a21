/- 'ValueTells': for every input the law returns true; each argument reads behind the call as it read before. No condition. -/
import Derived.Test.YtaednpicjpfamaaRows
import Derived.Test.YtaednpicjpfamaaL1
import Derived.ProofKit
import Derived.OpenShut
import Derived.Lib.SmallJoins
namespace Go.Proofs.Ytaednpicjpfamaa.valueTells
open Go.ChangeShapes Go.WideShapes Go.ChangeAt Go.RowKit Go.Joins
open Go.ChangeMaps (open_string shut_string)
set_option linter.unusedVariables false

theorem own : ownKnob Try.prog.godebug = none := by kernel_rfl
theorem laidOut : laidOutB Try.prog = true := by kernel_rfl

set_option maxRecDepth 100000 in
theorem lifted (os : Os) (started : os.Started) (H : Type) (enc : TypeId × Value → H) :
    ReturnsInHanded {} Try.checked os 4 .any (Rows.valueTellsSpec.pre6 enc Try.prog Try.f4 Rows.valueTellsRow.domain false) (Rows.valueTellsSpec.post enc Try.prog Try.f4 false true false false) := by
  refine returnsInHanded_of_change (C := Try.checked) own started (by kernel_rfl) Try.func4
    (ChangeSpec.witness6 (enc := enc) (C := Try.checked) false ⟨#[], #[.agg #[.int .i64 0, .int .i64 0, .string ⟨#[]⟩], .agg #[.int .i64 0, .int .i64 0, .string ⟨#[]⟩]], []⟩ 8 (by kernel_rfl) (by kernel_rfl) (by kernel_rfl) (by kernel_rfl)) ?_
  intro W base args ds gs before hval0 hW hcnd _
  have hval : ∀ (j : Nat) t v, Try.f4.params[j]? = some t → args[j]? = some v → Value.okWide Try.prog W .any base t v := hval0
  have hW' := hW
  obtain ⟨p, q, hA0, hV, rfl, hfz, hnd⟩ := hW
  have hA : DataW.TrodAll enc Try.prog W 0 (fun _ => true) true Try.f4.params.toList args.toList ds p := hA0
  rw [Try.params4] at hA hval
  obtain ⟨v0, vs0, d0, ds0, p0, q0, hargs, rfl, rfl, h0, r0⟩ := trodAll_cons hA
  obtain ⟨v1, vs1, d1, ds1, p1, q1, rfl, rfl, rfl, h1, r1⟩ := trodAll_cons r0
  obtain ⟨rfl, rfl, rfl⟩ := trodAll_nil r1
  obtain rfl : args = #[v0, v1] := by cases args; simp_all
  obtain ⟨rfl, rfl⟩ := trodVars_none hV
  have k0 := h0
  have lt0 : ∀ x ∈ p0, x.block < W.heap.size := by obtain ⟨m, hm⟩ := k0; exact DataW.trod_lt m _ _ _ hm
  have ok0 := hval 0 24 v0 rfl rfl
  have k1 := h1
  have lt1 : ∀ x ∈ p1, x.block < W.heap.size := by obtain ⟨m, hm⟩ := k1; exact DataW.trod_lt m _ _ _ hm
  have ok1 := hval 1 24 v1 rfl rfl
  clear hA0 hval0
  obtain ⟨c0, c1, c2, y0, y1, y2, m, rfl, hd0, hp0, hy0, hy1, hy2⟩ := open_agg3 Try.underlying24 (by kernel_rfl) (by kernel_rfl) ok0 h0
  obtain ⟨a0, e0, hq0, wa0⟩ := DataW.trod_int Try.underlying3 hy0
  obtain ⟨b0, e1, hq1, wb0⟩ := DataW.trod_int Try.underlying2 hy1
  obtain ⟨s0, e2, hq2, ws0⟩ := DataW.trod_string Try.underlying9 hy2
  simp at e0 e1 e2
  subst e0 e1 e2
  clear hy0 hy1 hy2 hq0 hq1 hq2
  obtain ⟨c0, c1, c2, y0, y1, y2, m, rfl, hd1, hp1, hy0, hy1, hy2⟩ := open_agg3 Try.underlying24 (by kernel_rfl) (by kernel_rfl) ok1 h1
  obtain ⟨a1, e0, hq0, wa1⟩ := DataW.trod_int Try.underlying3 hy0
  obtain ⟨b1, e1, hq1, wb1⟩ := DataW.trod_int Try.underlying2 hy1
  obtain ⟨s1, e2, hq2, ws1⟩ := DataW.trod_string Try.underlying9 hy2
  simp at e0 e1 e2
  subst e0 e1 e2
  clear hy0 hy1 hy2 hq0 hq1 hq2
  refine (tells_any a0 b0 s0 a1 b1 s1 W).mono fun e W' ⟨he, bel⟩ => ?_
  subst he
  replace bel : Below W.heap.size W W' := bel
  exact ⟨_, rfl, _, _, _, [], _, [], hW', trodAll_mk1 (shut_bool Try.underlying4 _), (trodAll_cons_mk (Below.trod laidOut (by kernel_rfl) (of_decide_eq_true (by kernel_rfl)) k0 bel lt0) (trodAll_cons_mk (Below.trod laidOut (by kernel_rfl) (of_decide_eq_true (by kernel_rfl)) k1 bel lt1) trodAll_mk0)), rfl, bel.frame _, fun h => by cases h⟩

theorem holds : Rows.ValueTellsSaid :=
  OpenClaim.holds_of_wide 4 Try.f4 rfl rfl rfl rfl rfl rfl rfl ⟨rfl, rfl, rfl, rfl, rfl⟩ rfl rfl rfl rfl rfl (by kernel_rfl) Try.func4 (by kernel_rfl)
    (of_decide_eq_true (by kernel_rfl)) (by unfold Func.isWrapper; rw [if_neg (of_decide_eq_false (by kernel_rfl))]; exact ⟨rfl, rfl⟩)
    (fun os started H enc _ => lifted os started H enc)
#print axioms holds
end Go.Proofs.Ytaednpicjpfamaa.valueTells
