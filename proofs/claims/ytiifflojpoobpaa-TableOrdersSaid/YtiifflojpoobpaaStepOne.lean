/- 'append(own, x)' at a step of a region that draws. No program is named here. -/
import Derived.Test.YtiifflojpoobpaaStep
import Derived.Deep.AppendLies
set_option linter.unusedVariables false
set_option linter.unusedSimpArgs false
namespace Go.Proofs.Ytiifflojpoobpaa
open Go.RowKit

section
variable {α : Type} {w w' : World} {base : Nat} {e : TypeId} {sz : Nat} {c : α → List Value} {aa : Option Addr} {n cap : Nat} {ys : List α}
/-- 'append(ys, x)' at a step of a region that draws: one member more. -/
theorem step1 {P : Program} {ops : Array Oper} {o : Oper} {a : Act} {K : Act → World → Prop} {Q : Exit → Act → World → Prop} {E : Prop} (hgd : o.guard = none) (s x : Operand) (t : TypeId)
    (ho : o.op = .call { callee := .builtin .append, args := #[s, x], argTypes := #[t, t] })
    (i : TypeInfo) (z : Value) (bytes : Nat) (ht : P.underlying t = some (.slice e)) (hi : P.info? e = some i) (hz : i.zero = some z)
    (hsize : i.size = sz) (hby : i.bytes = bytes) (hzs : z.cells.size = sz) (hsz : 0 < sz)
    (hs : a.eval s = .slice aa n cap) (hown : Own w base e sz c aa n cap ys) (y : α) (H : Nat) (hx : a.eval x = .slice (some ⟨H, 0, .none⟩) 1 1)
    (hnews : ∀ j u, (c y)[j]? = some u → w.cell? ⟨H, j, .none⟩ = some u) (h1 : ∀ u ∈ c y, u.oneCell' = true)
    (hn : (n + 1) * bytes ≤ 140737488355328) (hb0 : 0 < bytes) (hbase : base ≤ w.heap.size)
    (h : ∀ g cap' w', Own w' base e sz c (some ⟨g, 0, .none⟩) (n + 1) cap' (ys ++ [y]) → Grow w w' aa g →
      K (a.put o.dst (.slice (some ⟨g, 0, .none⟩) ((n + 1 : Nat) : Nat) cap')) w') :
    if Region.wanted o (yielded ops a.tmps) = true then Oper.wp P o a w K Q else E := by
  have hadd : ∀ j, (⟨H, 0, .none⟩ : Addr).add j = ⟨H, j, .none⟩ := fun j => by unfold Addr.add; split <;> simp_all
  refine step_append_lies w hgd s x t ho base e i z sz bytes ht hi hz hsize hby hzs hsz (.slice aa n cap) n (ys.flatMap c) hs hown.row ⟨H, 0, .none⟩ 1 1 (c y) hx (by rw [hown.wid]; omega)
    (fun j u hj => by rw [hadd]; exact hnews j u hj) h1 (by omega) ?_ hn hbase _ rfl ?_
  · have : n + 1 ≤ (n + 1) * bytes := Nat.le_mul_of_pos_right _ hb0
    simp only [maxLen]; omega
  · intro g cap' w' hown' hgrow hat _
    refine h g cap' w' ⟨by rw [List.flatMap_append, List.flatMap_singleton]; exact hown', by rw [List.length_append, ← hown.neq]; rfl, hown.wid⟩
      ⟨hgrow.os, hgrow.tape, hgrow.output, hgrow.size, fun b hb hne => hgrow.block b hb (fun e => ?_), ?_⟩
    · cases aa with
      | none => cases e
      | some ad => simp only [Value.ownBlock, Option.some.injEq] at e; exact hne ad rfl e.symm
    · cases aa with
      | none => exact hat.elim (fun h => by cases h) .inr
      | some ad => rcases hat with hat | hat
                   · simp only [Value.ownBlock, Option.some.injEq] at hat; exact .inl ⟨ad, rfl, hat⟩
                   · exact .inr hat
end

end Go.Proofs.Ytiifflojpoobpaa
