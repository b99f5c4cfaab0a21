/- append of a whole slice onto one's own, at a step of a region that draws its order. -/
import Derived.Test.YtjggjkmafcokjaaTst
import Derived.Laws.AppendOwnNone
import Derived.Deep.AppendLies
set_option linter.unusedVariables false
set_option linter.unusedSimpArgs false
namespace Go.Proofs.Ytjggjkmafcokjaa
open Go.RowKit

theorem Sl.news {α : Type} {w : World} {sz : Nat} {c : α → List Value} {ad : Addr} {n cap : Nat} {ys : List α} (hS : Sl w sz c (some ad) n cap ys) (hsz : 0 < sz) : ∀ j u, (ys.flatMap c)[j]? = some u → w.cell? (ad.add j) = some u := by
  intro j u hj
  have hlen : (ys.flatMap c).length = n * sz := by
    rw [hS.neq]
    have hw := hS.wid
    clear hj hS
    induction ys with
    | nil => simp
    | cons y l ih => rw [List.flatMap_cons, List.length_append, ih, hw, List.length_cons, Nat.add_mul]; omega
  have hj' : j < n * sz := by rw [← hlen]; exact (List.getElem?_eq_some_iff.1 hj).1
  have hk : j / sz < ys.length := by rw [← hS.neq]; exact Nat.div_lt_of_lt_mul (by rw [Nat.mul_comm]; exact hj')
  obtain ⟨b, off, hab, hcells⟩ := hS.get (j / sz) hk
  simp only [Option.some.injEq] at hab
  subst hab
  have hm : j % sz < (c ys[j / sz]).length := by rw [hS.wid]; exact Nat.mod_lt _ hsz
  have hget := flatMap_at hS.wid ys (j / sz) _ (List.getElem?_eq_getElem hk) (j % sz) _ (List.getElem?_eq_getElem hm)
  rw [show j / sz * sz + j % sz = j from by rw [Nat.mul_comm]; exact Nat.div_add_mod j sz, hj] at hget
  have := hcells (j % sz) _ (List.getElem?_eq_getElem hm)
  rw [show off + j / sz * sz + j % sz = off + j from by rw [Nat.add_assoc, Nat.mul_comm, Nat.div_add_mod]] at this
  rw [show (Addr.mk b off .none).add j = ⟨b, off + j, .none⟩ from by unfold Addr.add; split <;> simp_all, this]
  exact hget.symm
theorem Sl.flat {α : Type} {w : World} {sz : Nat} {c : α → List Value} {a : Option Addr} {n cap : Nat} {ys : List α} (hS : Sl w sz c a n cap ys) : (ys.flatMap c).length = n * sz := by
  rw [hS.neq]
  have hw := hS.wid
  clear hS
  induction ys with
  | nil => simp
  | cons y l ih => rw [List.flatMap_cons, List.length_append, ih, hw, List.length_cons, Nat.add_mul]; omega

/-- What was there ahead of one's own stays. -/
theorem Own.grown {α : Type} {c : α → List Value} {W w w' : World} {base : Nat} {e : TypeId} {sz : Nat} {aa : Option Addr} {n cap : Nat} {ys : List α} (hown : Own w base e sz c aa n cap ys) (hg : w.grownBy w' (Value.ownBlock (.slice aa n cap))) (hW : W.heap.size ≤ base) (hx : Ext W w) : Ext W w' :=
  hx.grown hg fun k hk => by
    cases aa with
    | none => cases hk
    | some ad => simp only [Value.ownBlock, Option.some.injEq] at hk; subst hk; exact Nat.le_trans hW (hown.lt ad rfl).1

theorem wpOn {α : Type} {c : α → List Value} {sz : Nat} {ys0 ys : List α} {P : Program} {w : World} {o : Oper} {a : Act} {K : Act → World → Prop} {Q : Exit → Act → World → Prop} (s x : Operand) (t e : TypeId)
    (ho : o.op = .call { callee := .builtin .append, args := #[s, x], argTypes := #[t, t] })
    (i : TypeInfo) (z : Value) (bytes : Nat) (ht : P.underlying t = some (.slice e)) (hi : P.info? e = some i) (hz : i.zero = some z)
    (hsize : i.size = sz) (hby : i.bytes = bytes) (hzs : z.cells.size = sz) (hsz : 0 < sz)
    {aa : Option Addr} {n0 cap0 : Nat} (hs : a.eval s = .slice aa n0 cap0) (W : World) (hW : Ext W w) (hown : Own w W.heap.size e sz c aa n0 cap0 ys0)
    {sa : Option Addr} {n cap : Nat} (hx : a.eval x = .slice sa n cap) (hS : Sl w sz c sa n cap ys) (h1 : ∀ y, ∀ u ∈ c y, u.oneCell' = true)
    (hn : (n0 + n) * bytes ≤ 140737488355328) (hb0 : 0 < bytes)
    (h : ∀ bb n' cap' w', n' = n0 + n → Own w' W.heap.size e sz c bb n' cap' (ys0 ++ ys) → Ext W w' → w.grownBy w' (Value.ownBlock (.slice aa n0 cap0)) → K (a.put o.dst (.slice bb n' cap')) w') : o.wp P a w K Q := by
  cases sa with
  | none =>
    have hc := hS.none rfl
    have hl := hS.len
    obtain rfl : cap = 0 := hc
    obtain rfl : n = 0 := by omega
    have hy : ys = [] := List.eq_nil_of_length_eq_zero hS.neq.symm
    subst hy
    have hrun := run_append_owned_none (P := P) (w := w) W.heap.size t o.type e i sz ht hi (.slice aa n0 cap0) n0 _ hown.row
    unfold Oper.wp
    simp [execOp, ho, resolve, invoke, builtin, hs, hx, hrun, Result.andThen]
    exact h aa n0 cap0 w rfl (by rw [List.append_nil]; exact hown) hW ⟨rfl, rfl, rfl, Nat.le_refl _, fun _ _ _ => rfl⟩
  | some ad =>
    have hbound : n0 + n ≤ (n0 + n) * bytes := Nat.le_mul_of_pos_right _ hb0
    refine wp_append_own w s x t ho W.heap.size e i z sz bytes ht hi hz hsize hby hzs hsz (.slice aa n0 cap0) n0 _ hs hown.row ad n cap (ys.flatMap c) hx hS.flat (hS.news hsz) ?_ (by simp only [maxLen]; omega) hn hW.size ?_
    · intro u hu
      obtain ⟨y, _, hy⟩ := List.mem_flatMap.1 hu
      exact h1 y u hy
    · intro v' w' hown' hgrow _
      rw [← List.flatMap_append] at hown'
      have hlen : n0 + n = (ys0 ++ ys).length := by rw [List.length_append, ← hown.neq, ← hS.neq]
      rcases hown'.2 with ⟨rfl, h0⟩ | ⟨g, cp, cur, rfl, hbs, hgg, hrest⟩
      · rw [h0] at hown' hlen
        exact h none 0 0 w' h0.symm (Own.mk hown' hlen hS.wid) (hown.grown hgrow (Nat.le_refl _) hW) hgrow
      · exact h _ _ cp w' rfl (Own.mk hown' hlen hS.wid) (hown.grown hgrow (Nat.le_refl _) hW) hgrow

/-- the same at a step of a region that draws -/
theorem stepOn {α : Type} {c : α → List Value} {sz : Nat} {ys0 ys : List α} {P : Program} {w : World} {ops : Array Oper} {o : Oper} {a : Act} {K : Act → World → Prop} {Q : Exit → Act → World → Prop} {E : Prop} (hgd : o.guard = none) (s x : Operand) (t e : TypeId)
    (ho : o.op = .call { callee := .builtin .append, args := #[s, x], argTypes := #[t, t] })
    (i : TypeInfo) (z : Value) (bytes : Nat) (ht : P.underlying t = some (.slice e)) (hi : P.info? e = some i) (hz : i.zero = some z)
    (hsize : i.size = sz) (hby : i.bytes = bytes) (hzs : z.cells.size = sz) (hsz : 0 < sz)
    {aa : Option Addr} {n0 cap0 : Nat} (hs : a.eval s = .slice aa n0 cap0) (W : World) (hW : Ext W w) (hown : Own w W.heap.size e sz c aa n0 cap0 ys0)
    {sa : Option Addr} {n cap : Nat} (hx : a.eval x = .slice sa n cap) (hS : Sl w sz c sa n cap ys) (h1 : ∀ y, ∀ u ∈ c y, u.oneCell' = true)
    (hn : (n0 + n) * bytes ≤ 140737488355328) (hb0 : 0 < bytes)
    (h : ∀ bb n' cap' w', n' = n0 + n → Own w' W.heap.size e sz c bb n' cap' (ys0 ++ ys) → Ext W w' → w.grownBy w' (Value.ownBlock (.slice aa n0 cap0)) → K (a.put o.dst (.slice bb n' cap')) w') :
    if Region.wanted o (yielded ops a.tmps) = true then Oper.wp P o a w K Q else E := by
  have hw : Region.wanted o (yielded ops a.tmps) = true := by simp [Region.wanted, hgd]
  rw [if_pos hw]
  exact wpOn s x t e ho i z bytes ht hi hz hsize hby hzs hsz hs W hW hown hx hS h1 hn hb0 h

/-- An empty slice that was laid just now is one's own. -/
theorem Own.empty {α : Type} {c : α → List Value} {w : World} {base B : Nat} {e : TypeId} {sz : Nat} (h : w.heap[B]? = some (.cells #[] e (0, 0))) (hb : base ≤ B) (hw : ∀ y, (c y).length = sz) : Own w base e sz c (some ⟨B, 0, none⟩) 0 0 ([] : List α) :=
  ⟨⟨by simp, .inr ⟨B, 0, #[], rfl, hb, h, Nat.le_refl _, Nat.zero_le _, by simp, by simp⟩⟩, rfl, hw⟩
end Go.Proofs.Ytjggjkmafcokjaa
