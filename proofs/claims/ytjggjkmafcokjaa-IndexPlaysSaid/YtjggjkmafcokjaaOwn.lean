/- Slices that a call itself makes, by append: what they hold, and where they lie. No program is named here. -/
import Derived.Test.YtjggjkmafcokjaaBase
import Derived.Deep.AppendLies
set_option linter.unusedVariables false
set_option linter.unusedSimpArgs false
namespace Go.Proofs.Ytjggjkmafcokjaa
open Go.RowKit

/-- A slice value that a call owns (its block, from 'base' on, is its own), whose elements are 'ys' as 'c' lays them. -/
structure Own {α : Type} (w : World) (base : Nat) (e : TypeId) (sz : Nat) (c : α → List Value) (aa : Option Addr) (n cap : Nat) (ys : List α) : Prop where
  row : w.ownsRow base e sz (.slice aa n cap) n (ys.flatMap c)
  neq : n = ys.length
  wid : ∀ y, (c y).length = sz

section
variable {α : Type} {w w' : World} {base : Nat} {e : TypeId} {sz : Nat} {c : α → List Value} {aa : Option Addr} {n cap : Nat} {ys : List α}

theorem Own.nil (w : World) (base : Nat) (e : TypeId) (hw : ∀ y, (c y).length = sz) : Own w base e sz c .none 0 0 ([] : List α) :=
  ⟨World.ownsRow_nil _ _ _ _, rfl, hw⟩

theorem Own.lt (h : Own w base e sz c aa n cap ys) : ∀ ad, aa = some ad → base ≤ ad.block ∧ ad.block < w.heap.size := fun ad ha => by
  subst ha; exact h.row.lt ad.block rfl

theorem Own.keep (h : Own w base e sz c aa n cap ys) (hb : ∀ ad, aa = some ad → w'.heap[ad.block]? = w.heap[ad.block]?) : Own w' base e sz c aa n cap ys := by
  refine ⟨⟨h.row.1, ?_⟩, h.neq, h.wid⟩
  rcases h.row.2 with hn | ⟨g, cp, cur, hv, hbs, hgg, rest⟩
  · exact .inl hn
  · refine .inr ⟨g, cp, cur, hv, hbs, ?_, rest⟩
    simp only [Value.slice.injEq] at hv
    obtain ⟨rfl, _, _⟩ := hv
    rw [hb _ rfl]; exact hgg

theorem Own.ext (h : Own w base e sz c aa n cap ys) (hx : Ext w w') : Own w' base e sz c aa n cap ys :=
  h.keep fun ad ha => hx.block _ (h.lt ad ha).2

theorem flatMap_at {c : α → List Value} {sz : Nat} (hw : ∀ y, (c y).length = sz) : ∀ (ys : List α) (k : Nat) (y : α), ys[k]? = some y → ∀ j v, (c y)[j]? = some v → (ys.flatMap c)[k * sz + j]? = some v
  | [], _, _, h => by simp at h
  | x :: ys, 0, y, h => by
    intro j v hj
    simp only [List.getElem?_cons_zero, Option.some.injEq] at h
    subst h
    rw [List.flatMap_cons, Nat.zero_mul, Nat.zero_add, List.getElem?_append_left (List.getElem?_eq_some_iff.1 hj).1]; exact hj
  | x :: ys, k + 1, y, h => by
    intro j v hj
    rw [List.getElem?_cons_succ] at h
    rw [List.flatMap_cons, List.getElem?_append_right (by rw [hw, Nat.add_mul]; omega), hw, show (k + 1) * sz + j - sz = k * sz + j from by rw [Nat.add_mul]; omega]
    exact flatMap_at hw ys k y h j v hj

theorem Own.sl (h : Own w base e sz c aa n cap ys) : Sl w sz c aa n cap ys := by
  have hn := h.neq
  rcases h.row.2 with ⟨hv, h0⟩ | ⟨g, cp, cur, hv, hbs, hgg, hle, hmx, hcs, htk⟩
  · simp only [Value.slice.injEq] at hv
    obtain ⟨rfl, rfl, rfl⟩ := hv
    obtain rfl : ys = [] := List.eq_nil_of_length_eq_zero (by omega)
    exact Sl.nil _ h.wid
  · simp only [Value.slice.injEq] at hv
    obtain ⟨rfl, _, rfl⟩ := hv
    refine ⟨hn, hle, hmx, (fun h => by cases h), h.wid, fun k y hk => ⟨g, 0, rfl, fun j v hj => ?_⟩⟩
    have := h.row.cells (g := g) rfl _ v (flatMap_at h.wid ys k y hk j v hj)
    rw [show (⟨g, 0, none⟩ : Addr).add (k * sz + j) = ⟨g, 0 + k * sz + j, none⟩ from by unfold Addr.add; split <;> simp_all] at this
    exact this

/-- Behind an append onto 'aa': all blocks but its own are as they were; the new slice lies at 'g'. -/
structure Grow (w w' : World) (aa : Option Addr) (g : Nat) : Prop where
  os : w'.os = w.os
  tape : w'.tape = w.tape
  output : w'.output = w.output
  size : w.heap.size ≤ w'.heap.size
  block : ∀ b, b < w.heap.size → (∀ ad, aa = some ad → ad.block ≠ b) → w'.heap[b]? = w.heap[b]?
  at_ : (∃ ad, aa = some ad ∧ ad.block = g) ∨ g = w.heap.size

theorem Grow.ext {W : World} {g : Nat} (h : Grow w w' aa g) (hown : Own w base e sz c aa n cap ys) (hW : W.heap.size ≤ base) (hx : Ext W w) : Ext W w' :=
  Below.trans hx ⟨h.os, h.tape, h.output, h.size, fun k hk => h.block k (by have := hx.size; omega) (fun ad ha => by have := (hown.lt ad ha).1; omega)⟩

/-- Two slices whose blocks are not one. -/
def Dis (aa bb : Option Addr) : Prop := ∀ x y, aa = some x → bb = some y → x.block ≠ y.block
theorem Dis.symm {aa bb : Option Addr} (h : Dis aa bb) : Dis bb aa := fun x y hx hy e => h y x hy hx e.symm
theorem Dis.nil (bb : Option Addr) : Dis .none bb := fun _ _ h => by cases h
theorem Grow.own {bb : Option Addr} {g : Nat} (h : Grow w w' aa g) (hown : Own w base e sz c bb n cap ys) (hd : Dis aa bb) : Own w' base e sz c bb n cap ys :=
  hown.keep fun ad ha => h.block _ (hown.lt ad ha).2 (fun x hx => hd x ad hx ha)
theorem Grow.dis {bb : Option Addr} {g : Nat} (h : Grow w w' aa g) (hown : Own w base e sz c bb n cap ys) (hd : Dis aa bb) : Dis (some ⟨g, 0, .none⟩) bb := fun x y hx hy => by
  cases hx
  rcases h.at_ with ⟨ad, ha, hg⟩ | hg
  · show g ≠ y.block
    rw [← hg]; exact hd ad y ha hy
  · show g ≠ y.block
    have := (hown.lt y hy).2; omega
theorem Grow.cell {g : Nat} (h : Grow w w' aa g) {b o : Nat} {v : Value} (hc : w.cell? ⟨b, o, .none⟩ = some v) (hne : ∀ ad, aa = some ad → ad.block ≠ b) : w'.cell? ⟨b, o, .none⟩ = some v := by
  rw [World.cell?_of_block (h.block b (lt_of_cell hc) hne)]; exact hc

/-- 'append(ys, x)' in the walk: one member more. -/
theorem app1 {P : Program} {ops : Array Oper} {rest : List Oper} {o : Oper} {a : Act} {Q : Exit → Act → World → Prop} (hgd : o.guard = none) (s x : Operand) (t : TypeId)
    (ho : o.op = .call { callee := .builtin .append, args := #[s, x], argTypes := #[t, t] })
    (i : TypeInfo) (z : Value) (bytes : Nat) (ht : P.underlying t = some (.slice e)) (hi : P.info? e = some i) (hz : i.zero = some z)
    (hsize : i.size = sz) (hby : i.bytes = bytes) (hzs : z.cells.size = sz) (hsz : 0 < sz)
    (hs : a.eval s = .slice aa n cap) (hown : Own w base e sz c aa n cap ys) (y : α) (H : Nat) (hx : a.eval x = .slice (some ⟨H, 0, .none⟩) 1 1)
    (hnews : ∀ j u, (c y)[j]? = some u → w.cell? ⟨H, j, .none⟩ = some u) (h1 : ∀ u ∈ c y, u.oneCell' = true)
    (hn : (n + 1) * bytes ≤ 140737488355328) (hb0 : 0 < bytes) (hbase : base ≤ w.heap.size)
    (h : ∀ g cap' w', Own w' base e sz c (some ⟨g, 0, .none⟩) (n + 1) cap' (ys ++ [y]) → Grow w w' aa g →
      wpList P ops Q rest (a.put o.dst (.slice (some ⟨g, 0, .none⟩) ((n + 1 : Nat) : Nat) cap')) w') : wpList P ops Q (o :: rest) a w := by
  have hadd : ∀ j, (⟨H, 0, .none⟩ : Addr).add j = ⟨H, j, .none⟩ := fun j => by unfold Addr.add; split <;> simp_all
  refine wpList_append_lies w hgd s x t ho base e i z sz bytes ht hi hz hsize hby hzs hsz (.slice aa n cap) n (ys.flatMap c) hs hown.row ⟨H, 0, .none⟩ 1 1 (c y) hx (by rw [hown.wid]; omega)
    (fun j u hj => by rw [hadd]; exact hnews j u hj) h1 (by omega) ?_ hn hbase _ rfl ?_
  · have : n + 1 ≤ (n + 1) * bytes := Nat.le_mul_of_pos_right _ hb0
    simp only [maxLen]; omega
  · intro g cap' w' hown' hgrow hat _
    refine h g cap' w' ⟨by rw [List.flatMap_append, List.flatMap_singleton]; exact hown', by rw [List.length_append, ← hown.neq]; rfl, hown.wid⟩
      ⟨hgrow.os, hgrow.tape, hgrow.output, hgrow.size, fun b hb hne => hgrow.block b hb (fun e => ?_), ?_⟩
    · cases aa with
      | none => cases e
      | some ad => simp only [Value.ownBlock, Option.some.injEq] at e; exact hne ad rfl e.symm
    · cases aa with
      | none => exact hat.elim (fun h => by cases h) .inr
      | some ad => rcases hat with hat | hat
                   · simp only [Value.ownBlock, Option.some.injEq] at hat; exact .inl ⟨ad, rfl, hat⟩
                   · exact .inr hat
end

/-- The cells of what is appended, in the block that was laid for it just now. -/
theorem news_alloc {W : World} {H : Nat} {cs : List Value} {t : TypeId} (hH : H = W.heap.size) : ∀ j u, cs[j]? = some u → (W.alloc (.cells cs.toArray t)).cell? ⟨H, j, .none⟩ = some u := by
  intro j u h
  subst hH
  rw [World.cell?_alloc_mark]
  simpa using h

/-- A result that is a slice in memory: what it holds; and that nothing that was there has turned. -/
def RetSl {α : Type} (sz : Nat) (c : α → List Value) (xs : List α) (w : World) (e : Ending) (w' : World) : Prop :=
  ∃ aa n cap, e = .returned (.slice aa n cap) ∧ Sl w' sz c aa n cap xs ∧ Ext w w'
theorem RetSl.mk {α : Type} {sz : Nat} {c : α → List Value} {xs ys : List α} {w w' : World} {aa : Option Addr} {n cap base : Nat} {e : TypeId} (h : Own w' base e sz c aa n cap xs) (hx : Ext w w') (hy : xs = ys) :
    RetSl sz c ys w (.returned (.slice aa n cap)) w' := by subst hy; exact ⟨aa, n, cap, rfl, h.sl, hx⟩
end Go.Proofs.Ytjggjkmafcokjaa
