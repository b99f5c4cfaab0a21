/- 'append(own, x)' at a step of a region that draws; what a store into a box leaves. No program is named here. -/
import Derived.Test.YtncadipipomebaaDeep
namespace Go.Proofs.Ytncadipipomebaa
open Go.RowKit

section
variable {α : Type} {w w' : World} {base : Nat} {e : TypeId} {sz : Nat} {c : α → List Value} {aa : Option Addr} {n cap : Nat} {ys : List α}
/-- 'append(ys, x)' at a step of a region that draws: one member more. -/
theorem step1 {P : Program} {ops : Array Oper} {o : Oper} {a : Act} {K : Act → World → Prop} {Q : Exit → Act → World → Prop} {E : Prop} (hgd : o.guard = none) (s x : Operand) (t : TypeId)
    (ho : o.op = .call { callee := .builtin .append, args := #[s, x], argTypes := #[t, t] })
    (i : TypeInfo) (z : Value) (bytes : Nat) (ht : P.underlying t = some (.slice e)) (hi : P.info? e = some i) (hz : i.zero = some z)
    (hsize : i.size = sz) (hby : i.bytes = bytes) (hzs : z.cells.size = sz) (hsz : 0 < sz)
    (hs : a.eval s = .slice aa n cap) (hown : Own w base e sz c aa n cap ys) (y : α) (H : Nat) (hx : a.eval x = .slice (some ⟨H, 0, .none⟩) 1 1)
    (hnews : ∀ j u, (c y)[j]? = some u → w.cell? ⟨H, j, .none⟩ = some u) (h1 : ∀ u ∈ c y, u.oneCell' = true)
    (hn : (n + 1) * bytes ≤ 140737488355328) (hb0 : 0 < bytes) (hbase : base ≤ w.heap.size)
    (h : ∀ g cap' w', Own w' base e sz c (some ⟨g, 0, .none⟩) (n + 1) cap' (ys ++ [y]) → Grow w w' aa g →
      K (a.put o.dst (.slice (some ⟨g, 0, .none⟩) ((n + 1 : Nat) : Nat) cap')) w') :
    if Region.wanted o (yielded ops a.tmps) = true then Oper.wp P o a w K Q else E := by
  have hadd : ∀ j, (⟨H, 0, .none⟩ : Addr).add j = ⟨H, j, .none⟩ := fun j => by unfold Addr.add; split <;> simp_all
  refine step_append_lies w hgd s x t ho base e i z sz bytes ht hi hz hsize hby hzs hsz (.slice aa n cap) n (ys.flatMap c) hs hown.row ⟨H, 0, .none⟩ 1 1 (c y) hx (by rw [hown.wid]; omega)
    (fun j u hj => by rw [hadd]; exact hnews j u hj) h1 (by omega) ?_ hn hbase _ rfl ?_
  · have : n + 1 ≤ (n + 1) * bytes := Nat.le_mul_of_pos_right _ hb0
    simp only [maxLen]; omega
  · intro g cap' w' hown' hgrow hat _
    refine h g cap' w' ⟨by rw [List.flatMap_append, List.flatMap_singleton]; exact hown', by rw [List.length_append, ← hown.neq]; rfl, hown.wid⟩
      ⟨hgrow.os, hgrow.tape, hgrow.output, hgrow.size, fun b hb hne => hgrow.block b hb (fun e => ?_), ?_⟩
    · cases aa with
      | none => cases e
      | some ad => simp only [Value.ownBlock, Option.some.injEq] at e; exact hne ad rfl e.symm
    · cases aa with
      | none => exact hat.elim (fun h => by cases h) .inr
      | some ad => rcases hat with hat | hat
                   · simp only [Value.ownBlock, Option.some.injEq] at hat; exact .inl ⟨ad, rfl, hat⟩
                   · exact .inr hat
end

/-- All that was there is as it was, but for two blocks: a box, and the row of a slice that was appended to. -/
structure But (w w' : World) (B : Nat) (aa : Option Addr) : Prop where
  os : w'.os = w.os
  tape : w'.tape = w.tape
  output : w'.output = w.output
  size : w.heap.size ≤ w'.heap.size
  block : ∀ b, b < w.heap.size → b ≠ B → (∀ ad, aa = some ad → ad.block ≠ b) → w'.heap[b]? = w.heap[b]?
theorem But.of {w w1 w2 : World} {aa : Option Addr} {g : Nat} (hx : Ext w w1) (hg : Grow w1 w2 aa g) (ad : Addr) (v : Value) : But w (w2.setCell ad v) ad.block aa := by
  have hs : Below 0 w2 (w2.setCell ad v) := Below.setCell (Below.refl 0 w2) (Nat.zero_le _) v
  refine ⟨hs.os.trans (hg.os.trans hx.os), hs.tape.trans (hg.tape.trans hx.tape), hs.output.trans (hg.output.trans hx.output), ?_, fun b hb hne ha => ?_⟩
  · have := hx.size; have := hg.size; have := hs.size; omega
  · rw [Below.heap_setCell w2 ad v b hne]
    exact (hg.block b (by have := hx.size; omega) ha).trans (hx.block b hb)
theorem But.cell {w w' : World} {B : Nat} {aa : Option Addr} (h : But w w' B aa) {b o : Nat} {v : Value} (hc : w.cell? ⟨b, o, .none⟩ = some v) (hb : b ≠ B) (hne : ∀ ad, aa = some ad → ad.block ≠ b) : w'.cell? ⟨b, o, .none⟩ = some v := by
  rw [World.cell?_of_block (h.block b (lt_of_cell hc) hb hne)]; exact hc
theorem But.ext {W w w' : World} {B : Nat} {aa : Option Addr} (h : But w w' B aa) (hx : Ext W w) (hB : W.heap.size ≤ B) (ha : ∀ ad, aa = some ad → W.heap.size ≤ ad.block) : Ext W w' :=
  Below.trans hx ⟨h.os, h.tape, h.output, h.size, fun k hk => h.block k (by have := hx.size; omega) (by omega) (fun ad he => by have := ha ad he; omega)⟩
theorem But.own {α : Type} {w w' : World} {base : Nat} {e : TypeId} {sz : Nat} {c : α → List Value} {bb aa : Option Addr} {n cap B : Nat} {ys : List α} (h : But w w' B aa) (hown : Own w base e sz c bb n cap ys) (hB : B < base) (hd : Dis aa bb) : Own w' base e sz c bb n cap ys :=
  hown.keep fun ad ha => h.block _ (hown.lt ad ha).2 (by have := (hown.lt ad ha).1; omega) (fun x hx => hd x ad hx ha)
theorem But.eown {α : Type} {w w' : World} {base base' : Nat} {x : EV} {d : ED} {e : TypeId} {sz : Nat} {c : α → List Value} {aa : Option Addr} {n cap B : Nat} {zs : List α} (h : But w w' B aa) (he : EntryOwn w base x d)
    (hr : Own w base' e sz c aa n cap zs) (hB : B < base) (h1 : e ≠ 97) (h2 : e ≠ 88) (h3 : e ≠ 99) : EntryOwn w' base x d :=
  let ⟨ys, q, o, a⟩ := he.e
  ⟨he.k, he.id, he.c, he.u, h.own he.f hB (hr.ne he.f h1), ys, q, h.own o hB (hr.ne o h2), fun y hy => h.own (a y hy) hB (hr.ne (a y hy) h3)⟩
theorem Own.setFar {α : Type} {w : World} {base : Nat} {e : TypeId} {sz : Nat} {c : α → List Value} {aa : Option Addr} {n cap : Nat} {ys : List α} (h : Own w base e sz c aa n cap ys) {p : Addr} (hp : p.block < base) (u : Value) : Own (w.setCell p u) base e sz c aa n cap ys := h.far hp u
theorem EntryOwn.far {w : World} {base : Nat} {x : EV} {d : ED} (h : EntryOwn w base x d) {p : Addr} (hp : p.block < base) (u : Value) : EntryOwn (w.setCell p u) base x d :=
  let ⟨ys, q, o, a⟩ := h.e
  ⟨h.k, h.id, h.c, h.u, h.f.far hp u, ys, q, o.far hp u, fun y hy => (a y hy).far hp u⟩
end Go.Proofs.Ytncadipipomebaa
