/- An entry's box: its cells, through later worlds and through stores. -/
import Derived.Test.YtiifflojpoobpaaGreatEvs15
set_option linter.unusedVariables false
set_option linter.unusedSimpArgs false
namespace Go.Proofs.YtiifflojpoobpaaGreat
open Go.RowKit

/-- The cells of an entry lie at a block that may be written. -/
structure Box (w : World) (b : Nat) (x : EV) : Prop where
  at_ : CellsAt w b 0 x.cs
  free : ∀ j, w.frozen? ⟨b, j, none⟩ = false
theorem Box.lt {w : World} {b : Nat} {x : EV} (h : Box w b x) : b < w.heap.size := lt_of_cell (h.at_ 0 _ rfl)
theorem Box.ext {w w' : World} {b : Nat} {x : EV} (h : Box w b x) (hx : Ext w w') : Box w' b x :=
  ⟨fun j v hj => hx.keep (h.at_ j v hj), fun j => (hx.frozen b j h.lt).trans (h.free j)⟩
theorem Box.cells {w : World} {b : Nat} {x : EV} (h : Box w b x) :
    w.cell? ⟨b, 0, none⟩ = some (.int .i64 x.k) ∧ w.cell? ⟨b, 1, none⟩ = some (.int .i64 x.id.b) ∧ w.cell? ⟨b, 2, none⟩ = some (.int .u64 x.id.l) ∧ w.cell? ⟨b, 3, none⟩ = some (.int .u64 x.id.s) ∧ w.cell? ⟨b, 4, none⟩ = some (.int .i64 x.c) ∧ w.cell? ⟨b, 5, none⟩ = some (.int .u64 x.u) ∧ w.cell? ⟨b, 6, none⟩ = some (.slice x.f.a x.f.n x.f.c) ∧ w.cell? ⟨b, 7, none⟩ = some (.slice x.e.a x.e.n x.e.c) :=
  ⟨h.at_ 0 _ rfl, h.at_ 1 _ rfl, h.at_ 2 _ rfl, h.at_ 3 _ rfl, h.at_ 4 _ rfl, h.at_ 5 _ rfl, h.at_ 6 _ rfl, h.at_ 7 _ rfl⟩
theorem Box.far {w : World} {b : Nat} {x : EV} (h : Box w b x) {p : Addr} (hp : b ≠ p.block) (u : Value) : Box (w.setCell p u) b x :=
  ⟨fun j v hj => (World.cell?_of_block (a := ⟨b, 0 + j, .none⟩) (Below.heap_setCell w p u b hp)).trans (h.at_ j v hj), fun j => (World.frozen?_of_block (a := ⟨b, j, .none⟩) (Below.heap_setCell w p u b hp)).trans (h.free j)⟩
theorem frozen_set {w : World} {p q : Addr} {u : Value} (h : w.frozen? q = false) : (w.setCell p u).frozen? q = false := by simpa using h
theorem cs_set {w : World} {b i : Nat} {cs cs' : List Value} {u : Value} (h : CellsAt w b 0 cs) (hi : i < cs.length) (he : cs' = cs.set i u) : CellsAt (w.setCell ⟨b, i, none⟩ u) b 0 cs' := by
  intro j v hj
  rw [he] at hj
  rw [Nat.zero_add]
  by_cases hji : i = j
  · subst hji
    rw [List.getElem?_set_self hi] at hj
    cases hj
    exact World.cell?_setCell_same _ _ _ (by have := h i _ (List.getElem?_eq_getElem hi); rwa [Nat.zero_add] at this)
  · rw [List.getElem?_set_ne hji] at hj
    have := h j v hj
    rw [Nat.zero_add] at this
    exact (World.cell?_setCell_other _ _ _ _ (by simp [hji])).trans this
theorem Box.set7 {w : World} {b : Nat} {x : EV} (h : Box w b x) (e : SV) : Box (w.setCell ⟨b, 7, none⟩ (.slice e.a e.n e.c)) b { x with e := e } :=
  ⟨cs_set h.at_ (by rw [EV.wid]; decide) rfl, fun j => frozen_set (h.free j)⟩
theorem Box.set6 {w : World} {b : Nat} {x : EV} (h : Box w b x) (f : SV) : Box (w.setCell ⟨b, 6, none⟩ (.slice f.a f.n f.c)) b { x with f := f } :=
  ⟨cs_set h.at_ (by rw [EV.wid]; decide) rfl, fun j => frozen_set (h.free j)⟩
theorem Box.new {w : World} {x : EV} {t : TypeId} : Box (w.alloc (.cells #[.int .i64 x.k, .int .i64 x.id.b, .int .u64 x.id.l, .int .u64 x.id.s, .int .i64 x.c, .int .u64 x.u, .slice x.f.a x.f.n x.f.c, .slice x.e.a x.e.n x.e.c] t)) w.heap.size x :=
  ⟨fun j v hj => by rw [Nat.zero_add]; exact news_alloc (cs := x.cs) rfl j v hj, fun j => by simp⟩
def zeroE : EV := ⟨0, ⟨0, 0, 0⟩, 0, 0, ⟨none, 0, 0⟩, ⟨none, 0, 0⟩⟩
end Go.Proofs.YtiifflojpoobpaaGreat
