/- Tests, attributes, filters as data, and how memory bears them. -/
import Derived.Test.YtjggjkmafcokjaaBase
import Derived.Test.YtjggjkmafcokjaaOwn
import Derived.Test.YtjggjkmafcokjaaVal
import Derived.Test.YtjggjkmafcokjaaNPlain
import Derived.OneCell
set_option linter.unusedVariables false
set_option linter.unusedSimpArgs false
namespace Go.Proofs.Ytjggjkmafcokjaa
open Go.RowKit

/-- a test -/
structure T where
  nm : ByteArray
  op : Int
  k : Int
  n : Int
  s : ByteArray
def T.cs (t : T) : List Value := [.string t.nm, .int .i64 t.op, .int .i64 t.k, .int .i64 t.n, .string t.s]
/-- an attribute -/
structure AT where
  nm : ByteArray
  k : Int
  n : Int
  s : ByteArray
def AT.cs (t : AT) : List Value := [.string t.nm, .int .i64 t.k, .int .i64 t.n, .string t.s]
theorem cellsT {w : World} {b o : Nat} {x : T} (h : CellsAt w b o x.cs) :
    w.cell? ⟨b, o, none⟩ = some (.string x.nm) ∧ w.cell? ⟨b, o + 1, none⟩ = some (.int .i64 x.op) ∧ w.cell? ⟨b, o + 2, none⟩ = some (.int .i64 x.k) ∧ w.cell? ⟨b, o + 3, none⟩ = some (.int .i64 x.n) ∧ w.cell? ⟨b, o + 4, none⟩ = some (.string x.s) :=
  ⟨h 0 _ rfl, h 1 _ rfl, h 2 _ rfl, h 3 _ rfl, h 4 _ rfl⟩
theorem cellsA {w : World} {b o : Nat} {x : AT} (h : CellsAt w b o x.cs) :
    w.cell? ⟨b, o, none⟩ = some (.string x.nm) ∧ w.cell? ⟨b, o + 1, none⟩ = some (.int .i64 x.k) ∧ w.cell? ⟨b, o + 2, none⟩ = some (.int .i64 x.n) ∧ w.cell? ⟨b, o + 3, none⟩ = some (.string x.s) :=
  ⟨h 0 _ rfl, h 1 _ rfl, h 2 _ rfl, h 3 _ rfl⟩
theorem T.wid (t : T) : t.cs.length = 5 := rfl
theorem AT.wid (t : AT) : t.cs.length = 4 := rfl
theorem T.one (t : T) : ∀ u ∈ t.cs, u.oneCell' = true := by
  intro u hu; simp only [T.cs, List.mem_cons, List.not_mem_nil, or_false] at hu; rcases hu with rfl | rfl | rfl | rfl | rfl <;> rfl
theorem AT.one (t : AT) : ∀ u ∈ t.cs, u.oneCell' = true := by
  intro u hu; simp only [AT.cs, List.mem_cons, List.not_mem_nil, or_false] at hu; rcases hu with rfl | rfl | rfl | rfl <;> rfl
def T.v (t : T) : Vl := ⟨t.k, t.n, t.s.toList⟩
def T.ts (t : T) : Ts := ⟨t.nm.toList, t.op, t.v⟩
def AT.v (t : AT) : Vl := ⟨t.k, t.n, t.s.toList⟩
theorem Ext.blk {W w : World} (h : Ext W w) {b : Nat} {o : Obj} (hb : W.heap[b]? = some o) : w.heap[b]? = some o := (h.block _ (lt_of_block hb)).trans hb
theorem heap_new {w : World} {o : Obj} {n : Nat} (h : n = w.heap.size) : (w.alloc o).heap[n]? = some o := by subst h; exact heap_alloc_new _ _
theorem heap_old {w : World} {o : Obj} {n : Nat} {r : Option Obj} (h : n < w.heap.size) (k : w.heap[n]? = r) : (w.alloc o).heap[n]? = r := by rw [Below.heap_alloc _ _ _ h]; exact k
theorem cellH {w : World} {b o : Nat} {cs : Array Value} {t : TypeId} {fr : Nat × Nat} {v : Value} (h : w.heap[b]? = some (.cells cs t fr)) (hv : cs[o]? = some v) : w.cell? ⟨b, o, none⟩ = some v := by
  simp only [World.cell?, h]; simpa using hv
theorem Own.mono {α : Type} {w : World} {base base' : Nat} {e : TypeId} {sz : Nat} {c : α → List Value} {aa : Option Addr} {n cap : Nat} {ys : List α} (h : Own w base e sz c aa n cap ys) (hb : base' ≤ base) : Own w base' e sz c aa n cap ys := by
  refine ⟨⟨h.row.1, ?_⟩, h.neq, h.wid⟩
  rcases h.row.2 with hn | ⟨g, cp, cur, hv, hbs, rest⟩
  · exact .inl hn
  · exact .inr ⟨g, cp, cur, hv, Nat.le_trans hb hbs, rest⟩

theorem Own.far {α : Type} {w : World} {base : Nat} {e : TypeId} {sz : Nat} {c : α → List Value} {aa : Option Addr} {n cap : Nat} {ys : List α} (h : Own w base e sz c aa n cap ys) {p : Addr} (hp : p.block < base) (u : Value) : Own (w.setCell p u) base e sz c aa n cap ys :=
  h.keep fun ad ha => Below.heap_setCell w p u _ (by have := (h.lt ad ha).1; omega)
/-- Two rows of unlike element types lie in two blocks. -/
theorem Own.ne {α β : Type} {w : World} {base base' : Nat} {e e' : TypeId} {sz sz' : Nat} {c : α → List Value} {c' : β → List Value} {aa bb : Option Addr} {n cap n' cap' : Nat} {ys : List α} {zs : List β}
    (h : Own w base e sz c aa n cap ys) (k : Own w base' e' sz' c' bb n' cap' zs) (hne : e ≠ e') : Dis aa bb := by
  intro x y hx hy he
  subst hx; subst hy
  rcases h.row.2 with ⟨hv, _⟩ | ⟨g, cp, cur, hv, _, hg, _⟩
  · cases hv
  rcases k.row.2 with ⟨hv', _⟩ | ⟨g', cp', cur', hv', _, hg', _⟩
  · cases hv'
  simp only [Value.slice.injEq, Option.some.injEq] at hv hv'
  obtain ⟨rfl, _⟩ := hv
  obtain ⟨rfl, _⟩ := hv'
  simp only at he
  rw [he, hg'] at hg
  injection hg with hg
  injection hg with _ ht
  exact hne ht.symm

theorem Grow.own2 {α β : Type} {w w' : World} {base base' : Nat} {e e' : TypeId} {sz sz' : Nat} {c : α → List Value} {c' : β → List Value} {aa bb : Option Addr} {n cap n' cap' g : Nat} {ys : List α} {zs : List β}
    (hg : Grow w w' aa g) (h : Own w base e sz c aa n cap ys) (k : Own w base' e' sz' c' bb n' cap' zs) (hne : e ≠ e') : Own w' base' e' sz' c' bb n' cap' zs := hg.own k (h.ne k hne)

end Go.Proofs.Ytjggjkmafcokjaa
