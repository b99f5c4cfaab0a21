/- Tests, attributes, events and entries as data, and how memory bears them; append of a whole slice onto nil. -/
import Derived.Test.YtncadipipomebaaIdsB
import Derived.Test.YtncadipipomebaaOwn
import Derived.Laws.AppendOwnNone
namespace Go.Proofs.Ytncadipipomebaa
open Go.RowKit

/-- a test -/
structure T where
  nm : ByteArray
  op : Int
  k : Int
  n : Int
  s : ByteArray
def T.cs (t : T) : List Value := [.string t.nm, .int .i64 t.op, .int .i64 t.k, .int .i64 t.n, .string t.s]
/-- an attribute -/
structure AT where
  nm : ByteArray
  k : Int
  n : Int
  s : ByteArray
def AT.cs (t : AT) : List Value := [.string t.nm, .int .i64 t.k, .int .i64 t.n, .string t.s]
theorem cellsT {w : World} {b o : Nat} {x : T} (h : CellsAt w b o x.cs) :
    w.cell? ⟨b, o, none⟩ = some (.string x.nm) ∧ w.cell? ⟨b, o + 1, none⟩ = some (.int .i64 x.op) ∧ w.cell? ⟨b, o + 2, none⟩ = some (.int .i64 x.k) ∧ w.cell? ⟨b, o + 3, none⟩ = some (.int .i64 x.n) ∧ w.cell? ⟨b, o + 4, none⟩ = some (.string x.s) :=
  ⟨h 0 _ rfl, h 1 _ rfl, h 2 _ rfl, h 3 _ rfl, h 4 _ rfl⟩
theorem cellsA {w : World} {b o : Nat} {x : AT} (h : CellsAt w b o x.cs) :
    w.cell? ⟨b, o, none⟩ = some (.string x.nm) ∧ w.cell? ⟨b, o + 1, none⟩ = some (.int .i64 x.k) ∧ w.cell? ⟨b, o + 2, none⟩ = some (.int .i64 x.n) ∧ w.cell? ⟨b, o + 3, none⟩ = some (.string x.s) :=
  ⟨h 0 _ rfl, h 1 _ rfl, h 2 _ rfl, h 3 _ rfl⟩
theorem T.wid (t : T) : t.cs.length = 5 := rfl
theorem AT.wid (t : AT) : t.cs.length = 4 := rfl
theorem T.one (t : T) : ∀ u ∈ t.cs, u.oneCell' = true := by
  intro u hu; simp only [T.cs, List.mem_cons, List.not_mem_nil, or_false] at hu; rcases hu with rfl | rfl | rfl | rfl | rfl <;> rfl
theorem AT.one (t : AT) : ∀ u ∈ t.cs, u.oneCell' = true := by
  intro u hu; simp only [AT.cs, List.mem_cons, List.not_mem_nil, or_false] at hu; rcases hu with rfl | rfl | rfl | rfl <;> rfl
theorem EV.wid (x : EV) : x.cs.length = 8 := rfl
theorem EV.one (x : EV) : ∀ u ∈ x.cs, u.oneCell' = true := by
  intro u hu; simp only [EV.cs, List.mem_cons, List.not_mem_nil, or_false] at hu; rcases hu with rfl | rfl | rfl | rfl | rfl | rfl | rfl | rfl <;> rfl

/-- an event: its slice's value, its attributes -/
structure EvV where
  v : SV
  ats : List AT
def EvV.cs (x : EvV) : List Value := [.slice x.v.a x.v.n x.v.c]
theorem EvV.wid (x : EvV) : x.cs.length = 1 := rfl
theorem EvV.one (x : EvV) : ∀ u ∈ x.cs, u.oneCell' = true := by
  intro u hu; simp only [EvV.cs, List.mem_cons, List.not_mem_nil, or_false] at hu; rcases hu with rfl; rfl
/-- Events as a slice of slices. -/
structure EvsV (w : World) (a : Option Addr) (n c : Nat) (xs : List EvV) : Prop where
  sl : Sl w 1 EvV.cs a n c xs
  ats : ∀ x, x ∈ xs → Sl w 4 AT.cs x.v.a x.v.n x.v.c x.ats
theorem EvsV.ext {w w' : World} {a : Option Addr} {n c : Nat} {xs : List EvV} (h : EvsV w a n c xs) (hx : Ext w w') : EvsV w' a n c xs := ⟨h.sl.ext hx, fun x hm => (h.ats x hm).ext hx⟩
def Evs (w : World) (a : Option Addr) (n c : Nat) (es : List (List AT)) : Prop := ∃ xs : List EvV, xs.map (·.ats) = es ∧ EvsV w a n c xs
theorem Evs.ext {w w' : World} {a : Option Addr} {n c : Nat} {es : List (List AT)} (h : Evs w a n c es) (hx : Ext w w') : Evs w' a n c es := let ⟨xs, e, k⟩ := h; ⟨xs, e, k.ext hx⟩

/-- an entry as data -/
structure ED where
  k : Int
  id : Id
  c : Int
  u : Int
  ts : List T
  es : List (List AT)
/-- The entry's cells and what they lead to. -/
structure EntryIs (w : World) (x : EV) (d : ED) : Prop where
  k : x.k = d.k
  id : x.id = d.id
  c : x.c = d.c
  u : x.u = d.u
  f : Sl w 5 T.cs x.f.a x.f.n x.f.c d.ts
  e : Evs w x.e.a x.e.n x.e.c d.es
theorem EntryIs.ext {w w' : World} {x : EV} {d : ED} (h : EntryIs w x d) (hx : Ext w w') : EntryIs w' x d := ⟨h.k, h.id, h.c, h.u, h.f.ext hx, h.e.ext hx⟩
/-- an entry's cells with its data -/
structure EP where
  x : EV
  d : ED
def EP.cs (p : EP) : List Value := p.x.cs
theorem EP.wid (p : EP) : p.cs.length = 8 := rfl
/-- Entries as a slice, and what each leads to. -/
structure Ents (w : World) (a : Option Addr) (n c : Nat) (ps : List EP) : Prop where
  sl : Sl w 8 EP.cs a n c ps
  is : ∀ p, p ∈ ps → EntryIs w p.x p.d
theorem Ents.ext {w w' : World} {a : Option Addr} {n c : Nat} {ps : List EP} (h : Ents w a n c ps) (hx : Ext w w') : Ents w' a n c ps := ⟨h.sl.ext hx, fun p hp => (h.is p hp).ext hx⟩
theorem Sl.map {α β : Type} {w : World} {sz : Nat} {c : β → List Value} {a : Option Addr} {n cap : Nat} {xs : List α} (g : α → β) (h : Sl w sz (fun x => c (g x)) a n cap xs) (hw : ∀ y, (c y).length = sz) : Sl w sz c a n cap (xs.map g) :=
  ⟨by rw [List.length_map]; exact h.neq, h.len, h.max, h.none, hw, fun k y hk => by
    rw [List.getElem?_map] at hk
    cases hx : xs[k]? with
    | none => rw [hx] at hk; cases hk
    | some x => rw [hx] at hk; cases hk; exact h.at_ k x hx⟩
theorem Ents.evs {w : World} {a : Option Addr} {n c : Nat} {ps : List EP} (h : Ents w a n c ps) : Sl w 8 EV.cs a n c (ps.map (·.x)) := Sl.map (fun p : EP => p.x) h.sl EV.wid
/-- little loads -/
structure Small (d : ED) : Prop where
  ts : d.ts.length ≤ 100
  es : d.es.length ≤ 100
  ats : ∀ e, e ∈ d.es → e.length ≤ 100

theorem Own.mono {α : Type} {w : World} {base base' : Nat} {e : TypeId} {sz : Nat} {c : α → List Value} {aa : Option Addr} {n cap : Nat} {ys : List α} (h : Own w base e sz c aa n cap ys) (hb : base' ≤ base) : Own w base' e sz c aa n cap ys := by
  refine ⟨⟨h.row.1, ?_⟩, h.neq, h.wid⟩
  rcases h.row.2 with hn | ⟨g, cp, cur, hv, hbs, rest⟩
  · exact .inl hn
  · exact .inr ⟨g, cp, cur, hv, Nat.le_trans hb hbs, rest⟩

theorem Own.far {α : Type} {w : World} {base : Nat} {e : TypeId} {sz : Nat} {c : α → List Value} {aa : Option Addr} {n cap : Nat} {ys : List α} (h : Own w base e sz c aa n cap ys) {p : Addr} (hp : p.block < base) (u : Value) : Own (w.setCell p u) base e sz c aa n cap ys :=
  h.keep fun ad ha => Below.heap_setCell w p u _ (by have := (h.lt ad ha).1; omega)
theorem cells1 {w : World} {b o : Nat} {x : EvV} (h : CellsAt w b o x.cs) : w.cell? ⟨b, o, none⟩ = some (.slice x.v.a x.v.n x.v.c) := h 0 _ rfl

/-- Two rows of unlike element types lie in two blocks. -/
theorem Own.ne {α β : Type} {w : World} {base base' : Nat} {e e' : TypeId} {sz sz' : Nat} {c : α → List Value} {c' : β → List Value} {aa bb : Option Addr} {n cap n' cap' : Nat} {ys : List α} {zs : List β}
    (h : Own w base e sz c aa n cap ys) (k : Own w base' e' sz' c' bb n' cap' zs) (hne : e ≠ e') : Dis aa bb := by
  intro x y hx hy he
  subst hx; subst hy
  rcases h.row.2 with ⟨hv, _⟩ | ⟨g, cp, cur, hv, _, hg, _⟩
  · cases hv
  rcases k.row.2 with ⟨hv', _⟩ | ⟨g', cp', cur', hv', _, hg', _⟩
  · cases hv'
  simp only [Value.slice.injEq, Option.some.injEq] at hv hv'
  obtain ⟨rfl, _⟩ := hv
  obtain ⟨rfl, _⟩ := hv'
  simp only at he
  rw [he, hg'] at hg
  injection hg with hg
  injection hg with _ ht
  exact hne ht.symm

theorem Grow.own2 {α β : Type} {w w' : World} {base base' : Nat} {e e' : TypeId} {sz sz' : Nat} {c : α → List Value} {c' : β → List Value} {aa bb : Option Addr} {n cap n' cap' g : Nat} {ys : List α} {zs : List β}
    (hg : Grow w w' aa g) (h : Own w base e sz c aa n cap ys) (k : Own w base' e' sz' c' bb n' cap' zs) (hne : e ≠ e') : Own w' base' e' sz' c' bb n' cap' zs := hg.own k (h.ne k hne)

/-- 'append(nil, xs...)': a copy of what came in, of whatever make. -/
theorem appAll {α : Type} {c : α → List Value} {sz : Nat} {ys : List α} {P : Program} {w : World} {ops : Array Oper} {rest : List Oper} {o : Oper} {a : Act} {Q : Exit → Act → World → Prop} (hgd : o.guard = none) (s x : Operand) (t e : TypeId)
    (ho : o.op = .call { callee := .builtin .append, args := #[s, x], argTypes := #[t, t] })
    (i : TypeInfo) (z : Value) (bytes : Nat) (ht : P.underlying t = some (.slice e)) (hi : P.info? e = some i) (hz : i.zero = some z)
    (hsize : i.size = sz) (hby : i.bytes = bytes) (hzs : z.cells.size = sz) (hsz : 0 < sz)
    (hs : a.eval s = .slice none 0 0) (base : Nat) {sa : Option Addr} {n cap : Nat} (hx : a.eval x = .slice sa n cap) (hS : Sl w sz c sa n cap ys) (h1 : ∀ y, ∀ u ∈ c y, u.oneCell' = true)
    (hn : n * bytes ≤ 140737488355328) (hb0 : 0 < bytes) (hbase : base ≤ w.heap.size)
    (h : ∀ aa cap' w', Own w' base e sz c aa n cap' ys → Ext w w' → (∀ ad, aa = some ad → w.heap.size ≤ ad.block) → wpList P ops Q rest (a.put o.dst (.slice aa n cap')) w') : wpList P ops Q (o :: rest) a w := by
  have nil0 : Own w w.heap.size e sz c none 0 0 ([] : List α) := Own.nil _ _ _ hS.wid
  cases sa with
  | none =>
    have hc := hS.none rfl
    have hl := hS.len
    obtain rfl : cap = 0 := hc
    obtain rfl : n = 0 := by omega
    have hy : ys = [] := List.eq_nil_of_length_eq_zero hS.neq.symm
    subst hy
    refine wpList_append_own_none hgd s x t ho w.heap.size e i sz ht hi (.slice none 0 0) 0 [] hs nil0.row hx ?_
    exact h none 0 w (Own.nil _ _ _ hS.wid) (Ext.refl _) (fun ad ha => by cases ha)
  | some ad =>
    have hbound : n ≤ n * bytes := Nat.le_mul_of_pos_right _ hb0
    have hlen : (ys.flatMap c).length = n * sz := by
      rw [hS.neq]
      have hw := hS.wid
      clear h hx hS hn hbound
      induction ys with
      | nil => simp
      | cons y l ih => rw [List.flatMap_cons, List.length_append, ih, hw, List.length_cons, Nat.add_mul]; omega
    refine wpList_append_own w hgd s x t ho w.heap.size e i z sz bytes ht hi hz hsize hby hzs hsz (.slice none 0 0) 0 [] hs nil0.row ad n cap (ys.flatMap c) hx hlen ?_ ?_ (by simp only [maxLen]; omega) (by rw [Nat.zero_add]; exact hn) (Nat.le_refl _) ?_
    · intro j u hj
      have hj' : j < n * sz := by rw [← hlen]; exact (List.getElem?_eq_some_iff.1 hj).1
      have hk : j / sz < ys.length := by rw [← hS.neq]; exact Nat.div_lt_of_lt_mul (by rw [Nat.mul_comm]; exact hj')
      obtain ⟨b, off, hab, hcells⟩ := hS.get (j / sz) hk
      simp only [Option.some.injEq] at hab
      subst hab
      have hm : j % sz < (c ys[j / sz]).length := by rw [hS.wid]; exact Nat.mod_lt _ hsz
      have hget := flatMap_at hS.wid ys (j / sz) _ (List.getElem?_eq_getElem hk) (j % sz) _ (List.getElem?_eq_getElem hm)
      rw [show j / sz * sz + j % sz = j from by rw [Nat.mul_comm]; exact Nat.div_add_mod j sz, hj] at hget
      have := hcells (j % sz) _ (List.getElem?_eq_getElem hm)
      rw [show off + j / sz * sz + j % sz = off + j from by rw [Nat.add_assoc, Nat.mul_comm, Nat.div_add_mod]] at this
      rw [show (⟨b, off, none⟩ : Addr).add j = ⟨b, off + j, none⟩ from by unfold Addr.add; split <;> simp_all, this]
      exact hget.symm
    · intro u hu
      obtain ⟨y, _, hy⟩ := List.mem_flatMap.1 hu
      exact h1 y u hy
    · intro v' w' hown hgrow hnil
      rw [List.nil_append, Nat.zero_add] at hown
      have hE : Ext w w' := ⟨hgrow.os, hgrow.tape, hgrow.output, hgrow.size, fun k hk => hgrow.block k hk (by simp [Value.ownBlock])⟩
      rcases hown.2 with ⟨rfl, h0⟩ | ⟨g, cp, cur, rfl, hbs, hgg, hrest⟩
      · subst h0
        exact h none 0 w' ((Own.mk hown hS.neq hS.wid).mono hbase) hE (fun ad ha => by cases ha)
      · refine h _ cp w' ((Own.mk hown hS.neq hS.wid).mono hbase) hE (fun ad' ha => ?_)
        cases ha
        exact hbs

/-- An entry whose filter and events the call itself made. -/
structure EntryOwn (w : World) (base : Nat) (x : EV) (d : ED) : Prop where
  k : x.k = d.k
  id : x.id = d.id
  c : x.c = d.c
  u : x.u = d.u
  f : Own w base 97 5 T.cs x.f.a x.f.n x.f.c d.ts
  e : ∃ ys : List EvV, ys.map (·.ats) = d.es ∧ Own w base 88 1 EvV.cs x.e.a x.e.n x.e.c ys ∧ ∀ y, y ∈ ys → Own w base 99 4 AT.cs y.v.a y.v.n y.v.c y.ats
theorem EntryOwn.is {w : World} {base : Nat} {x : EV} {d : ED} (h : EntryOwn w base x d) : EntryIs w x d :=
  let ⟨ys, e, o, a⟩ := h.e; ⟨h.k, h.id, h.c, h.u, h.f.sl, ys, e, o.sl, fun y hy => (a y hy).sl⟩
theorem EntryOwn.ext {w w' : World} {base : Nat} {x : EV} {d : ED} (h : EntryOwn w base x d) (hx : Ext w w') : EntryOwn w' base x d :=
  let ⟨ys, e, o, a⟩ := h.e; ⟨h.k, h.id, h.c, h.u, h.f.ext hx, ys, e, o.ext hx, fun y hy => (a y hy).ext hx⟩
theorem EntryOwn.mono {w : World} {base base' : Nat} {x : EV} {d : ED} (h : EntryOwn w base x d) (hb : base' ≤ base) : EntryOwn w base' x d :=
  let ⟨ys, e, o, a⟩ := h.e; ⟨h.k, h.id, h.c, h.u, h.f.mono hb, ys, e, o.mono hb, fun y hy => (a y hy).mono hb⟩
/-- It stays while another row, of another type, is appended to. -/
theorem EntryOwn.grow {α : Type} {w w' : World} {base base' : Nat} {x : EV} {d : ED} {e : TypeId} {sz : Nat} {c : α → List Value} {aa : Option Addr} {n cap g : Nat} {zs : List α} (h : EntryOwn w base x d) (hg : Grow w w' aa g)
    (hr : Own w base' e sz c aa n cap zs) (h1 : e ≠ 97) (h2 : e ≠ 88) (h3 : e ≠ 99) : EntryOwn w' base x d :=
  let ⟨ys, e, o, a⟩ := h.e
  ⟨h.k, h.id, h.c, h.u, hg.own h.f (hr.ne h.f h1), ys, e, hg.own o (hr.ne o h2), fun y hy => hg.own (a y hy) (hr.ne (a y hy) h3)⟩
end Go.Proofs.Ytncadipipomebaa
