/- Entries as data, and how memory bears them. -/
import Derived.Test.YtiifflojpoobpaaGreatReduce
import Derived.Test.YtiifflojpoobpaaGreatStep
set_option linter.unusedVariables false
set_option linter.unusedSimpArgs false
namespace Go.Proofs.YtiifflojpoobpaaGreat
open Go.RowKit

structure Id where
  b : Int
  l : Int
  s : Int
deriving DecidableEq, Inhabited
def Id.cs (i : Id) : List Value := [.int .i64 i.b, .int .u64 i.l, .int .u64 i.s]
structure EV where
  k : Int
  id : Id
  c : Int
  u : Int
  f : SV
  e : SV
def EV.cs (x : EV) : List Value := [.int .i64 x.k, .int .i64 x.id.b, .int .u64 x.id.l, .int .u64 x.id.s, .int .i64 x.c, .int .u64 x.u, .slice x.f.a x.f.n x.f.c, .slice x.e.a x.e.n x.e.c]

theorem EV.wid (x : EV) : x.cs.length = 8 := rfl
theorem EV.one (x : EV) : ∀ u ∈ x.cs, u.oneCell' = true := by
  intro u hu; simp only [EV.cs, List.mem_cons, List.not_mem_nil, or_false] at hu; rcases hu with rfl | rfl | rfl | rfl | rfl | rfl | rfl | rfl <;> rfl

/-- an event: its slice's value, its attributes -/
structure EvV where
  v : SV
  ats : List AT
def EvV.cs (x : EvV) : List Value := [.slice x.v.a x.v.n x.v.c]
theorem EvV.wid (x : EvV) : x.cs.length = 1 := rfl
theorem EvV.one (x : EvV) : ∀ u ∈ x.cs, u.oneCell' = true := by
  intro u hu; simp only [EvV.cs, List.mem_cons, List.not_mem_nil, or_false] at hu; rcases hu with rfl; rfl
/-- Events as a slice of slices. -/
structure EvsV (w : World) (a : Option Addr) (n c : Nat) (xs : List EvV) : Prop where
  sl : Sl w 1 EvV.cs a n c xs
  ats : ∀ x, x ∈ xs → Sl w 4 AT.cs x.v.a x.v.n x.v.c x.ats
theorem EvsV.ext {w w' : World} {a : Option Addr} {n c : Nat} {xs : List EvV} (h : EvsV w a n c xs) (hx : Ext w w') : EvsV w' a n c xs := ⟨h.sl.ext hx, fun x hm => (h.ats x hm).ext hx⟩
def Evs (w : World) (a : Option Addr) (n c : Nat) (es : List (List AT)) : Prop := ∃ xs : List EvV, xs.map (·.ats) = es ∧ EvsV w a n c xs
theorem Evs.ext {w w' : World} {a : Option Addr} {n c : Nat} {es : List (List AT)} (h : Evs w a n c es) (hx : Ext w w') : Evs w' a n c es := let ⟨xs, e, k⟩ := h; ⟨xs, e, k.ext hx⟩

/-- an entry as data -/
structure ED where
  k : Int
  id : Id
  c : Int
  u : Int
  ts : List T
  es : List (List AT)
/-- The entry's cells and what they lead to. -/
structure EntryIs (w : World) (x : EV) (d : ED) : Prop where
  k : x.k = d.k
  id : x.id = d.id
  c : x.c = d.c
  u : x.u = d.u
  f : Sl w 5 T.cs x.f.a x.f.n x.f.c d.ts
  e : Evs w x.e.a x.e.n x.e.c d.es
theorem EntryIs.ext {w w' : World} {x : EV} {d : ED} (h : EntryIs w x d) (hx : Ext w w') : EntryIs w' x d := ⟨h.k, h.id, h.c, h.u, h.f.ext hx, h.e.ext hx⟩
/-- an entry's cells with its data -/
structure EP where
  x : EV
  d : ED
def EP.cs (p : EP) : List Value := p.x.cs
theorem EP.wid (p : EP) : p.cs.length = 8 := rfl
/-- Entries as a slice, and what each leads to. -/
structure Ents (w : World) (a : Option Addr) (n c : Nat) (ps : List EP) : Prop where
  sl : Sl w 8 EP.cs a n c ps
  is : ∀ p, p ∈ ps → EntryIs w p.x p.d
theorem Ents.ext {w w' : World} {a : Option Addr} {n c : Nat} {ps : List EP} (h : Ents w a n c ps) (hx : Ext w w') : Ents w' a n c ps := ⟨h.sl.ext hx, fun p hp => (h.is p hp).ext hx⟩
theorem Sl.map {α β : Type} {w : World} {sz : Nat} {c : β → List Value} {a : Option Addr} {n cap : Nat} {xs : List α} (g : α → β) (h : Sl w sz (fun x => c (g x)) a n cap xs) (hw : ∀ y, (c y).length = sz) : Sl w sz c a n cap (xs.map g) :=
  ⟨by rw [List.length_map]; exact h.neq, h.len, h.max, h.none, hw, fun k y hk => by
    rw [List.getElem?_map] at hk
    cases hx : xs[k]? with
    | none => rw [hx] at hk; cases hk
    | some x => rw [hx] at hk; cases hk; exact h.at_ k x hx⟩
theorem Ents.evs {w : World} {a : Option Addr} {n c : Nat} {ps : List EP} (h : Ents w a n c ps) : Sl w 8 EV.cs a n c (ps.map (·.x)) := Sl.map (fun p : EP => p.x) h.sl EV.wid
/-- little loads -/
structure Small (d : ED) : Prop where
  ts : d.ts.length ≤ 100
  es : d.es.length ≤ 100
  ats : ∀ e, e ∈ d.es → e.length ≤ 100

theorem cells1 {w : World} {b o : Nat} {x : EvV} (h : CellsAt w b o x.cs) : w.cell? ⟨b, o, none⟩ = some (.slice x.v.a x.v.n x.v.c) := h 0 _ rfl

end Go.Proofs.YtiifflojpoobpaaGreat
