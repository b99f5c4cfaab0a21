/- Filters that others do not cover: the walk of the program's Reduce. -/
import Derived.Test.YtjggjkmafcokjaaRed
import Derived.Outline
set_option linter.unusedVariables false
set_option linter.unusedSimpArgs false
namespace Go.Proofs.Ytjggjkmafcokjaa
open Go.RowKit

/-- a slice's value -/
structure SV where
  a : Option Addr
  n : Nat
  c : Nat
/-- a filter: its slice's value, its tests -/
structure FV where
  v : SV
  ts : List T
def FV.cs (x : FV) : List Value := [.slice x.v.a x.v.n x.v.c]
theorem FV.wid (x : FV) : x.cs.length = 1 := rfl
theorem FV.one (x : FV) : ∀ u ∈ x.cs, u.oneCell' = true := by
  intro u hu; simp only [FV.cs, List.mem_cons, List.not_mem_nil, or_false] at hu; rcases hu with rfl; rfl
theorem cellsF {w : World} {b o : Nat} {x : FV} (h : CellsAt w b o x.cs) : w.cell? ⟨b, o, none⟩ = some (.slice x.v.a x.v.n x.v.c) := h 0 _ rfl
/-- Filters as a slice of slices. -/
structure Flts (w : World) (a : Option Addr) (n c : Nat) (xs : List FV) : Prop where
  sl : Sl w 1 FV.cs a n c xs
  ts : ∀ x, x ∈ xs → Sl w 5 T.cs x.v.a x.v.n x.v.c x.ts
theorem Flts.ext {w w' : World} {a : Option Addr} {n c : Nat} {xs : List FV} (h : Flts w a n c xs) (hx : Ext w w') : Flts w' a n c xs := ⟨h.sl.ext hx, fun x hm => (h.ts x hm).ext hx⟩
/-- filters without those that others cover: what is kept already, what is still to come -/
def red : List (List T) → List (List T) → List (List T)
  | out, [] => out
  | out, f :: rest => if (out.any (fun g => cov g f) || rest.any (fun g => cov g f)) = true then red out rest else red (out ++ [f]) rest
theorem red_drop {out l : List (List T)} {k : Nat} (hk : k < l.length) : red out (l.drop k) = if (out.any (fun g => cov g l[k]) || (l.drop (k + 1)).any (fun g => cov g l[k])) = true then red out (l.drop (k + 1)) else red (out ++ [l[k]]) (l.drop (k + 1)) := by
  rw [List.drop_eq_getElem_cons hk]; rfl
theorem infoF : (Try.prog.info? 32).map (fun i => (i.zero, i.size, i.bytes)) = some (some (.slice none 0 0), 1, 24) := by kernel_rfl
/-- Filters that a call itself made. -/
structure FOwn (w : World) (base : Nat) (a : Option Addr) (n c : Nat) (ys : List FV) : Prop where
  sl : Own w base 32 1 FV.cs a n c ys
  ts : ∀ y, y ∈ ys → Own w base 54 5 T.cs y.v.a y.v.n y.v.c y.ts
theorem FOwn.ext {w w' : World} {base : Nat} {a : Option Addr} {n c : Nat} {ys : List FV} (h : FOwn w base a n c ys) (hx : Ext w w') : FOwn w' base a n c ys := ⟨h.sl.ext hx, fun y hy => (h.ts y hy).ext hx⟩
theorem FOwn.flts {w : World} {base : Nat} {a : Option Addr} {n c : Nat} {ys : List FV} (h : FOwn w base a n c ys) : Flts w a n c ys := ⟨h.sl.sl, fun y hy => (h.ts y hy).sl⟩
/-- A result that is filters of the call's own. -/
def RetF (fs : List (List T)) (w : World) (e : Ending) (w' : World) : Prop :=
  ∃ aa n c ys, e = .returned (.slice aa n c) ∧ FOwn w' w.heap.size aa n c ys ∧ ys.map (·.ts) = fs ∧ Ext w w'
theorem any_ts {ys : List FV} {f : List T} : (ys.map (·.ts)).any (fun g => cov g f) = ys.any (fun y => cov y.ts f) := by rw [List.any_map]; rfl
theorem any_true {ys : List FV} {p : FV → Bool} {j : Nat} (hj : j < ys.length) (h : p ys[j] = true) : ys.any p = true := List.any_eq_true.2 ⟨_, List.getElem_mem hj, h⟩
theorem red_skip {out l R f : List (List T)} {c : Bool} {x : List (List T)} (h : red out x = R) (hd : red out x = if c = true then red out l else red f l) (hc : c = true) : red out l = R := by
  rw [hd, if_pos hc] at h; exact h
theorem red_take {out l R f : List (List T)} {c : Bool} {x : List (List T)} (h : red out x = R) (hd : red out x = if c = true then red out l else red f l) (hc : c = false) : red f l = R := by
  rw [hd, if_neg (by rw [hc]; decide)] at h; exact h
theorem any_at {l : List (List T)} {f : List T} {j : Nat} (hj : j < l.length) (h : cov l[j] f = true) : l.any (fun g => cov g f) = true := List.any_eq_true.2 ⟨_, List.getElem_mem hj, h⟩
end Go.Proofs.Ytjggjkmafcokjaa
