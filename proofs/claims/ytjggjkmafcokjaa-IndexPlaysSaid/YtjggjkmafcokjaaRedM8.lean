/- Whether a test implies another one: the walk of the program's Implies. -/
import Derived.Test.YtjggjkmafcokjaaIs
import Derived.Deep.RegionHeld3
import Derived.Test.YtjggjkmafcokjaaStep
import Derived.Outline
set_option linter.unusedVariables false
set_option linter.unusedSimpArgs false
namespace Go.Proofs.Ytjggjkmafcokjaa
open Go.RowKit

theorem run_eqT (a b : T) (w : World) :
    (binOp .eql 54 (.agg #[.string a.nm, .int .i64 a.op, .int .i64 a.k, .int .i64 a.n, .string a.s]) (.agg #[.string b.nm, .int .i64 b.op, .int .i64 b.k, .int .i64 b.n, .string b.s])).run Try.prog w = .ok (.bool (decide (a.ts = b.ts))) w := by
  have e : (a.ts = b.ts) ↔ (a.nm.toList = b.nm.toList ∧ a.op = b.op ∧ a.k = b.k ∧ a.n = b.n ∧ a.s.toList = b.s.toList) := by simp [T.ts, T.v]
  have e' : decide (a.ts = b.ts) = decide (a.nm.toList = b.nm.toList ∧ a.op = b.op ∧ a.k = b.k ∧ a.n = b.n ∧ a.s.toList = b.s.toList) := decide_eq_decide.2 e
  rw [e']
  clear e e'
  by_cases h1 : a.nm.toList = b.nm.toList
  · by_cases h2 : a.op = b.op
    · by_cases h3 : a.k = b.k
      · by_cases h4 : a.n = b.n
        · by_cases h5 : a.s.toList = b.s.toList
          · simp [h1, h2, h3, h4, h5, go_sem]
          · simp [h1, h2, h3, h4, h5, go_sem]
        · simp [h1, h2, h3, h4, go_sem]
      · simp [h1, h2, h3, go_sem]
    · simp [h1, h2, go_sem]
  · simp [h1, go_sem]
theorem imp_eq (a b : T) : impT a.ts b.ts = (decide (a.nm.toList = b.nm.toList) && known a.op && known b.op && (decide (a.ts = b.ts) || decide (b.op = 8) || (!decide (a.op = 8) && decide (a.k = b.k) && pairV a.op a.v b.op b.v))) := rfl
theorem known_ops {op : Int} (h : known op = true) (h8 : op ≠ 8) : op = 1 ∨ op = 2 ∨ op = 3 ∨ op = 4 ∨ op = 5 ∨ op = 6 ∨ op = 7 := by
  unfold known at h; have := of_decide_eq_true h; omega
theorem pairV_2 (a : Vl) (op' : Int) (b : Vl) : pairV 2 a op' b = false := rfl
end Go.Proofs.Ytjggjkmafcokjaa

namespace Go.Proofs.Ytjggjkmafcokjaa
open Go.RowKit

/-- whether one filter matches all that another one does, as far as tests tell -/
def cov (f g : List T) : Bool := f.all fun t => g.any fun b => impT b.ts t.ts
theorem cov_take {f g : List T} {k : Nat} (hk : k < f.length) (h : cov (f.take k) g = true) (he : g.any (fun b => impT b.ts f[k].ts) = true) : cov (f.take (k + 1)) g = true := by
  unfold cov at *; rw [List.take_succ_eq_append_getElem hk, List.all_append, h]; simpa using he
theorem cov_no {f g : List T} {k : Nat} (hk : k < f.length) (he : g.any (fun b => impT b.ts f[k].ts) = false) : false = cov f g := by
  unfold cov
  rw [eq_comm, List.all_eq_false]
  exact ⟨f[k], List.getElem_mem hk, by rw [he]; decide⟩
end Go.Proofs.Ytjggjkmafcokjaa

namespace Go.Proofs.Ytjggjkmafcokjaa
open Go.RowKit

theorem infoT : (Try.prog.info? 54).map (fun i => (i.zero, i.size, i.bytes)) = some (some (.agg #[.string ⟨#[]⟩, .int .i64 0, .int .i64 0, .int .i64 0, .string ⟨#[]⟩]), 5, 56) := by kernel_rfl
/-- A result that is a slice of the call's own. -/
def RetOwn {α : Type} (e : TypeId) (sz : Nat) (c : α → List Value) (xs : List α) (w : World) (r : Ending) (w' : World) : Prop :=
  ∃ aa n cap, r = .returned (.slice aa n cap) ∧ Own w' w.heap.size e sz c aa n cap xs ∧ Ext w w'
theorem clone_any (a : Option Addr) (n cap : Nat) (xs : List T) (w : World) (hS : Sl w 5 T.cs a n cap xs) (hn : n ≤ 1000000) :
    Calls Try.prog 28 #[.slice a n cap] w (RetOwn 54 5 T.cs xs w) := by
  obtain ⟨i0, hi, hz0, hz1, hz2⟩ := info_parts infoT
  have I1 := hid hi
  have I2 := hid hz0
  have I3 := hid hz1
  have I4 := hid hz2
  have hneq := hid hS.neq
  have hl := hS.len
  have hm := hS.max
  unfold maxLen at hm
  have HS := hid hS
  clear hS hi hz0 hz1 hz2
  have hnil := @Lib.run_eql_slice_nil Try.prog
  cases a with
  | none =>
    have hc := HS.out.none rfl
    obtain rfl : cap = 0 := hc
    obtain rfl : n = 0 := by omega
    have hx : xs = [] := List.eq_nil_of_length_eq_zero hneq.out.symm
    subst hx
    go_enter Try.func28, Try.ntmps28
    go_wp2
    go_ret
    exact ⟨none, 0, 0, rfl, Own.nil _ _ _ T.wid, (by (repeat (first | exact Ext.refl _ | refine Ext.alloc ?_ _ | refine Ext.drewN ?_ _ | refine Ext.drew ?_ | refine Ext.trans ?_ (Hid.out (by assumption)))))⟩
  | some ad =>
    go_enter Try.func28, Try.ntmps28
    go_wp2_with (at_builtin; refine wpList_plain rfl fun KK hKK => ?_; refine wpOn (c := T.cs) (ys0 := []) (ys := xs) _ _ 32 54 rfl i0 _ 56 Try.underlying32 I1.out I2.out I3.out I4.out rfl (by decide) rfl w (by (repeat (first | exact Ext.refl _ | refine Ext.alloc ?_ _ | refine Ext.drewN ?_ _ | refine Ext.drew ?_ | refine Ext.trans ?_ (Hid.out (by assumption))))) (Own.empty (by (repeat (first | (refine heap_new ?_; (simp; done)) | refine heap_old (by first | (simp; done) | (simp; omega)) ?_))) (by simp) T.wid) rfl (HS.out.ext (by (repeat (first | exact Ext.refl _ | refine Ext.alloc ?_ _ | refine Ext.drewN ?_ _ | refine Ext.drew ?_ | refine Ext.trans ?_ (Hid.out (by assumption)))))) T.one (by omega) (by decide) ?_; intro bb n1 cap1 w6 hn1 hown1 hx hg1; refine hKK _ _ ?_; have HO1 := hid hown1; have hy := hid hx; have HN1 := hid hn1; clear hown1 hx hg1 hn1)
    go_ret
    exact ⟨bb, n1, cap1, rfl, HO1.out, hy.out⟩
end Go.Proofs.Ytjggjkmafcokjaa

namespace Go.Proofs.Ytjggjkmafcokjaa
open Go.RowKit

/-- a slice's value -/
structure SV where
  a : Option Addr
  n : Nat
  c : Nat
/-- a filter: its slice's value, its tests -/
structure FV where
  v : SV
  ts : List T
def FV.cs (x : FV) : List Value := [.slice x.v.a x.v.n x.v.c]
theorem FV.wid (x : FV) : x.cs.length = 1 := rfl
theorem FV.one (x : FV) : ∀ u ∈ x.cs, u.oneCell' = true := by
  intro u hu; simp only [FV.cs, List.mem_cons, List.not_mem_nil, or_false] at hu; rcases hu with rfl; rfl
theorem cellsF {w : World} {b o : Nat} {x : FV} (h : CellsAt w b o x.cs) : w.cell? ⟨b, o, none⟩ = some (.slice x.v.a x.v.n x.v.c) := h 0 _ rfl
/-- Filters as a slice of slices. -/
structure Flts (w : World) (a : Option Addr) (n c : Nat) (xs : List FV) : Prop where
  sl : Sl w 1 FV.cs a n c xs
  ts : ∀ x, x ∈ xs → Sl w 5 T.cs x.v.a x.v.n x.v.c x.ts
theorem Flts.ext {w w' : World} {a : Option Addr} {n c : Nat} {xs : List FV} (h : Flts w a n c xs) (hx : Ext w w') : Flts w' a n c xs := ⟨h.sl.ext hx, fun x hm => (h.ts x hm).ext hx⟩
/-- filters without those that others cover: what is kept already, what is still to come -/
def red : List (List T) → List (List T) → List (List T)
  | out, [] => out
  | out, f :: rest => if (out.any (fun g => cov g f) || rest.any (fun g => cov g f)) = true then red out rest else red (out ++ [f]) rest
theorem red_drop {out l : List (List T)} {k : Nat} (hk : k < l.length) : red out (l.drop k) = if (out.any (fun g => cov g l[k]) || (l.drop (k + 1)).any (fun g => cov g l[k])) = true then red out (l.drop (k + 1)) else red (out ++ [l[k]]) (l.drop (k + 1)) := by
  rw [List.drop_eq_getElem_cons hk]; rfl
theorem infoF : (Try.prog.info? 32).map (fun i => (i.zero, i.size, i.bytes)) = some (some (.slice none 0 0), 1, 24) := by kernel_rfl
/-- Filters that a call itself made. -/
structure FOwn (w : World) (base : Nat) (a : Option Addr) (n c : Nat) (ys : List FV) : Prop where
  sl : Own w base 32 1 FV.cs a n c ys
  ts : ∀ y, y ∈ ys → Own w base 54 5 T.cs y.v.a y.v.n y.v.c y.ts
theorem FOwn.ext {w w' : World} {base : Nat} {a : Option Addr} {n c : Nat} {ys : List FV} (h : FOwn w base a n c ys) (hx : Ext w w') : FOwn w' base a n c ys := ⟨h.sl.ext hx, fun y hy => (h.ts y hy).ext hx⟩
theorem FOwn.flts {w : World} {base : Nat} {a : Option Addr} {n c : Nat} {ys : List FV} (h : FOwn w base a n c ys) : Flts w a n c ys := ⟨h.sl.sl, fun y hy => (h.ts y hy).sl⟩
/-- A result that is filters of the call's own. -/
def RetF (fs : List (List T)) (w : World) (e : Ending) (w' : World) : Prop :=
  ∃ aa n c ys, e = .returned (.slice aa n c) ∧ FOwn w' w.heap.size aa n c ys ∧ ys.map (·.ts) = fs ∧ Ext w w'
theorem any_ts {ys : List FV} {f : List T} : (ys.map (·.ts)).any (fun g => cov g f) = ys.any (fun y => cov y.ts f) := by rw [List.any_map]; rfl
theorem any_true {ys : List FV} {p : FV → Bool} {j : Nat} (hj : j < ys.length) (h : p ys[j] = true) : ys.any p = true := List.any_eq_true.2 ⟨_, List.getElem_mem hj, h⟩
theorem red_skip {out l R f : List (List T)} {c : Bool} {x : List (List T)} (h : red out x = R) (hd : red out x = if c = true then red out l else red f l) (hc : c = true) : red out l = R := by
  rw [hd, if_pos hc] at h; exact h
theorem red_take {out l R f : List (List T)} {c : Bool} {x : List (List T)} (h : red out x = R) (hd : red out x = if c = true then red out l else red f l) (hc : c = false) : red f l = R := by
  rw [hd, if_neg (by rw [hc]; decide)] at h; exact h
theorem any_at {l : List (List T)} {f : List T} {j : Nat} (hj : j < l.length) (h : cov l[j] f = true) : l.any (fun g => cov g f) = true := List.any_eq_true.2 ⟨_, List.getElem_mem hj, h⟩
end Go.Proofs.Ytjggjkmafcokjaa

namespace Go.Proofs.Ytjggjkmafcokjaa

theorem cov_iff {f g : List T} : cov f g = true ↔ ∀ t, t ∈ f → ∃ b, b ∈ g ∧ impT b.ts t.ts = true := by
  unfold cov; rw [List.all_eq_true]
  exact ⟨fun h t ht => List.any_eq_true.1 (h t ht), fun h t ht => List.any_eq_true.2 (h t ht)⟩
/-- filters whose tests may be -/
def okF (f : List T) : Prop := ∀ t, t ∈ f → t.ts.ok
theorem cov_refl {f : List T} (h : okF f) : cov f f = true := cov_iff.2 fun t ht => ⟨t, ht, imp_self (h t ht)⟩
theorem cov_trans {f g h : List T} (hf : okF f) (hg : okF g) (hh : okF h) (a : cov f g = true) (b : cov g h = true) : cov f h = true := cov_iff.2 fun t ht => by
  obtain ⟨u, hu, i⟩ := cov_iff.1 a t ht
  obtain ⟨v, hv, j⟩ := cov_iff.1 b u hu
  exact ⟨v, hv, imp_trans (hh v hv) (hg u hu) (hf t ht) j i⟩
theorem cov_nil (f : List T) : cov [] f = true := rfl
theorem cov_mono {f g : List T} (h : okF f) (hs : ∀ t, t ∈ f → t ∈ g) : cov f g = true := cov_iff.2 fun t ht => ⟨t, hs t ht, imp_self (h t ht)⟩
theorem cov_to_nil {g : List T} (h : g ≠ []) : cov g [] = false := by
  cases g with
  | nil => exact absurd rfl h
  | cons t g => rfl
theorem red_first {l2 : List (List T)} : ∀ (l1 out : List (List T)), (∀ f, f ∈ l1 → cov f f = true ∧ f ∈ l2) → red out (l1 ++ l2) = red out l2
  | [], _, _ => rfl
  | f :: l1, out, h => by
    obtain ⟨h1, h2⟩ := h f (List.mem_cons_self ..)
    have ha : (l1 ++ l2).any (fun g => cov g f) = true := List.any_eq_true.2 ⟨f, List.mem_append_right _ h2, h1⟩
    rw [List.cons_append, red, if_pos (by rw [ha, Bool.or_true])]
    exact red_first l1 out fun g hg => h g (List.mem_cons_of_mem _ hg)
theorem red_twice {l : List (List T)} (h : ∀ f, f ∈ l → okF f) : red [] (l ++ l) = red [] l := red_first l [] fun f hf => ⟨cov_refl (h f hf), hf⟩
theorem red_behind : ∀ (l : List (List T)), red [[]] l = [[]]
  | [] => rfl
  | f :: l => by rw [red, if_pos (by simp [cov_nil])]; exact red_behind l
theorem red_empty : ∀ (l : List (List T)), [] ∈ l → red [] l = [[]]
  | [], h => by cases h
  | f :: l, h => by
    by_cases hl : [] ∈ l
    · rw [red, if_pos (by rw [List.any_eq_true.2 ⟨[], hl, cov_nil f⟩, Bool.or_true])]; exact red_empty l hl
    · have hf : f = [] := by
        rcases List.mem_cons.1 h with h | h
        · exact h.symm
        · exact absurd h hl
      subst hf
      have hn : l.any (fun g => cov g []) = false := by
        rw [List.any_eq_false]
        intro g hg
        rw [cov_to_nil (fun e => hl (by rw [← e]; exact hg))]; decide
      rw [red, hn]
      exact red_behind l
theorem red_one (f : List T) : red [] [f] = [f] := rfl
end Go.Proofs.Ytjggjkmafcokjaa

