/- Scripts of calls to an index: their data; one more filter, one less; is a call's load little? -/
import Derived.Test.YtjggjkmafcokjaaDrop8
import Derived.Test.YtjggjkmafcokjaaMatL8
import Derived.Test.YtjggjkmafcokjaaLawM8
import Derived.Test.YtjggjkmafcokjaaFewD
set_option linter.unusedVariables false
set_option linter.unusedSimpArgs false
namespace Go.Proofs.Ytjggjkmafcokjaa
open Go.RowKit

/-- a call: its kind, its number, its filter's and its event's slice, and what these hold -/
structure CallV where
  k : Int
  id : Int
  f : SV
  ts : List T
  e : SV
  es : List AT
def CallV.cs (x : CallV) : List Value := [.int .i64 x.k, .int .u64 x.id, .slice x.f.a x.f.n x.f.c, .slice x.e.a x.e.n x.e.c]
theorem CallV.wid (x : CallV) : x.cs.length = 4 := rfl
theorem CallV.one (x : CallV) : ∀ u ∈ x.cs, u.oneCell' = true := by
  intro u hu
  simp only [CallV.cs, List.mem_cons, List.not_mem_nil, or_false] at hu
  rcases hu with rfl | rfl | rfl | rfl <;> rfl
theorem cellsC {w : World} {b o : Nat} {x : CallV} (h : CellsAt w b o x.cs) : w.cell? ⟨b, o, none⟩ = some (.int .i64 x.k) ∧ w.cell? ⟨b, o + 1, none⟩ = some (.int .u64 x.id) ∧ w.cell? ⟨b, o + 2, none⟩ = some (.slice x.f.a x.f.n x.f.c) ∧ w.cell? ⟨b, o + 3, none⟩ = some (.slice x.e.a x.e.n x.e.c) :=
  ⟨h 0 _ rfl, h 1 _ rfl, h 2 _ rfl, h 3 _ rfl⟩
/-- what a call's row tells -/
structure CallOk (w : World) (x : CallV) : Prop where
  u : U64 x.id
  f : Sl w 5 T.cs x.f.a x.f.n x.f.c x.ts
  e : Sl w 4 AT.cs x.e.a x.e.n x.e.c x.es
theorem CallOk.ext {w w' : World} {x : CallV} (h : CallOk w x) (hx : Ext w w') : CallOk w' x := ⟨h.u, h.f.ext hx, h.e.ext hx⟩
structure Script (w : World) (a : Option Addr) (n c : Nat) (xs : List CallV) : Prop where
  sl : Sl w 4 CallV.cs a n c xs
  it : ∀ x, x ∈ xs → CallOk w x
/-- a call's load that is little -/
def LittleC (x : CallV) : Prop := x.ts.length ≤ 10 ∧ x.es.length ≤ 20 ∧ ∀ a, a ∈ x.es → a.nm.size ≤ 100
def RetSmall (x : CallV) (w : World) (e : Ending) (w' : World) : Prop := ∃ K : Bool, e = .returned (.bool K) ∧ (K = true → LittleC x) ∧ Ext w w'
set_option maxRecDepth 100000 in
set_option maxHeartbeats 1000000 in
theorem small_any (x : CallV) (w : World) (h : CallOk w x) : Calls Try.prog 11 #[.agg #[.int .i64 x.k, .int .u64 x.id, .slice x.f.a x.f.n x.f.c, .slice x.e.a x.e.n x.e.c]] w (RetSmall x w) := by
  have H := hid h
  clear h
  go_enter Try.func11, Try.ntmps11
  go_wp2_with fail
  refine (few05_any _ _ _ x.ts _ (H.out.f.ext (by (repeat (first | exact Ext.refl _ | refine Ext.alloc ?_ _ | refine Ext.drewN ?_ _ | refine Ext.drew ?_ | refine Ext.trans ?_ (Hid.out (by assumption))))))).mono ?_
  rintro e w1 ⟨f5, rfl, hf5, hb⟩
  have HF5 := hid hf5
  have hx1 := hid hb
  clear hf5 hb
  have c3 : w1.cell? ⟨w.heap.size, 3, none⟩ = some (.slice x.e.a x.e.n x.e.c) := hx1.out.keep (cellH (heap_alloc_new _ _) rfl)
  go_wp2_with fail
  refine (few04n_any _ _ _ x.es _ (H.out.e.ext (by (repeat (first | exact Ext.refl _ | refine Ext.alloc ?_ _ | refine Ext.drewN ?_ _ | refine Ext.drew ?_ | refine Ext.trans ?_ (Hid.out (by assumption))))))).mono ?_
  rintro e w2 ⟨f4, rfl, hf4, hb⟩
  have HF4 := hid hf4
  have hx2 := hid hb
  clear hf4 hb
  cases f5 with
  | false =>
    go_wp2
    go_ret
    exact ⟨false, rfl, (fun h => by cases h), (by (repeat (first | exact Ext.refl _ | refine Ext.alloc ?_ _ | refine Ext.drewN ?_ _ | refine Ext.drew ?_ | refine Ext.trans ?_ (Hid.out (by assumption)))))⟩
  | true =>
    cases f4 with
    | false =>
      go_wp2
      go_ret
      exact ⟨false, rfl, (fun h => by cases h), (by (repeat (first | exact Ext.refl _ | refine Ext.alloc ?_ _ | refine Ext.drewN ?_ _ | refine Ext.drew ?_ | refine Ext.trans ?_ (Hid.out (by assumption)))))⟩
    | true =>
      have HL := hid (show LittleC x from ⟨HF5.out rfl, (HF4.out rfl).1, (HF4.out rfl).2⟩)
      go_wp2
      go_ret
      exact ⟨true, rfl, (fun _ => HL.out), (by (repeat (first | exact Ext.refl _ | refine Ext.alloc ?_ _ | refine Ext.drewN ?_ _ | refine Ext.drew ?_ | refine Ext.trans ?_ (Hid.out (by assumption)))))⟩
/-- all filters of an index may be -/
def FdOk (fd : Int → Option (List T)) : Prop := ∀ id ts, fd id = some ts → chkB ts = true
theorem FdOk.none : FdOk (fun _ => none) := fun id ts h => by cases h
theorem FdOk.put {fd : Int → Option (List T)} (h : FdOk fd) {id : Int} {ts : List T} (hc : chkB ts = true) : FdOk (fun k => if k = id then some ts else fd k) := fun k us e => by
  dsimp only at e
  split at e
  · cases e; exact hc
  · exact h k us e
theorem FdOk.del {fd : Int → Option (List T)} (h : FdOk fd) {id : Int} : FdOk (fun k => if k = id then Option.none else fd k) := fun k us e => by
  dsimp only at e
  split at e
  · cases e
  · exact h k us e
theorem FdOk.ts {fd : Int → Option (List T)} (h : FdOk fd) : ∀ id ts, fd id = some ts → ts.length ≤ 1000 := fun id ts e => by
  have := (chk_ok (h id ts e)).1
  omega
section
variable {base p m s : Nat} {fd : Int → Option (List T)} {own : Nat → Option Lab}
/-- what an Add leaves, whatever it answers -/
def RetAddL (base p m : Nat) (fd : Int → Option (List T)) (s : Nat) (own : Nat → Option Lab) (w : World) (e : Ending) (w' : World) : Prop :=
  ∃ (v : Int) (fd' : Int → Option (List T)) (s' : Nat) (own' : Nat → Option Lab), e = .returned (.int .i64 v) ∧ s' ≤ s + 1 ∧ (FdOk fd → FdOk fd') ∧ Ix w' base p (m + 17) fd' s' own' ∧ Chg own w w' ∧ Fresh own own' w
theorem addL_any (id : Int) (a : Option Addr) (n c : Nat) (ts : List T) (w : World) (hU : U64 id) (hS : Sl w 5 T.cs a n c ts) (hA : ∀ ad, a = some ad → ts ≠ [] → own ad.block = none) (h : Ix w base p m fd s own) (hbase : base ≤ w.heap.size) (hs : s < 500) (hm : m ≤ 1000000) :
    Calls Try.prog 12 #[.pointer (some ⟨p, 0, none⟩), .int .u64 id, .slice a n c] w (RetAddL base p m fd s own w) := by
  cases hc : chkB ts with
  | false =>
    refine (add_bad p id a n c ts w hS hc).mono ?_
    rintro e w' ⟨rfl, hx⟩
    exact ⟨50, fd, s, own, rfl, by omega, fun h => h, ix_mono (ix_ext h hx) (by omega), Chg.of hx, Fresh.refl _ _⟩
  | true =>
    cases hd : fd id with
    | some us =>
      obtain ⟨bF, bT, sT, fF, fT, hB⟩ := h
      refine (add_dup id a n c ts w hU hS hc hB (.inl (by rw [hd]; rfl))).mono ?_
      rintro e w' ⟨rfl, hx⟩
      exact ⟨80, fd, s, own, rfl, by omega, fun h => h, ix_mono (ix_ext ⟨bF, bT, sT, fF, fT, hB⟩ hx) (by omega), Chg.of hx, Fresh.refl _ _⟩
    | none =>
      refine (add_ok id a n c ts w hU hS hA hc h hbase hd hs hm).mono ?_
      rintro e w' ⟨own', rfl, hI, hC, hF⟩
      exact ⟨0, _, s + 1, own', rfl, Nat.le_refl _, fun h => h.put hc, hI, hC, hF⟩
/-- what a Drop leaves, whatever it answers -/
def RetDropL (base p m : Nat) (fd : Int → Option (List T)) (s : Nat) (own : Nat → Option Lab) (w : World) (e : Ending) (w' : World) : Prop :=
  ∃ (v : Int) (fd' : Int → Option (List T)) (s' : Nat), e = .returned (.int .i64 v) ∧ s' ≤ s ∧ (FdOk fd → FdOk fd') ∧ Ix w' base p m fd' s' own ∧ Chg own w w'
theorem dropL_any (id : Int) (w : World) (hU : U64 id) (h : Ix w base p m fd s own) (hf : FdOk fd) :
    Calls Try.prog 14 #[.pointer (some ⟨p, 0, none⟩), .int .u64 id] w (RetDropL base p m fd s own w) := by
  cases hd : fd id with
  | none =>
    refine (drop_unknown id w hU h hd).mono ?_
    rintro e w' ⟨rfl, hx⟩
    exact ⟨80, fd, s, rfl, Nat.le_refl _, fun h => h, ix_ext h hx, Chg.of hx⟩
  | some ts =>
    refine (drop_ok id ts w hU (hf id ts hd) h hd).mono ?_
    rintro e w' ⟨rfl, hI, hC⟩
    exact ⟨0, _, s - 1, rfl, Nat.sub_le _ _, fun h => h.del, hI, hC⟩
end
/-- one block alone -/
noncomputable def only (g : Nat) : Nat → Option Lab := fun b => if b = g then some .P else none
theorem only_none {g b : Nat} (h : b ≠ g) : only g b = Option.none := if_neg h
theorem Chg.set {g : Nat} {w w' : World} (h : Chg (only g) w w') (o : Nat) (v : Value) : Chg (only g) w (w'.setCell ⟨g, o, .none⟩ v) := by
  have hb := Below.setCell (B := 0) (Below.refl 0 w') (p := ⟨g, o, .none⟩) (Nat.zero_le _) v
  refine ⟨hb.os.trans h.os, hb.tape.trans h.tape, hb.output.trans h.output, Nat.le_trans h.size hb.size, fun b hl hn => ?_⟩
  have hne : b ≠ g := fun e => by subst e; unfold only at hn; rw [if_pos rfl] at hn; cases hn
  exact (Below.heap_setCell _ _ _ _ hne).trans (h.block b hl hn)
theorem own_ch {w : World} {base g n cap : Nat} {e : TypeId} {ys : List T} (h : Own w base e 5 T.cs (some ⟨g, 0, .none⟩) n cap ys) {k : Nat} (hk : k < ys.length) (t : T) :
    Own (((((w.setCell ⟨g, k * 5, .none⟩ (.string t.nm)).setCell ⟨g, k * 5 + 1, .none⟩ (.int .i64 t.op)).setCell ⟨g, k * 5 + 2, .none⟩ (.int .i64 t.k)).setCell ⟨g, k * 5 + 3, .none⟩ (.int .i64 t.n)).setCell ⟨g, k * 5 + 4, .none⟩ (.string t.s)) base e 5 T.cs (some ⟨g, 0, .none⟩) n cap (ys.set k t) := by
  have h0 := h.set k ys[k] ⟨t.nm, ys[k].op, ys[k].k, ys[k].n, ys[k].s⟩ (List.getElem?_eq_getElem hk) 0 (by decide) (.string t.nm) rfl
  have h1 := h0.set k _ ⟨t.nm, t.op, ys[k].k, ys[k].n, ys[k].s⟩ (List.getElem?_set_self hk) 1 (by decide) (.int .i64 t.op) rfl
  rw [List.set_set] at h1
  have h2 := h1.set k _ ⟨t.nm, t.op, t.k, ys[k].n, ys[k].s⟩ (List.getElem?_set_self hk) 2 (by decide) (.int .i64 t.k) rfl
  rw [List.set_set] at h2
  have h3 := h2.set k _ ⟨t.nm, t.op, t.k, t.n, ys[k].s⟩ (List.getElem?_set_self hk) 3 (by decide) (.int .i64 t.n) rfl
  rw [List.set_set] at h3
  have h4 := h3.set k _ t (List.getElem?_set_self hk) 4 (by decide) (.string t.s) rfl
  rw [List.set_set] at h4
  exact h4
/-- the test that the statement writes -/
def chT : T := ⟨⟨#[99, 104, 97, 110, 103, 101, 100]⟩, 8, 0, 0, ⟨#[]⟩⟩
end Go.Proofs.Ytjggjkmafcokjaa
