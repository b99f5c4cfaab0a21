/- What a statement's row tells of its arguments, opened: values, tests, attributes, filters, events, and slices of filters. -/
import Derived.Test.YtjggjkmafcokjaaRedM8
import Derived.Deep.Slices
import Derived.ProofKit
import Derived.OpenShut
import Derived.Lib.SmallJoins
set_option linter.unusedVariables false
set_option linter.unusedSimpArgs false
namespace Go.Proofs.Ytjggjkmafcokjaa
set_option maxRecDepth 100000
open Go.RowKit Go.WideShapes Go.ChangeShapes

theorem list_of8 {α : Type} {Q : Nat → α → Prop} : ∀ n, (∀ i, i < n → ∃ y, Q i y) → ∃ ys : List α, ys.length = n ∧ ∀ i y, ys[i]? = some y → Q i y
  | 0, _ => ⟨[], rfl, fun i y h => by simp at h⟩
  | n + 1, h => by
    obtain ⟨ys, hl, hy⟩ := list_of8 n (fun i hi => h i (by omega))
    obtain ⟨z, hz⟩ := h n (by omega)
    refine ⟨ys ++ [z], by simp [hl], fun i y hi => ?_⟩
    by_cases hin : i < ys.length
    · rw [List.getElem?_append_left hin] at hi; exact hy i y hi
    · rw [List.getElem?_append_right (by omega)] at hi
      have h0 : i - ys.length = 0 := by
        cases hk : i - ys.length with
        | zero => rfl
        | succ k => rw [hk] at hi; simp at hi
      rw [h0] at hi
      simp at hi
      subst hi
      rw [show i = n by omega]; exact hz

section
variable {H : Type} {enc : TypeId × Value → H} {P : Program} {w : World} {base : Nat} {spare : Nat → Bool} {held : Bool}
/-- One field of a struct's reading. -/
theorem fld {t : TypeId} {fs : Array Field} {fuel : Nat} {cs : List Value} {x : DataW H × List MemPlace} (ht : P.underlying t = some (.struct fs)) (h : DataW.trod enc P w base spare held fuel t cs = some x)
    (i : Nat) (f : Field) (hf : fs[i]? = some f) (o k : Nat) (hk : P.cellsOf f.type = k) (ho : f.offset = o) : ∃ n y, DataW.trod enc P w base spare held n f.type ((cs.drop o).take k) = some y := by
  obtain ⟨xs, n, _, _, _, hlen, hx⟩ := DataW.trod_struct ht h
  have hi : i < xs.length := by rw [hlen]; exact (Array.getElem?_eq_some_iff.1 hf).1
  have := hx i f hf
  rw [hk, ho, List.getElem?_eq_getElem hi] at this
  exact ⟨n, _, this⟩
theorem fld_len {t : TypeId} {fs : Array Field} {fuel : Nat} {cs : List Value} {x : DataW H × List MemPlace} (ht : P.underlying t = some (.struct fs)) (h : DataW.trod enc P w base spare held fuel t cs = some x) : cs.length = P.cellsOf t := by
  obtain ⟨xs, n, _, _, hl, _⟩ := DataW.trod_struct ht h
  exact hl
/-- A slice's reading: elements each of which is opened. -/
theorem open_sl {α : Type} {c : α → List Value} {R : α → Prop} {sz : Nat} {t e : TypeId} {fuel : Nat} {cs : List Value} {x : DataW H × List MemPlace} (ht : P.underlying t = some (.slice e)) (hc : P.cellsOf e = sz) (hsz : 0 < sz)
    (hw : ∀ y, (c y).length = sz) (hel : ∀ fuel cs x, DataW.trod enc P w base spare held fuel e cs = some x → ∃ y, cs = c y ∧ R y) (h : DataW.trod enc P w base spare held fuel t cs = some x) :
    ∃ a n cap ys, cs = [.slice a n cap] ∧ Sl w sz c a n cap ys ∧ ∀ y, y ∈ ys → R y := by
  rcases Go.Deep.open_slice ht h with ⟨rfl, _⟩ | ⟨a, len, cap, m, n, D, Pl, rfl, hb, hl, hm, hmm, _, hx⟩
  · exact ⟨none, 0, 0, [], rfl, Sl.nil _ hw, fun y hy => by cases hy⟩
  have hlm : len ≤ m := by rw [hmm]; split <;> omega
  have each : ∀ i, i < len → ∃ y, (∀ j v, (c y)[j]? = some v → w.cell? ((a.add (i * sz)).add j) = some v) ∧ R y := by
    intro i hi
    obtain ⟨cs', h1, h2⟩ := hx i (by omega)
    rw [hc] at h1
    obtain ⟨_, _, hcell⟩ := World.cells?_some h1
    obtain ⟨y, rfl, hy⟩ := hel _ _ _ h2
    refine ⟨y, fun j v hj => ?_, hy⟩
    have hjs : j < sz := by rw [← hw y]; exact (List.getElem?_eq_some_iff.1 hj).1
    rw [hcell j hjs, hj]
  obtain ⟨ys, hlen, hys⟩ := list_of8 (Q := fun i y => (∀ j v, (c y)[j]? = some v → w.cell? ((a.add (i * sz)).add j) = some v) ∧ R y) len each
  refine ⟨some a, len, cap, ys, rfl, ⟨hlen.symm, hl, hm, (fun h => by cases h), hw, fun k z hk => ?_⟩, fun y hy => ?_⟩
  · obtain ⟨b, o, sp⟩ := a
    have hk' : k < len := by rw [← hlen]; exact (List.getElem?_eq_some_iff.1 hk).1
    obtain ⟨y0, hy0, _⟩ := each 0 (by omega)
    have hz : 0 < (c y0).length := by rw [hw]; exact hsz
    have h0 := hy0 0 _ (List.getElem?_eq_getElem hz)
    have hsp : sp = none := by
      simp only [Nat.zero_mul, Addr.add, if_pos, World.cell?] at h0
      cases sp with
      | none => rfl
      | some q => simp at h0; split at h0 <;> simp at h0
    subst hsp
    refine ⟨b, o, rfl, fun j v hj => ?_⟩
    have := (hys k z hk).1 j v hj
    have e1 : ∀ n m : Nat, (Addr.mk b n none).add m = ⟨b, n + m, none⟩ := by intro n m; unfold Addr.add; split <;> simp_all
    rw [e1, e1] at this
    exact this
  · obtain ⟨i, hi, rfl⟩ := List.getElem_of_mem hy
    exact (hys i _ (List.getElem?_eq_getElem hi)).2
end
section
variable {H : Type} {enc : TypeId × Value → H} {w : World} {base : Nat} {spare : Nat → Bool} {held : Bool}
theorem open_Val {fuel : Nat} {cs : List Value} {x : DataW H × List MemPlace} (h : DataW.trod enc Try.prog w base spare held fuel 52 cs = some x) : ∃ (k n : Int) (s : ByteArray), cs = [.int .i64 k, .int .i64 n, .string s] := by
  have hl : cs.length = 3 := (fld_len Try.underlying52 h).trans (by kernel_rfl)
  obtain ⟨n0, y0, h0⟩ := fld Try.underlying52 h 0 _ rfl 0 1 (by kernel_rfl) rfl
  obtain ⟨n1, y1, h1⟩ := fld Try.underlying52 h 1 _ rfl 1 1 (by kernel_rfl) rfl
  obtain ⟨n2, y2, h2⟩ := fld Try.underlying52 h 2 _ rfl 2 1 (by kernel_rfl) rfl
  match cs, hl with
  | [c0, c1, c2], _ =>
    obtain ⟨a0, e0, _, _⟩ := DataW.trod_int Try.underlying3 h0
    obtain ⟨a1, e1, _, _⟩ := DataW.trod_int Try.underlying2 h1
    obtain ⟨a2, e2, _, _⟩ := DataW.trod_string Try.underlying9 h2
    simp at e0
    simp at e1
    simp at e2
    subst e0 e1 e2; exact ⟨a0, a1, a2, rfl⟩

theorem open_T {fuel : Nat} {cs : List Value} {x : DataW H × List MemPlace} (h : DataW.trod enc Try.prog w base spare held fuel 54 cs = some x) : ∃ y : T, cs = y.cs := by
  have hl : cs.length = 5 := (fld_len Try.underlying54 h).trans (by kernel_rfl)
  obtain ⟨n0, y0, h0⟩ := fld Try.underlying54 h 0 _ rfl 0 1 (by kernel_rfl) rfl
  obtain ⟨n1, y1, h1⟩ := fld Try.underlying54 h 1 _ rfl 1 1 (by kernel_rfl) rfl
  obtain ⟨n2, y2, h2⟩ := fld Try.underlying54 h 2 _ rfl 2 3 (by kernel_rfl) rfl
  match cs, hl with
  | [c0, c1, c2, c3, c4], _ =>
    obtain ⟨a0, e0, _, _⟩ := DataW.trod_string Try.underlying9 h0
    obtain ⟨a1, e1, _, _⟩ := DataW.trod_int Try.underlying3 h1
    simp at e0
    simp at e1
    obtain ⟨p, q, r, e2⟩ := open_Val h2; simp at e2; obtain ⟨rfl, rfl, rfl⟩ := e2; subst e0 e1; exact ⟨⟨a0, a1, p, q, r⟩, rfl⟩

theorem open_A {fuel : Nat} {cs : List Value} {x : DataW H × List MemPlace} (h : DataW.trod enc Try.prog w base spare held fuel 64 cs = some x) : ∃ y : AT, cs = y.cs := by
  have hl : cs.length = 4 := (fld_len Try.underlying64 h).trans (by kernel_rfl)
  obtain ⟨n0, y0, h0⟩ := fld Try.underlying64 h 0 _ rfl 0 1 (by kernel_rfl) rfl
  obtain ⟨n1, y1, h1⟩ := fld Try.underlying64 h 1 _ rfl 1 3 (by kernel_rfl) rfl
  match cs, hl with
  | [c0, c1, c2, c3], _ =>
    obtain ⟨a0, e0, _, _⟩ := DataW.trod_string Try.underlying9 h0
    simp at e0
    obtain ⟨p, q, r, e1⟩ := open_Val h1; simp at e1; obtain ⟨rfl, rfl, rfl⟩ := e1; subst e0; exact ⟨⟨a0, p, q, r⟩, rfl⟩

theorem open_Ts {fuel : Nat} {cs : List Value} {x : DataW H × List MemPlace} (h : DataW.trod enc Try.prog w base spare held fuel 32 cs = some x) : ∃ a n cap ys, cs = [.slice a n cap] ∧ Sl w 5 T.cs a n cap ys := by
  obtain ⟨a, n, cap, ys, e, s, _⟩ := open_sl (c := T.cs) (sz := 5) (R := fun _ => True) Try.underlying32 (by kernel_rfl) (by decide) T.wid (fun _ _ _ k => let ⟨y, e⟩ := open_T k; ⟨y, e, trivial⟩) h
  exact ⟨a, n, cap, ys, e, s⟩

theorem open_As {fuel : Nat} {cs : List Value} {x : DataW H × List MemPlace} (h : DataW.trod enc Try.prog w base spare held fuel 34 cs = some x) : ∃ a n cap ys, cs = [.slice a n cap] ∧ Sl w 4 AT.cs a n cap ys := by
  obtain ⟨a, n, cap, ys, e, s, _⟩ := open_sl (c := AT.cs) (sz := 4) (R := fun _ => True) Try.underlying34 (by kernel_rfl) (by decide) AT.wid (fun _ _ _ k => let ⟨y, e⟩ := open_A k; ⟨y, e, trivial⟩) h
  exact ⟨a, n, cap, ys, e, s⟩

theorem open_F {fuel : Nat} {cs : List Value} {x : DataW H × List MemPlace} (h : DataW.trod enc Try.prog w base spare held fuel 32 cs = some x) : ∃ y : FV, cs = y.cs ∧ Sl w 5 T.cs y.v.a y.v.n y.v.c y.ts := by
  obtain ⟨a, n, cap, ys, e, s⟩ := open_Ts h
  exact ⟨⟨⟨a, n, cap⟩, ys⟩, e, s⟩

theorem open_Fs {fuel : Nat} {cs : List Value} {x : DataW H × List MemPlace} (h : DataW.trod enc Try.prog w base spare held fuel 57 cs = some x) : ∃ a n cap ys, cs = [.slice a n cap] ∧ Flts w a n cap ys := by
  obtain ⟨a, n, cap, ys, e, s, r⟩ := open_sl (c := FV.cs) (R := fun y => Sl w 5 T.cs y.v.a y.v.n y.v.c y.ts) Try.underlying57 (by kernel_rfl) (by decide) FV.wid (fun _ _ _ k => open_F k) h
  exact ⟨a, n, cap, ys, e, s, r⟩

theorem arg_Ts {r : Reach} {b0 : Nat} {v : Value} {d : DataW H} {p : List MemPlace} (hv : Value.okWide Try.prog w r b0 32 v) (h : DataW.Trod enc Try.prog w base spare held 32 v d p) : ∃ a n cap ys, v = .slice a n cap ∧ Sl w 5 T.cs a n cap ys := by
  obtain ⟨a, n, cap, rfl⟩ := okWide_slice Try.underlying32 hv
  obtain ⟨fuel, hf⟩ := h
  obtain ⟨a', n', cap', ys, e, s⟩ := open_Ts hf
  simp [Value.cells] at e
  obtain ⟨rfl, rfl, rfl⟩ := e
  exact ⟨_, _, _, ys, rfl, s⟩

theorem arg_As {r : Reach} {b0 : Nat} {v : Value} {d : DataW H} {p : List MemPlace} (hv : Value.okWide Try.prog w r b0 34 v) (h : DataW.Trod enc Try.prog w base spare held 34 v d p) : ∃ a n cap ys, v = .slice a n cap ∧ Sl w 4 AT.cs a n cap ys := by
  obtain ⟨a, n, cap, rfl⟩ := okWide_slice Try.underlying34 hv
  obtain ⟨fuel, hf⟩ := h
  obtain ⟨a', n', cap', ys, e, s⟩ := open_As hf
  simp [Value.cells] at e
  obtain ⟨rfl, rfl, rfl⟩ := e
  exact ⟨_, _, _, ys, rfl, s⟩

theorem arg_Fs {r : Reach} {b0 : Nat} {v : Value} {d : DataW H} {p : List MemPlace} (hv : Value.okWide Try.prog w r b0 57 v) (h : DataW.Trod enc Try.prog w base spare held 57 v d p) : ∃ a n cap ys, v = .slice a n cap ∧ Flts w a n cap ys := by
  obtain ⟨a, n, cap, rfl⟩ := okWide_slice Try.underlying57 hv
  obtain ⟨fuel, hf⟩ := h
  obtain ⟨a', n', cap', ys, e, s⟩ := open_Fs hf
  simp [Value.cells] at e
  obtain ⟨rfl, rfl, rfl⟩ := e
  exact ⟨_, _, _, ys, rfl, s⟩

theorem arg_T {r : Reach} {b0 : Nat} {v : Value} {d : DataW H} {p : List MemPlace} (hv : Value.okWide Try.prog w r b0 54 v) (h : DataW.Trod enc Try.prog w base spare held 54 v d p) : ∃ y : T, v = .agg #[.string y.nm, .int .i64 y.op, .int .i64 y.k, .int .i64 y.n, .string y.s] := by
  obtain ⟨cs, rfl, _⟩ := okWide_struct Try.underlying54 hv
  obtain ⟨fuel, hf⟩ := h
  obtain ⟨y, e⟩ := open_T hf
  have e' := congrArg List.toArray e
  simp only [Value.cells, Array.toArray_toList] at e'
  subst e'
  exact ⟨y, rfl⟩

theorem arg_Val {r : Reach} {b0 : Nat} {v : Value} {d : DataW H} {p : List MemPlace} (hv : Value.okWide Try.prog w r b0 52 v) (h : DataW.Trod enc Try.prog w base spare held 52 v d p) : ∃ (k n : Int) (s : ByteArray), v = .agg #[.int .i64 k, .int .i64 n, .string s] := by
  obtain ⟨cs, rfl, _⟩ := okWide_struct Try.underlying52 hv
  obtain ⟨fuel, hf⟩ := h
  obtain ⟨k, n, s, e⟩ := open_Val hf
  have e' := congrArg List.toArray e
  simp only [Value.cells, Array.toArray_toList] at e'
  subst e'
  exact ⟨k, n, s, rfl⟩

end
end Go.Proofs.Ytjggjkmafcokjaa
