/- What a statement's row tells of a script of calls, opened. -/
import Derived.Test.YtjggjkmafcokjaaOpen8
import Derived.Test.YtjggjkmafcokjaaUndP8
set_option linter.unusedVariables false
set_option linter.unusedSimpArgs false
namespace Go.Proofs.Ytjggjkmafcokjaa
open Go.RowKit Go.WideShapes Go.ChangeShapes

section
variable {H : Type} {enc : TypeId × Value → H} {w : World} {base : Nat} {spare : Nat → Bool} {held : Bool}
theorem open_C {fuel : Nat} {cs : List Value} {x : DataW H × List MemPlace} (h : DataW.trod enc Try.prog w base spare held fuel 36 cs = some x) : ∃ y : CallV, cs = y.cs ∧ CallOk w y := by
  have hl : cs.length = 4 := (fld_len Try.underlying36 h).trans (by kernel_rfl)
  obtain ⟨n0, y0, h0⟩ := fld Try.underlying36 h 0 _ rfl 0 1 (by kernel_rfl) rfl
  obtain ⟨n1, y1, h1⟩ := fld Try.underlying36 h 1 _ rfl 1 1 (by kernel_rfl) rfl
  obtain ⟨n2, y2, h2⟩ := fld Try.underlying36 h 2 _ rfl 2 1 (by kernel_rfl) rfl
  obtain ⟨n3, y3, h3⟩ := fld Try.underlying36 h 3 _ rfl 3 1 (by kernel_rfl) rfl
  match cs, hl with
  | [c0, c1, c2, c3], _ =>
    obtain ⟨a0, e0, _, _⟩ := DataW.trod_int Try.underlying3 h0
    obtain ⟨a1, e1, _, u1⟩ := DataW.trod_int Try.underlying30 h1
    obtain ⟨b2, n2, k2, z2, e2, s2⟩ := open_Ts h2
    obtain ⟨b3, n3, k3, z3, e3, s3⟩ := open_As h3
    simp at e0
    simp at e1
    simp at e2
    simp at e3
    subst e0 e1 e2 e3
    exact ⟨⟨a0, a1, ⟨b2, n2, k2⟩, z2, ⟨b3, n3, k3⟩, z3⟩, rfl, u1, s2, s3⟩
theorem open_Cs {fuel : Nat} {cs : List Value} {x : DataW H × List MemPlace} (h : DataW.trod enc Try.prog w base spare held fuel 23 cs = some x) : ∃ a n cap ps, cs = [.slice a n cap] ∧ Script w a n cap ps := by
  obtain ⟨a, n, cap, ys, e, s, r⟩ := open_sl (c := CallV.cs) (R := fun p => CallOk w p) Try.underlying23 (by kernel_rfl) (by decide) CallV.wid (fun _ _ _ k => open_C k) h
  exact ⟨a, n, cap, ys, e, s, r⟩
set_option maxRecDepth 100000 in
theorem arg_Cs {r : Reach} {b0 : Nat} {v : Value} {d : DataW H} {p : List MemPlace} (hv : Value.okWide Try.prog w r b0 23 v) (h : DataW.Trod enc Try.prog w base spare held 23 v d p) : ∃ a n cap ys, v = .slice a n cap ∧ Script w a n cap ys := by
  obtain ⟨a, n, cap, rfl⟩ := okWide_slice Try.underlying23 hv
  obtain ⟨fuel, hf⟩ := h
  obtain ⟨a', n', cap', ys, e, s⟩ := open_Cs hf
  simp [Value.cells] at e
  obtain ⟨rfl, rfl, rfl⟩ := e
  exact ⟨_, _, _, ys, rfl, s⟩
end
end Go.Proofs.Ytjggjkmafcokjaa
