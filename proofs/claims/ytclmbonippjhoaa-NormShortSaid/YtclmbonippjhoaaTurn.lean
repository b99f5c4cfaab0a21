/- append of slices of two types of one kind. -/
import Derived.Test.YtclmbonippjhoaaLThere
import Derived.Test.YtclmbonippjhoaaCutSl
import Derived.Deep.DeepCutAuto
set_option linter.unusedVariables false
set_option linter.unusedSimpArgs false
namespace Go.Proofs.Ytclmbonippjhoaa
open Go.RowKit

/-- append's second type counts for nothing where it is a slice's -/
theorem run_append_types {P : Program} {t t' e e' ty : TypeId} {i : TypeInfo} (ht : P.underlying t = some (.slice e)) (ht' : P.underlying t' = some (.slice e')) (hi : P.info? e = some i) (aa : Option Addr) (n c : Nat) (y : Value) (w : World) :
    (Builtin.append_ #[t, t'] ty #[.slice aa n c, y]).run P w = (Builtin.append_ #[t, t] ty #[.slice aa n c, y]).run P w := by
  simp [Builtin.append_, run_underlying ht, run_underlying ht', sizeOf, typeInfo, hi]
theorem wp_types {P : Program} {w : World} {o : Oper} {a : Act} {K : Act → World → Prop} {Q : Exit → Act → World → Prop} (s x : Operand) (t t' e e' : TypeId) {i : TypeInfo} {aa : Option Addr} {n c : Nat}
    (ho : o.op = .call { callee := .builtin .append, args := #[s, x], argTypes := #[t, t'] }) (ht : P.underlying t = some (.slice e)) (ht' : P.underlying t' = some (.slice e')) (hi : P.info? e = some i) (hs : a.eval s = .slice aa n c)
    (h : Oper.wp P { o with op := .call { callee := .builtin .append, args := #[s, x], argTypes := #[t, t] } } a w K Q) : o.wp P a w K Q := by
  unfold Oper.wp execOp at *
  simp only [ho, resolve, invoke, builtin, Sem.run_bind, Sem.run_pure, Result.andThen_ok, List.map_toArray, List.map_cons, List.map_nil, hs] at h ⊢
  rw [run_append_types ht ht' hi]
  exact h
theorem stepOn2 {α : Type} {c : α → List Value} {sz : Nat} {ys0 ys : List α} {P : Program} {w : World} {ops : Array Oper} {o : Oper} {a : Act} {K : Act → World → Prop} {Q : Exit → Act → World → Prop} {E : Prop} (hgd : o.guard = none) (s x : Operand) (t t' e e' : TypeId)
    (ho : o.op = .call { callee := .builtin .append, args := #[s, x], argTypes := #[t, t'] }) (ht' : P.underlying t' = some (.slice e'))
    (i : TypeInfo) (z : Value) (bytes : Nat) (ht : P.underlying t = some (.slice e)) (hi : P.info? e = some i) (hz : i.zero = some z)
    (hsize : i.size = sz) (hby : i.bytes = bytes) (hzs : z.cells.size = sz) (hsz : 0 < sz)
    {aa : Option Addr} {n0 cap0 : Nat} (hs : a.eval s = .slice aa n0 cap0) (W : World) (hW : Ext W w) (hown : Own w W.heap.size e sz c aa n0 cap0 ys0)
    {sa : Option Addr} {n cap : Nat} (hx : a.eval x = .slice sa n cap) (hS : Sl w sz c sa n cap ys) (h1 : ∀ y, ∀ u ∈ c y, u.oneCell' = true)
    (hn : (n0 + n) * bytes ≤ 140737488355328) (hb0 : 0 < bytes)
    (h : ∀ bb n' cap' w', n' = n0 + n → Own w' W.heap.size e sz c bb n' cap' (ys0 ++ ys) → Ext W w' → w.grownBy w' (Value.ownBlock (.slice aa n0 cap0)) → K (a.put o.dst (.slice bb n' cap')) w') :
    if Region.wanted o (yielded ops a.tmps) = true then Oper.wp P o a w K Q else E := by
  have hw : Region.wanted o (yielded ops a.tmps) = true := by simp [Region.wanted, hgd]
  rw [if_pos hw]
  refine wp_types s x t t' e e' ho ht ht' hi hs ?_
  exact wpOn s x t e rfl i z bytes ht hi hz hsize hby hzs hsz hs W hW hown hx hS h1 hn hb0 h
theorem Sl.zeroT {w : World} {ad : Addr} {n cap : Nat} (hn : n = 0) (hm : cap ≤ maxLen) : Sl w 5 T.cs (some ad) n cap ([] : List T) :=
  ⟨hn, by omega, hm, (fun h => by cases h), T.wid, fun k x hk => by cases hk⟩
theorem turn_perm (fs : List T) (k : Nat) : (fs.drop k ++ fs.take k).Perm fs := by
  have h := List.perm_append_comm (l₁ := fs.drop k) (l₂ := fs.take k)
  rwa [List.take_append_drop] at h
end Go.Proofs.Ytclmbonippjhoaa
