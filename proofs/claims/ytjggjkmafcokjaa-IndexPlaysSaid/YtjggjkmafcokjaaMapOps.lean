/- What a map in memory does at an operation: for the walks. No program is named here. -/
import Derived.Test.YtjggjkmafcokjaaFMap
set_option linter.unusedVariables false
set_option linter.unusedSimpArgs false
namespace Go.Proofs.Ytjggjkmafcokjaa
open Go.RowKit

section
variable {P : Program} {w : World} {ops : Array Oper} {rest : List Oper} {o : Oper} {a : Act} {Q : Exit → Act → World → Prop} {K : Act → World → Prop} {k e t : TypeId} {b n s : Nat} {f : Lit → Option Value}
theorem op_look (m x : Operand) (hop : o.op = Op.lookup t m x false) (KK : Maps.Keyed P k) (ht : P.underlying t = some (.map k e)) (z : Value) (hz : (zeroValue e).run P w = .ok z w) {y : DataW Unit × List MemPlace} (hy : encV z = some y)
    (hm : a.eval m = .map (some b)) (h : MapF w P k b n s f) {key : Value} {kl : Lit} (hx : a.eval x = key) (hkey : keyOf P k key = some kl) (hK : K (a.put o.dst ((f kl).getD z)) w) : o.wp P a w K Q := by
  unfold Oper.wp
  simp [execOp, hop, hm, hx, h.look KK ht hz hy hkey, Result.andThen]
  exact hK
theorem op_lookOk (m x : Operand) (hop : o.op = Op.lookup t m x true) (KK : Maps.Keyed P k) (ht : P.underlying t = some (.map k e)) (z : Value) (hz : (zeroValue e).run P w = .ok z w) {y : DataW Unit × List MemPlace} (hy : encV z = some y)
    (hm : a.eval m = .map (some b)) (h : MapF w P k b n s f) {key : Value} {kl : Lit} (hx : a.eval x = key) (hkey : keyOf P k key = some kl) (hK : K (a.put o.dst (.tuple #[(f kl).getD z, .bool (f kl).isSome])) w) : o.wp P a w K Q := by
  unfold Oper.wp
  simp [execOp, hop, hm, hx, h.lookOk KK ht hz hy hkey, Result.andThen]
  exact hK
theorem op_store (m x v : Operand) (hop : o.op = Op.mapUpdate t m x v) (KK : Maps.Keyed P k) (ht : P.underlying t = some (.map k e))
    (hm : a.eval m = .map (some b)) (h : MapF w P k b n s f) (hn : n < maxLen) {key val : Value} {kl : Lit} (hx : a.eval x = key) (hv : a.eval v = val) (hkey : keyOf P k key = some kl) {y : DataW Unit × List MemPlace} (hy : encV val = some y)
    (hK : ∀ w', MapF w' P k b (n + 1) (if (f kl).isSome = true then s else s + 1) (updF f kl (some val)) → w.mapTurned w' b → K (a.put o.dst undef) w') : o.wp P a w K Q := by
  obtain ⟨w', hrun, r1, r2⟩ := h.store KK ht hn hkey hy
  unfold Oper.wp
  simp [execOp, hop, hm, hx, hv, hrun, Result.andThen]
  exact hK w' r1 r2
theorem op_drop (m x : Operand) (hop : o.op = Op.call { callee := Callee.builtin Builtin.delete, args := #[m, x], argTypes := #[t, k] }) (KK : Maps.Keyed P k) (ht : P.underlying t = some (.map k e))
    (hm : a.eval m = .map (some b)) (h : MapF w P k b n s f) {key : Value} {kl : Lit} (hx : a.eval x = key) (hkey : keyOf P k key = some kl)
    (hK : ∀ w', MapF w' P k b n (if (f kl).isSome = true then s - 1 else s) (updF f kl none) → w.mapTurned w' b → K (a.put o.dst (.tuple #[])) w') : o.wp P a w K Q := by
  obtain ⟨w', hrun, r1, r2⟩ := h.drop KK ht hkey o.type
  unfold Oper.wp
  simp [execOp, hop, resolve, invoke, builtin, hm, hx, hrun, Result.andThen]
  exact hK w' r1 r2
theorem op_dropR {r cnt : Nat} {left : Lit → Bool} (m x : Operand) (hop : o.op = Op.call { callee := Callee.builtin Builtin.delete, args := #[m, x], argTypes := #[t, k] }) (KK : Maps.Keyed P k) (ht : P.underlying t = some (.map k e))
    (hm : a.eval m = .map (some b)) (h : RangeF w P k b r n s f left cnt) {key : Value} {kl : Lit} (hx : a.eval x = key) (hkey : keyOf P k key = some kl)
    (hK : ∀ w' cnt', RangeF w' P k b r n (if (f kl).isSome = true then s - 1 else s) (updF f kl none) (fun x => left x && !x.sameKey kl) cnt' → cnt' ≤ cnt → w.mapTurned w' b → K (a.put o.dst (.tuple #[])) w') : o.wp P a w K Q := by
  obtain ⟨w', cnt', hrun, r1, r2, r3⟩ := h.drop KK ht hkey o.type
  unfold Oper.wp
  simp [execOp, hop, resolve, invoke, builtin, hm, hx, hrun, Result.andThen]
  exact hK w' cnt' r1 r2 r3
theorem op_len (m : Operand) (hop : o.op = Op.call { callee := Callee.builtin Builtin.len, args := #[m], argTypes := #[t] }) (ht : P.underlying t = some (.map k e)) (hm : a.eval m = .map (some b)) (h : MapF w P k b n s f)
    (hK : K (a.put o.dst (.int .i64 s)) w) : o.wp P a w K Q := by
  unfold Oper.wp
  simp [execOp, hop, resolve, invoke, builtin, hm, h.len ht o.type, Result.andThen]
  exact hK
theorem op_range (m : Operand) (hop : o.op = Op.range t m) (KK : Maps.Keyed P k) (ht : P.underlying t = some (.map k e)) (hm : a.eval m = .map (some b)) (h : MapF w P k b n s f)
    (hK : ∀ w', RangeF w' P k b w.heap.size n s f (fun kl => (f kl).isSome) s → Ext w w' → w'.heap.size = w.heap.size + 1 → K (a.put o.dst (.pointer (some ⟨w.heap.size, 0, none⟩))) w') : o.wp P a w K Q := by
  obtain ⟨w', hrun, r1, r2, r3⟩ := h.range KK ht
  unfold Oper.wp
  simp [execOp, hop, hm, hrun, Result.andThen]
  exact hK w' r1 r2 r3
theorem op_next {α β : Type} {r cnt : Nat} {left : Lit → Bool} (it : Operand) (hop : o.op = Op.next it false) (KK : Maps.Keyed P k) (mkK : α → Value) (mkV : β → Value)
    (invK : ∀ key kl, keyOf P k key = some kl → ∃ x, key = mkK x) (invV : ∀ key kl v, keyOf P k key = some kl → f kl = some v → ∃ c, v = mkV c) (hit : a.eval it = .pointer (some ⟨r, 0, none⟩)) (h : RangeF w P k b r n s f left cnt)
    (hDone : cnt = 0 → (∀ kl, left kl = false) → K (a.put o.dst (.tuple #[.bool false])) w)
    (hMore : ∀ (x : α) (c : β) (kl : Lit) (w' : World) (cnt' : Nat), keyOf P k (mkK x) = some kl → left kl = true → f kl = some (mkV c) → RangeF w' P k b r n s f (fun z => left z && !z.sameKey kl) cnt' → cnt' < cnt →
      w.grownBy w' (some r) → w'.heap.size = w.heap.size → (Instr.entry (.pointer (some ⟨r, 0, none⟩))).run P w' = .ok (.tuple #[mkK x, mkV c]) w' → K (a.put o.dst (.tuple #[.bool true, mkK x, mkV c])) w') : o.wp P a w K Q := by
  unfold Oper.wp
  rcases h.next KK o.type with ⟨h0, hl, hrun⟩ | ⟨key, v, kl, w', cnt', hkey, hlk, hv, hrun, hrg, hlt, hgr, hsz, hen⟩
  · simp [execOp, hop, hit, hrun, Result.andThen]
    exact hDone h0 hl
  · obtain ⟨x, rfl⟩ := invK key kl hkey
    obtain ⟨c, rfl⟩ := invV _ kl v hkey hv
    simp [execOp, hop, hit, hrun, Result.andThen]
    exact hMore x c kl w' cnt' hkey hlk hv hrg hlt hgr hsz hen
/-- at the head of a list of operations that is walked -/
theorem list_of (hg : o.guard = none) (h : ∀ K : Act → World → Prop, (∀ a w, wpList P ops Q rest a w → K a w) → o.wp P a w K Q) : wpList P ops Q (o :: rest) a w := wpList_plain hg h
/-- at a step of a region that draws -/
theorem step_of {E : Prop} (hg : o.guard = none) (h : o.wp P a w K Q) : if Region.wanted o (yielded ops a.tmps) = true then o.wp P a w K Q else E := by
  rw [if_pos (by simp only [Region.wanted, hg])]; exact h
end
end Go.Proofs.Ytjggjkmafcokjaa
