/- A filter is dropped from an index: what each step makes of it. -/
import Derived.Test.YtjggjkmafcokjaaAddOk
import Derived.Test.YtjggjkmafcokjaaMatP
set_option linter.unusedVariables false
set_option linter.unusedSimpArgs false
namespace Go.Proofs.Ytjggjkmafcokjaa
open Go.RowKit

/-- an index's tests when some tests of a filter have been dropped -/
def tfD (fd : Int → Option (List T)) (id : Int) (us : List T) (nm : List UInt8) (j : Int) : List T := if j = id ∧ us.any (fun t => decide (t.nm.toList = nm)) = true then [] else tq fd nm j
theorem tfD_start {fd : Int → Option (List T)} {id : Int} (nm : List UInt8) (j : Int) : tfD fd id [] nm j = tq fd nm j := by
  unfold tfD; simp
theorem tfD_same {fd : Int → Option (List T)} {id : Int} {us : List T} {t : T} : tfD fd id (us ++ [t]) t.nm.toList id = [] := by
  unfold tfD
  rw [if_pos ⟨rfl, by simp⟩]
theorem tfD_num {fd : Int → Option (List T)} {id : Int} {us : List T} {t : T} {nm : List UInt8} {j : Int} (h : j ≠ id) : tfD fd id (us ++ [t]) nm j = tfD fd id us nm j := by
  unfold tfD
  rw [if_neg (fun e => h e.1), if_neg (fun e => h e.1)]
theorem tfD_name {fd : Int → Option (List T)} {id : Int} {us : List T} {t : T} {nm : List UInt8} (h : nm ≠ t.nm.toList) : tfD fd id (us ++ [t]) nm = tfD fd id us nm := by
  funext j
  unfold tfD
  have h' : ¬ t.nm.toList = nm := fun e => h e.symm
  simp [h']
theorem tfD_end {fd : Int → Option (List T)} {id : Int} {ts : List T} (hd : fd id = some ts) (nm : List UInt8) (j : Int) : tq (fun k => if k = id then none else fd k) nm j = tfD fd id ts nm j := by
  unfold tfD
  by_cases e : j = id
  · subst e
    have h1 : tq (fun k => if k = j then none else fd k) nm j = [] := by unfold tq; simp
    rw [h1]
    by_cases hu : ts.any (fun t => decide (t.nm.toList = nm)) = true
    · rw [if_pos ⟨rfl, hu⟩]
    · rw [if_neg (fun e => hu e.2)]
      unfold tq
      rw [hd]
      symm
      rw [Option.getD_some, List.filter_eq_nil_iff]
      intro t ht hk
      exact hu (List.any_eq_true.2 ⟨t, ht, hk⟩)
  · rw [if_neg (fun k => e k.1)]
    unfold tq
    simp [e]
section
variable {P : Program} {w : World} {o : Oper} {a : Act} {Q : Exit → Act → World → Prop} {K : Act → World → Prop} {k e t : TypeId}
theorem op_dropNil (m x : Operand) (hop : o.op = Op.call { callee := Callee.builtin Builtin.delete, args := #[m, x], argTypes := #[t, k] }) (KK : Maps.Keyed P k) (ht : P.underlying t = some (.map k e))
    (hm : a.eval m = .map none) {key : Value} {kl : Lit} (hx : a.eval x = key) (hkey : keyOf P k key = some kl) (hK : K (a.put o.dst (.tuple #[])) w) : o.wp P a w K Q := by
  unfold Oper.wp
  simp [execOp, hop, resolve, invoke, builtin, hm, hx, Maps.drop_nil KK ht hkey o.type, Result.andThen]
  exact hK
theorem op_lenNil (m : Operand) (hop : o.op = Op.call { callee := Callee.builtin Builtin.len, args := #[m], argTypes := #[t] }) (ht : P.underlying t = some (.map k e)) (hm : a.eval m = .map none)
    (hK : K (a.put o.dst (.int .i64 0)) w) : o.wp P a w K Q := by
  unfold Oper.wp
  simp [execOp, hop, resolve, invoke, builtin, hm, Maps.len_nil ht o.type, Result.andThen]
  exact hK
end
section
variable {w wa w1 w2 : World} {base p m s bF bT sT : Nat} {fd : Int → Option (List T)} {tf tf' : List UInt8 → Int → List T} {own : Nat → Option Lab} {fF fT : Lit → Option Value}
/-- a number's tests of a name are dropped -/
theorem IxB.dropRow (h : IxB w base p m fd tf s own bF bT sT fF fT) {nm : List UInt8} {id : Int} {bn s2 : Nat} {g : Lit → Option Value} (hv : fT (.string nm) = some (.map (some bn))) (ho : own bn = some (.inner nm))
    (hr : ∀ k, RowOk w own base nm k (tf nm k) (g (.int .u64 k))) (hx : Ext w wa) (ht : wa.mapTurned w2 bn) (hM : MapF w2 Try.prog 30 bn m s2 (updF g (.int .u64 id) none)) (h0 : tf' nm id = []) (h1 : ∀ k, k ≠ id → tf' nm k = tf nm k) (h2 : ∀ n, n ≠ nm → tf' n = tf n) :
    IxB w2 base p m fd tf' s own bF bT sT fF fT ∧ Chg own w w2 ∧ ∀ k, RowOk w2 own base nm k (tf' nm k) (updF g (.int .u64 id) none (.int .u64 k)) := by
  have hsz := ht.grown.size
  have hxs := hx.size
  have hkeep : ∀ b, b < w.heap.size → b ≠ bn → w2.heap[b]? = w.heap[b]? := fun b hlt hne => (turned_blk ht (by omega) hne).trans (hx.block b hlt)
  refine ⟨h.putR (s1 := 0) (fun _ _ k => k) (fun b l k => ⟨(h.lab b l k).1, by have := (h.lab b l k).2; omega⟩) (Nat.le_refl _) hv ho hr (fun b l k hne _ => hkeep b (h.lab b l k).2 hne) hM (.inl ⟨h0, rfl⟩) h1 h2, ⟨?_, ?_, ?_, by omega, fun b hlt hn => hkeep b hlt (fun e => by subst e; rw [ho] at hn; cases hn)⟩, fun k => ?_⟩
  · exact ht.grown.os.trans hx.os
  · exact ht.grown.tape.trans hx.tape
  · exact ht.grown.output.trans hx.output
  · by_cases e : k = id
    · subst e; rw [upd_same]; exact .inl ⟨h0, rfl⟩
    · rw [upd_other (fun x => e (by cases x; rfl)), h1 k e]
      exact (hr k).blk (fun _ _ k => k) fun b hb' => hkeep b (h.lab _ _ hb').2 (IxB.ne hb' ho (by simp))
/-- a name without a test left is dropped -/
theorem IxB.dropT (h : IxB w base p m fd tf s own bF bT sT fF fT) {nm : List UInt8} {s' : Nat} (hno : ∀ k, tf nm k = []) (hx : Ext w wa) (ht : wa.mapTurned w2 bT) (hM : MapF w2 Try.prog 9 bT m s' (updF fT (.string nm) none)) :
    IxB w2 base p m fd tf s own bF bT s' fF (updF fT (.string nm) none) ∧ Chg own w w2 := by
  have hsz := ht.grown.size
  have hxs := hx.size
  have hkeep : ∀ b, b < w.heap.size → b ≠ bT → w2.heap[b]? = w.heap[b]? := fun b hlt hne => (turned_blk ht (by omega) hne).trans (hx.block b hlt)
  refine ⟨h.putT (fun _ _ k => k) (fun b l k => ⟨(h.lab b l k).1, by have := (h.lab b l k).2; omega⟩) (Nat.le_refl _) (fun b l k hne => hkeep b (h.lab b l k).2 hne) hM (.inl ⟨rfl, hno⟩), ⟨?_, ?_, ?_, by omega, fun b hlt hn => hkeep b hlt (fun e => by subst e; rw [h.oT] at hn; cases hn)⟩⟩
  · exact ht.grown.os.trans hx.os
  · exact ht.grown.tape.trans hx.tape
  · exact ht.grown.output.trans hx.output
/-- a filter is dropped, behind its tests -/
theorem IxB.dropFlt (h : IxB w base p m fd tf s own bF bT sT fF fT) {id : Int} {s' : Nat} (hx : Ext w wa) (ht : wa.mapTurned w2 bF) (hM : MapF w2 Try.prog 30 bF m s' (updF fF (.int .u64 id) none)) :
    IxB w2 base p m (fun k => if k = id then none else fd k) tf s' own bF bT sT (updF fF (.int .u64 id) none) fT ∧ Chg own w w2 := by
  have hsz := ht.grown.size
  have hxs := hx.size
  have hkeep : ∀ b, b < w.heap.size → b ≠ bF → w2.heap[b]? = w.heap[b]? := fun b hlt hne => (turned_blk ht (by omega) hne).trans (hx.block b hlt)
  refine ⟨h.dropF (by omega) (fun b l k hne => hkeep b (h.lab b l k).2 hne) hM, ⟨?_, ?_, ?_, by omega, fun b hlt hn => hkeep b hlt (fun e => by subst e; rw [h.oF] at hn; cases hn)⟩⟩
  · exact ht.grown.os.trans hx.os
  · exact ht.grown.tape.trans hx.tape
  · exact ht.grown.output.trans hx.output
theorem RowOk.gone {w : World} {own : Nat → Option Lab} {base : Nat} {nm : List UInt8} {id : Int} {ts : List T} {x : Option Value} (h : RowOk w own base nm id ts x) (hx : x = none) : ts = [] := by
  rcases h with ⟨h, _⟩ | ⟨_, a, n, c, he, _⟩
  · exact h
  · rw [hx] at he; cases he
end
end Go.Proofs.Ytjggjkmafcokjaa
