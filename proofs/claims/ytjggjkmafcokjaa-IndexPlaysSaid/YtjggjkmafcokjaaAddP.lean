/- A filter is added to an index: what each step makes of it. -/
import Derived.Test.YtjggjkmafcokjaaNew8
import Derived.Test.YtjggjkmafcokjaaMapOps
set_option linter.unusedVariables false
set_option linter.unusedSimpArgs false
namespace Go.Proofs.Ytjggjkmafcokjaa
open Go.RowKit

theorem Sl.chg {w w' : World} {own : Nat → Option Lab} {α : Type} {sz : Nat} {c : α → List Value} {a : Option Addr} {n cap : Nat} {xs : List α} (h : Sl w sz c a n cap xs) (h0 : 0 < sz) (hA : ∀ ad, a = some ad → xs ≠ [] → own ad.block = .none) (hc : Chg own w w') : Sl w' sz c a n cap xs :=
  h.blk fun ad ha hne => by
    obtain ⟨x, l, rfl⟩ := List.exists_cons_of_ne_nil hne
    obtain ⟨b, o, hab, hcs⟩ := h.get 0 (by simp)
    have hw := h.wid x
    have hlt := lt_of_cell (hcs 0 ((c x)[0]'(by omega)) (by simp))
    obtain rfl : ad = ⟨b, o, .none⟩ := Option.some.inj (ha.symm.trans hab)
    exact hc.block _ hlt (hA _ ha hne)
theorem Own.encV {α : Type} {w : World} {base : Nat} {e : TypeId} {sz : Nat} {c : α → List Value} {a : Option Addr} {n cap : Nat} {xs : List α} (h : Own w base e sz c a n cap xs) : ∃ y, encV (.slice a n cap) = some y := by
  rcases h.row.2 with ⟨hv, _⟩ | ⟨g, cp, cur, hv, _⟩
  · simp only [Value.slice.injEq] at hv
    obtain ⟨rfl, _, _⟩ := hv
    exact ⟨_, rfl⟩
  · simp only [Value.slice.injEq] at hv
    obtain ⟨rfl, _, _⟩ := hv
    exact ⟨_, rfl⟩
theorem turned_blk {w w' : World} {b k : Nat} (h : w.mapTurned w' b) (hk : k < w.heap.size) (hne : k ≠ b) : w'.heap[k]? = w.heap[k]? := h.grown.block k hk (fun e => by cases e; exact hne rfl)
theorem RowOk.slice {w : World} {own : Nat → Option Lab} {base : Nat} {nm : List UInt8} {id : Int} {ts : List T} {x : Option Value} (h : RowOk w own base nm id ts x) :
    ∃ a n c, x.getD (.slice none 0 0) = .slice a n c ∧ Own w base 54 5 T.cs a n c ts ∧ ∀ ad, a = some ad → own ad.block = some (.row nm id) := by
  rcases h with ⟨rfl, rfl⟩ | ⟨_, a, n, c, rfl, h, k⟩
  · exact ⟨none, 0, 0, rfl, Own.nil _ _ _ T.wid, fun ad e => by cases e⟩
  · exact ⟨a, n, c, rfl, h, k⟩
theorem addL_up {own : Nat → Option Lab} {b : Nat} {l : Lab} (h : own b = none ∨ own b = some l) : ∀ k l', own k = some l' → addL own b l k = some l' := fun k l' hk => by
  by_cases e : k = b
  · subst e
    rcases h with h | h
    · rw [h] at hk; cases hk
    · rw [addL_same]; exact h.symm.trans hk
  · unfold addL; rw [if_neg e]; exact hk
/-- the tests of a filter that have come -/
def tfK (fd : Int → Option (List T)) (id : Int) (us : List T) (nm : List UInt8) (j : Int) : List T := if j = id then us.filter (fun t => decide (t.nm.toList = nm)) else tq fd nm j
theorem tfK_start {fd : Int → Option (List T)} {id : Int} (h : fd id = none) (nm : List UInt8) (j : Int) : tfK fd id [] nm j = tq fd nm j := by
  unfold tfK
  split
  · next e => subst e; unfold tq; rw [h]; rfl
  · rfl
theorem tfK_end {fd : Int → Option (List T)} {id : Int} {ts : List T} (nm : List UInt8) (j : Int) : tq (fun k => if k = id then some ts else fd k) nm j = tfK fd id ts nm j := by
  unfold tfK tq
  dsimp only
  split
  · next e => rfl
  · rfl
theorem tfK_step {fd : Int → Option (List T)} {id : Int} {us : List T} {t : T} : tfK fd id (us ++ [t]) t.nm.toList id = tfK fd id us t.nm.toList id ++ [t] := by
  unfold tfK
  rw [if_pos rfl, if_pos rfl, List.filter_append]
  simp
theorem tfK_num {fd : Int → Option (List T)} {id : Int} {us : List T} {t : T} {nm : List UInt8} {j : Int} (h : j ≠ id) : tfK fd id (us ++ [t]) nm j = tfK fd id us nm j := by
  unfold tfK; rw [if_neg h, if_neg h]
theorem tfK_name {fd : Int → Option (List T)} {id : Int} {us : List T} {t : T} {nm : List UInt8} (h : nm ≠ t.nm.toList) : tfK fd id (us ++ [t]) nm = tfK fd id us nm := by
  funext j
  unfold tfK
  split
  · rw [List.filter_append]
    have h' : ¬ t.nm.toList = nm := fun e => h e.symm
    simp [h']
  · rfl
theorem tfK_len {fd : Int → Option (List T)} {id : Int} {us : List T} {nm : List UInt8} : (tfK fd id us nm id).length ≤ us.length := by
  unfold tfK; rw [if_pos rfl]; exact List.length_filter_le _ _
section
variable {w wa w1 w2 : World} {base p m s bF bT sT : Nat} {fd : Int → Option (List T)} {tf tf' : List UInt8 → Int → List T} {own : Nat → Option Lab} {fF fT : Lit → Option Value}
theorem MapF.made' {W : World} {P : Program} {kt : TypeId} {bn : Nat} (h : bn = W.heap.size) : MapF (W.alloc (.map #[] 0)) P kt bn 0 0 (fun _ => none) := by subst h; exact MapF.made W P kt
/-- a filter's copy is put -/
theorem IxB.putFilter (h : IxB w base p m fd tf s own bF bT sT fF fT) {id : Int} {ts : List T} {a : Option Addr} {n c s' : Nat} (hx : Ext w w1) (hb : base ≤ w.heap.size) (ho : Own w1 w.heap.size 54 5 T.cs a n c ts) (ht : w1.mapTurned w2 bF)
    (hM : MapF w2 Try.prog 30 bF (m + 1) s' (updF fF (.int .u64 id) (some (.slice a n c)))) :
    ∃ own', IxB w2 base p (m + 1) (fun k => if k = id then some ts else fd k) tf s' own' bF bT sT (updF fF (.int .u64 id) (some (.slice a n c))) fT ∧ Chg own w w2 ∧ Fresh own own' w := by
  have hsz := ht.grown.size
  have hxs := hx.size
  have hbF := (h.lab _ _ h.oF).2
  have hc : Chg own w w2 := (Chg.of hx).trans (Chg.turned ht h.oF) (fun _ _ k => k)
  have hkeep : ∀ b l, own b = some l → b ≠ bF → w2.heap[b]? = w.heap[b]? := fun b l k hne => (turned_blk ht (by have := (h.lab b l k).2; omega) hne).trans (hx.block b (h.lab b l k).2)
  have hown : Own w2 w.heap.size 54 5 T.cs a n c ts := ho.keep fun ad ha => turned_blk ht (ho.lt ad ha).2 (fun e => by have := (ho.lt ad ha).1; omega)
  cases a with
  | none =>
    exact ⟨own, h.putF (fun _ _ k => k) (fun b l k => ⟨(h.lab b l k).1, by have := (h.lab b l k).2; omega⟩) hkeep hM hown.sl (fun ad e => by cases e), hc, Fresh.refl _ _⟩
  | some ad =>
    have hlt := ho.lt ad rfl
    have hnone : own ad.block = none := by
      cases e : own ad.block with
      | none => rfl
      | some l => have := (h.lab _ _ e).2; omega
    refine ⟨addL own ad.block (.flt id), h.putF (addL_up (.inl hnone)) (fun b l k => ?_) hkeep hM hown.sl (fun ad' e _ => by cases e; exact addL_same), hc, Fresh.add hlt.1 hnone⟩
    rcases addL_inv k with ⟨rfl, _⟩ | k
    · exact ⟨by omega, by omega⟩
    · exact ⟨(h.lab b l k).1, by have := (h.lab b l k).2; omega⟩
/-- a name's map is made and put -/
theorem IxB.putInner (h : IxB w base p m fd tf s own bF bT sT fF fT) {nm : List UInt8} {s' bn : Nat} (hn : ∀ id, tf nm id = []) (hb : base ≤ w.heap.size) (hbn : w.heap.size ≤ bn) (hx : Ext w wa) (hMi0 : MapF wa Try.prog 30 bn 0 0 (fun _ => none)) (ht : wa.mapTurned w2 bT)
    (hM : MapF w2 Try.prog 9 bT (m + 1) s' (updF fT (.string nm) (some (.map (some bn))))) :
    IxB w2 base p (m + 1) fd tf s (addL own bn (.inner nm)) bF bT s' fF (updF fT (.string nm) (some (.map (some bn)))) ∧ Chg own w w2 ∧ Fresh own (addL own bn (.inner nm)) w ∧
      MapF w2 Try.prog 30 bn (m + 1) 0 (fun _ => none) := by
  have hsz := ht.grown.size
  have hxs := hx.size
  have hbT := (h.lab _ _ h.oT).2
  have hlt := hMi0.lt
  have hnone : own bn = none := by
    cases e : own bn with
    | none => rfl
    | some l => have := (h.lab _ _ e).2; omega
  have hMi : MapF w2 Try.prog 30 bn (m + 1) 0 (fun _ => none) := (hMi0.blk (turned_blk ht hlt (by omega))).mono (by omega)
  refine ⟨h.putT (addL_up (.inl hnone)) (fun b l k => ?_) (by omega) (fun b l k hne => (turned_blk ht (by have := (h.lab b l k).2; omega) hne).trans (hx.block b (h.lab b l k).2)) hM (.inr ⟨bn, 0, fun _ => none, rfl, addL_same, hMi, fun id => .inl ⟨hn id, rfl⟩⟩),
    (Chg.of hx).trans (Chg.turned ht h.oT) (fun _ _ k => k), Fresh.add hbn hnone, hMi⟩
  rcases addL_inv k with ⟨rfl, _⟩ | k
  · exact ⟨by omega, by omega⟩
  · exact ⟨(h.lab b l k).1, by have := (h.lab b l k).2; omega⟩
/-- a row of a name grows and is put -/
theorem IxB.putRow (h : IxB w base p m fd tf s own bF bT sT fF fT) {nm : List UInt8} {id : Int} {bn s2 gb n' cap' : Nat} {aa : Option Addr} {us : List T} {g : Lit → Option Value} (hv : fT (.string nm) = some (.map (some bn))) (ho : own bn = some (.inner nm))
    (hr : ∀ k, RowOk w own base nm k (tf nm k) (g (.int .u64 k))) (hb : base ≤ w.heap.size) (hra : ∀ ad, aa = some ad → own ad.block = some (.row nm id)) (hx : Ext w wa) (hG : Grow wa w1 aa gb) (hO : Own w1 base 54 5 T.cs (some ⟨gb, 0, none⟩) n' cap' us) (ht : w1.mapTurned w2 bn)
    (hM : MapF w2 Try.prog 30 bn (m + 1) s2 (updF g (.int .u64 id) (some (.slice (some ⟨gb, 0, none⟩) n' cap')))) (hus : us ≠ []) (h0 : tf' nm id = us) (h1 : ∀ k, k ≠ id → tf' nm k = tf nm k) (h2 : ∀ n, n ≠ nm → tf' n = tf n) :
    IxB w2 base p (m + 1) fd tf' s (addL own gb (.row nm id)) bF bT sT fF fT ∧ Chg own w w2 ∧ Fresh own (addL own gb (.row nm id)) w := by
  have hsz := ht.grown.size
  have hsg := hG.size
  have hxs := hx.size
  have hgb := hO.lt _ rfl
  dsimp only at hgb
  have hg : own gb = none ∨ own gb = some (.row nm id) := by
    rcases hG.at_ with ⟨ad, ha, e⟩ | e
    · exact .inr (e ▸ hra ad ha)
    · left
      cases e' : own gb with
      | none => rfl
      | some l => have := (h.lab _ _ e').2; omega
  have hgw : own gb = some (.row nm id) ∨ w.heap.size ≤ gb := by
    rcases hG.at_ with ⟨ad, ha, e⟩ | e
    · exact .inl (e ▸ hra ad ha)
    · exact .inr (by omega)
  have hkeep : ∀ b, b < w.heap.size → b ≠ bn → (∀ ad, aa = some ad → ad.block ≠ b) → w2.heap[b]? = w.heap[b]? := fun b hlt hne hna => (turned_blk ht (by omega) hne).trans ((hG.block b (by omega) hna).trans (hx.block b hlt))
  refine ⟨h.putR (s1 := 0) (addL_up hg) (fun b l k => ?_) (by omega) hv ho hr (fun b l k hne hl => hkeep b (h.lab b l k).2 hne (fun ad ha e => ?_)) hM ?_ h1 h2, ⟨?_, ?_, ?_, by omega, fun b hlt hn => hkeep b hlt (fun e => ?_) (fun ad ha e => ?_)⟩, addL_up hg, fun b l k => ?_⟩
  · rcases addL_inv k with ⟨rfl, _⟩ | k
    · exact ⟨hgb.1, by omega⟩
    · exact ⟨(h.lab b l k).1, by have := (h.lab b l k).2; omega⟩
  · subst e; rw [hra ad ha] at k; exact hl (Option.some.inj k).symm
  · refine .inr ⟨h0 ▸ hus, _, _, _, rfl, ?_, fun ad e => by cases e; exact addL_same⟩
    rw [h0]
    refine hO.keep fun ad e => turned_blk ht (hO.lt ad e).2 (fun e' => ?_)
    cases e
    dsimp only at e'
    subst e'
    rcases hg with hg | hg
    · rw [hg] at ho; cases ho
    · rw [hg] at ho; cases ho
  · exact ht.grown.os.trans (hG.os.trans hx.os)
  · exact ht.grown.tape.trans (hG.tape.trans hx.tape)
  · exact ht.grown.output.trans (hG.output.trans hx.output)
  · subst e; rw [ho] at hn; cases hn
  · subst e; rw [hra ad ha] at hn; cases hn
  · rcases addL_inv k with ⟨rfl, rfl⟩ | k
    · exact hgw
    · exact .inl k
theorem IxB.afterApp (h : IxB w base p m fd tf s own bF bT sT fF fT) {nm : List UInt8} {id : Int} {bn s1 gb : Nat} {aa : Option Addr} {g : Lit → Option Value} (ho : own bn = some (.inner nm)) (hM : MapF w Try.prog 30 bn m s1 g)
    (hra : ∀ ad, aa = some ad → own ad.block = some (.row nm id)) (hx : Ext w wa) (hG : Grow wa w1 aa gb) : MapF w1 Try.prog 30 bn m s1 g := by
  have hlt := (h.lab _ _ ho).2
  have hxs := hx.size
  exact hM.blk ((hG.block bn (by omega) (fun ad ha e => by have := hra ad ha; rw [e, ho] at this; cases this)).trans (hx.block bn hlt))
end
end Go.Proofs.Ytjggjkmafcokjaa
