/- An index in memory: the filters by their numbers, and their tests of each name. -/
import Derived.Test.YtjggjkmafcokjaaFMap
import Derived.Test.YtjggjkmafcokjaaOwn8
import Derived.Test.YtjggjkmafcokjaaFndM8
set_option linter.unusedVariables false
set_option linter.unusedSimpArgs false
namespace Go.Proofs.Ytjggjkmafcokjaa
open Go.RowKit

/-- What a block of an index is. -/
inductive Lab where
  | P
  | F
  | T
  | inner (nm : List UInt8)
  | row (nm : List UInt8) (id : Int)
  | flt (id : Int)
/-- a filter's tests of a name -/
def tq (fd : Int → Option (List T)) (nm : List UInt8) (id : Int) : List T := ((fd id).getD []).filter (fun t => decide (t.nm.toList = nm))
def FltOk (w : World) (own : Nat → Option Lab) (id : Int) : Option (List T) → Option Value → Prop
  | none, x => x = none
  | some ts, x => ∃ a n c, x = some (.slice a n c) ∧ Sl w 5 T.cs a n c ts ∧ ∀ ad, a = some ad → ts ≠ [] → own ad.block = some (.flt id)
def RowOk (w : World) (own : Nat → Option Lab) (base : Nat) (nm : List UInt8) (id : Int) (ts : List T) (x : Option Value) : Prop :=
  (ts = [] ∧ x = none) ∨ (ts ≠ [] ∧ ∃ a n c, x = some (.slice a n c) ∧ Own w base 54 5 T.cs a n c ts ∧ ∀ ad, a = some ad → own ad.block = some (.row nm id))
def InnOk (w : World) (own : Nat → Option Lab) (base m : Nat) (nm : List UInt8) (tf : Int → List T) (x : Option Value) : Prop :=
  (x = none ∧ ∀ id, tf id = []) ∨ ∃ bn s g, x = some (.map (some bn)) ∧ own bn = some (.inner nm) ∧ MapF w Try.prog 30 bn m s g ∧ ∀ id, RowOk w own base nm id (tf id) (g (.int .u64 id))
/-- An index: its struct lies at block p. -/
structure IxB (w : World) (base p m : Nat) (fd : Int → Option (List T)) (tf : List UInt8 → Int → List T) (s : Nat) (own : Nat → Option Lab) (bF bT sT : Nat) (fF fT : Lit → Option Value) : Prop where
  lab : ∀ b l, own b = some l → base ≤ b ∧ b < w.heap.size
  oP : own p = some .P
  oF : own bF = some .F
  oT : own bT = some .T
  hP : w.heap[p]? = some (.cells #[.map (some bF), .map (some bT)] 68 (0, 0))
  mF : MapF w Try.prog 30 bF m s fF
  mT : MapF w Try.prog 9 bT m sT fT
  flt : ∀ id, FltOk w own id (fd id) (fF (.int .u64 id))
  inn : ∀ nm, InnOk w own base m nm (tf nm) (fT (.string nm))
def Ix (w : World) (base p m : Nat) (fd : Int → Option (List T)) (s : Nat) (own : Nat → Option Lab) : Prop := ∃ bF bT sT fF fT, IxB w base p m fd (tq fd) s own bF bT sT fF fT
/-- nothing but an index's own blocks has turned -/
structure Chg (own : Nat → Option Lab) (w w' : World) : Prop where
  os : w'.os = w.os
  tape : w'.tape = w.tape
  output : w'.output = w.output
  size : w.heap.size ≤ w'.heap.size
  block : ∀ b, b < w.heap.size → own b = none → w'.heap[b]? = w.heap[b]?
theorem Chg.of {own : Nat → Option Lab} {w w' : World} (h : Ext w w') : Chg own w w' := ⟨h.os, h.tape, h.output, h.size, fun b hb _ => h.block b hb⟩
theorem Chg.trans {own own' : Nat → Option Lab} {w w' w'' : World} (h : Chg own w w') (k : Chg own' w' w'') (hn : ∀ b, b < w.heap.size → own b = none → own' b = none) : Chg own w w'' :=
  ⟨k.os.trans h.os, k.tape.trans h.tape, k.output.trans h.output, Nat.le_trans h.size k.size, fun b hb ho => (k.block b (Nat.lt_of_lt_of_le hb h.size) (hn b hb ho)).trans (h.block b hb ho)⟩
theorem Chg.below {own : Nat → Option Lab} {w w' : World} {base : Nat} (h : Chg own w w') (hl : ∀ b l, own b = some l → base ≤ b) (hb : base ≤ w.heap.size) : Below base w w' :=
  ⟨h.os, h.tape, h.output, h.size, fun b hb' => h.block b (by omega) (by
    cases e : own b with
    | none => rfl
    | some l => have := hl b l e; omega)⟩
theorem Chg.turned {own : Nat → Option Lab} {w w' : World} {b : Nat} {l : Lab} (h : w.mapTurned w' b) (ho : own b = some l) : Chg own w w' := by
  have hg := h.grown
  exact ⟨hg.os, hg.tape, hg.output, hg.size, fun k hk hn => hg.block k hk (fun e => by cases e; rw [ho] at hn; cases hn)⟩
section
variable {w w' : World} {own own' : Nat → Option Lab}
theorem Sl.blk {α : Type} {sz : Nat} {c : α → List Value} {a : Option Addr} {n cap : Nat} {xs : List α} (h : Sl w sz c a n cap xs) (hb : ∀ ad, a = some ad → xs ≠ [] → w'.heap[ad.block]? = w.heap[ad.block]?) : Sl w' sz c a n cap xs :=
  ⟨h.neq, h.len, h.max, h.none, h.wid, fun k x hk => by
    obtain ⟨b, o, ha, hc⟩ := h.at_ k x hk
    exact ⟨b, o, ha, fun j v hj => (World.cell?_of_block (a := ⟨b, o + k * sz + j, .none⟩) (hb ⟨b, o, .none⟩ ha (by rintro rfl; cases hk))).trans (hc j v hj)⟩⟩
theorem FltOk.blk {id : Int} {o : Option (List T)} {x : Option Value} (h : FltOk w own id o x) (hm : ∀ b l, own b = some l → own' b = some l) (hb : ∀ b, own b = some (.flt id) → w'.heap[b]? = w.heap[b]?) : FltOk w' own' id o x := by
  cases o with
  | none => exact h
  | some ts =>
    obtain ⟨a, n, c, hx, hs, ho⟩ := h
    exact ⟨a, n, c, hx, hs.blk fun ad ha hne => hb _ (ho ad ha hne), fun ad ha hne => hm _ _ (ho ad ha hne)⟩
theorem RowOk.blk {base : Nat} {nm : List UInt8} {id : Int} {ts : List T} {x : Option Value} (h : RowOk w own base nm id ts x) (hm : ∀ b l, own b = some l → own' b = some l) (hb : ∀ b, own b = some (.row nm id) → w'.heap[b]? = w.heap[b]?) : RowOk w' own' base nm id ts x := by
  rcases h with h | ⟨hne, a, n, c, hx, hs, ho⟩
  · exact .inl h
  · exact .inr ⟨hne, a, n, c, hx, hs.keep fun ad ha => hb _ (ho ad ha), fun ad ha => hm _ _ (ho ad ha)⟩
theorem InnOk.blk {base m m' : Nat} {nm : List UInt8} {tf : Int → List T} {x : Option Value} (h : InnOk w own base m nm tf x) (hm : ∀ b l, own b = some l → own' b = some l) (hmm : m ≤ m')
    (h1 : ∀ b, own b = some (.inner nm) → w'.heap[b]? = w.heap[b]?) (h2 : ∀ b id, own b = some (.row nm id) → w'.heap[b]? = w.heap[b]?) : InnOk w' own' base m' nm tf x := by
  rcases h with h | ⟨bn, s, g, hx, ho, hM, hr⟩
  · exact .inl h
  · exact .inr ⟨bn, s, g, hx, hm _ _ ho, (hM.blk (h1 bn ho)).mono hmm, fun id => (hr id).blk hm fun b hb => h2 b id hb⟩
end
section
variable {w w' : World} {base p m s bF bT sT : Nat} {fd : Int → Option (List T)} {tf : List UInt8 → Int → List T} {own own' : Nat → Option Lab} {fF fT : Lit → Option Value}
theorem IxB.ext (h : IxB w base p m fd tf s own bF bT sT fF fT) (hx : Ext w w') : IxB w' base p m fd tf s own bF bT sT fF fT := by
  have hs : ∀ b l, own b = some l → w'.heap[b]? = w.heap[b]? := fun b l ho => hx.block b (h.lab b l ho).2
  exact ⟨fun b l ho => ⟨(h.lab b l ho).1, Nat.lt_of_lt_of_le (h.lab b l ho).2 hx.size⟩, h.oP, h.oF, h.oT, (hs _ _ h.oP).trans h.hP, h.mF.ext hx, h.mT.ext hx, fun id => (h.flt id).blk (fun _ _ k => k) (fun b ho => hs b _ ho),
    fun nm => (h.inn nm).blk (fun _ _ k => k) (Nat.le_refl _) (fun b ho => hs b _ ho) (fun b id ho => hs b _ ho)⟩
theorem IxB.mono (h : IxB w base p m fd tf s own bF bT sT fF fT) {m' : Nat} (hm : m ≤ m') : IxB w base p m' fd tf s own bF bT sT fF fT :=
  ⟨h.lab, h.oP, h.oF, h.oT, h.hP, h.mF.mono hm, h.mT.mono hm, h.flt, fun nm => (h.inn nm).blk (fun _ _ k => k) hm (fun _ _ => rfl) (fun _ _ _ => rfl)⟩
theorem IxB.ne {b1 b2 : Nat} {l1 l2 : Lab} (h1 : own b1 = some l1) (h2 : own b2 = some l2) (hne : l1 ≠ l2) : b1 ≠ b2 := fun e => by subst e; rw [h1] at h2; exact hne (Option.some.inj h2)
/-- one more label -/
noncomputable def addL (own : Nat → Option Lab) (b : Nat) (l : Lab) : Nat → Option Lab := fun k => if k = b then some l else own k
theorem addL_same {b : Nat} {l : Lab} : addL own b l b = some l := by unfold addL; rw [if_pos rfl]
theorem addL_old {b k : Nat} {l l' : Lab} (hb : own b = none) (h : own k = some l') : addL own b l k = some l' := by
  unfold addL; rw [if_neg (fun e => by subst e; rw [h] at hb; cases hb)]; exact h
theorem addL_inv {b k : Nat} {l l' : Lab} (h : addL own b l k = some l') : (k = b ∧ l' = l) ∨ own k = some l' := by
  unfold addL at h
  split at h
  · next e => exact .inl ⟨e, (Option.some.inj h).symm⟩
  · exact .inr h
theorem addL_none {b k : Nat} {l : Lab} (h : own k = none) (hne : k ≠ b) : addL own b l k = none := by unfold addL; rw [if_neg hne]; exact h
/-- a filter is put -/
theorem IxB.putF (h : IxB w base p m fd tf s own bF bT sT fF fT) (hm : ∀ b l, own b = some l → own' b = some l) (hlab : ∀ b l, own' b = some l → base ≤ b ∧ b < w'.heap.size)
    (hb : ∀ b l, own b = some l → b ≠ bF → w'.heap[b]? = w.heap[b]?) {id : Int} {ts : List T} {a : Option Addr} {n c s' : Nat} (hM : MapF w' Try.prog 30 bF (m + 1) s' (updF fF (.int .u64 id) (some (.slice a n c))))
    (hS : Sl w' 5 T.cs a n c ts) (ho : ∀ ad, a = some ad → ts ≠ [] → own' ad.block = some (.flt id)) :
    IxB w' base p (m + 1) (fun k => if k = id then some ts else fd k) tf s' own' bF bT sT (updF fF (.int .u64 id) (some (.slice a n c))) fT := by
  have hne : ∀ {b : Nat} {l : Lab}, own b = some l → l ≠ .F → w'.heap[b]? = w.heap[b]? := fun {b l} k hl => hb b l k (IxB.ne k h.oF hl)
  refine ⟨hlab, hm _ _ h.oP, hm _ _ h.oF, hm _ _ h.oT, (hne h.oP (by simp)).trans h.hP, hM, (h.mT.blk (hne h.oT (by simp))).mono (Nat.le_succ _), fun k => ?_, fun nm => ?_⟩
  · by_cases e : k = id
    · subst e
      rw [upd_same]
      show FltOk w' own' k (if k = k then some ts else fd k) _
      rw [if_pos rfl]
      exact ⟨a, n, c, rfl, hS, ho⟩
    · rw [upd_other (fun x => e (by cases x; rfl))]
      show FltOk w' own' k (if k = id then some ts else fd k) _
      rw [if_neg e]
      exact (h.flt k).blk hm fun b hb' => hne hb' (by simp)
  · exact (h.inn nm).blk hm (Nat.le_succ _) (fun b hb' => hne hb' (by simp)) (fun b id hb' => hne hb' (by simp))
end
end Go.Proofs.Ytjggjkmafcokjaa
