/- A map in memory as a function from keys to values, over the kit's words on maps. No program is named here. -/
import Derived.Test.YtjggjkmafcokjaaBase
import Derived.Maps.OwnOps
import Derived.Maps.OwnSet
import Derived.Maps.RangeWalk
set_option linter.unusedVariables false
set_option linter.unusedSimpArgs false
namespace Go.Proofs.Ytjggjkmafcokjaa
open Go.RowKit

/-- A value that a map may hold, written as a datum. -/
def encV : Value → Option (DataW Unit × List MemPlace)
  | .int q a => some (.lit (.int q a), [])
  | .slice none n c => some (.slice [.lit (.int .i64 n), .lit (.int .i64 c)] [], [])
  | .slice (some ⟨b, o, none⟩) n c => some (.slice [.lit (.int .i64 b), .lit (.int .i64 o), .lit (.int .i64 n), .lit (.int .i64 c)] [], [])
  | .map none => some (.nil, [])
  | .map (some b) => some (.agg [.lit (.int .i64 b)], [])
  | _ => none
def decV : DataW Unit → Option Value
  | .lit (.int q a) => some (.int q a)
  | .slice [.lit (.int _ n), .lit (.int _ c)] _ => some (.slice none n.toNat c.toNat)
  | .slice [.lit (.int _ b), .lit (.int _ o), .lit (.int _ n), .lit (.int _ c)] _ => some (.slice (some ⟨b.toNat, o.toNat, none⟩) n.toNat c.toNat)
  | .nil => some (.map none)
  | .agg [.lit (.int _ b)] => some (.map (some b.toNat))
  | _ => none
theorem dec_enc {v : Value} {y : DataW Unit × List MemPlace} (h : encV v = some y) : decV y.1 = some v := by
  unfold encV at h
  split at h
  · cases h; rfl
  · cases h; simp [decV]
  · cases h; simp [decV]
  · cases h; rfl
  · cases h; simp [decV]
  · cases h
/-- what a map has at a key -/
def getF (D : DataW Unit) (kl : Lit) : Option Value := if Maps.has D kl = true then decV (D.atKey kl .nil) else none
theorem at_any {D : DataW Unit} {kl : Lit} (h : Maps.has D kl = true) (z z' : DataW Unit) : D.atKey kl z = D.atKey kl z' := by
  match D, h with
  | .map es, h =>
    unfold DataW.atKey
    dsimp only
    split
    · rfl
    · next e =>
      rw [Maps.has_eq, List.any_eq_true] at h
      obtain ⟨p, hm, hs⟩ := h
      rw [List.find?_eq_none] at e
      exact absurd hs (e p hm)
theorem owns_val {w : World} {P : Program} {k : TypeId} {b n : Nat} {D : DataW Unit} (h : w.ownsMap P k encV b n D) {kl : Lit} (hh : Maps.has D kl = true) : ∃ v y, encV v = some y ∧ (∀ z, D.atKey kl z = y.1) ∧ ∃ key, keyOf P k key = some kl := by
  obtain ⟨es, clock, _, F, _, rfl⟩ := h
  rw [Maps.has_eq, List.any_eq_true] at hh
  cases e : (((es.toList.map (WideElems.rg P k encV)).foldr DataW.insert [])).find? (fun p => p.1.sameKey kl) with
  | none =>
    obtain ⟨p, hm, hs⟩ := hh
    rw [List.find?_eq_none] at e
    exact absurd hs (e p hm)
  | some p =>
    have hm := List.mem_of_find?_eq_some e
    have hs : p.1.sameKey kl = true := by simpa using List.find?_some e
    obtain ⟨x, hx, rfl⟩ := List.mem_map.1 (mem_sorted.1 hm)
    obtain ⟨y0, hy0⟩ := F.reads x hx
    obtain ⟨y, hy, hyd⟩ := WideElems.rd_val hy0
    refine ⟨x.val, y, hy, fun z => ?_, x.key, ?_⟩
    · unfold DataW.atKey
      dsimp only
      rw [e, WideElems.rg_of hy0]
      exact hyd
    · rw [WideElems.rg_of hy0] at hs
      rw [← WideAt.sameKey_eq hs]
      exact WideElems.rd_key hy0
theorem get_some {w : World} {P : Program} {k : TypeId} {b n : Nat} {D : DataW Unit} (h : w.ownsMap P k encV b n D) (kl : Lit) : (getF D kl).isSome = Maps.has D kl := by
  unfold getF
  cases hh : Maps.has D kl with
  | false => rfl
  | true =>
    obtain ⟨v, y, hv, hat, _⟩ := owns_val h hh
    rw [if_pos rfl, hat, dec_enc hv]; rfl
/-- a function with one key more -/
noncomputable def updF (f : Lit → Option Value) (kl : Lit) (v : Option Value) : Lit → Option Value := fun k => @ite _ (k = kl) (Classical.propDecidable _) v (f k)
theorem upd_same {f : Lit → Option Value} {kl : Lit} {v : Option Value} : updF f kl v kl = v := by unfold updF; rw [if_pos rfl]
theorem upd_other {f : Lit → Option Value} {kl k : Lit} {v : Option Value} (h : k ≠ kl) : updF f kl v k = f k := by unfold updF; rw [if_neg h]
theorem get_put {D : DataW Unit} (hD : Maps.IsMap D) {kl : Lit} (hk : WideAt.IsKeyLit kl) {v : Value} {y : DataW Unit × List MemPlace} (hv : encV v = some y) : getF (D.put kl y.1) = updF (getF D) kl (some v) := by
  funext k
  unfold getF
  by_cases h : k = kl
  · subst h
    rw [upd_same, if_pos (Maps.has_put_same hD hk _), Maps.atKey_put_same hD hk, dec_enc hv]
  · rw [upd_other h, Maps.has_put_other h, Maps.atKey_put_other h]
theorem get_del {D : DataW Unit} {kl : Lit} : getF (D.del kl) = updF (getF D) kl none := by
  funext k
  unfold getF
  by_cases h : k = kl
  · subst h
    rw [upd_same, if_neg (by rw [Maps.has_del_same]; decide)]
  · rw [upd_other h, Maps.has_del_other h, Maps.atKey_del_other h]

/-- Block b is a map of at most n entries, of s entries, that has f's values. -/
def MapF (w : World) (P : Program) (k : TypeId) (b n s : Nat) (f : Lit → Option Value) : Prop := ∃ D, w.ownsMap P k encV b n D ∧ Maps.size D = s ∧ getF D = f
section
variable {P : Program} {k : TypeId} {w w' : World} {b n s : Nat} {f : Lit → Option Value}
theorem MapF.lt (h : MapF w P k b n s f) : b < w.heap.size := let ⟨_, h, _⟩ := h; h.lt
theorem MapF.blk (h : MapF w P k b n s f) (hb : w'.heap[b]? = w.heap[b]?) : MapF w' P k b n s f := by
  obtain ⟨D, ⟨es, clock, h1, h2⟩, h3, h4⟩ := h
  exact ⟨D, ⟨es, clock, hb.trans h1, h2⟩, h3, h4⟩
theorem MapF.ext (h : MapF w P k b n s f) (hx : Ext w w') : MapF w' P k b n s f := h.blk (hx.block b h.lt)
theorem MapF.mono (h : MapF w P k b n s f) {m : Nat} (hm : n ≤ m) : MapF w P k b m s f := let ⟨D, h1, h2, h3⟩ := h; ⟨D, h1.mono hm, h2, h3⟩
theorem MapF.made (w : World) (P : Program) (k : TypeId) : MapF (w.alloc (.map #[] 0)) P k w.heap.size 0 0 (fun _ => none) :=
  ⟨.map [], World.ownsMap_made w P k encV, rfl, by funext kl; rfl⟩
theorem MapF.size_le (h : MapF w P k b n s f) : s ≤ n := let ⟨_, h1, h2, _⟩ := h; h2 ▸ h1.size_le
/-- an integer or a text at each key: no other has a value -/
theorem MapF.isObj (h : MapF w P k b n s f) : ∃ es c, w.heap[b]? = some (.map es c) := let ⟨_, ⟨es, c, h, _⟩, _⟩ := h; ⟨es, c, h⟩
theorem MapF.look {t e : TypeId} (h : MapF w P k b n s f) (K : Maps.Keyed P k) (ht : P.underlying t = some (.map k e)) {z : Value} (hz : (zeroValue e).run P w = .ok z w) {y : DataW Unit × List MemPlace} (hy : encV z = some y)
    {key : Value} {kl : Lit} (hkey : keyOf P k key = some kl) : (Instr.lookup t (.map (some b)) key false).run P w = .ok ((f kl).getD z) w := by
  obtain ⟨D, h, _, rfl⟩ := h
  obtain ⟨v, ps, hrun, hv⟩ := h.lookup K ht hz (zd := y.1) (zp := y.2) hy hkey
  rw [hrun]
  have hd := dec_enc hv
  dsimp only at hd
  unfold getF
  by_cases hh : Maps.has D kl = true
  · rw [if_pos hh, at_any hh .nil y.1, hd]; rfl
  · rw [if_neg hh]
    rw [Maps.atKey_of_not_has (by simpa using hh), dec_enc hy] at hd
    cases hd; rfl
theorem MapF.lookOk {t e : TypeId} (h : MapF w P k b n s f) (K : Maps.Keyed P k) (ht : P.underlying t = some (.map k e)) {z : Value} (hz : (zeroValue e).run P w = .ok z w) {y : DataW Unit × List MemPlace} (hy : encV z = some y)
    {key : Value} {kl : Lit} (hkey : keyOf P k key = some kl) : (Instr.lookup t (.map (some b)) key true).run P w = .ok (.tuple #[(f kl).getD z, .bool (f kl).isSome]) w := by
  obtain ⟨D, h, _, rfl⟩ := h
  obtain ⟨v, ps, hrun, hv⟩ := h.look_ok K ht hz (zd := y.1) (zp := y.2) hy hkey
  rw [hrun]
  have hd := dec_enc hv
  dsimp only at hd
  unfold getF
  by_cases hh : Maps.has D kl = true
  · rw [if_pos hh, at_any hh .nil y.1, hd, hh]; rfl
  · rw [if_neg hh]
    rw [Maps.atKey_of_not_has (by simpa using hh), dec_enc hy] at hd
    cases hd
    rw [show Maps.has D kl = false from by simpa using hh]; rfl
theorem MapF.store {t e : TypeId} (h : MapF w P k b n s f) (K : Maps.Keyed P k) (ht : P.underlying t = some (.map k e)) (hn : n < maxLen) {key val : Value} {kl : Lit} {y : DataW Unit × List MemPlace} (hkey : keyOf P k key = some kl) (hv : encV val = some y) :
    ∃ w', (Instr.mapUpdate t (.map (some b)) key val).run P w = .ok () w' ∧ MapF w' P k b (n + 1) (if (f kl).isSome = true then s else s + 1) (updF f kl (some val)) ∧ w.mapTurned w' b := by
  obtain ⟨D, h, rfl, rfl⟩ := h
  obtain ⟨w', hrun, h1, h2⟩ := h.store K ht hn (d := y.1) (ps := y.2) hkey hv
  refine ⟨w', hrun, ⟨_, h1, ?_, get_put h.isMap (K.key hkey) hv⟩, h2⟩
  rw [Maps.size_put (h.tidy K), get_some h]
theorem MapF.drop {t e : TypeId} (h : MapF w P k b n s f) (K : Maps.Keyed P k) (ht : P.underlying t = some (.map k e)) {key : Value} {kl : Lit} (hkey : keyOf P k key = some kl) (ty : TypeId) :
    ∃ w', (Builtin.delete_ #[t, k] ty #[.map (some b), key]).run P w = .ok (.tuple #[]) w' ∧ MapF w' P k b n (if (f kl).isSome = true then s - 1 else s) (updF f kl none) ∧ w.mapTurned w' b := by
  obtain ⟨D, h, rfl, rfl⟩ := h
  obtain ⟨w', hrun, h1, h2⟩ := h.drop K ht hkey ty
  refine ⟨w', hrun, ⟨_, h1, ?_, get_del⟩, h2⟩
  rw [get_some h]
  have := Maps.size_del (k := kl) (h.tidy K)
  split <;> simp_all <;> omega
theorem MapF.len {t e : TypeId} (h : MapF w P k b n s f) (ht : P.underlying t = some (.map k e)) (ty : TypeId) : (Builtin.len_ #[t] ty #[.map (some b)]).run P w = .ok (.int .i64 s) w := by
  obtain ⟨D, h, rfl, rfl⟩ := h
  exact h.len ht ty
theorem MapF.zero (h : MapF w P k b n s f) (K : Maps.Keyed P k) : s = 0 ↔ ∀ kl, f kl = none := by
  obtain ⟨D, h, rfl, rfl⟩ := h
  have hs := fun kl => get_some h kl
  obtain ⟨es, e, _, hk⟩ := h.entries K
  subst e
  constructor
  · intro h0 kl
    have h1 := hs kl
    rw [Maps.size_eq] at h0
    rw [Maps.has_eq, List.eq_nil_of_length_eq_zero h0] at h1
    rw [List.any_nil, Option.isSome_eq_false_iff, Option.isNone_iff_eq_none] at h1
    rw [List.eq_nil_of_length_eq_zero h0]
    exact h1
  · intro h0
    rw [Maps.size_eq]
    cases es with
    | nil => rfl
    | cons p es =>
      have h1 := hs p.1
      rw [h0 p.1, Maps.has_eq, List.any_cons, WideAt.sameKey_self (hk p List.mem_cons_self)] at h1
      cases h1
/-- A range over a map, under way. -/
def RangeF (w : World) (P : Program) (k : TypeId) (b r n s : Nat) (f : Lit → Option Value) (left : Lit → Bool) (cnt : Nat) : Prop := ∃ D, w.ranges P k encV b r n D left cnt ∧ Maps.size D = s ∧ getF D = f
theorem RangeF.map {r cnt : Nat} {left : Lit → Bool} (h : RangeF w P k b r n s f left cnt) : MapF w P k b n s f := let ⟨D, h1, h2, h3⟩ := h; ⟨D, h1.owns, h2, h3⟩
theorem RangeF.left_eq {r cnt : Nat} {left : Lit → Bool} (h : RangeF w P k b r n s f left cnt) : w.rangeLeft b r = cnt := let ⟨_, h1, _⟩ := h; h1.left_eq
theorem RangeF.lt {r cnt : Nat} {left : Lit → Bool} (h : RangeF w P k b r n s f left cnt) : r < w.heap.size := let ⟨_, h1, _⟩ := h; h1.lt
theorem RangeF.blk {r cnt : Nat} {left : Lit → Bool} (h : RangeF w P k b r n s f left cnt) (hb : w'.heap[b]? = w.heap[b]?) (hr : w'.heap[r]? = w.heap[r]?) : RangeF w' P k b r n s f left cnt := by
  obtain ⟨D, ⟨es, clock, since, seen, c0, h1, F, hs, hD, h2, rest⟩, h3, h4⟩ := h
  exact ⟨D, ⟨es, clock, since, seen, c0, hb.trans h1, F, hs, hD, hr.trans h2, rest⟩, h3, h4⟩
theorem MapF.range {t e : TypeId} (h : MapF w P k b n s f) (K : Maps.Keyed P k) (ht : P.underlying t = some (.map k e)) :
    ∃ w', (Instr.range t (.map (some b))).run P w = .ok (.pointer (some ⟨w.heap.size, 0, none⟩)) w' ∧ RangeF w' P k b w.heap.size n s f (fun kl => (f kl).isSome) s ∧ Ext w w' ∧ w'.heap.size = w.heap.size + 1 := by
  obtain ⟨D, h, rfl, rfl⟩ := h
  obtain ⟨w', hrun, h1, h2, h3⟩ := h.range K ht
  refine ⟨w', hrun, ⟨D, ?_, rfl, rfl⟩, Below.grown (Below.refl _ _) h2 (Nat.le_refl _) (fun j hj => by cases hj), h3⟩
  rw [show (fun kl => (getF D kl).isSome) = Maps.has D from funext (get_some h)]
  exact h1
theorem RangeF.next {r cnt : Nat} {left : Lit → Bool} (h : RangeF w P k b r n s f left cnt) (K : Maps.Keyed P k) (ty : TypeId) :
    (cnt = 0 ∧ (∀ kl, left kl = false) ∧ (Instr.next (.pointer (some ⟨r, 0, none⟩)) false ty).run P w = .ok (.tuple #[.bool false]) w) ∨
    ∃ key v kl w' cnt', keyOf P k key = some kl ∧ left kl = true ∧ f kl = some v ∧ (Instr.next (.pointer (some ⟨r, 0, none⟩)) false ty).run P w = .ok (.tuple #[.bool true, key, v]) w' ∧
      RangeF w' P k b r n s f (fun x => left x && !x.sameKey kl) cnt' ∧ cnt' < cnt ∧ w.grownBy w' (some r) ∧ w'.heap.size = w.heap.size ∧ (Instr.entry (.pointer (some ⟨r, 0, none⟩))).run P w' = .ok (.tuple #[key, v]) w' := by
  obtain ⟨D, h, rfl, rfl⟩ := h
  rcases h.next K ty with ⟨h0, hl, hrun⟩ | ⟨key, v, kl, y, w', cnt', hkey, hlk, hv, hat, hrun, hrg, hlt, hgr, hsz, hen⟩
  · exact .inl ⟨h0, hl, hrun⟩
  · refine .inr ⟨key, v, kl, w', cnt', hkey, hlk, ?_, hrun, ⟨D, hrg, rfl, rfl⟩, hlt, hgr, hsz, hen⟩
    have hh : Maps.has D kl = true := Maps.has_true_of_atKey hat
    unfold getF
    rw [if_pos hh, hat, dec_enc hv]
theorem RangeF.drop {t e : TypeId} {r cnt : Nat} {left : Lit → Bool} (h : RangeF w P k b r n s f left cnt) (K : Maps.Keyed P k) (ht : P.underlying t = some (.map k e)) {key : Value} {kl : Lit} (hkey : keyOf P k key = some kl) (ty : TypeId) :
    ∃ w' cnt', (Builtin.delete_ #[t, k] ty #[.map (some b), key]).run P w = .ok (.tuple #[]) w' ∧ RangeF w' P k b r n (if (f kl).isSome = true then s - 1 else s) (updF f kl none) (fun x => left x && !x.sameKey kl) cnt' ∧ cnt' ≤ cnt ∧ w.mapTurned w' b := by
  obtain ⟨D, h, rfl, rfl⟩ := h
  have ho := h.owns
  obtain ⟨w', cnt', hrun, h1, h2, h3⟩ := h.drop K ht hkey ty
  refine ⟨w', cnt', hrun, ⟨_, h1, ?_, get_del⟩, h2, h3⟩
  rw [get_some ho]
  have := Maps.size_del (k := kl) (ho.tidy K)
  split <;> simp_all <;> omega
end
end Go.Proofs.Ytjggjkmafcokjaa
