/- What an event leaves of filters' tests: plain laws for the index's Match. -/
import Derived.Test.YtjggjkmafcokjaaHold8
import Derived.Test.YtjggjkmafcokjaaAddP
import Derived.Laws.IdiomRangeMap
set_option linter.unusedVariables false
set_option linter.unusedSimpArgs false
namespace Go.Proofs.Ytjggjkmafcokjaa
open Go.RowKit

/-- how many tests do not hold -/
def lackN (ts : List T) (us : List AT) : Nat := (ts.filter (fun t => !holdsT t us)).length
/-- how often a name has come -/
def cntN (us : List AT) (nm : List UInt8) : Nat := (us.filter (fun a => decide (a.nm.toList = nm))).length
theorem cntN_nil (nm : List UInt8) : cntN [] nm = 0 := rfl
theorem cntN_step (us : List AT) (a : AT) (nm : List UInt8) : cntN (us ++ [a]) nm = if a.nm.toList = nm then cntN us nm + 1 else cntN us nm := by
  unfold cntN
  rw [List.filter_append, List.length_append]
  split <;> simp_all
theorem cntN_le (us : List AT) (nm : List UInt8) : cntN us nm ≤ us.length := List.length_filter_le _ _
theorem findA_none {us : List AT} {nm : List UInt8} (h : cntN us nm = 0) : findA us nm = none := by
  unfold cntN at h
  have h := List.eq_nil_of_length_eq_zero h
  unfold findA
  rw [List.find?_eq_none]
  intro x hx hd
  have : x ∈ us.filter (fun a => decide (a.nm.toList = nm)) := List.mem_filter.2 ⟨hx, hd⟩
  rw [h] at this; cases this
theorem findA_app (us : List AT) (a : AT) (nm : List UInt8) : findA (us ++ [a]) nm = (findA us nm).or (if a.nm.toList = nm then some a else none) := by
  unfold findA
  rw [List.find?_append]
  by_cases e : a.nm.toList = nm <;> simp [e]
theorem holds_far {t : T} {us : List AT} {a : AT} (h : a.nm.toList ≠ t.nm.toList) : holdsT t (us ++ [a]) = holdsT t us := by
  unfold holdsT
  rw [findA_app, if_neg h]
  cases findA us t.nm.toList <;> rfl
theorem holds_old {t : T} {us : List AT} {a : AT} (h : cntN us t.nm.toList ≠ 0) : holdsT t (us ++ [a]) = holdsT t us := by
  unfold holdsT
  rw [findA_app]
  cases e : findA us t.nm.toList with
  | some x => rfl
  | none =>
    exfalso
    apply h
    unfold cntN
    unfold findA at e
    rw [List.find?_eq_none] at e
    rw [List.length_eq_zero_iff, List.filter_eq_nil_iff]
    exact e
theorem holds_new {t : T} {us : List AT} {a : AT} (h : cntN us t.nm.toList = 0) (e : a.nm.toList = t.nm.toList) : holdsT t us = false ∧ holdsT t (us ++ [a]) = askB a.v t := by
  unfold holdsT
  rw [findA_app, findA_none h, if_pos e]
  exact ⟨rfl, rfl⟩
theorem lack_old {ts : List T} {us : List AT} {a : AT} (h : cntN us a.nm.toList ≠ 0) : lackN ts (us ++ [a]) = lackN ts us := by
  unfold lackN
  congr 2
  funext t
  by_cases e : a.nm.toList = t.nm.toList
  · rw [holds_old (e ▸ h)]
  · rw [holds_far e]
theorem lack_new {us : List AT} {a : AT} (h : cntN us a.nm.toList = 0) : ∀ ts : List T, lackN ts (us ++ [a]) + cntH (ts.filter (fun t => decide (t.nm.toList = a.nm.toList))) a.v = lackN ts us
  | [] => rfl
  | t :: ts => by
    have ih := lack_new h ts
    unfold lackN cntH at ih ⊢
    by_cases e : t.nm.toList = a.nm.toList
    · obtain ⟨h1, h2⟩ := holds_new (t := t) (a := a) (e ▸ h) e.symm
      simp only [List.filter_cons, h1, h2, e, decide_true, if_true, Bool.not_false, List.length_cons]
      cases askB a.v t <;> simp [-List.filter_filter] <;> omega
    · have h1 := holds_far (t := t) (us := us) (a := a) (fun x => e x.symm)
      simp only [List.filter_cons, h1, e, decide_false]
      cases holdsT t us <;> simp [-List.filter_filter] <;> omega
theorem lack_start (ts : List T) : lackN ts [] = ts.length := by
  unfold lackN
  rw [List.filter_eq_self.2 (fun t _ => by unfold holdsT findA; rfl)]
theorem lack_zero (ts : List T) (us : List AT) : lackN ts us = 0 ↔ matchesT ts us = true := by
  unfold lackN matchesT
  rw [List.length_eq_zero_iff, List.filter_eq_nil_iff, List.all_eq_true]
  constructor
  · intro h t ht; have := h t ht; simpa using this
  · intro h t ht; simp [h t ht]
theorem lack_le (ts : List T) (us : List AT) : lackN ts us ≤ ts.length := List.length_filter_le _ _
theorem tq_some {fd : Int → Option (List T)} {nm : List UInt8} {id : Int} (h : tq fd nm id ≠ []) : ∃ ts, fd id = some ts := by
  unfold tq at h
  cases e : fd id with
  | none => rw [e] at h; exact absurd rfl h
  | some ts => exact ⟨ts, rfl⟩
theorem lack_q {fd : Int → Option (List T)} {us : List AT} {a : AT} {id : Int} {ts : List T} (h : cntN us a.nm.toList = 0) (hf : fd id = some ts) : lackN ts (us ++ [a]) + cntH (tq fd a.nm.toList id) a.v = lackN ts us := by
  unfold tq
  rw [hf]
  exact lack_new h ts
/-- the length of a slice value -/
def lenV : Value → Int
  | .slice _ n _ => n
  | _ => 0
section
variable {P : Program} {w w' : World} {k : TypeId} {b n s : Nat} {f : Lit → Option Value}
theorem MapF.tight (h : MapF w P k b n s f) : MapF w P k b s s f := by
  obtain ⟨D, ⟨es, clock, hb, F, hs, rfl⟩, rfl, rfl⟩ := h
  refine ⟨_, ⟨es, clock, hb, F, ?_, rfl⟩, rfl, rfl⟩
  simp [Maps.size, length_sorted]
theorem run_next_nil {r a c : Nat} {se : Array Nat} (ty : TypeId) (h : w.heap[r]? = some (.mapIter none a se c)) : (Instr.next (.pointer (some ⟨r, 0, none⟩)) false ty).run P w = .ok (.tuple #[.bool false]) w := by
  simp only [Instr.next, getObj, Sem.run_bind, Sem.run, h, Result.andThen]
  rfl
end
section
variable {P : Program} {w : World} {ops : Array Oper} {rest : List Oper} {o : Oper} {a : Act} {Q : Exit → Act → World → Prop} {K : Act → World → Prop} {k e t : TypeId} {b n s : Nat} {f : Lit → Option Value}
theorem op_rangeNil (m : Operand) (hop : o.op = Op.range t m) (ht : P.underlying t = some (.map k e)) (hm : a.eval m = .map none)
    (hK : K (a.put o.dst (.pointer (some ⟨w.heap.size, 0, none⟩))) (w.alloc (.mapIter none 0 #[] 0))) : o.wp P a w K Q := by
  unfold Oper.wp
  simp [execOp, hop, hm, run_range_nilMap w t k e ht, Result.andThen]
  exact hK
theorem op_nextNil {r x y : Nat} {se : Array Nat} (it : Operand) (hop : o.op = Op.next it false) (hit : a.eval it = .pointer (some ⟨r, 0, none⟩)) (h : w.heap[r]? = some (.mapIter none x se y))
    (hK : K (a.put o.dst (.tuple #[.bool false])) w) : o.wp P a w K Q := by
  unfold Oper.wp
  simp [execOp, hop, hit, run_next_nil o.type h, Result.andThen]
  exact hK
theorem wpList_nextF {α β : Type} {r cnt : Nat} {left : Lit → Bool} (hg : o.guard = none) (it : Operand) (hop : o.op = Op.next it false) (KK : Maps.Keyed P k) (mkK : α → Value) (mkV : β → Value)
    (invK : ∀ key kl, keyOf P k key = some kl → ∃ x, key = mkK x) (invV : ∀ key kl v, keyOf P k key = some kl → f kl = some v → ∃ c, v = mkV c) (hit : a.eval it = .pointer (some ⟨r, 0, none⟩)) (h : RangeF w P k b r n s f left cnt)
    (hDone : cnt = 0 → (∀ kl, left kl = false) → wpList P ops Q rest (a.put o.dst (.tuple #[.bool false])) w)
    (hMore : ∀ (x : α) (c : β) (kl : Lit) (w' : World) (cnt' : Nat), keyOf P k (mkK x) = some kl → left kl = true → f kl = some (mkV c) → RangeF w' P k b r n s f (fun z => left z && !z.sameKey kl) cnt' → cnt' < cnt →
      w.grownBy w' (some r) → w'.heap.size = w.heap.size → (Instr.entry (.pointer (some ⟨r, 0, none⟩))).run P w' = .ok (.tuple #[mkK x, mkV c]) w' → wpList P ops Q rest (a.put o.dst (.tuple #[.bool true, mkK x, mkV c])) w') : wpList P ops Q (o :: rest) a w :=
  list_of hg fun K hK => op_next it hop KK mkK mkV invK invV hit h (fun h0 hl => hK _ _ (hDone h0 hl)) (fun x c kl w' cnt' h1 h2 h3 h4 h5 h6 h7 h8 => hK _ _ (hMore x c kl w' cnt' h1 h2 h3 h4 h5 h6 h7 h8))
end
theorem put_to {K : Act → World → Prop} {a : Act} {d d' : Option Tmp} {v : Value} {w : World} (hd : d' = d) (h : K (a.put d v) w) : K (a.put d' v) w := hd ▸ h
theorem same_iff {x y : Int} : ((Lit.int .u64 x).sameKey (.int .u64 y)) = decide (x = y) := by simp [Lit.sameKey]
/-- the lengths of the filters that have come -/
structure LenK (fd : Int → Option (List T)) (left : Lit → Bool) (g : Lit → Option Value) : Prop where
  at_ : ∀ id, g (.int .u64 id) = if left (.int .u64 id) = true then none else (fd id).map (fun ts => .int .i64 ts.length)
theorem LenK.start {fd : Int → Option (List T)} {fF : Lit → Option Value} (hF : ∀ id, (fF (.int .u64 id)).isSome = (fd id).isSome) : LenK fd (fun kl => (fF kl).isSome) (fun _ => none) := ⟨fun id => by
  rw [hF]
  cases fd id <;> rfl⟩
theorem LenK.step {fd : Int → Option (List T)} {left : Lit → Bool} {g : Lit → Option Value} (h : LenK fd left g) {x : Int} {ts : List T} (hx : fd x = some ts) : LenK fd (fun z => left z && !z.sameKey (.int .u64 x)) (updF g (.int .u64 x) (some (.int .i64 ts.length))) := ⟨fun id => by
  by_cases e : id = x
  · subst e
    rw [upd_same, hx]
    simp [same_iff]
  · rw [upd_other (fun k => e (by cases k; rfl)), h.at_ id]
    simp [same_iff, e]⟩
/-- what is lacking when some attributes have come -/
def Lacks (fd : Int → Option (List T)) (us : List AT) (g : Lit → Option Value) : Prop := ∀ id, g (.int .u64 id) = (fd id).map (fun ts => .int .i64 (lackN ts us))
theorem LenK.done {fd : Int → Option (List T)} {left : Lit → Bool} {g : Lit → Option Value} (h : LenK fd left g) (hl : ∀ kl, left kl = false) : Lacks fd [] g := fun id => by
  rw [h.at_ id, hl]
  simp only [Bool.false_eq_true, if_false]
  congr 1
  funext ts
  rw [lack_start]
/-- in the midst of the tests of a name -/
structure LackK (fd : Int → Option (List T)) (us : List AT) (a : AT) (left : Lit → Bool) (g : Lit → Option Value) : Prop where
  at_ : ∀ id, g (.int .u64 id) = (fd id).map (fun ts => .int .i64 (if left (.int .u64 id) = true then lackN ts us else lackN ts (us ++ [a])))
theorem LackK.start {fd : Int → Option (List T)} {us : List AT} {a : AT} {g q : Lit → Option Value} (h : Lacks fd us g) (hc : cntN us a.nm.toList = 0) (hq : ∀ id, q (.int .u64 id) = none → tq fd a.nm.toList id = []) : LackK fd us a (fun kl => (q kl).isSome) g := ⟨fun id => by
  rw [h id]
  cases e : fd id with
  | none => rfl
  | some ts =>
    simp only [Option.map_some]
    cases e2 : q (.int .u64 id) with
    | some v => rfl
    | none =>
      have := lack_q (a := a) hc e
      rw [hq id e2] at this
      have h0 : cntH [] a.v = 0 := rfl
      rw [h0] at this
      simp; omega⟩
theorem LackK.step {fd : Int → Option (List T)} {us : List AT} {a : AT} {left : Lit → Bool} {g : Lit → Option Value} (h : LackK fd us a left g) {x : Int} {ts : List T} (hx : fd x = some ts) : LackK fd us a (fun z => left z && !z.sameKey (.int .u64 x)) (updF g (.int .u64 x) (some (.int .i64 (lackN ts (us ++ [a]))))) := ⟨fun id => by
  by_cases e : id = x
  · subst e
    rw [upd_same, hx]
    simp [same_iff]
  · rw [upd_other (fun k => e (by cases k; rfl)), h.at_ id]
    simp [same_iff, e]⟩
theorem LackK.done {fd : Int → Option (List T)} {us : List AT} {a : AT} {left : Lit → Bool} {g : Lit → Option Value} (h : LackK fd us a left g) (hl : ∀ kl, left kl = false) : Lacks fd (us ++ [a]) g := fun id => by
  rw [h.at_ id, hl]
  simp only [Bool.false_eq_true, if_false]
theorem Lacks.old {fd : Int → Option (List T)} {us : List AT} {a : AT} {g : Lit → Option Value} (h : Lacks fd us g) (hc : cntN us a.nm.toList ≠ 0) : Lacks fd (us ++ [a]) g := fun id => by
  rw [h id]
  congr 1
  funext ts
  rw [lack_old hc]
theorem Lacks.nil {fd : Int → Option (List T)} {us : List AT} {a : AT} {g : Lit → Option Value} (h : Lacks fd us g) (hc : cntN us a.nm.toList = 0) (hq : ∀ id, tq fd a.nm.toList id = []) : Lacks fd (us ++ [a]) g :=
  LackK.done (LackK.start (q := fun _ => none) h hc (fun id _ => hq id)) (fun _ => rfl)
theorem cnt_upd {us : List AT} {a : AT} {g : Lit → Option Value} (h : ∀ nm, (g (.string nm)).getD (.int .i64 0) = .int .i64 (cntN us nm)) (nm : List UInt8) : (updF g (.string a.nm.toList) (some (.int .i64 ((cntN us a.nm.toList : Int) + 1))) (.string nm)).getD (.int .i64 0) = .int .i64 (cntN (us ++ [a]) nm) := by
  rw [cntN_step]
  by_cases e : a.nm.toList = nm
  · subst e; rw [upd_same, if_pos rfl]; simp
  · rw [upd_other (fun k => e (by cases k; rfl)), if_neg e]; exact h nm
/-- what is left while those that lack are taken out -/
structure LeftK (fd : Int → Option (List T)) (es : List AT) (left : Lit → Bool) (g : Lit → Option Value) : Prop where
  at_ : ∀ id, g (.int .u64 id) = (fd id).bind (fun ts => if left (.int .u64 id) = true ∨ lackN ts es = 0 then some (.int .i64 (lackN ts es)) else none)
theorem LeftK.start {fd : Int → Option (List T)} {es : List AT} {g : Lit → Option Value} (h : Lacks fd es g) : LeftK fd es (fun kl => (g kl).isSome) g := ⟨fun id => by
  cases e : fd id with
  | none => rw [h id, e]; rfl
  | some ts => rw [h id, e]; simp⟩
theorem LeftK.keep {fd : Int → Option (List T)} {es : List AT} {left : Lit → Bool} {g : Lit → Option Value} (h : LeftK fd es left g) {x : Int} {ts : List T} (hx : fd x = some ts) (h0 : lackN ts es = 0) : LeftK fd es (fun z => left z && !z.sameKey (.int .u64 x)) g := ⟨fun id => by
  rw [h.at_ id]
  by_cases e : id = x
  · subst e; rw [hx]; simp [h0]
  · simp [same_iff, e]⟩
theorem LeftK.drop {fd : Int → Option (List T)} {es : List AT} {left : Lit → Bool} {g : Lit → Option Value} (h : LeftK fd es left g) {x : Int} {ts : List T} (hx : fd x = some ts) (h0 : lackN ts es ≠ 0) : LeftK fd es (fun z => left z && !z.sameKey (.int .u64 x)) (updF g (.int .u64 x) none) := ⟨fun id => by
  by_cases e : id = x
  · subst e; rw [upd_same, hx]; simp [h0, same_iff]
  · rw [upd_other (fun k => e (by cases k; rfl)), h.at_ id]; simp [same_iff, e]⟩
theorem LeftK.done {fd : Int → Option (List T)} {es : List AT} {left : Lit → Bool} {g : Lit → Option Value} (h : LeftK fd es left g) (hl : ∀ kl, left kl = false) (id : Int) : (g (.int .u64 id)).isSome = true ↔ ∃ ts, fd id = some ts ∧ matchesT ts es = true := by
  rw [h.at_ id, hl]
  cases e : fd id with
  | none => simp
  | some ts =>
    simp only [Option.bind_some, Bool.false_eq_true, false_or, Option.some.injEq, exists_eq_left']
    rw [← lack_zero]
    split <;> simp_all
theorem LeftK.val {fd : Int → Option (List T)} {es : List AT} {left : Lit → Bool} {g : Lit → Option Value} (h : LeftK fd es left g) {x : Int} {v : Value} (hv : g (.int .u64 x) = some v) : ∃ ts, fd x = some ts ∧ v = .int .i64 (lackN ts es) := by
  rw [h.at_ x] at hv
  cases e : fd x with
  | none => rw [e] at hv; cases hv
  | some ts =>
    rw [e] at hv
    simp only [Option.bind_some] at hv
    split at hv
    · cases hv; exact ⟨ts, rfl, rfl⟩
    · cases hv
end Go.Proofs.Ytjggjkmafcokjaa
