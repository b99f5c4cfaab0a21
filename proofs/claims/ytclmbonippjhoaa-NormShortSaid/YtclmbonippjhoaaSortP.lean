/- Tests sorted: what the kit's sort at structs makes of a row of one's own; and that a sorted list is one alone. -/
import Derived.Test.YtclmbonippjhoaaOrd06
import Derived.Shelf.SlSortCmp.InsertionK
import Derived.Sort.LotA
set_option linter.unusedVariables false
set_option linter.unusedSimpArgs false
namespace Go.Proofs.Ytclmbonippjhoaa
open Go.RowKit Go.Sort

instance : Inhabited T := ⟨⟨⟨#[]⟩, 0, 0, 0, ⟨#[]⟩⟩⟩

/-- Draws and new blocks alone. -/
def Gr (w w' : World) : Prop := ∃ q os, w' = grow (w.drewN q) os
theorem Gr.refl (w : World) : Gr w w := ⟨0, #[], by rw [grow_empty]; rfl⟩
theorem Gr.alloc {w w' : World} (h : Gr w w') (o : Obj) : Gr w (w'.alloc o) := by
  obtain ⟨q, os, rfl⟩ := h
  exact ⟨q, _, by rw [alloc_eq_grow, grow_grow]⟩
theorem Gr.trans {a b c : World} (h : Gr a b) (k : Gr b c) : Gr a c := by
  obtain ⟨q, os, rfl⟩ := h
  obtain ⟨q', os', rfl⟩ := k
  refine ⟨q + q', os ++ os', ?_⟩
  rw [← grow_grow]
  show grow (grow ((a.drewN q).drewN q') os) os' = _
  congr 2
  unfold World.drewN
  simp [Nat.add_assoc]
theorem Gr.ext {w w' : World} (h : Gr w w') : Ext w w' := by
  obtain ⟨q, os, rfl⟩ := h
  exact ⟨rfl, rfl, rfl, by rw [size_grow]; exact Nat.le_add_right _ _, fun k hk => heap_grow_old _ _ hk⟩

theorem own_head {w : World} {base : Nat} {e : TypeId} {aa : Option Addr} {n cap : Nat} {xs : List T} (h : Own w base e 5 T.cs aa n cap xs) (h0 : 0 < n) :
    ∃ g cur, aa = some ⟨g, 0, none⟩ ∧ base ≤ g ∧ w.heap[g]? = some (.cells cur e (0, 0)) ∧ cur.size = cap * 5 ∧ n ≤ cap ∧ cap ≤ maxLen ∧ cur.toList.take (n * 5) = xs.flatMap T.cs := by
  rcases h.row.2 with ⟨hv, hn⟩ | ⟨g, cp, cur, hv, hbs, hgg, hle, hmx, hcs, htk⟩
  · omega
  · simp only [Value.slice.injEq] at hv
    obtain ⟨rfl, _, rfl⟩ := hv
    exact ⟨g, cur, rfl, hbs, hgg, hcs, hle, hmx, htk⟩
theorem getBang {l : List T} {i : Nat} (h : i < l.length) : l.toArray[i]! = l[i] := by
  rw [getElem!_pos _ i (by simpa using h)]; simp
theorem flat_get {xs : List T} {t : Nat} (h : t < xs.length * 5) : (xs.flatMap T.cs)[t]? = some (flatK T.cs 5 xs.toArray)[t]! := by
  have hk : t / 5 < xs.length := Nat.div_lt_of_lt_mul (by omega)
  have hj : t % 5 < (T.cs xs[t / 5]).length := by rw [T.wid]; exact Nat.mod_lt _ (by decide)
  have := flatMap_at T.wid xs (t / 5) _ (List.getElem?_eq_getElem hk) (t % 5) _ (List.getElem?_eq_getElem hj)
  rw [show t / 5 * 5 + t % 5 = t from by omega] at this
  rw [this, get_flatK _ _ _ _ (by simpa using h), getBang hk, getElem!_pos (T.cs xs[t / 5]) (t % 5) hj]
theorem own_holds {w : World} {g : Nat} {e : TypeId} {cur : Array Value} {n : Nat} {xs : List T} (hg : w.heap[g]? = some (.cells cur e (0, 0))) (htk : cur.toList.take (n * 5) = xs.flatMap T.cs) (hn : n = xs.length) :
    HoldsK T.cs 5 w g 0 xs.toArray := by
  intro j hj
  have hj' : j < xs.length * 5 := by simpa using hj
  refine ⟨?_, ?_⟩
  · rw [Nat.zero_add]
    refine cellH hg ?_
    have := flat_get hj'
    rw [← htk, List.getElem?_take_of_lt (by omega)] at this
    rw [← Array.getElem?_toList]; exact this
  · simp only [World.frozen?, hg]
    simp
theorem own_sorted {w : World} {base g : Nat} {e : TypeId} {cur : Array Value} {n cap m : Nat} {os : Array Obj} {ys : List T} (hbs : base ≤ g) (hg : w.heap[g]? = some (.cells cur e (0, 0))) (hcs : cur.size = cap * 5) (hle : n ≤ cap) (hmx : cap ≤ maxLen) (hn : n = ys.length) :
    Own (sortWorldK T.cs 5 w g 0 m ys.toArray os) base e 5 T.cs (some ⟨g, 0, none⟩) n cap ys := by
  have hgl := lt_of_block hg
  refine ⟨⟨?_, .inr ⟨g, cap, putCells id 0 (flatK T.cs 5 ys.toArray) cur, rfl, hbs, ?_, hle, hmx, ?_, ?_⟩⟩, hn, T.wid⟩
  · rw [hn]
    have : ∀ l : List T, (l.flatMap T.cs).length = l.length * 5 := fun l => by
      induction l with
      | nil => rfl
      | cons y l ih => rw [List.flatMap_cons, List.length_append, ih, T.wid, List.length_cons]; omega
    exact this ys
  · unfold sortWorldK
    rw [heap_grow_old _ _ (by rw [show (putRowK T.cs 5 (Sort.ahead w m) g 0 ys.toArray).heap.size = (Sort.ahead w m).heap.size from size_putRow _ _ _ _ _]; exact hgl)]
    unfold putRowK putRow mapBlock
    show (w.heap.modify g _)[g]? = _
    rw [Array.getElem?_modify, if_pos rfl, hg]
    rfl
  · unfold putCells; rw [Array.size_mapIdx]; exact hcs
  · apply List.ext_getElem?
    intro t
    by_cases ht : t < n * 5
    · have ht' : t < ys.length * 5 := by rw [← hn]; exact ht
      have htc : t < cur.size := by rw [hcs]; exact Nat.lt_of_lt_of_le ht (Nat.mul_le_mul_right 5 hle)
      rw [List.getElem?_take_of_lt ht, flat_get ht', Array.getElem?_toList]
      unfold putCells
      rw [Array.getElem?_mapIdx, Array.getElem?_eq_getElem htc, Option.map_some, if_pos ⟨Nat.zero_le _, by simpa using ht'⟩]
      rfl
    · rw [List.getElem?_eq_none (by rw [List.length_take]; omega), List.getElem?_eq_none]
      have : ∀ l : List T, (l.flatMap T.cs).length = l.length * 5 := fun l => by
        induction l with
        | nil => rfl
        | cons y l ih => rw [List.flatMap_cons, List.length_append, ih, T.wid, List.length_cons]; omega
      rw [this]; omega
theorem ext_sorted {W w : World} {g m : Nat} {os : Array Obj} {d : Array T} (hx : Ext W w) (hg : W.heap.size ≤ g) : Ext W (sortWorldK T.cs 5 w g 0 m d os) := by
  refine Below.trans hx ⟨rfl, rfl, rfl, ?_, fun k hk => ?_⟩
  · unfold sortWorldK; rw [size_grow]
    exact Nat.le_trans (by rw [show (putRowK T.cs 5 (Sort.ahead w m) g 0 d).heap.size = (Sort.ahead w m).heap.size from size_putRow _ _ _ _ _]; exact Nat.le_refl _) (Nat.le_add_right _ _)
  · have hkw : k < w.heap.size := Nat.lt_of_lt_of_le hk hx.size
    unfold sortWorldK
    rw [heap_grow_old _ _ (by rw [show (putRowK T.cs 5 (Sort.ahead w m) g 0 d).heap.size = (Sort.ahead w m).heap.size from size_putRow _ _ _ _ _]; exact hkw)]
    unfold putRowK putRow mapBlock
    show (w.heap.modify g _)[k]? = _
    rw [Array.getElem?_modify, if_neg (by omega)]

/-! The sorted list -/
theorem ts_inj {a b : T} (h : a.ts = b.ts) : a = b := by
  obtain ⟨n, o, k, m, s⟩ := a
  obtain ⟨n', o', k', m', s'⟩ := b
  simp only [T.ts, T.v, Ts.mk.injEq, Vl.mk.injEq] at h
  obtain ⟨h1, rfl, rfl, rfl, h2⟩ := h
  rw [toList_inj h1, toList_inj h2]
def leT (a b : T) : Bool := decide (ordT a.ts b.ts ≤ 0)
def ltT (a b : T) : Bool := ltOf (fun a b : T => ordT a.ts b.ts) a b
theorem swo_lt : SWO ltT where
  irrefl x := by
    show decide (ordT x.ts x.ts < 0) = false
    rw [ordT_self]; rfl
  trans x y z h k := by
    unfold ltT ltOf at *
    simp only [decide_eq_true_eq] at *
    have r1 := ordT_range x.ts y.ts
    have r2 := ordT_range y.ts z.ts
    rw [ordT_lt_trans x.ts y.ts z.ts (by omega) (by omega)]; decide
  ntrans x y z h k := by
    unfold ltT ltOf at *
    simp only [decide_eq_false_iff_not] at *
    have n1 := ordT_neg x.ts y.ts
    have n2 := ordT_neg y.ts z.ts
    have n3 := ordT_neg x.ts z.ts
    have := ordT_le_trans z.ts y.ts x.ts (by omega) (by omega)
    omega
theorem lt_anti (x y : T) (h : ltT x y = false) (k : ltT y x = false) : x = y := by
  unfold ltT ltOf at *
  simp only [decide_eq_false_iff_not] at *
  have n1 := ordT_neg x.ts y.ts
  exact ts_inj ((ordT_zero x.ts y.ts).1 (by omega))
/-- a list of tests, sorted -/
def sortT (xs : List T) : List T := xs.mergeSort (fun x y => !ltT y x)
theorem sort_ins (xs : List T) : (Sort.insertionSort ltT xs.toArray 0 xs.length).toList = sortT xs := by
  have h := insertionSort_holds (lt := ltT) swo_lt xs.toArray 0 xs.length (Nat.zero_le _) (by simp)
  have := sorted_unique_holds (lt := ltT) swo_lt lt_anti xs.toArray _ (by simpa using h.1) (by simpa using h.2)
  unfold sortT
  simpa using this
theorem sort_size (xs : List T) : (Sort.insertionSort ltT xs.toArray 0 xs.length).size = xs.length := by
  have h := insertionSort_holds (lt := ltT) swo_lt xs.toArray 0 xs.length (Nat.zero_le _) (by simp)
  have := h.1.1
  simpa using this
theorem sort_perm (xs : List T) : (sortT xs).Perm xs := List.mergeSort_perm _ _
theorem sort_len (xs : List T) : (sortT xs).length = xs.length := (sort_perm xs).length_eq
theorem sort_pair (xs : List T) : (sortT xs).Pairwise (fun a b => ordT a.ts b.ts ≤ 0) := by
  have h : (sortT xs).Pairwise (fun a b => (!ltT b a) = true) := List.pairwise_mergeSort (fun a b c h1 h2 => by
    simp only [Bool.not_eq_true'] at *
    exact swo_lt.ntrans c b a h2 h1) (fun a b => by
    cases h : ltT b a with
    | false => simp
    | true => simp [swo_lt.asymmA h]) xs
  refine h.imp fun {a b} h => ?_
  unfold ltT ltOf at h
  simp only [Bool.not_eq_true', decide_eq_false_iff_not] at h
  have := ordT_neg a.ts b.ts
  omega
theorem sort_eq {xs ys : List T} (h : xs.Perm ys) : sortT xs = sortT ys := by
  refine List.Perm.eq_of_pairwise (le := fun a b => ordT a.ts b.ts ≤ 0) (fun a b _ _ h1 h2 => ?_) (sort_pair xs) (sort_pair ys) ((sort_perm xs).trans (h.trans (sort_perm ys).symm))
  have := ordT_neg a.ts b.ts
  exact ts_inj ((ordT_zero a.ts b.ts).1 (by omega))
end Go.Proofs.Ytclmbonippjhoaa
