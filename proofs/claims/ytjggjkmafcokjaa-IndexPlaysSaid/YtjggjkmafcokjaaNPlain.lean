/- Plain laws on tests and filters: what a value is as a test asks it, which test implies which, which filter covers which. No program is named here. -/
import Derived.Test.YtjggjkmafcokjaaVPlain
set_option linter.unusedVariables false
set_option linter.unusedSimpArgs false
namespace Go.Proofs.Ytjggjkmafcokjaa

/-- a value -/
structure Vl where
  k : Int
  n : Int
  s : List UInt8
deriving DecidableEq
def Vl.ord (a b : Vl) : Int := vOrd a.k a.n a.s b.k b.n b.s
def Vl.beg (a b : Vl) : Bool := vBeg a.k a.s b.k b.s
def Vl.ok (a : Vl) : Prop := vChk a.k a.n a.s = 0

theorem ord_range (a b : Vl) : -1 ≤ a.ord b ∧ a.ord b ≤ 1 := by
  have := vOrd_range a.k a.n a.s b.k b.n b.s; unfold Vl.ord; omega
theorem ord_neg (a b : Vl) : b.ord a = - a.ord b := vOrd_neg _ _ _ _ _ _
theorem ord_zero (a b : Vl) : a.ord b = 0 ↔ a = b := by
  obtain ⟨k, n, s⟩ := a; obtain ⟨k', n', s'⟩ := b
  unfold Vl.ord; rw [vOrd_eq_zero]; simp
theorem ord_lt_trans (a b c : Vl) (h : a.ord b = -1) (k : b.ord c = -1) : a.ord c = -1 := by
  unfold Vl.ord at *
  rw [vOrd_neg_one] at *
  exact vLess_trans _ _ _ _ _ _ _ _ _ h k
/-- what three values' orders have to do with each other -/
theorem ord3 (a b c : Vl) : (a.ord b ≤ 0 → b.ord c ≤ 0 → a.ord c ≤ 0) ∧ (a.ord b < 0 → b.ord c ≤ 0 → a.ord c < 0) ∧ (a.ord b ≤ 0 → b.ord c < 0 → a.ord c < 0) ∧
    (0 ≤ a.ord b → 0 ≤ b.ord c → 0 ≤ a.ord c) ∧ (0 < a.ord b → 0 ≤ b.ord c → 0 < a.ord c) ∧ (0 ≤ a.ord b → 0 < b.ord c → 0 < a.ord c) := by
  have r1 := ord_range a b
  have r2 := ord_range b c
  have r3 := ord_range a c
  have n1 := ord_neg a b
  have n2 := ord_neg b c
  have n3 := ord_neg a c
  have t1 := ord_lt_trans a b c
  have t2 := ord_lt_trans c b a
  have z1 : a.ord b = 0 → a.ord c = b.ord c := fun h => by rw [(ord_zero a b).1 h]
  have z2 : b.ord c = 0 → a.ord c = a.ord b := fun h => by rw [(ord_zero b c).1 h]
  refine ⟨?_, ?_, ?_, ?_, ?_, ?_⟩ <;> intro h1 h2 <;> omega

theorem pre_nless : ∀ (t s : List UInt8), t.isPrefixOf s = true → bl s t = false
  | [], s, _ => bl_nil_right s
  | a :: t, [], h => by simp [List.isPrefixOf] at h
  | a :: t, b :: s, h => by
    simp only [List.isPrefixOf, Bool.and_eq_true, beq_iff_eq] at h
    obtain ⟨rfl, h⟩ := h
    rw [bl_cons, pre_nless t s h]; simp
theorem beg_trans {a b c : Vl} (h : a.beg b = true) (k : b.beg c = true) : a.beg c = true := by
  unfold Vl.beg vBeg at *
  simp only [Bool.and_eq_true, decide_eq_true_eq, List.isPrefixOf_iff_prefix] at *
  exact ⟨⟨h.1.1, k.1.2⟩, k.2.trans h.2⟩
theorem beg_k {a b : Vl} (h : a.beg b = true) : a.k = 2 ∧ b.k = 2 := by
  unfold Vl.beg vBeg at h
  simp only [Bool.and_eq_true, decide_eq_true_eq] at h
  exact h.1
theorem beg_self {a : Vl} (h : a.k = 2) : a.beg a = true := by
  unfold Vl.beg vBeg; simp [h]
theorem ok_n {a : Vl} (h : a.ok) (hk : a.k = 2) : a.n = 0 := by
  unfold Vl.ok vChk at h
  split at h
  · rename_i c; omega
  · omega
theorem beg_ord {a b : Vl} (ha : a.ok) (hb : b.ok) (h : a.beg b = true) : 0 ≤ a.ord b := by
  have hk := beg_k h
  have n1 := ok_n ha hk.1
  have n2 := ok_n hb hk.2
  have hp : b.s.isPrefixOf a.s = true := by unfold Vl.beg vBeg at h; simp only [Bool.and_eq_true] at h; exact h.2
  have hl := pre_nless _ _ hp
  have r := ord_range a b
  rcases Int.lt_or_le (a.ord b) 0 with h0 | h0
  · have e : a.ord b = -1 := by omega
    unfold Vl.ord at e
    rw [vOrd_neg_one] at e
    unfold vLess at e
    rw [hk.1, hk.2, n1, n2] at e
    simp [hl] at e
  · exact h0

/-- what an op asks: n: which of the value and the test's own comes first; bg: whether it begins with it -/
def asks (op n : Int) (bg : Bool) : Bool :=
  if op = 1 then decide (n = 0) else if op = 2 then !decide (n = 0) else if op = 3 then decide (n < 0) else if op = 4 then decide (n ≤ 0)
  else if op = 5 then decide (0 < n) else if op = 6 then decide (0 ≤ n) else if op = 7 then bg else false
/-- whether a value is as a test asks it -/
def isV (op : Int) (b v : Vl) : Bool := if op = 8 then true else decide (v.k = b.k) && asks op (v.ord b) (v.beg b)
/-- what a test implies of another one of its name, whose value is of its kind -/
def pairV (op : Int) (a : Vl) (op' : Int) (b : Vl) : Bool :=
  if op = 1 then isV op' b a
  else if op = 3 then decide (op' = 3 ∨ op' = 4 ∨ op' = 2) && decide (a.ord b ≤ 0)
  else if op = 4 then (decide (op' = 4) && decide (a.ord b ≤ 0)) || (decide (op' = 3 ∨ op' = 2) && decide (a.ord b < 0))
  else if op = 5 then decide (op' = 5 ∨ op' = 6 ∨ op' = 2) && decide (0 ≤ a.ord b)
  else if op = 6 then (decide (op' = 6) && decide (0 ≤ a.ord b)) || (decide (op' = 5 ∨ op' = 2) && decide (0 < a.ord b))
  else if op = 7 then (if op' = 7 then a.beg b else if op' = 6 then decide (0 ≤ a.ord b) else if op' = 5 then decide (0 < a.ord b) else if op' = 2 then !b.beg a else false)
  else false
def known (op : Int) : Bool := decide (1 ≤ op ∧ op ≤ 8)
/-- a test -/
structure Ts where
  nm : List UInt8
  op : Int
  v : Vl
deriving DecidableEq
/-- whether each value that is as one test asks it is as another one does -/
def impT (a b : Ts) : Bool :=
  decide (a.nm = b.nm) && known a.op && known b.op && (decide (a = b) || decide (b.op = 8) || (!decide (a.op = 8) && decide (a.v.k = b.v.k) && pairV a.op a.v b.op b.v))
/-- a test that may be, as far as the laws ask -/
structure Ts.ok (t : Ts) : Prop where
  op : 1 ≤ t.op ∧ t.op ≤ 8
  v : t.op = 8 ∨ t.v.ok
  pre : t.op = 7 → t.v.k = 2

theorem asks_cases {op n : Int} {bg : Bool} (h : asks op n bg = true) : (op = 1 ∧ n = 0) ∨ (op = 2 ∧ n ≠ 0) ∨ (op = 3 ∧ n < 0) ∨ (op = 4 ∧ n ≤ 0) ∨ (op = 5 ∧ 0 < n) ∨ (op = 6 ∧ 0 ≤ n) ∨ (op = 7 ∧ bg = true) := by
  unfold asks at h
  by_cases h1 : op = 1
  · rw [if_pos h1] at h; exact .inl ⟨h1, of_decide_eq_true h⟩
  rw [if_neg h1] at h
  by_cases h2 : op = 2
  · rw [if_pos h2] at h; exact .inr (.inl ⟨h2, by simpa using h⟩)
  rw [if_neg h2] at h
  by_cases h3 : op = 3
  · rw [if_pos h3] at h; exact .inr (.inr (.inl ⟨h3, of_decide_eq_true h⟩))
  rw [if_neg h3] at h
  by_cases h4 : op = 4
  · rw [if_pos h4] at h; exact .inr (.inr (.inr (.inl ⟨h4, of_decide_eq_true h⟩)))
  rw [if_neg h4] at h
  by_cases h5 : op = 5
  · rw [if_pos h5] at h; exact .inr (.inr (.inr (.inr (.inl ⟨h5, of_decide_eq_true h⟩))))
  rw [if_neg h5] at h
  by_cases h6 : op = 6
  · rw [if_pos h6] at h; exact .inr (.inr (.inr (.inr (.inr (.inl ⟨h6, of_decide_eq_true h⟩)))))
  rw [if_neg h6] at h
  by_cases h7 : op = 7
  · rw [if_pos h7] at h; exact .inr (.inr (.inr (.inr (.inr (.inr ⟨h7, h⟩)))))
  rw [if_neg h7] at h; cases h
theorem asks_1 (n : Int) (bg : Bool) : asks 1 n bg = decide (n = 0) := rfl
theorem asks_2 (n : Int) (bg : Bool) : asks 2 n bg = !decide (n = 0) := rfl
theorem asks_3 (n : Int) (bg : Bool) : asks 3 n bg = decide (n < 0) := rfl
theorem asks_4 (n : Int) (bg : Bool) : asks 4 n bg = decide (n ≤ 0) := rfl
theorem asks_5 (n : Int) (bg : Bool) : asks 5 n bg = decide (0 < n) := rfl
theorem asks_6 (n : Int) (bg : Bool) : asks 6 n bg = decide (0 ≤ n) := rfl
theorem asks_7 (n : Int) (bg : Bool) : asks 7 n bg = bg := rfl

/-- the cases of 'pairV' -/
theorem pair_cases {op op' : Int} {a b : Vl} (h : pairV op a op' b = true) : (op = 1 ∧ isV op' b a = true) ∨
    (op = 3 ∧ (op' = 3 ∨ op' = 4 ∨ op' = 2) ∧ a.ord b ≤ 0) ∨ (op = 4 ∧ ((op' = 4 ∧ a.ord b ≤ 0) ∨ ((op' = 3 ∨ op' = 2) ∧ a.ord b < 0))) ∨
    (op = 5 ∧ (op' = 5 ∨ op' = 6 ∨ op' = 2) ∧ 0 ≤ a.ord b) ∨ (op = 6 ∧ ((op' = 6 ∧ 0 ≤ a.ord b) ∨ ((op' = 5 ∨ op' = 2) ∧ 0 < a.ord b))) ∨
    (op = 7 ∧ ((op' = 7 ∧ a.beg b = true) ∨ (op' = 6 ∧ 0 ≤ a.ord b) ∨ (op' = 5 ∧ 0 < a.ord b) ∨ (op' = 2 ∧ b.beg a = false))) := by
  unfold pairV at h
  by_cases h1 : op = 1
  · rw [if_pos h1] at h; exact .inl ⟨h1, h⟩
  rw [if_neg h1] at h
  by_cases h3 : op = 3
  · rw [if_pos h3] at h; simp at h; exact .inr (.inl ⟨h3, by omega, h.2⟩)
  rw [if_neg h3] at h
  by_cases h4 : op = 4
  · rw [if_pos h4] at h; simp at h; exact .inr (.inr (.inl ⟨h4, by omega⟩))
  rw [if_neg h4] at h
  by_cases h5 : op = 5
  · rw [if_pos h5] at h; simp at h; exact .inr (.inr (.inr (.inl ⟨h5, by omega, h.2⟩)))
  rw [if_neg h5] at h
  by_cases h6 : op = 6
  · rw [if_pos h6] at h; simp at h; exact .inr (.inr (.inr (.inr (.inl ⟨h6, by omega⟩))))
  rw [if_neg h6] at h
  by_cases h7 : op = 7
  · rw [if_pos h7] at h
    refine .inr (.inr (.inr (.inr (.inr ⟨h7, ?_⟩))))
    by_cases g7 : op' = 7
    · rw [if_pos g7] at h; exact .inl ⟨g7, h⟩
    rw [if_neg g7] at h
    by_cases g6 : op' = 6
    · rw [if_pos g6] at h; exact .inr (.inl ⟨g6, of_decide_eq_true h⟩)
    rw [if_neg g6] at h
    by_cases g5 : op' = 5
    · rw [if_pos g5] at h; exact .inr (.inr (.inl ⟨g5, of_decide_eq_true h⟩))
    rw [if_neg g5] at h
    by_cases g2 : op' = 2
    · rw [if_pos g2] at h; exact .inr (.inr (.inr ⟨g2, by simpa using h⟩))
    rw [if_neg g2] at h; cases h
  rw [if_neg h7] at h; cases h
theorem isV_of {op : Int} {b v : Vl} (hk : v.k = b.k) (h : asks op (v.ord b) (v.beg b) = true) : isV op b v = true := by
  unfold isV; split
  · rfl
  · rw [h]; simp [hk]
theorem isV_k {op : Int} {b v : Vl} (h : isV op b v = true) (h8 : op ≠ 8) : v.k = b.k ∧ asks op (v.ord b) (v.beg b) = true := by
  unfold isV at h; rw [if_neg h8] at h; simpa using h

/-- what a pair implies is so -/
theorem pair_sound {op op' : Int} {a b v : Vl} (ha : a.ok) (hv : v.ok) (hk : a.k = b.k) (hp : pairV op a op' b = true) (h8 : op ≠ 8) (h : isV op a v = true) : isV op' b v = true := by
  obtain ⟨k1, q⟩ := isV_k h h8
  have o := ord3 v a b
  have n1 := ord_neg v a
  rcases pair_cases hp with ⟨rfl, hi⟩ | ⟨rfl, hc, ho⟩ | ⟨rfl, hc⟩ | ⟨rfl, hc, ho⟩ | ⟨rfl, hc⟩ | ⟨rfl, hc⟩
  · rw [asks_1] at q
    have := (ord_zero v a).1 (of_decide_eq_true q)
    rw [this]; exact hi
  · rw [asks_3] at q
    have q := of_decide_eq_true q
    rcases hc with rfl | rfl | rfl <;> refine isV_of (by omega) ?_
    · rw [asks_3]; simp; omega
    · rw [asks_4]; simp; omega
    · rw [asks_2]; simp; omega
  · rw [asks_4] at q
    have q := of_decide_eq_true q
    rcases hc with ⟨rfl, ho⟩ | ⟨rfl | rfl, ho⟩ <;> refine isV_of (by omega) ?_
    · rw [asks_4]; simp; omega
    · rw [asks_3]; simp; omega
    · rw [asks_2]; simp; omega
  · rw [asks_5] at q
    have q := of_decide_eq_true q
    rcases hc with rfl | rfl | rfl <;> refine isV_of (by omega) ?_
    · rw [asks_5]; simp; omega
    · rw [asks_6]; simp; omega
    · rw [asks_2]; simp; omega
  · rw [asks_6] at q
    have q := of_decide_eq_true q
    rcases hc with ⟨rfl, ho⟩ | ⟨rfl | rfl, ho⟩ <;> refine isV_of (by omega) ?_
    · rw [asks_6]; simp; omega
    · rw [asks_5]; simp; omega
    · rw [asks_2]; simp; omega
  · rw [asks_7] at q
    have hb := beg_ord hv ha q
    rcases hc with ⟨rfl, ho⟩ | ⟨rfl, ho⟩ | ⟨rfl, ho⟩ | ⟨rfl, ho⟩ <;> refine isV_of (by omega) ?_
    · rw [asks_7]; exact beg_trans q ho
    · rw [asks_6]; simp; omega
    · rw [asks_5]; simp; omega
    · rw [asks_2]
      have : v.ord b ≠ 0 := fun e => by
        have := (ord_zero v b).1 e
        subst this
        rw [q] at ho; cases ho
      simp [this]
theorem imp_op {a b : Ts} (h : impT a b = true) : a.nm = b.nm ∧ (1 ≤ a.op ∧ a.op ≤ 8) ∧ (1 ≤ b.op ∧ b.op ≤ 8) ∧ (a = b ∨ b.op = 8 ∨ (a.op ≠ 8 ∧ a.v.k = b.v.k ∧ pairV a.op a.v b.op b.v = true)) := by
  unfold impT known at h
  simp only [Bool.and_eq_true, Bool.or_eq_true, decide_eq_true_eq, Bool.not_eq_true', decide_eq_false_iff_not] at h
  obtain ⟨⟨⟨h1, h2⟩, h3⟩, h4⟩ := h
  refine ⟨h1, h2, h3, ?_⟩
  rcases h4 with (h4 | h4) | ⟨⟨h4, h5⟩, h6⟩
  · exact .inl h4
  · exact .inr (.inl h4)
  · exact .inr (.inr ⟨h4, h5, h6⟩)
theorem imp_mk {a b : Ts} (h1 : a.nm = b.nm) (h2 : 1 ≤ a.op ∧ a.op ≤ 8) (h3 : 1 ≤ b.op ∧ b.op ≤ 8) (h4 : a = b ∨ b.op = 8 ∨ (a.op ≠ 8 ∧ a.v.k = b.v.k ∧ pairV a.op a.v b.op b.v = true)) : impT a b = true := by
  unfold impT known
  simp only [Bool.and_eq_true, Bool.or_eq_true, decide_eq_true_eq, Bool.not_eq_true', decide_eq_false_iff_not]
  refine ⟨⟨⟨h1, h2⟩, h3⟩, ?_⟩
  rcases h4 with h4 | h4 | ⟨h4, h5, h6⟩
  · exact .inl (.inl h4)
  · exact .inl (.inr h4)
  · exact .inr ⟨⟨h4, h5⟩, h6⟩
theorem imp_sound {a b : Ts} {v : Vl} (ha : a.ok) (hv : v.ok) (hi : impT a b = true) (h : isV a.op a.v v = true) : isV b.op b.v v = true := by
  obtain ⟨_, _, _, hc⟩ := imp_op hi
  rcases hc with rfl | h8 | ⟨h8, hk, hp⟩
  · exact h
  · unfold isV; rw [if_pos h8]
  · exact pair_sound (ha.v.resolve_left h8) hv hk hp h8 h
theorem imp_self {a : Ts} (ha : a.ok) : impT a a = true := imp_mk rfl ha.op ha.op (.inl rfl)
theorem pv3 {op' : Int} {a b : Vl} (h : op' = 3 ∨ op' = 4 ∨ op' = 2) (o : a.ord b ≤ 0) : pairV 3 a op' b = true := by rcases h with rfl | rfl | rfl <;> simp [pairV, o]
theorem pv4 {op' : Int} {a b : Vl} (h : (op' = 4 ∧ a.ord b ≤ 0) ∨ ((op' = 3 ∨ op' = 2) ∧ a.ord b < 0)) : pairV 4 a op' b = true := by rcases h with ⟨rfl, o⟩ | ⟨rfl | rfl, o⟩ <;> simp [pairV, o]
theorem pv5 {op' : Int} {a b : Vl} (h : op' = 5 ∨ op' = 6 ∨ op' = 2) (o : 0 ≤ a.ord b) : pairV 5 a op' b = true := by rcases h with rfl | rfl | rfl <;> simp [pairV, o]
theorem pv6 {op' : Int} {a b : Vl} (h : (op' = 6 ∧ 0 ≤ a.ord b) ∨ ((op' = 5 ∨ op' = 2) ∧ 0 < a.ord b)) : pairV 6 a op' b = true := by rcases h with ⟨rfl, o⟩ | ⟨rfl | rfl, o⟩ <;> simp [pairV, o]
theorem pv77 {a b : Vl} (h : a.beg b = true) : pairV 7 a 7 b = true := by simp [pairV, h]
theorem pv76 {a b : Vl} (o : 0 ≤ a.ord b) : pairV 7 a 6 b = true := by simp [pairV, o]
theorem pv75 {a b : Vl} (o : 0 < a.ord b) : pairV 7 a 5 b = true := by simp [pairV, o]
theorem pv72 {a b : Vl} (h : b.beg a = false) : pairV 7 a 2 b = true := by simp [pairV, h]
theorem not_beg {a c : Vl} (ha : a.ok) (hc : c.ok) (o : 0 < a.ord c) : c.beg a = false := by
  cases h : c.beg a with
  | false => rfl
  | true => have := beg_ord hc ha h; have := ord_neg a c; omega
theorem imp_trans {a b c : Ts} (ha : a.ok) (hb : b.ok) (hc : c.ok) (h : impT a b = true) (k : impT b c = true) : impT a c = true := by
  obtain ⟨h1, h2, h3, h4⟩ := imp_op h
  obtain ⟨k1, k2, k3, k4⟩ := imp_op k
  refine imp_mk (h1.trans k1) h2 k3 ?_
  rcases h4 with rfl | h8 | ⟨h8, hk, hp⟩
  · exact k4
  · rcases k4 with rfl | k8 | ⟨k8, _⟩
    · exact .inr (.inl h8)
    · exact .inr (.inl k8)
    · exact absurd h8 k8
  · rcases k4 with rfl | k8 | ⟨k8, kk, kp⟩
    · exact .inr (.inr ⟨h8, hk, hp⟩)
    · exact .inr (.inl k8)
    · by_cases c8 : c.op = 8
      · exact .inr (.inl c8)
      refine .inr (.inr ⟨h8, hk.trans kk, ?_⟩)
      have va := ha.v.resolve_left h8
      have vb := hb.v.resolve_left k8
      have vc' := hc.v.resolve_left c8
      clear hc
      have o := ord3 a.v b.v c.v
      have n1 := ord_neg a.v b.v
      have n2 := ord_neg b.v c.v
      generalize c.op = oc at kp c8 ⊢
      generalize hob : b.op = ob at kp hp k8
      generalize a.op = oa at hp h8
      rcases pair_cases hp with ⟨rfl, hi⟩ | ⟨rfl, hc, ho⟩ | ⟨rfl, hc⟩ | ⟨rfl, hc, ho⟩ | ⟨rfl, hc⟩ | ⟨rfl, hc⟩
      · show isV oc c.v a.v = true
        exact pair_sound vb va kk kp k8 hi
      · rcases pair_cases kp with ⟨e, ki⟩ | ⟨e, kc, ko⟩ | ⟨e, kc⟩ | ⟨e, kc, ko⟩ | ⟨e, kc⟩ | ⟨e, kc⟩
        all_goals first | (exfalso; omega) | exact pv3 (by omega) (by omega)
      · rcases pair_cases kp with ⟨e, ki⟩ | ⟨e, kc, ko⟩ | ⟨e, kc⟩ | ⟨e, kc, ko⟩ | ⟨e, kc⟩ | ⟨e, kc⟩
        all_goals first | (exfalso; omega) | exact pv4 (by omega)
      · rcases pair_cases kp with ⟨e, ki⟩ | ⟨e, kc, ko⟩ | ⟨e, kc⟩ | ⟨e, kc, ko⟩ | ⟨e, kc⟩ | ⟨e, kc⟩
        all_goals first | (exfalso; omega) | exact pv5 (by omega) (by omega)
      · rcases pair_cases kp with ⟨e, ki⟩ | ⟨e, kc, ko⟩ | ⟨e, kc⟩ | ⟨e, kc, ko⟩ | ⟨e, kc⟩ | ⟨e, kc⟩
        all_goals first | (exfalso; omega) | exact pv6 (by omega)
      · rcases hc with ⟨rfl, ho⟩ | ⟨rfl, ho⟩ | ⟨rfl, ho⟩ | ⟨rfl, ho⟩
        · have hab := beg_ord va vb ho
          rcases pair_cases kp with ⟨e, ki⟩ | ⟨e, kc, ko⟩ | ⟨e, kc⟩ | ⟨e, kc, ko⟩ | ⟨e, kc⟩ | ⟨e, kc⟩
          all_goals first | (exfalso; omega) | skip
          rcases kc with ⟨rfl, ko⟩ | ⟨rfl, ko⟩ | ⟨rfl, ko⟩ | ⟨rfl, ko⟩
          · exact pv77 (beg_trans ho ko)
          · exact pv76 (by omega)
          · exact pv75 (by omega)
          · refine pv72 ?_
            cases hb : c.v.beg a.v with
            | false => rfl
            | true => rw [beg_trans hb ho] at ko; cases ko
        · rcases pair_cases kp with ⟨e, ki⟩ | ⟨e, kc, ko⟩ | ⟨e, kc⟩ | ⟨e, kc, ko⟩ | ⟨e, kc⟩ | ⟨e, kc⟩
          all_goals first | (exfalso; omega) | skip
          rcases kc with ⟨rfl, ko⟩ | ⟨rfl | rfl, ko⟩
          · exact pv76 (by omega)
          · exact pv75 (by omega)
          · exact pv72 (not_beg va vc' (by omega))
        · rcases pair_cases kp with ⟨e, ki⟩ | ⟨e, kc, ko⟩ | ⟨e, kc⟩ | ⟨e, kc, ko⟩ | ⟨e, kc⟩ | ⟨e, kc⟩
          all_goals first | (exfalso; omega) | skip
          rcases kc with rfl | rfl | rfl
          · exact pv75 (by omega)
          · exact pv76 (by omega)
          · exact pv72 (not_beg va vc' (by omega))
        · rcases pair_cases kp with ⟨e, ki⟩ | ⟨e, kc, ko⟩ | ⟨e, kc⟩ | ⟨e, kc, ko⟩ | ⟨e, kc⟩ | ⟨e, kc⟩
          all_goals (exfalso; omega)
end Go.Proofs.Ytjggjkmafcokjaa
