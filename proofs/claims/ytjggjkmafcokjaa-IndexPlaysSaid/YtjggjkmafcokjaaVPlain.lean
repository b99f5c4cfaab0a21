/- Plain facts on values: the order of texts, of numbers, and of the document's values. No program is named here. -/
import GoSem.Op.String
set_option linter.unusedVariables false
set_option linter.unusedSimpArgs false
namespace Go.Proofs.Ytjggjkmafcokjaa

def bl : List UInt8 → List UInt8 → Bool := Op.bytesLess

theorem u8_lt (a b : UInt8) : (a < b) ↔ a.toNat < b.toNat := UInt8.lt_iff_toNat_lt
theorem u8_eq (a b : UInt8) : (a = b) ↔ a.toNat = b.toNat := UInt8.toNat_inj.symm

theorem bl_cons (a b : UInt8) (x y : List UInt8) : bl (a :: x) (b :: y) = (decide (a.toNat < b.toNat) || (decide (a.toNat = b.toNat) && bl x y)) := by
  show (decide (a < b) || (a == b && Op.bytesLess x y)) = _
  have h1 : decide (a < b) = decide (a.toNat < b.toNat) := by simp [u8_lt]
  have h2 : (a == b) = decide (a.toNat = b.toNat) := by rw [Bool.eq_iff_iff]; simp [u8_eq]
  rw [h1, h2]; rfl
theorem bl_nil_right (x : List UInt8) : bl x [] = false := by cases x <;> rfl
theorem bl_nil_cons (a : UInt8) (x : List UInt8) : bl [] (a :: x) = true := rfl

theorem bl_irrefl : ∀ x : List UInt8, bl x x = false
  | [] => rfl
  | a :: x => by rw [bl_cons, bl_irrefl x]; simp
theorem bl_trans : ∀ x y z : List UInt8, bl x y = true → bl y z = true → bl x z = true
  | _, [], _, h, _ => by rw [bl_nil_right] at h; cases h
  | _, _ :: _, [], _, h => by rw [bl_nil_right] at h; cases h
  | [], _ :: _, _ :: _, _, _ => rfl
  | a :: x, b :: y, c :: z, h, k => by
    rw [bl_cons] at h k ⊢
    simp only [Bool.or_eq_true, Bool.and_eq_true, decide_eq_true_eq] at h k ⊢
    rcases h with h | ⟨h, h'⟩ <;> rcases k with k | ⟨k, k'⟩
    · left; omega
    · left; omega
    · left; omega
    · right; exact ⟨by omega, bl_trans x y z h' k'⟩
theorem bl_tri : ∀ x y : List UInt8, bl x y = false → bl y x = false → x = y
  | [], [], _, _ => rfl
  | [], _ :: _, h, _ => by cases h
  | _ :: _, [], _, h => by cases h
  | a :: x, b :: y, h, k => by
    rw [bl_cons] at h k
    simp only [Bool.or_eq_false_iff, Bool.and_eq_false_iff, decide_eq_false_iff_not] at h k
    have e : a.toNat = b.toNat := by omega
    have h' : bl x y = false := h.2.resolve_left (fun n => n e)
    have k' : bl y x = false := k.2.resolve_left (fun n => n e.symm)
    rw [bl_tri x y h' k', (u8_eq a b).2 e]
theorem bl_asymm (x y : List UInt8) (h : bl x y = true) : bl y x = false := by
  cases k : bl y x with
  | false => rfl
  | true => have := bl_trans x y x h k; rw [bl_irrefl] at this; cases this

def cmpI (a b : Int) : Int := if a < b then -1 else if b < a then 1 else 0
def cmpL (x y : List UInt8) : Int := if bl x y then -1 else if bl y x then 1 else 0

theorem cmpI_cases (a b : Int) : (a < b ∧ cmpI a b = -1) ∨ (b < a ∧ cmpI a b = 1) ∨ (a = b ∧ cmpI a b = 0) := by
  unfold cmpI; repeat' split
  all_goals omega
theorem cmpL_cases (x y : List UInt8) : (bl x y = true ∧ cmpL x y = -1) ∨ (bl y x = true ∧ cmpL x y = 1) ∨ (x = y ∧ cmpL x y = 0) := by
  unfold cmpL
  cases h : bl x y with
  | true => left; simp
  | false => cases k : bl y x with
    | true => right; left; simp
    | false => right; right; exact ⟨bl_tri x y h k, by simp⟩

/-- the order of two values: by kind, by number, by text -/
def vOrd (k n : Int) (s : List UInt8) (k' n' : Int) (s' : List UInt8) : Int :=
  if cmpI k k' ≠ 0 then cmpI k k' else if cmpI n n' ≠ 0 then cmpI n n' else cmpL s s'

def vLess (k n : Int) (s : List UInt8) (k' n' : Int) (s' : List UInt8) : Bool :=
  if k ≠ k' then decide (k < k') else if n ≠ n' then decide (n < n') else bl s s'

theorem vOrd_less (k n : Int) (s : List UInt8) (k' n' : Int) (s' : List UInt8) :
    vOrd k n s k' n' s' = if vLess k n s k' n' s' then -1 else if vLess k' n' s' k n s then 1 else 0 := by
  unfold vOrd vLess
  rcases cmpI_cases k k' with ⟨h, e⟩ | ⟨h, e⟩ | ⟨rfl, e⟩
  · have h1 : k ≠ k' := by omega
    rw [e]; simp [h1, h]
  · have h1 : k ≠ k' := by omega
    have h2 : ¬ k < k' := by omega
    have h3 : k' ≠ k := by omega
    rw [e]; simp [h1, h, h2, h3]
  · rw [e]
    rcases cmpI_cases n n' with ⟨h, e⟩ | ⟨h, e⟩ | ⟨rfl, e⟩
    · have h1 : n ≠ n' := by omega
      rw [e]; simp [h1, h]
    · have h1 : n ≠ n' := by omega
      have h2 : ¬ n < n' := by omega
      have h3 : n' ≠ n := by omega
      rw [e]; simp [h1, h, h2, h3]
    · rw [e]; simp [cmpL]

theorem vOrd_range (k n : Int) (s : List UInt8) (k' n' : Int) (s' : List UInt8) :
    -1 ≤ vOrd k n s k' n' s' ∧ vOrd k n s k' n' s' ≤ 1 := by
  unfold vOrd; have := cmpI_cases k k'; have := cmpI_cases n n'; have := cmpL_cases s s'
  repeat' split
  all_goals omega

/-- which of the two comes first, in one word of three cases -/
theorem vOrd_cases (k n : Int) (s : List UInt8) (k' n' : Int) (s' : List UInt8) :
    (vLess k n s k' n' s' = true ∧ vOrd k n s k' n' s' = -1) ∨ (vLess k' n' s' k n s = true ∧ vOrd k n s k' n' s' = 1) ∨ ((k = k' ∧ n = n' ∧ s = s') ∧ vOrd k n s k' n' s' = 0) := by
  unfold vOrd vLess
  rcases cmpI_cases k k' with ⟨h, e⟩ | ⟨h, e⟩ | ⟨rfl, e⟩
  · left; rw [e]; simp [h]; omega
  · right; left; rw [e]; simp [h]; omega
  · rw [e]
    rcases cmpI_cases n n' with ⟨h, e⟩ | ⟨h, e⟩ | ⟨rfl, e⟩
    · left; rw [e]; simp [h]; omega
    · right; left; rw [e]; simp [h]; omega
    · rw [e]
      rcases cmpL_cases s s' with ⟨h, e⟩ | ⟨h, e⟩ | ⟨rfl, e⟩
      · left; rw [e]; simp [h]
      · right; left; rw [e]; simp [h]
      · right; right; rw [e]; simp

theorem vLess_trans (k n : Int) (s : List UInt8) (k' n' : Int) (s' : List UInt8) (k'' n'' : Int) (s'' : List UInt8)
    (h : vLess k n s k' n' s' = true) (g : vLess k' n' s' k'' n'' s'' = true) : vLess k n s k'' n'' s'' = true := by
  unfold vLess at *
  split at h <;> split at g
  · simp only [decide_eq_true_eq] at h g; rw [if_pos (by omega)]; simp; omega
  · rename_i a b; simp only [ne_eq, Decidable.not_not] at b; subst b; rw [if_pos (by omega)]; simpa using h
  · rename_i a b; simp only [ne_eq, Decidable.not_not] at a; subst a; rw [if_pos (by omega)]; simpa using g
  · rename_i a b; simp only [ne_eq, Decidable.not_not] at a b; subst a; subst b
    rw [if_neg (by simp)]
    split at h <;> split at g
    · simp only [decide_eq_true_eq] at h g; rw [if_pos (by omega)]; simp; omega
    · rename_i a b; simp only [ne_eq, Decidable.not_not] at b; subst b; rw [if_pos (by omega)]; simpa using h
    · rename_i a b; simp only [ne_eq, Decidable.not_not] at a; subst a; rw [if_pos (by omega)]; simpa using g
    · rename_i a b; simp only [ne_eq, Decidable.not_not] at a b; subst a; subst b
      rw [if_neg (by simp)]; exact bl_trans _ _ _ h g

theorem vLess_irrefl (k n : Int) (s : List UInt8) : vLess k n s k n s = false := by simp [vLess, bl_irrefl]
theorem vOrd_self (k n : Int) (s : List UInt8) : vOrd k n s k n s = 0 := by
  have := vOrd_cases k n s k n s; rw [vLess_irrefl] at this; simp at this; exact this

theorem vOrd_neg (k n : Int) (s : List UInt8) (k' n' : Int) (s' : List UInt8) : vOrd k' n' s' k n s = - vOrd k n s k' n' s' := by
  rcases vOrd_cases k n s k' n' s' with ⟨h, e⟩ | ⟨h, e⟩ | ⟨⟨rfl, rfl, rfl⟩, e⟩
  · rcases vOrd_cases k' n' s' k n s with ⟨h', e'⟩ | ⟨h', e'⟩ | ⟨⟨rfl, rfl, rfl⟩, e'⟩
    · have := vLess_trans _ _ _ _ _ _ _ _ _ h h'; rw [vLess_irrefl] at this; cases this
    · omega
    · rw [vLess_irrefl] at h; cases h
  · rcases vOrd_cases k' n' s' k n s with ⟨h', e'⟩ | ⟨h', e'⟩ | ⟨⟨rfl, rfl, rfl⟩, e'⟩
    · omega
    · have := vLess_trans _ _ _ _ _ _ _ _ _ h h'; rw [vLess_irrefl] at this; cases this
    · rw [vLess_irrefl] at h; cases h
  · rw [vOrd_self]; rfl

theorem vOrd_eq_zero (k n : Int) (s : List UInt8) (k' n' : Int) (s' : List UInt8) : vOrd k n s k' n' s' = 0 ↔ (k = k' ∧ n = n' ∧ s = s') := by
  rcases vOrd_cases k n s k' n' s' with ⟨h, e⟩ | ⟨h, e⟩ | ⟨h, e⟩
  · rw [e]; constructor
    · intro h; omega
    · rintro ⟨rfl, rfl, rfl⟩; rw [vLess_irrefl] at h; cases h
  · rw [e]; constructor
    · intro h; omega
    · rintro ⟨rfl, rfl, rfl⟩; rw [vLess_irrefl] at h; cases h
  · exact ⟨fun _ => h, fun _ => e⟩

theorem vOrd_neg_one (k n : Int) (s : List UInt8) (k' n' : Int) (s' : List UInt8) : vOrd k n s k' n' s' = -1 ↔ vLess k n s k' n' s' = true := by
  rcases vOrd_cases k n s k' n' s' with ⟨h, e⟩ | ⟨h, e⟩ | ⟨⟨rfl, rfl, rfl⟩, e⟩
  · simp [h, e]
  · rw [e]; constructor
    · intro h; omega
    · intro g; have := vLess_trans _ _ _ _ _ _ _ _ _ h g; rw [vLess_irrefl] at this; cases this
  · rw [e, vLess_irrefl]; constructor
    · intro h; omega
    · intro h; cases h

theorem vOrd_trans (k n : Int) (s : List UInt8) (k' n' : Int) (s' : List UInt8) (k'' n'' : Int) (s'' : List UInt8)
    (h : vOrd k n s k' n' s' ≤ 0) (g : vOrd k' n' s' k'' n'' s'' ≤ 0) : vOrd k n s k'' n'' s'' ≤ 0 := by
  rcases vOrd_cases k n s k' n' s' with ⟨h1, e1⟩ | ⟨h1, e1⟩ | ⟨⟨rfl, rfl, rfl⟩, e1⟩
  · rcases vOrd_cases k' n' s' k'' n'' s'' with ⟨h2, e2⟩ | ⟨h2, e2⟩ | ⟨⟨rfl, rfl, rfl⟩, e2⟩
    · rw [(vOrd_neg_one ..).2 (vLess_trans _ _ _ _ _ _ _ _ _ h1 h2)]; omega
    · omega
    · exact h
  · omega
  · exact g

theorem vOrd_k {k n : Int} {s : List UInt8} {k' n' : Int} {s' : List UInt8} (h : (cmpI k k' != 0) = true) : cmpI k k' = vOrd k n s k' n' s' := by
  simp only [bne_iff_ne] at h; rw [vOrd, if_pos h]
theorem vOrd_n {k n : Int} {s : List UInt8} {k' n' : Int} {s' : List UInt8} (g : cmpI k k' = 0) (h : (cmpI n n' != 0) = true) : cmpI n n' = vOrd k n s k' n' s' := by
  simp only [bne_iff_ne] at h; rw [vOrd, if_neg (by simp [g]), if_pos h]
theorem vOrd_s {k n : Int} {s : List UInt8} {k' n' : Int} {s' : List UInt8} (g : cmpI k k' = 0) (h : cmpI n n' = 0) : cmpL s s' = vOrd k n s k' n' s' := by
  rw [vOrd, if_neg (by simp [g]), if_neg (by simp [h])]

/-- whether a value may be: 0, or the error's number 10 -/
def vChk (k n : Int) (s : List UInt8) : Int :=
  if (k = 1 ∧ s = []) ∨ (k = 2 ∧ n = 0 ∧ s.length ≤ 40) ∨ (k = 3 ∧ (n = 0 ∨ n = 1) ∧ s = []) then 0 else 10

/-- whether a text begins with another one -/
def vBeg (k : Int) (s : List UInt8) (k' : Int) (s' : List UInt8) : Bool :=
  decide (k = 2) && decide (k' = 2) && s'.isPrefixOf s

theorem pre_take (s t : List UInt8) : (s.take t.length == t) = t.isPrefixOf s := by
  rw [Bool.eq_iff_iff, beq_iff_eq, List.isPrefixOf_iff_prefix, List.prefix_iff_eq_take]
  exact eq_comm
theorem pre_short (s t : List UInt8) (h : ¬ t.length ≤ s.length) : false = t.isPrefixOf s := by
  rw [eq_comm, Bool.eq_false_iff]
  intro e
  rw [List.isPrefixOf_iff_prefix] at e
  exact h e.length_le
theorem vBeg_len {k k' : Int} {s s' : List UInt8} (h : ¬ s'.length ≤ s.length) : false = vBeg k s k' s' := by
  unfold vBeg; rw [← pre_short _ _ h]; simp
theorem vBeg_k {k k' : Int} {s s' : List UInt8} (h : k ≠ 2) : false = vBeg k s k' s' := by
  unfold vBeg; simp [h]
theorem vBeg_k' {k k' : Int} {s s' : List UInt8} (h : k' ≠ 2) : false = vBeg k s k' s' := by
  unfold vBeg; simp [h]
theorem vBeg_pre {s s' : List UInt8} : s'.isPrefixOf s = vBeg 2 s 2 s' := by
  unfold vBeg; simp

end Go.Proofs.Ytjggjkmafcokjaa
