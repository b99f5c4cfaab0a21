/- The filters that match: plain words of the statement; one more filter for an index. -/
import Derived.Test.YtjggjkmafcokjaaSortT8
import Derived.Test.YtjggjkmafcokjaaAwM8
import Derived.Test.YtjggjkmafcokjaaRedM8
set_option linter.unusedVariables false
set_option linter.unusedSimpArgs false
namespace Go.Proofs.Ytjggjkmafcokjaa
open Go.RowKit

/-- filters by their places: those of a set that may be -/
def fdI (fs : List (List T)) (p : Nat → Bool) : Int → Option (List T) := fun id => if (0 ≤ id ∧ id.toNat < fs.length ∧ p id.toNat = true) ∧ chkB (fs.getD id.toNat []) = true then some (fs.getD id.toNat []) else none
def addP (p : Nat → Bool) (k : Nat) : Nat → Bool := fun j => decide (j = k) || p j
theorem fdI_none {fs : List (List T)} {p : Nat → Bool} {k : Nat} (hp : p k = false) : fdI fs p (k : Int) = none := by
  unfold fdI
  rw [if_neg (by rw [Int.toNat_natCast, hp]; simp)]
theorem fdI_ok {fs : List (List T)} {p : Nat → Bool} {k : Nat} (hk : k < fs.length) (hc : chkB (fs.getD k []) = true) : (fun id => if id = (k : Int) then some (fs.getD k []) else fdI fs p id) = fdI fs (addP p k) := by
  funext id
  by_cases e : id = (k : Int)
  · subst e
    rw [if_pos rfl]
    unfold fdI addP
    rw [Int.toNat_natCast, if_pos ⟨⟨Int.natCast_nonneg _, hk, by simp⟩, hc⟩]
  · rw [if_neg e]
    unfold fdI addP
    by_cases h0 : 0 ≤ id
    · have : ¬ id.toNat = k := by omega
      simp [this]
    · simp [h0]
theorem fdI_bad {fs : List (List T)} {p : Nat → Bool} {k : Nat} (hc : chkB (fs.getD k []) = false) : fdI fs p = fdI fs (addP p k) := by
  funext id
  unfold fdI addP
  by_cases e : id.toNat = k
  · rw [e, hc]; simp
  · simp [e]
theorem fdI_congr {fs : List (List T)} {p q : Nat → Bool} (h : ∀ k, k < fs.length → p k = q k) : fdI fs p = fdI fs q := by
  funext id
  unfold fdI
  by_cases hk : id.toNat < fs.length
  · rw [h _ hk]
  · simp [hk]
theorem fdI_start (fs : List (List T)) : (fun _ => none) = fdI fs (fun _ => false) := by
  funext id; unfold fdI; simp
theorem fdI_ts {fs : List (List T)} {p : Nat → Bool} : ∀ id ts, fdI fs p id = some ts → ts.length ≤ 1000 := fun id ts e => by
  unfold fdI at e
  split at e
  · next hc =>
    cases e
    have := (chk_ok hc.2).1
    omega
  · cases e
/-- the places that the second index has behind so many rounds -/
def setY (s n i : Nat) : Nat → Bool := fun k => (List.range i).any (fun j => decide ((j + s) % n = k))
theorem setY_zero (s n : Nat) : setY s n 0 = fun _ => false := rfl
theorem setY_succ (s n i : Nat) : setY s n (i + 1) = addP (setY s n i) ((i + s) % n) := by
  funext k
  unfold setY addP
  rw [List.range_succ, List.any_append]
  simp [eq_comm, Bool.or_comm]
theorem setY_new {s n i : Nat} (hi : i < n) : setY s n i ((i + s) % n) = false := by
  unfold setY
  rw [List.any_eq_false]
  intro j hj
  rw [List.mem_range] at hj
  simp only [decide_eq_true_eq]
  intro e
  have h1 := Nat.div_add_mod (j + s) n
  have h2 := Nat.div_add_mod (i + s) n
  rw [e] at h1
  have h3 : n * ((i + s) / n) = n * ((j + s) / n) + (i - j) := by omega
  have h4 : (i - j) % n = 0 := by
    have : (n * ((j + s) / n) + (i - j)) % n = 0 := by rw [← h3]; exact Nat.mul_mod_right _ _
    rwa [Nat.mul_add_mod] at this
  rw [Nat.mod_eq_of_lt (by omega)] at h4
  omega
theorem setY_all {s n k : Nat} (hk : k < n) : setY s n n k = true := by
  unfold setY
  rw [List.any_eq_true]
  have hs : s % n < n := Nat.mod_lt _ (by omega)
  refine ⟨(k + (n - s % n)) % n, List.mem_range.2 (Nat.mod_lt _ (by omega)), ?_⟩
  rw [decide_eq_true_eq, Nat.add_mod, Nat.mod_mod, ← Nat.add_mod]
  have h1 := Nat.div_add_mod s n
  have : k + (n - s % n) + s = k + n * (s / n + 1) := by rw [Nat.mul_add]; omega
  rw [this, Nat.add_mul_mod_self_left, Nat.mod_eq_of_lt hk]
/-- the places that the first index has -/
def setX (i : Nat) : Nat → Bool := fun k => decide (k < i)
theorem setX_zero : setX 0 = fun _ => false := by funext k; simp [setX]
theorem setX_succ (i : Nat) : setX (i + 1) = addP (setX i) i := by
  funext k
  unfold setX addP
  rw [← Bool.decide_or]
  exact decide_eq_decide.2 (by omega)
theorem setX_new (i : Nat) : setX i i = false := by simp [setX]
theorem setXY {fs : List (List T)} (s : Nat) : fdI fs (setY s fs.length fs.length) = fdI fs (setX fs.length) :=
  fdI_congr fun k hk => by rw [setY_all hk]; simp [setX, hk]
/-- a filter that may be and matches -/
def goodM (es : List AT) (ts : List T) : Bool := chkB ts && matchesT ts es
theorem fdI_mem {fs : List (List T)} {es : List AT} (x : Int) : (∃ ts, fdI fs (setX fs.length) x = some ts ∧ matchesT ts es = true) ↔ (0 ≤ x ∧ x.toNat < fs.length ∧ goodM es (fs.getD x.toNat []) = true) := by
  unfold fdI setX goodM
  constructor
  · rintro ⟨ts, h, hm⟩
    split at h
    · next hc => cases h; exact ⟨hc.1.1, hc.1.2.1, by rw [hc.2, hm]; rfl⟩
    · cases h
  · rintro ⟨h0, hk, hg⟩
    rw [Bool.and_eq_true] at hg
    exact ⟨_, if_pos ⟨⟨h0, hk, decide_eq_true hk⟩, hg.1⟩, hg.2⟩
theorem count_take {α : Type} (p : α → Bool) {xs : List α} {k : Nat} (hk : k < xs.length) : (xs.take (k + 1)).countP p = (xs.take k).countP p + if p xs[k] = true then 1 else 0 := by
  rw [List.take_succ_eq_append_getElem hk, List.countP_append, List.countP_singleton]
theorem zs_count {fs : List (List T)} {es : List AT} {zs : List Int} (hn : zs.Nodup) (h : ∀ x, x ∈ zs ↔ (0 ≤ x ∧ x.toNat < fs.length ∧ goodM es (fs.getD x.toNat []) = true)) : zs.length = fs.countP (goodM es) := by
  have h1 : zs.Perm (((List.range fs.length).filter (fun j => goodM es (fs.getD j []))).map (fun j : Nat => (j : Int))) := by
    refine (List.perm_ext_iff_of_nodup hn ?_).2 fun x => ?_
    · refine List.Pairwise.map _ (fun a b hab => ?_) (List.Pairwise.filter _ List.nodup_range)
      intro e; exact hab (by omega)
    · rw [h, List.mem_map]
      constructor
      · rintro ⟨h0, hk, hg⟩
        exact ⟨x.toNat, List.mem_filter.2 ⟨List.mem_range.2 hk, hg⟩, Int.toNat_of_nonneg h0⟩
      · rintro ⟨j, hj, rfl⟩
        rw [List.mem_filter, List.mem_range] at hj
        exact ⟨Int.natCast_nonneg _, by rw [Int.toNat_natCast]; exact hj.1, by rw [Int.toNat_natCast]; exact hj.2⟩
  rw [h1.length_eq, List.length_map, ← List.countP_eq_length_filter]
  have h2 : fs = (List.range fs.length).map (fun j => fs.getD j []) := by
    apply List.ext_getElem
    · simp
    · intro i h1 h2
      simp [List.getD, List.getElem?_eq_getElem h1]
  conv => rhs; rw [h2, List.countP_map]
  rfl
theorem rise_pair {zs : List Int} (hr : Rise zs 0 zs.length) : zs.Pairwise (· ≤ ·) := by
  rw [List.pairwise_iff_getElem]
  intro i j hi hj hij
  have := hr i j (Nat.zero_le _) hij hj
  rwa [gN_at hi, gN_at hj] at this
theorem zs_one {zs ys : List Int} (h1 : zs.Nodup) (h2 : Rise zs 0 zs.length) (h3 : ys.Nodup) (h4 : Rise ys 0 ys.length) (h : ∀ x, x ∈ zs ↔ x ∈ ys) : zs = ys :=
  List.Perm.eq_of_pairwise (le := fun a b : Int => a ≤ b) (fun a b _ _ => Int.le_antisymm) (rise_pair h2) (rise_pair h4) ((List.perm_ext_iff_of_nodup h1 h3).2 h)
theorem zs_up {zs : List Int} (h1 : zs.Nodup) (h2 : Rise zs 0 zs.length) {k : Nat} (hk : k + 1 < zs.length) : zs[k] < zs[k + 1] := by
  have := h2 k (k + 1) (Nat.zero_le _) (by omega) hk
  rw [gN_at (by omega), gN_at hk] at this
  have hne : zs[k] ≠ zs[k + 1] := fun e => by
    have := (List.pairwise_iff_getElem.1 h1) k (k + 1) (by omega) hk (by omega)
    exact this e
  omega
theorem sl_low8 {α : Type} {w : World} {sz : Nat} {c : α → List Value} {a : Option Addr} {n cap : Nat} {xs : List α} (h : Sl w sz c a n cap xs) (h0 : 0 < sz) {ad : Addr} (ha : a = some ad) (hne : xs ≠ []) : ad.block < w.heap.size := by
  obtain ⟨x, l, rfl⟩ := List.exists_cons_of_ne_nil hne
  obtain ⟨b, o, hab, hcs⟩ := h.get 0 (by simp)
  have hw := h.wid x
  have hlt := lt_of_cell (hcs 0 ((c x)[0]'(by omega)) (by simp))
  obtain rfl : ad = ⟨b, o, .none⟩ := Option.some.inj (ha.symm.trans hab)
  exact hlt
theorem ix_low {w : World} {base p m s : Nat} {fd : Int → Option (List T)} {own : Nat → Option Lab} (h : Ix w base p m fd s own) {b : Nat} (hb : b < base) : own b = none := by
  cases e : own b with
  | none => rfl
  | some l => have := ix_base h b l e; omega
/-- the filters' tests -/
abbrev tsF (xs : List FV) : List (List T) := xs.map (·.ts)
theorem tsF_at {xs : List FV} {k : Nat} (hk : k < xs.length) : (tsF xs).getD k [] = xs[k].ts := by
  simp [tsF, List.getD, List.getElem?_eq_getElem hk]
theorem tsF_len (xs : List FV) : (tsF xs).length = xs.length := by simp [tsF]
/-- how many of the first filters are good -/
def cntM (xs : List FV) (es : List AT) (i : Nat) : Nat := ((tsF xs).take i).countP (goodM es)
theorem cntM_zero (xs : List FV) (es : List AT) : cntM xs es 0 = 0 := rfl
theorem cntM_succ {xs : List FV} {es : List AT} {i : Nat} (hk : i < xs.length) : cntM xs es (i + 1) = cntM xs es i + if goodM es xs[i].ts = true then 1 else 0 := by
  unfold cntM
  rw [count_take (goodM es) (xs := tsF xs) (k := i) (by rw [tsF_len]; exact hk)]
  simp [tsF]
theorem cntM_le (xs : List FV) (es : List AT) (i : Nat) : cntM xs es i ≤ xs.length := by
  unfold cntM
  refine Nat.le_trans List.countP_le_length ?_
  rw [List.length_take, tsF_len]; omega
theorem cntM_all (xs : List FV) (es : List AT) : cntM xs es xs.length = (tsF xs).countP (goodM es) := by
  unfold cntM; rw [List.take_of_length_le (by rw [tsF_len]; exact Nat.le_refl _)]
/-- two indexes whose blocks lie apart -/
def Apart (o1 o2 : Nat → Option Lab) : Prop := ∀ b, o1 b = none ∨ o2 b = none
theorem Apart.symm {o1 o2 : Nat → Option Lab} (h : Apart o1 o2) : Apart o2 o1 := fun b => (h b).symm
section
variable {w w' : World} {base p m s : Nat} {fd : Int → Option (List T)} {own own2 own2' : Nat → Option Lab}
theorem Apart.fresh (h : Apart own own2) (hI : Ix w base p m fd s own) (hF : Fresh own2 own2' w) : Apart own own2' := fun b => by
  rcases h b with h | h
  · exact .inl h
  · cases e : own2' b with
    | none => exact .inr rfl
    | some l =>
      rcases hF.new b l e with e' | e'
      · rw [h] at e'; cases e'
      · exact .inl (ix_lab hI e')
theorem ix_far (h : Ix w base p m fd s own) (hC : Chg own2 w w') (hA : Apart own own2) : Ix w' base p m fd s own := by
  obtain ⟨bF, bT, sT, fF, fT, h⟩ := h
  refine ⟨bF, bT, sT, fF, fT, h.blk hC.size (fun b l e => hC.block b (h.lab b l e).2 ?_)⟩
  rcases hA b with h' | h'
  · rw [h'] at e; cases e
  · exact h'
theorem ix_mono (h : Ix w base p m fd s own) {m' : Nat} (hm : m ≤ m') : Ix w base p m' fd s own := by
  obtain ⟨bF, bT, sT, fF, fT, h⟩ := h
  exact ⟨bF, bT, sT, fF, fT, h.mono hm⟩
/-- what Add makes of an index, whether the filter may be or not -/
def RetAddI (base p m : Nat) (fs : List (List T)) (P : Nat → Bool) (k s : Nat) (own : Nat → Option Lab) (w : World) (e : Ending) (w' : World) : Prop :=
  ∃ (v : Int) (own' : Nat → Option Lab) (s' : Nat), e = .returned (.int .i64 v) ∧ s' ≤ s + 1 ∧ Ix w' base p (m + 17) (fdI fs (addP P k)) s' own' ∧ Chg own w w' ∧ Fresh own own' w
theorem addI_any {fs : List (List T)} {P : Nat → Bool} (k : Nat) (a : Option Addr) (n c : Nat) (w : World) (hk : k < fs.length) (hk6 : k ≤ 1000000) (hS : Sl w 5 T.cs a n c (fs.getD k [])) (hA : ∀ ad, a = some ad → fs.getD k [] ≠ [] → own ad.block = none)
    (h : Ix w base p m (fdI fs P) s own) (hbase : base ≤ w.heap.size) (hP : P k = false) (hs : s < 500) (hm : m ≤ 1000000) :
    Calls Try.prog 12 #[.pointer (some ⟨p, 0, none⟩), .int .u64 k, .slice a n c] w (RetAddI base p m fs P k s own w) := by
  cases hc : chkB (fs.getD k []) with
  | true =>
    refine (add_ok (k : Int) a n c _ w ?_ hS hA hc h hbase (fdI_none hP) hs hm).mono ?_
    · have h1 : IntKind.u64.min = 0 := by decide
      have h2 : IntKind.u64.max = 18446744073709551615 := by decide
      unfold U64; simp only [Lit.wf, h1, h2, Bool.and_eq_true, decide_eq_true_eq]; omega
    · rintro e w' ⟨own', rfl, hI, hC, hF⟩
      rw [fdI_ok hk hc] at hI
      exact ⟨0, own', s + 1, rfl, Nat.le_refl _, hI, hC, hF⟩
  | false =>
    refine (add_bad p (k : Int) a n c _ w hS hc).mono ?_
    rintro e w' ⟨rfl, hx⟩
    exact ⟨50, own, s, rfl, Nat.le_succ _, by rw [← fdI_bad hc]; exact ix_mono (ix_ext h hx) (by omega), Chg.of hx, Fresh.refl _ _⟩
end
end Go.Proofs.Ytjggjkmafcokjaa
